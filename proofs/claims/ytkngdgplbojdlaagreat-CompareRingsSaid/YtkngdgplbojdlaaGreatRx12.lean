/- Texts of this claim,merged. -/
import Derived.Test.YtkngdgplbojdlaaGreatRx11
import Derived.Test.YtkngdgplbojdlaaGreatRx10
import Derived.Test.YtkngdgplbojdlaaGreatRx7
import Derived.Shelf.SlIterI.Collect
import Derived.RangeFuncLeaves
set_option linter.unusedSimpArgs false
set_option linter.unusedVariables false
set_option linter.unusedSectionVars false
namespace Go.Proofs.YtkngdgplbojdlaaGreat
open Go
set_option maxRecDepth 100000 in
theorem zu5 (f : FuncId) (capt : List AV) (c : Int->Int->Int) (l : List Int) (n : Nat) (hn : l.length=n) (hl : n<20) (hs : zlI capt)
  (hc : ∀ x∈l,∀ y∈l,zaj Tryz.prog f (AV.I x::AV.I y::capt) [] (.I (c x y)) []) :
  zaj Tryz.prog zbk [.rs 0 0 n,.I n,.fn (.func f) [] capt] [⟨1,zag l,0⟩] (.tup []) [some ⟨1,zag (ziV c l),0⟩]:=by
 have hs2 : ∀ ρ sn h,capt.map (conv ρ sn h 2)=capt:=λ _ _ _=>hs _ _ _ 1
 have hs3 : ∀ ρ sn h,capt.map (conv ρ sn h 3)=capt:=λ _ _ _=>hs _ _ _ 2
 have hs4 : ∀ ρ sn h,capt.map (conv ρ sn h 4)=capt:=λ _ _ _=>hs _ _ _ 3
 refine zcI.acalls (nbz rfl) (nbz rfl) (nbz rfl) ?_;show awp _ 1 _ _ ⟨63,[(0,.rs 0 0 n),(1,.I n),(2,.fn (.func f) [] capt)],[(0,some ⟨1,zag l,0⟩)],16⟩;have hins:=zqj f capt c [] l [] n 0 n (by simpa using hn) rfl (by simpa using hn) (by omega) hs hc
 simp only [List.nil_append,List.append_nil] at hins;refine zab ?_;refine zan ?_;refine zaa ⟨63,[(0,.rs 0 0 n),(1,.I n),(2,.fn (.func f) [] capt),(6,.I 20),(7,.I 0),(8,.I 20)],[(0,some ⟨1,zag l,0⟩)],48⟩ rfl ?_ ?_
 .simp
  exact Le.keep rfl (Nat.le_refl _) (by simp) (by simp)
 refine zab ?_;refine zaf ?_;refine zas (ι:=Unit) (λ _=>⟨63,[(0,.rs 0 0 n),(1,.I n),(2,.fn (.func f) [] capt),(6,.I 20),(7,.I 0),(8,.I 20)],[(0,some ⟨1,zag l,0⟩)],48⟩) (λ _=>True) (λ _=>0) () trivial (Le.refl _ _) ?_;intro _ _;refine zab ?_;refine zaa ⟨63,[(0,.rs 0 0 n),(1,.I n),(2,.fn (.func f) [] capt),(6,.I 20),(7,.I 0),(8,.I 20),(13,.B false)],[(0,some ⟨1,zag l,0⟩)],72⟩ rfl ?_ ?_
 .simp
  exact Le.keep rfl (Nat.le_refl _) (by simp; omega) (by simp)
 refine zad _ rfl (λ h=>by cases h) λ _=>zaq (hit ?_)
 refine zaa ⟨63,[(1,.I n),(6,.I 20)],[(0,some ⟨1,zag (ziV c l),0⟩)],112⟩ rfl ?_ ?_
 .simp
  refine zcz (i:=0) rfl (e':=⟨1,zag l,0⟩) (by simp [fcd]) hins (by simp) ?_ ?_
  .simp [hs2,hs3,hs4]
  simp [fcd];exact Le.keep rfl (Nat.le_refl _) (by simp) (by simp)
 refine zaf ?_;refine zas (ι:=Unit) (λ _=>⟨63,[(1,.I n),(6,.I 20)],[(0,some ⟨1,zag (ziV c l),0⟩)],112⟩) (λ _=>True) (λ _=>0) () trivial (Le.refl _ _) ?_;intro _ _;refine zab ?_;refine zaa ⟨63,[(1,.I n),(6,.I 20),(30,.B false)],[(0,some ⟨1,zag (ziV c l),0⟩)],136⟩ rfl ?_ ?_
 .simp
  exact Le.keep rfl (Nat.le_refl _) (by simp; omega) (by simp)
 refine zad _ rfl (λ h=>by cases h) λ _=>zaq (hit ?_)
 exact ⟨.inl rfl,⟨[],rfl,[],[],by simp [List.range,List.range.loop],by simp,by simp,by simp,by simp [List.range,List.range.loop,fcd]⟩⟩
theorem zoT (f : FuncId) (capt : List AV) (c : Int->Int->Int) (l : List Int) (n : Nat) (hn : l.length=n) (hl : n<20) (hs : zlI capt)
  (hc : ∀ x∈l,∀ y∈l,zaj Tryz.prog f (AV.I x::AV.I y::capt) [] (.I (c x y)) []) :
  zaj Tryz.prog za4 [.rs 0 0 n,.fn (.func f) [] capt] [⟨1,zag l,0⟩] (.tup []) [some ⟨1,zag (ziV c l),0⟩]:=by
 have hs2 : ∀ ρ sn h,capt.map (conv ρ sn h 2)=capt:=λ _ _ _=>hs _ _ _ 1
 have hs3 : ∀ ρ sn h,capt.map (conv ρ sn h 3)=capt:=λ _ _ _=>hs _ _ _ 2
 have hs4 : ∀ ρ sn h,capt.map (conv ρ sn h 4)=capt:=λ _ _ _=>hs _ _ _ 3
 refine zbM.acalls (nbz rfl) (nbz rfl) (nbz rfl) ?_;show awp _ 1 _ _ ⟨9,[(0,.rs 0 0 n),(1,.fn (.func f) [] capt)],[(0,some ⟨1,zag l,0⟩)],16⟩;refine zar (s:=?s1) rfl ?o1 ?q1
 case o1 =>
  simp;refine zcz (i:=0) rfl (e':=⟨1,zag l,0⟩) (by simp [fcd]) (zu5 f capt c l n hn hl hs hc) (by simp) ?_ ?_
  .simp [hs2,hs3,hs4]
  simp [fcd];rfl
 exact ⟨.inl rfl,⟨[],rfl,[],[],by simp [List.range,List.range.loop],by simp,by simp,by simp,by simp [List.range,List.range.loop,fcd]⟩⟩
theorem zrQ (D : List Int) (k : Nat) (hk : k<D.length) : zaj Tryz.prog zbv [.I k,.pv [ints D]] [] (.B (decide (0<=D.getD k 0))) []:=by
 refine zeF.ac ?_;show awp _ 0 _ _ ⟨9,[(0,.I k),(1,.pv [ints D])],[],16⟩;refine zab ?_;refine zan ?_;refine zab ?_;refine zar (s:=?s1) rfl ?o1 ?q1
 case o1=>simp [hk]; rfl
 refine zai ?_;exact ⟨.inr rfl,zao.one (by simp [hk])⟩
theorem zrh (D : List Int) (a b : Nat) (ha : a<D.length) (hb : b<D.length) : zaj Tryz.prog zbY [.I a,.I b,.pv [ints D]] [] (.I (cmpI (D.getD a 0) (D.getD b 0))) []:=by
 refine zey.ac ?_;show awp _ 0 _ _ ⟨15,[(0,.I a),(1,.I b),(2,.pv [ints D])],[],16⟩;refine zab ?_;refine zan ?_;refine zab ?_;refine zgu (s:=?s1) (tr:=?t1) rfl ?o1 ?r1 ?q1
 case o1=>simp [ha,hb]; refine zap (zk7 ..) rfl ?_; simp; constructor <;> rfl
 case r1=>rfl
 refine zai ?_;exact ⟨.inr rfl,zao.one (by simp [ha,hb])⟩
variable {g : Gr} {S : List Int}
theorem zuq {k : Nat} (hk : k<g.size.toNat) : (zcL g S).getD k 0=dist g S k:=by simp [zcL,List.getD,hk]
theorem zml : (zcL g S).length=g.size.toNat:=by simp [zcL]
def Lt (g : Gr) (S : List Int) (a b : Int) : Prop:=dist g S a<dist g S b∨dist g S a=dist g S b/\a<b
def cD (g : Gr) (S : List Int) (a b : Int) : Int:=cmpI (dist g S a) (dist g S b)
def ordN (g : Gr) (S : List Int) : Nat->List Int
 | 0=>[]
 | m+1=>ordN g S m++za7 g.size.toNat λ k=>decide (dist g S k=m)
def ordL (g : Gr) (S : List Int) : List Int:=ordN g S g.size.toNat
theorem zdw {n : Nat} {q : Int->Bool} {x : Int} : x∈za7 n q↔(0<=x/\x<n)/\q x=true:=by
 unfold za7;simp only [List.mem_filter,List.mem_map,List.mem_range];constructor
 .rintro ⟨⟨i,hi,rfl⟩,h⟩
  exact ⟨⟨by omega,by omega⟩,h⟩
 .rintro ⟨⟨h1,h2⟩,h⟩
  exact ⟨⟨x.toNat,by omega,by omega⟩,h⟩
theorem zhB (n : Nat) (q : Int->Bool) : (za7 n q).Pairwise (· < ·):=by
 unfold za7;refine List.Pairwise.filter _ ?_;rw [List.pairwise_map];exact List.pairwise_lt_range.imp λ h=>by omega
theorem zlY {m : Nat} {x : Int} : x∈ordN g S m↔(0<=x/\x<g.size.toNat)/\0<=dist g S x/\dist g S x<m:=by
 induction m with
 | zero=>simp [ordN] <;> omega
 | succ m ih =>
   rw [ordN,List.mem_append,ih,zdw];simp only [decide_eq_true_eq];constructor
   .rintro (⟨h1,h2,h3⟩ | ⟨h1,h2⟩)
    .exact ⟨h1,h2,by omega⟩
    .exact ⟨h1,by omega,by omega⟩
   .rintro ⟨h1,h2,h3⟩
    by_cases h4 : dist g S x=m
    .exact .inr ⟨h1,h4⟩
    .exact .inl ⟨h1,h2,by omega⟩
theorem zqb (m : Nat) : (ordN g S m).Pairwise (Lt g S):=by
 induction m with
 | zero=>exact .nil
 | succ m ih =>
   rw [ordN,List.pairwise_append];refine ⟨ih,?_,λ a ha b hb=>?_⟩
   .refine (zhB _ _).imp_of_mem λ {a b} ha hb hab=>?_
    have h1:=(zdw.1 ha).2;have h2:=(zdw.1 hb).2;simp at h1 h2;exact .inr ⟨by omega,hab⟩
   .have h1:=zlY.1 ha
    have h2:=(zdw.1 hb).2;simp at h2;exact .inl (by omega)
theorem zxL {a b : Int} : cD g S a b<0↔dist g S a<dist g S b:=by
 simp only [cD,cmpI]
 grind
theorem zl5 : ∀ (r : List Int) (x : Int),r.Pairwise (λ a b=>Lt g S b a)->(∀ y∈r,y<x)->(zeI (cD g S) r x).Pairwise λ a b=>Lt g S b a
 | [],x,_,_=>by simp [zeI]
 | y::r,x,hp,hx=>by
   unfold zeI;rw [List.pairwise_cons] at hp;split
   .rename_i h
    rw [zxL] at h;rw [List.pairwise_cons];refine ⟨λ z hz=>?_,zl5 r x hp.2 λ z hz=>hx z (List.mem_cons_of_mem _ hz)⟩;have:=(zhx (cD g S) r x).mem_iff.1 hz;rcases List.mem_cons.1 this with rfl | hz
    .exact .inl h
    .exact hp.1 z hz
   .rename_i h
    rw [zxL] at h;rw [List.pairwise_cons,List.pairwise_cons];have hyx:=hx y List.mem_cons_self;refine ⟨λ z hz=>?_,hp.1,hp.2⟩;rcases List.mem_cons.1 hz with rfl | hz
    .unfold Lt; omega
    .have h1:=hp.1 z hz
     have h2:=hx z (List.mem_cons_of_mem _ hz);unfold Lt at *;omega
theorem ztw {l : List Int} (h : l.Pairwise (· < ·)) : (ziV (cD g S) l).Pairwise (Lt g S):=by
 have key : ∀ (l acc : List Int),l.Pairwise (· < ·)->acc.Pairwise (λ a b=>Lt g S b a)->(∀ y∈acc,∀ x∈l,y<x)->(l.foldl (zeI (cD g S)) acc).Pairwise λ a b=>Lt g S b a:=by
  intro l
  induction l with
  | nil=>intro acc _ h _; exact h
  | cons x l ih =>
    intro acc hl hacc hlt;rw [List.pairwise_cons] at hl;refine ih _ hl.2 (zl5 acc x hacc λ y hy=>hlt y hy x List.mem_cons_self) λ y hy z hz=>?_;have:=(zhx (cD g S) acc x).mem_iff.1 hy;rcases List.mem_cons.1 this with rfl | hy
    .exact hl.1 z hz
    .exact hlt y hy z (List.mem_cons_of_mem _ hz)
 unfold ziV zdS;rw [List.pairwise_reverse];exact key l [] h .nil (by simp)
theorem zkd {R : Int->Int->Prop} (hR : ∀ a b,R a b->¬ R b a) : ∀ {l1 l2 : List Int},l1.Pairwise R->l2.Pairwise R->(∀ x,x∈l1↔x∈l2)->l1=l2
 | [],[],_,_,_=>rfl
 | [],b::l2,_,_,h=>absurd ((h b).2 List.mem_cons_self) (by simp)
 | a::l1,[],_,_,h=>absurd ((h a).1 List.mem_cons_self) (by simp)
 | a::l1,b::l2,h1,h2,h=>by
   rw [List.pairwise_cons] at h1 h2
   have hab : a=b:=by
    rcases List.mem_cons.1 ((h a).1 List.mem_cons_self) with e | ha
    .exact e
    .rcases List.mem_cons.1 ((h b).2 List.mem_cons_self) with e | hb
     .exact e.symm
     .exact absurd (h1.1 b hb) (hR _ _ (h2.1 a ha))
   subst hab
   congr 1
   refine zkd hR h1.2 h2.2 λ x=>?_;constructor
   .intro hx
    rcases List.mem_cons.1 ((h x).1 (List.mem_cons_of_mem _ hx)) with rfl | hx2
    .exact absurd (h1.1 x hx) (λ q=>hR _ _ q q)
    .exact hx2
   .intro hx
    rcases List.mem_cons.1 ((h x).2 (List.mem_cons_of_mem _ hx)) with rfl | hx2
    .exact absurd (h2.1 x hx) (λ q=>hR _ _ q q)
    .exact hx2
theorem zwy (hg : GrOk g) : ziV (cD g S) (za7 g.size.toNat λ k=>decide (0<=dist g S k))=ordL g S:=by
 refine zkd (R:=Lt g S) (λ a b h1 h2=>by unfold Lt at *; omega) (ztw (zhB _ _)) (zqb _) λ x=>?_
 have hp : x∈ziV (cD g S) (za7 g.size.toNat λ k=>decide (0<=dist g S k))↔x∈za7 g.size.toNat λ k=>decide (0<=dist g S k):=by
  unfold ziV;rw [List.mem_reverse];exact (zhb _ _).mem_iff
 rw [hp,zdw];have hm:=zlY (g:=g) (S:=S) (m:=g.size.toNat) (x:=x);unfold ordL;rw [hm];simp only [decide_eq_true_eq];constructor
 .rintro ⟨h1,h2⟩
  refine ⟨h1,h2,?_⟩;rcases zrs hg (S:=S) (k:=x) ⟨h1.1,by omega⟩ with h | h <;> omega
 .rintro ⟨h1,h2,_⟩
  exact ⟨h1,h2⟩
structure Expl where
 key : Int
 acc : Bool
 before : List Int
 paths : List (List Int)
 side : List Int
theorem zcv (g : Gr) (S : List Int) : (ordL g S).Nodup:=by
 refine (zqb (g:=g) (S:=S) g.size.toNat).imp λ {a b} h e=>?_;subst e;unfold Lt at h;omega
theorem zeV {g : Gr} {S : List Int} {k : Int} (h : k∈ordL g S) : 0<=k/\k<g.size:=by
 have:=zlY.1 h;omega
open Classical in
noncomputable def zva (g : Gr) (p : Pol) (x : Expl) : Int :=
 let order:=ordL (zal g p.lv) p.seeds
 let c:=zaQ g p
 if x.key∉order then 11
 else if ¬ zhO order x.before x.key∨(x.acc=true/\x.side≠[])∨(x.acc=false/\x.paths≠[]) then 1
 else if x.acc=true then (if zkP g p.lv p.seeds order c x.paths (x.before++[x.key]) then 0 else 52)
 else if zpr ⟨2+2*g.size,zbK g p c (srt (x.before++[x.key]))⟩ x.side x.before.length then 0 else 52
open Classical in
noncomputable def zuQ (g : Gr) (p : Pol) (x : Expl) : Int :=
 let order:=ordL (zal g p.lv) p.seeds
 let c:=zaQ g p
 if x.key∉order then 11
 else if ¬ zhO order x.before x.key∨(x.acc=true/\x.side≠[])∨(x.acc=false/\x.paths≠[]) then 1
 else if x.acc=true then (if zmC g p.lv p.seeds order c x.paths (x.before++[x.key]) then 0 else 52)
 else if zpr ⟨2+2*g.size,zbK g p c (zaM (x.before++[x.key]))⟩ x.side x.before.length then 0 else 52
theorem zto {g : Gr} (hs : g.size<=64) (p : Pol) (x : Expl) : zva g p x=zuQ g p x:=by
 unfold zva zuQ;simp only;have hno:=zcv (zal g p.lv) p.seeds
 have hra : ∀ k∈ordL (zal g p.lv) p.seeds,0<=k/\k<64:=λ k hk=>by
  have:=zeV hk;have h2 : (zal g p.lv).size=g.size:=rfl;omega
 generalize ordL (zal g p.lv) p.seeds=o at *
 by_cases h1 : x.key∈o
 .by_cases h2 : ¬ zhO o x.before x.key∨(x.acc=true/\x.side≠[])∨(x.acc=false/\x.paths≠[])
  .rw [if_neg (not_not_intro h1),if_pos h2,if_neg (not_not_intro h1),if_pos h2]
  .rw [if_neg (not_not_intro h1),if_neg h2,if_neg (not_not_intro h1),if_neg h2]
   have h3 : zhO o x.before x.key:=Classical.byContradiction λ h=>h2 (.inl h);have h4:=h3.nodup hno
   have h5 : ∀ k∈x.before++[x.key],0<=k/\k<64:=λ k hk=>by
    rcases List.mem_append.1 hk with hk | hk
    .exact hra k ((List.takeWhile_sublist _).subset (h3.subset hk))
    .rw [List.mem_singleton] at hk
     rw [hk];exact hra _ h1
   rw [zpo h4 h5]
   by_cases ha : x.acc=true
   .rw [if_pos ha,if_pos ha]
    by_cases hc : zkP g p.lv p.seeds o (zaQ g p) x.paths (x.before++[x.key])
    .rw [if_pos hc,if_pos ((znW h4).1 hc)]
    .rw [if_neg hc,if_neg λ h=>hc ((znW h4).2 h)]
   .rw [if_neg ha,if_neg ha]
 .rw [if_pos h1,if_pos h1]
theorem zkk {g : Gr} {p : Pol} {k : Int} (h0 : 0<=k) (h1 : k<g.size) : (zaQ g p).getD k.toNat 0=zf9 p (dist (zal g p.lv) p.seeds k):=by
 unfold zaQ zcL;have h2 : k.toNat<(zal g p.lv).size.toNat:=by show k.toNat<g.size.toNat; omega
 rw [List.getD_eq_getElem?_getD,List.getElem?_map,List.getElem?_map,List.getElem?_range h2];simp only [Option.map_some,Option.getD_some];rw [show ((k.toNat : Nat) : Int)=k by omega]
theorem zmr {g : Gr} {p : Pol} {k : Int} (h1 : g.size<=k) : (zaQ g p).getD k.toNat 0=0:=by
 unfold zaQ zcL;have h2 : ¬ k.toNat<(zal g p.lv).size.toNat:=by show ¬ k.toNat<g.size.toNat; omega
 rw [List.getD_eq_getElem?_getD,List.getElem?_eq_none (by simp; omega)]
 rfl
theorem zld {g : Gr} {p : Pol} {n : Int} (hp : zbu n p) : ∀ x∈zaQ g p,0<=x:=λ x hx=>by
 unfold zaQ at hx;obtain ⟨d,_,rfl⟩:=List.mem_map.1 hx;exact (zjh hp d).1
theorem zkJ {g : Gr} {p : Pol} {n : Int} (hp : zbu n p) {k : Int} (h0 : 0<=k) : 0<(zaQ g p).getD k.toNat 0↔k<g.size/\0<=dist (zal g p.lv) p.seeds k:=by
 by_cases h1 : k<g.size
 .rw [zkk h0 h1,zqS hp]
  exact ⟨λ h=>⟨h1,h⟩,λ h=>h.2⟩
 .rw [zmr (by omega)]
  constructor
  .intro h; omega
  .intro h; exact absurd h.1 h1
theorem GrOk.level {g : Gr} (h : GrOk g) (v : Int) : GrOk (zal g v):=by
 refine ⟨⟨h.1.1,h.1.2.1,Nat.le_trans (List.length_filter_le _ _) h.1.2.2.1,h.1.2.2.2⟩,λ i hi=>?_⟩;have hm : (zal g v).edges[i]∈g.edges:=(List.mem_filter.1 (List.getElem_mem hi)).1;obtain ⟨j,hj,hje⟩:=List.mem_iff_getElem.1 hm;have h1:=h.2 j hj;rw [hje] at h1;refine ⟨h1.1,h1.2.1,h1.2.2.1,λ h0=>?_⟩;rw [zkx];have hp : (zal g v).edges.Pairwise Bef:=h.pair.filter _;exact List.pairwise_iff_getElem.1 hp (i - 1) i (by omega) hi (by omega)
theorem zo2 {g : Gr} (h : GrOk g) {S : List Int} {k : Int} : k∈ordL g S↔Key g k/\0<=dist g S k:=by
 unfold ordL;rw [zlY];constructor
 .rintro ⟨⟨h1,h2⟩,h3,_⟩
  exact ⟨⟨h1,by omega⟩,h3⟩
 .rintro ⟨h1,h2⟩
  have h3:=zrs (S:=S) h h1;have h4:=h1.1;have h5:=h1.2;exact ⟨⟨h4,by omega⟩,h2,by omega⟩
theorem zk2 {g : Gr} (h : GrOk g) (v : Int) : ((zal g v).edges.map zgd).Nodup /\ ∀ e∈(zal g v).edges,0<=e.f/\e.f<g.size/\0<=e.t/\e.t<g.size:=by
 have hl:=h.level v;refine ⟨?_,λ e he=>?_⟩
 .rw [List.Nodup,List.pairwise_map]
  refine hl.pair.imp λ {a b} hab he=>?_;unfold Bef at hab;unfold zgd at he;simp at he;omega
 .obtain ⟨i,hi,rfl⟩:=List.mem_iff_getElem.1 he
  have h1:=(hl.2 i hi).1;have h2 : (zal g v).size=g.size:=rfl;unfold Fits at h1;omega
theorem Rise.nodup {l : List Int} {lo hi : Int} (h : Rise l lo hi) : l.Nodup /\ ∀ x∈l,lo<=x/\x<=hi:=by
 have hlt : ∀ (j i : Nat) (hj : j<l.length) (hij : i<j),l[i]<l[j]:=by
  intro j
  induction j with
  | zero=>intro i _ hij; omega
  | succ j ih =>
    intro i hj hij;have h1:=(h (j+1) hj).2.2 (by omega)
    simp only [Nat.add_sub_cancel] at h1;rcases Nat.lt_or_ge i j with h2 | h2
    .have:=ih i (by omega) h2
     omega
    .have : i=j:=by omega
     subst this;exact h1
 refine ⟨List.pairwise_iff_getElem.2 λ i j hi hj hij he=>?_,λ x hx=>?_⟩
 .have:=hlt j i hj hij
  omega
 .obtain ⟨i,hi,rfl⟩:=List.mem_iff_getElem.1 hx
  have:=h i hi;exact ⟨this.1,this.2.1⟩
theorem zrc {g : Gr} {p : Pol} {sinks ends f : List Int} {W : List (List Nat)} (hg : GrOk g) (hp : zbu g.size p) (hk : sinks.Nodup) (hk0 : ∀ x∈sinks,0<=x) (hpe : ends.Perm sinks)
  (hf : Fit2 (zbK g p (zaQ g p) sinks) f) (hw : ∀ w∈W,WayA (zbK g p (zaQ g p) sinks) 0 w 1/\(metA (zbK g p (zaQ g p) sinks) w).Nodup)
  (hs : ∀ i,i<(zbK g p (zaQ g p) sinks).length->(sumN (List.count i) W : Int)<=f.getD i 0) (hl : W.length=sinks.length) :
  zmC g p.lv p.seeds (ordL (zal g p.lv) p.seeds) (zaQ g p) (W.map (zek (zbK g p (zaQ g p) sinks))) ends:=by
 have hgl:=hg.level p.lv;have hse:=hp.2.1.nodup;have hle:=zk2 hg p.lv
 have hmo : ∀ k,0<=k->0<(zaQ g p).getD k.toNat 0->k∈ordL (zal g p.lv) p.seeds:=λ k h0 hc=>by
  have h1:=(zkJ hp h0).1 hc;exact (zo2 hgl).2 ⟨⟨h0,h1.1⟩,h1.2⟩
 have hnet : zj0 (zbK g p (zaQ g p) sinks) (λ x y=>zsZ g p.lv x y/\y∈ordL (zal g p.lv) p.seeds) (p.seeds.filter λ x=>decide (x∈ordL (zal g p.lv) p.seeds)) sinks λ x=>(zaQ g p).getD x.toNat 0:=by
  refine zsk (λ e he hc=>?_) (λ x hx hc=>?_) hse.1 (λ x hx=>(hse.2 x hx).1) hk hk0 hle.1 λ e he=>⟨(hle.2 e he).1,(hle.2 e he).2.2.1⟩
  .have h0:=hle.2 e he
   have h1:=(zkJ hp h0.1).1 hc;have h2:=zvj hgl he h1.2;refine ⟨?_,(zo2 hgl).2 ⟨⟨h0.2.2.1,h0.2.2.2⟩,h2.1⟩⟩;unfold zal at he;have h3:=List.mem_filter.1 he;refine ⟨e,h3.1,rfl,rfl,?_⟩;have:=h3.2;simp at this;omega
  .exact List.mem_filter.2 ⟨hx,by simpa using hmo x (hse.2 x hx).1 hc⟩
 obtain ⟨q1,q2,q3,q4⟩:=zub hnet hf hw hs (zld hp);refine ⟨by rw [List.length_map,hl,hpe.length_eq],hpe.nodup_iff.2 hk,λ w hwW=>?_,λ k hkl=>hpe.mem_iff.2 (q3 k hkl),q2,q1⟩
 obtain ⟨⟨k,hk1,hk2⟩,h2,h3⟩:=q4 w hwW;have hk3:=List.mem_filter.1 hk2;have hk4 : k∈ordL (zal g p.lv) p.seeds:=by simpa using hk3.2
 refine ⟨⟨k,hk1,hk3.1⟩,λ x hx=>?_,h2,λ i hi=>(h3 i hi).1⟩;obtain ⟨i,hi,rfl⟩:=List.mem_iff_getElem.1 hx
 cases i with
 | zero =>
   rw [List.head?_eq_getElem?,List.getElem?_eq_getElem hi] at hk1;rw [Option.some.inj hk1];exact hk4
 | succ i=>exact (h3 i hi).2
theorem zuk {P Q : List (List Int)} (h : P.Perm Q) (k : Int) : begC P k=begC Q k:=h.countP_eq _
theorem zux {P Q : List (List Int)} (h : P.Perm Q) (k : Int) : useC P k=useC Q k:=(h.flatMap_right _).count_eq k
theorem zwP {P Q : List (List Int)} (h : P.Sublist Q) (k : Int) : begC P k<=begC Q k:=h.countP_le
theorem zwp {P Q : List (List Int)} (h : P.Sublist Q) (k : Int) : useC P k<=useC Q k:=by
 unfold useC
 induction h with
 | slnil=>exact Nat.le_refl _
 | cons a _ ih=>rw [List.flatMap_cons,List.count_append]; omega
 | cons_cons a _ ih=>rw [List.flatMap_cons,List.flatMap_cons,List.count_append,List.count_append]; omega
theorem zo6.perm {c : List Int} {P Q : List (List Int)} (h : zo6 c P) (hp : P.Perm Q) : zo6 c Q:=λ k hk=>by
 rw [<- zuk hp,<- zux hp];exact h k hk
theorem zo6.sub {c : List Int} {P Q : List (List Int)} (h : zo6 c Q) (hs : P.Sublist Q) : zo6 c P:=λ k hk=>by
 have h1:=h k hk;have h2:=zwP hs k;have h3:=zwp hs k;omega
theorem ztj {P Q : List (List Int)} (h : P.Perm Q) : (zkU P).Perm (zkU Q):=h.filterMap _
theorem zkP.perm {g : Gr} {lv : Int} {seeds order c : List Int} {P Q : List (List Int)} {ends ends' : List Int} (h : zkP g lv seeds order c P ends) (hp : P.Perm Q) (he : ends.Perm ends') : zkP g lv seeds order c Q ends' :=
 ⟨λ w hw=>h.1 w (hp.mem_iff.2 hw),h.2.1.perm hp,ziS.2 (((ztj hp).symm.trans (ziS.1 h.2.2)).trans he)⟩
theorem zko {N : Nat} {A : List Ed} (hn : zfO N A) : zaJ N A (A.map λ _=>0):=by
 have hs : ∀ (φ : Ed->Int->Int),(∀ e,φ e 0=0) -> ∀ A : List Ed,sumF φ A (A.map λ _=>0)=0:=by
  intro φ hφ A
  induction A with
  | nil=>simp [sumF]
  | cons e A ih=>simp only [List.map_cons,sumF]; rw [hφ,ih]; omega
 refine ⟨?_,λ x _ _=>?_⟩
 .have h0 : ∀ B : List Ed,(∀ e∈B,0<=e.v)->Fit2 B (B.map λ _=>0):=by
   intro B
   induction B with
   | nil=>intro _; exact True.intro
   | cons e B ih=>intro h; exact ⟨⟨Int.le_refl _,h e (List.mem_cons_self ..)⟩,ih λ x hx=>h x (List.mem_cons_of_mem _ hx)⟩
  exact h0 A λ e he=>(hn.arc e he).2.2.2.2.2.2.2
 .unfold outF inF
  rw [hs _ λ e=>by split <;> rfl,hs _ λ e=>by split <;> rfl]
theorem zhF {N : Nat} {A : List Ed} (hn : zfO N A) : ∃ f,zaJ N A f /\ ∀ f',zaJ N A f'->valF A f'<=valF A f:=by
 have hb : ∀ f,zaJ N A f->valF A f<=capS (λ x=>decide (x=0)) A:=λ f hf=>zfH hn hf (by simp) (by simp)
 have key : ∀ (n : Nat) (f : List Int),zaJ N A f->capS (λ x=>decide (x=0)) A - valF A f<=n -> ∃ f,zaJ N A f /\ ∀ f',zaJ N A f'->valF A f'<=valF A f:=by
  intro n
  induction n with
  | zero =>
    intro f hf h;exact ⟨f,hf,λ f' hf'=>by have:=hb f' hf'; omega⟩
  | succ n ih =>
    intro f hf h
    by_cases hm : ∀ f',zaJ N A f'->valF A f'<=valF A f
    .exact ⟨f,hf,hm⟩
    .obtain ⟨f',hf'⟩:=Classical.not_forall.1 hm
     obtain ⟨h1,h2⟩:=Classical.not_imp.1 hf';exact ih f' h1 (by omega)
 exact key _ _ (zko hn) (Int.self_le_toNat _)
noncomputable def maxF (N : Nat) (A : List Ed) : Int:=open Classical in if h : ∃ f,zaJ N A f /\ ∀ f',zaJ N A f'->valF A f'<=valF A f then valF A h.choose else 0
theorem ziw {N : Nat} {A : List Ed} {f : List Int} (hf : zaJ N A f) (hm : ∀ f',zaJ N A f'->valF A f'<=valF A f) : maxF N A=valF A f:=by
 have h : ∃ f,zaJ N A f /\ ∀ f',zaJ N A f'->valF A f'<=valF A f:=⟨f,hf,hm⟩;unfold maxF;rw [dif_pos h];have h1:=h.choose_spec;have h2:=hm _ h1.1;have h3:=h1.2 _ hf;omega
theorem zvs {N : Nat} {A : List Ed} (hn : zfO N A) {f : List Int} (hf : zaJ N A f) : valF A f<=maxF N A:=by
 obtain ⟨m,h1,h2⟩:=zhF hn;rw [ziw h1 h2];exact h2 f hf
theorem zta {N : Nat} {A : List Ed} (hn : zfO N A) : ∃ f,zaJ N A f/\valF A f=maxF N A:=by
 obtain ⟨m,h1,h2⟩:=zhF hn;exact ⟨m,h1,(ziw h1 h2).symm⟩
theorem ztQ {g : Gr} {p : Pol} {sinks : List Int} (hg : GrOk g) (hp : zbu g.size p) (hk : ∀ x∈sinks,0<=x/\x<g.size) : zfO (2+2*g.size).toNat (zbK g p (zaQ g p) sinks):=by
 have hs0:=hg.1.1;have hse:=hp.2.1.nodup;have hle:=zk2 hg p.lv;have hcl : (zaQ g p).length=g.size.toNat:=by unfold zaQ; rw [List.length_map,zml]; rfl
 refine ⟨by omega,λ a ha=>?_⟩
 unfold zbK at ha;rcases List.mem_append.1 ha with ha | ha
 .rcases List.mem_append.1 ha with ha | ha
  .rcases List.mem_append.1 ha with ha | ha
   .obtain ⟨x,hx,rfl⟩:=List.mem_map.1 ha
    have h1:=List.mem_filter.1 hx;have h2:=hse.2 x h1.1;have h3 : 0<(zaQ g p).getD x.toNat 0:=by simpa using h1.2
    simp only;omega
   .obtain ⟨i,hx,rfl⟩:=List.mem_map.1 ha
    have h1:=List.mem_filter.1 hx;have h2:=List.mem_range.1 h1.1;have h3 : 0<(zaQ g p).getD i 0:=by simpa using h1.2
    simp only;omega
  .obtain ⟨x,hx,rfl⟩:=List.mem_map.1 ha
   have h2:=hk x (List.mem_filter.1 hx).1;simp only;omega
 .obtain ⟨e,hx,rfl⟩:=List.mem_map.1 ha
  have h2:=hle.2 e (List.mem_filter.1 hx).1;simp only;omega
def encS (s : Stp) : Int:=if s.2 then -((s.1 : Int)+1) else (s.1 : Int)+1
def decS (v : Int) : Stp:=if 0<v then ((v - 1).toNat,false) else ((-v - 1).toNat,true)
theorem zr5 (s : Stp) : decS (encS s)=s:=by
 obtain ⟨i,b⟩:=s;unfold decS encS
 cases b
 .simp only [Bool.false_eq_true,if_false]
  rw [if_pos (by omega)]
  congr 1
  omega
 .simp only [if_true]
  rw [if_neg (by omega)]
  congr 1
  omega
theorem zxs (s : Stp) : encS s≠0:=by unfold encS; split <;> omega
structure Bfs (N : Nat) (A : List Ed) (f D b : List Int) : Prop where
 tree : zv9 A f D λ x=>decS (b.getD x.toNat 0)
 rng : ∀ x∈D,0<=x/\x<N
 len : b.length=N
 zero : b.getD 0 0=0
 out : ∀ x : Int,0<=x->x∉D->b.getD x.toNat 0=0
 inn : ∀ x∈D,x≠0->b.getD x.toNat 0≠0
def zhd (A : List Ed) (f D : List Int) (m : Nat) : Prop:=∀ s : Stp,s.1<A.length->stF A s∈D.take m->0<zca A f s->stT A s∈D
def zhw (A : List Ed) (f D : List Int) (k : Int) (i : Nat) : Prop:=∀ s : Stp,s.1<i->stF A s=k->0<zca A f s->stT A s∈D
variable {N : Nat} {A : List Ed} {f D b : List Int}
theorem Bfs.start (hN : 0<N) : Bfs N A f [0] (List.replicate N 0):=by
 have h0 : ∀ i,(List.replicate N (0 : Int)).getD i 0=0:=λ i=>by
  rw [List.getD_eq_getElem?_getD,List.getElem?_replicate];split <;> rfl
 exact ⟨⟨rfl,by simp,λ j h hj=>by simp at h; omega⟩,λ x hx=>by simp at hx; omega,by simp,h0 0,λ x _ _=>h0 _,λ x hx hn=>absurd (by simpa using hx) hn⟩
theorem Bfs.mem0 (h : Bfs N A f D b) : (0 : Int)∈D:=List.mem_of_mem_head? (by rw [h.tree.zero]; rfl)
theorem Bfs.push (h : Bfs N A f D b) {s : Stp} (hs : s.1<A.length) (hF : stF A s∈D) (hr : 0<zca A f s) (hT : stT A s∉D) (h0 : 0<=stT A s) (h1 : stT A s<N) : Bfs N A f (D++[stT A s]) (b.set (stT A s).toNat (encS s)):=by
 have hb : (stT A s).toNat<b.length:=by rw [h.len]; omega
 have hne : ∀ x : Int,0<=x->x≠stT A s->(b.set (stT A s).toNat (encS s)).getD x.toNat 0=b.getD x.toNat 0:=λ x hx hxn=>by
  rw [List.getD_eq_getElem?_getD,List.getElem?_set_ne (by omega),List.getD_eq_getElem?_getD]
 have heq : (b.set (stT A s).toNat (encS s)).getD (stT A s).toNat 0=encS s:=by
  rw [List.getD_eq_getElem?_getD,List.getElem?_set_self hb,Option.getD_some]
 have hn0 : stT A s≠0:=λ e=>hT (e ▸ h.mem0);refine ⟨⟨?_,?_,λ j hj hj0=>?_⟩,λ x hx=>?_,by rw [List.length_set]; exact h.len,?_,λ x hx hxn=>?_,λ x hx hxn=>?_⟩
 .rw [List.head?_append,h.tree.zero]
  rfl
 .rw [List.nodup_append]
  exact ⟨h.tree.nodup,by simp,λ a ha c hc=>by rw [List.mem_singleton] at hc; subst hc; rintro rfl; exact hT ha⟩
 .rw [List.length_append,List.length_singleton] at hj
  by_cases hjl : j<D.length
  .have hm:=List.getElem_mem hjl
   have hx : D[j]≠stT A s:=λ e=>hT (e ▸ hm);simp only [List.getElem_append_left hjl];rw [hne _ (h.rng _ hm).1 hx];obtain ⟨q1,q2,q3,q4⟩:=h.tree.step j hjl hj0;refine ⟨q1,q2,?_,q4⟩;rw [List.take_append_of_le_length (by omega)]
   exact q3
  .obtain rfl : j=D.length:=by omega
   have e : (D++[stT A s])[D.length]'(by simp)=stT A s:=by simp
   simp only [e];rw [heq,zr5];refine ⟨hs,rfl,?_,hr⟩;rw [List.take_append_of_le_length (Nat.le_refl _),List.take_length];exact hF
 .rcases List.mem_append.1 hx with h2 | h2
  .exact h.rng x h2
  .rw [List.mem_singleton] at h2
   subst h2;exact ⟨h0,h1⟩
 .have:=hne 0 (Int.le_refl _) (Ne.symm hn0)
  simp only [Int.toNat_zero] at this;rw [this];exact h.zero
 .rw [List.mem_append,List.mem_singleton,not_or] at hxn
  rw [hne x hx hxn.2];exact h.out x hx hxn.1
 .by_cases hxt : x=stT A s
  .subst hxt
   rw [heq];exact zxs s
  .rcases List.mem_append.1 hx with h2 | h2
   .rw [hne x (h.rng x h2).1 hxt]
    exact h.inn x h2 hxn
   .exact absurd (List.mem_singleton.1 h2) hxt
theorem Bfs.few (h : Bfs N A f D b) : D.length<=N:=by
 have:=zbm (b:=(List.range N).map λ i : Nat=>(i : Int)) h.tree.nodup λ x hx=>by
  have:=h.rng x hx;exact List.mem_map.2 ⟨x.toNat,List.mem_range.2 (by omega),by omega⟩
 simpa using this
def tryS (A : List Ed) (f : List Int) (k : Int) (s : Stp) (st : List Int × List Int) : List Int × List Int :=
 if stF A s=k/\0<zca A f s/\stT A s∉st.1 then (st.1++[stT A s],st.2.set (stT A s).toNat (encS s)) else st
theorem zlW {k : Int} {s : Stp} {st : List Int × List Int} : ∃ l,(tryS A f k s st).1=st.1++l:=by
 unfold tryS;split
 .exact ⟨_,rfl⟩
 .exact ⟨[],by simp⟩
theorem zvH {k : Int} {s : Stp} {st : List Int × List Int} (h : Bfs N A f st.1 st.2) (hk : k∈st.1) (hs : s.1<A.length) (h0 : 0<=stT A s) (h1 : stT A s<N) : Bfs N A f (tryS A f k s st).1 (tryS A f k s st).2:=by
 unfold tryS;split
 .rename_i hc
  exact h.push hs (hc.1 ▸ hk) hc.2.1 hc.2.2 h0 h1
 .exact h
theorem zsT {k : Int} {s : Stp} {st : List Int × List Int} (hF : stF A s=k) (hr : 0<zca A f s) : stT A s∈(tryS A f k s st).1:=by
 unfold tryS
 by_cases h : stT A s∈st.1
 .rw [if_neg λ hc=>hc.2.2 h]
  exact h
 .rw [if_pos ⟨hF,hr,h⟩]
  simp
theorem zhw.try2 {k : Int} {i : Nat} {st : List Int × List Int} (h : zhw A f st.1 k i) : zhw A f (tryS A f k (i,true) (tryS A f k (i,false) st)).1 k (i+1):=by
 obtain ⟨l1,e1⟩:=zlW (A:=A) (f:=f) (k:=k) (s:=(i,false)) (st:=st);obtain ⟨l2,e2⟩:=zlW (A:=A) (f:=f) (k:=k) (s:=(i,true)) (st:=tryS A f k (i,false) st);intro s hs hF hr;obtain ⟨j,c⟩:=s;rcases Nat.lt_succ_iff_lt_or_eq.1 hs with hj | hj
 .rw [e2,e1]
  exact List.mem_append_left _ (List.mem_append_left _ (h (j,c) hj hF hr))
 .have hj : j=i:=hj
  subst hj
  cases c
  .rw [e2]
   exact List.mem_append_left _ (zsT hF hr)
  .exact zsT hF hr
theorem zhd.next {m : Nat} (hm : m<D.length) {D' : List Int} (h : zhd A f D m) (hi : zhw A f D' D[m] A.length) {l : List Int} (hD : D'=D++l) : zhd A f D' (m+1):=by
 subst hD;intro s hs hF hr;rw [List.take_append_of_le_length (by omega),List.take_succ_eq_append_getElem hm] at hF
 rcases List.mem_append.1 hF with h1 | h1
 .exact List.mem_append_left _ (h s hs h1 hr)
 .exact hi s hs (List.mem_singleton.1 h1) hr
theorem zhd.all (h : zhd A f D D.length) : zgA A f D:=λ s hs hF hr=>h s hs (by rw [List.take_length]; exact hF) hr
def zc4 (N : Nat) (D : List Int) : List Bool:=(List.range N).map λ k : Nat=>decide ((k : Int)∈D)
theorem zkA (N : Nat) (D : List Int) : (zc4 N D).length=N:=by simp [zc4]
theorem ziR {x : Int} (h0 : 0<=x) (h1 : x<N) : (zc4 N D)[x.toNat]? = some (decide (x∈D)):=by
 unfold zc4;rw [List.getElem?_map,List.getElem?_range (by omega)]
 simp only [Option.map_some,Int.toNat_of_nonneg h0]
theorem zkE {x : Int} (h0 : 0<=x) (h1 : x<N) : (zc4 N D).set x.toNat true=zc4 N (D++[x]):=by
 apply List.ext_getElem?;intro j
 by_cases hj : j<N
 .have e1 : (zc4 N (D++[x]))[j]? = some (decide ((j : Int)∈D++[x])):=by
   have:=ziR (N:=N) (D:=D++[x]) (x:=(j : Int)) (by omega) (by omega)
   simpa using this
  have e2 : (zc4 N D)[j]? = some (decide ((j : Int)∈D)):=by
   have:=ziR (N:=N) (D:=D) (x:=(j : Int)) (by omega) (by omega)
   simpa using this
  rw [List.getElem?_set,e1,e2,zkA]
  by_cases hx : x.toNat=j
  .rw [if_pos hx,if_pos (by omega)]
   have : (j : Int)=x:=by omega
   simp [this]
  .rw [if_neg hx]
   have : (j : Int)≠x:=by omega
   simp [this]
 .rw [List.getElem?_eq_none (by rw [List.length_set,zkA]; omega),List.getElem?_eq_none (by rw [zkA]; omega)]
theorem zqG (hN : 0<N) : (List.replicate N false).set 0 true=zc4 N [0]:=by
 have h:=zkE (N:=N) (D:=[]) (x:=0) (Int.le_refl _) (by omega)
 have e : zc4 N []=List.replicate N false:=by
  unfold zc4;apply List.ext_getElem (by simp)
  simp
 rw [e] at h;exact h
theorem zqR {α : Type} {l : List α} (h : l.Nodup) : l.reverse.Nodup:=List.pairwise_reverse.2 (h.imp λ hne e=>hne e.symm)
theorem zyI {v : Int} (hv : v≠0) : encS (decS v)=v:=by
 unfold decS encS
 by_cases h : 0<v
 .rw [if_pos h]; simp; omega
 .rw [if_neg h]; simp; omega
def endW (A : List Ed) (u : Int) (l : List Stp) : Nat->Int
 | 0=>u
 | j+1=>stT A (l.getD j (0,false))
theorem zqz {A : List Ed} {u : Int} {s : Stp} {l : List Stp} (j : Nat) : endW A u (s::l) (j+1)=endW A (stT A s) l j:=by
 cases j <;> rfl
theorem zxK {A : List Ed} : ∀ {l : List Stp} {u w : Int},WayS A u l w -> ∀ j (hj : j<l.length),stF A l[j]=endW A u l j
 | s::l,u,w,h,0,_=>h.2.1
 | s::l,u,w,h,j+1,hj=>by
   rw [zqz];exact zxK h.2.2 j (by simpa using hj)
theorem zro {A : List Ed} : ∀ {l : List Stp} {u w : Int},WayS A u l w->endW A u l l.length=w
 | [],u,w,h=>h
 | s::l,u,w,h=>by
   rw [List.length_cons,zqz];exact zro h.2.2
variable {N : Nat} {A : List Ed} {f D b : List Int}
structure zn5 (N : Nat) (A : List Ed) (f b : List Int) (l : List Stp) : Prop where
 way : WayS A 0 l 1
 nodup : (l.map (·.1)).Nodup
 at_ : ∀ j (h : j<l.length),l[j].1<A.length/\0<zca A f l[j]/\stT A l[j]≠0/\0<=stT A l[j]/\stT A l[j]<N/\b.getD (stT A l[j]).toNat 0=encS l[j]
theorem Bfs.chain (h : Bfs N A f D b) (h1 : (1 : Int)∈D) : ∃ l,zn5 N A f b l:=by
 obtain ⟨j,hj,hx⟩:=List.mem_iff_getElem.1 h1;obtain ⟨l,l1,l2,l3⟩:=h.tree.way j j hj (Nat.le_refl _);rw [hx] at l1;refine ⟨l,l1,l2,λ i hi=>?_⟩;obtain ⟨q1,q2,q3,q4,_,q5⟩:=l3 _ (List.getElem_mem hi);have hm:=List.mem_of_mem_take q5;have hr:=h.rng _ hm;have hne:=h.inn _ hm q4;refine ⟨q1,q2,q4,hr.1,hr.2,?_⟩;rw [<- zyI hne,q3]
theorem zn5.from_ {l : List Stp} (h : zn5 N A f b l) (j : Nat) (hj : j<l.length) : stF A l[j]=endW A 0 l j:=zxK h.way j hj
def zfD (v : Int) (f : List Int) (l : List Stp) (j : Nat) : List Int:=zjA v f (l.drop j).reverse
theorem zq6 (v : Int) (f : List Int) (l : List Stp) : zfD v f l l.length=f:=by simp [zfD,zjA]
theorem zq3 (v : Int) (f : List Int) (l : List Stp) (j : Nat) : (zfD v f l j).length=f.length:=zig
theorem zop {v : Int} {f : List Int} {l : List Stp} (j : Nat) (hj : j<l.length) : zfD v f l j=zji v (zfD v f l (j+1)) l[j]:=by
 unfold zfD zjA;rw [List.drop_eq_getElem_cons hj,List.reverse_cons,List.foldl_append];rfl
theorem zq9 {v : Int} {l : List Stp} (hn : (l.map (·.1)).Nodup) (hr : ∀ s∈l,s.1<f.length) (j : Nat) (hj : j<l.length) : (zfD v f l (j+1)).getD l[j].1 0=f.getD l[j].1 0:=by
 refine (ziz (δ:=v) (f:=f) (i:=l[j].1) (l:=(l.drop (j+1)).reverse) ?_ ?_).1 ?_
 .rw [List.map_reverse]
  refine zqR ?_;exact hn.sublist ((List.drop_sublist _ _).map _)
 .intro s hs
  exact hr s (List.mem_of_mem_drop (List.mem_reverse.1 hs))
 .rw [List.map_reverse,List.mem_reverse]
  intro hm;obtain ⟨s,hs,he⟩:=List.mem_map.1 hm;obtain ⟨i,hi,rfl⟩:=List.mem_iff_getElem.1 hs;rw [List.length_drop] at hi;rw [List.getElem_drop] at he;have h1:=(List.pairwise_iff_getElem.1 hn) j (j+1+i) (by rw [List.length_map]; exact hj) (by rw [List.length_map]; omega) (by omega)
  rw [List.getElem_map,List.getElem_map] at h1;exact h1 he.symm
theorem zuY {v : Int} {l : List Stp} (hn : (l.map (·.1)).Nodup) (hr : ∀ s∈l,s.1<f.length) : zfD v f l 0=zjA v f l:=by
 unfold zfD;rw [List.drop_zero];have hn' : (l.reverse.map (·.1)).Nodup:=by rw [List.map_reverse]; exact zqR hn
 have hr' : ∀ s∈l.reverse,s.1<f.length:=λ s hs=>hr s (List.mem_reverse.1 hs);apply List.ext_getElem (by rw [zig,zig])
 intro i h1 h2;have e : ∀ (L : List Int) (h : i<L.length),L[i]=L.getD i 0:=λ L h=>by rw [List.getD_eq_getElem?_getD,List.getElem?_eq_getElem h,Option.getD_some]
 rw [e _ h1,e _ h2];have g1:=ziz (δ:=v) (f:=f) (i:=i) hn' hr';have g2:=ziz (δ:=v) (f:=f) (i:=i) hn hr
 by_cases hm : i∈l.map (·.1)
 .obtain ⟨s,hs,rfl⟩:=List.mem_map.1 hm
  rw [g1.2 s.2 (List.mem_reverse.2 hs),g2.2 s.2 hs]
 .rw [g1.1 (by rw [List.map_reverse,List.mem_reverse]; exact hm),g2.1 hm]
theorem zn5.push {l : List Stp} (hn : zfO N A) (hf : zaJ N A f) (h : zn5 N A f b l) {v : Int} (h0 : 0<=v) (hv : ∀ s∈l,v<=zca A f s) : zaJ N A (zfD v f l 0)/\valF A (zfD v f l 0)=valF A f+v:=by
 have hr : ∀ s∈l,s.1<A.length:=λ s hs=>by
  obtain ⟨i,hi,rfl⟩:=List.mem_iff_getElem.1 hs;exact (h.at_ i hi).1
 rw [zuY h.nodup λ s hs=>by rw [hf.fit.len]; exact hr s hs]
 exact zx6 hn hf h0 h.way h.nodup λ s hs=>⟨hr s hs,hv s hs⟩
theorem zgx {A : List Ed} {N : Nat} (h : zbX ⟨N,A⟩) : zfO N A:=by
 obtain ⟨h1,_,_,h4⟩:=h;simp only at h1 h4;refine ⟨by omega,λ e he=>?_⟩
 obtain ⟨q1,q2,q3,q4,q5,q6,q7,q8,_⟩:=h4 e he;exact ⟨q1,by omega,q3,by omega,q5,q6,q7,q8⟩
end Go.Proofs.YtkngdgplbojdlaaGreat
namespace Go.Proofs.YtkngdgplbojdlaaGreat
open Go Go.RowKit Go.Shelf Go.Maps Go.Sort
attribute [local go_sem] Oper.semAt_some
def zkR : Go.Shelf.Ren:=⟨fun | 11=>204 | n=>n,fun | 0=>0 | 24=>22 | 26=>3 | 28=>180 | 33=>68 | n=>n,fun | n=>n⟩
theorem seqL : SlLaysZI.n11 Tryz.prog zkR:={
 mixed:=by kernel_rfl
 f11:=⟨Tryz.f204.name,by decide,Tryz.func204.trans (congrArg some (by kernel_rfl))⟩
 t0:=Tryz.underlying0
 a0:=Tryz.isAgg0
 z0:=Tryz.sizeOf0
 v0:=Tryz.zeroValue0
 t24:=Tryz.underlying22
 a24:=Tryz.isAgg22
 z24:=Tryz.sizeOf22
 v24:=Tryz.zeroValue22
 t26:=Tryz.underlying3
 a26:=Tryz.isAgg3
 z26:=Tryz.sizeOf3
 v26:=Tryz.zeroValue3
 t28:=Tryz.underlying180
 a28:=Tryz.isAgg180
 z28:=Tryz.sizeOf180
 v28:=Tryz.zeroValue180
 i26:=by kernel_rfl
}
theorem zrw {l : List Int} {k : Nat} (h : k<l.length) : l.take (k+1)=l.take k++[l[k]]:=List.take_succ_eq_append_getElem h
set_option maxRecDepth 100000 in
set_option maxHeartbeats 2000000 in
theorem ztF (F : Fence) (n : Nat) (h7 : F.fn 187) (hro : F.round=none) (hn : 1<=n) (l Bs B0 b off cap : Nat) (a : Option Addr) (zs : List Int) (ha : zs≠[]->a=some ⟨b,off,none⟩) (hreach : zs.length<=17592186044416) (J : List Int->World->Prop) (W : World)
  (hJ : ∀ pre W1,J pre W1 -> ∀ j (h : j<zs.length),W1.cell? ⟨b,off+j,none⟩=some (.int .i64 zs[j]))
  (hY : ∀ pre x W1,J pre W1->pre.length<zs.length->YieldAt F (n - 1) Tryz.prog l #[.int .i64 x] W1 λ e W'=>e = .returned (.bool true)/\J (pre++[x]) W'/\KeepsWalks W1 W')
  (hBs : W.cell? ⟨Bs,B0,none⟩=some (.slice a zs.length cap)) (h0 : J [] W) :
  CallsIn F n Tryz.prog 187 #[.func (.yield l) #[] #[],.pointer (some ⟨Bs,B0,none⟩)] W λ e W'=>(∃ v,e = .returned v)/\J zs W':=by
 refine callsIn_of_wp Tryz.func187 rfl h7 ?_ hro;simp only [Tryz.ntmps187,List.size_toArray,List.length_cons,List.length_nil,Nat.reduceAdd,Nat.reduceSub,Array.replicate_succ,Array.replicate_zero,List.push_toArray,List.append_toArray,List.nil_append,List.cons_append]
 gi_wp2
 gi_loopw [7] (λ i wr=>∃ k : Nat,k<=zs.length/\i = .int .i64 k/\J (zs.take k) wr) (λ i _=>zs.length - (intOf i).toNat)
 case atStart=>exact ⟨0,Nat.zero_le _,rfl,by simpa using h0⟩
 case round =>
  obtain ⟨k,hk,rfl,hJs⟩:=hrel
  by_cases hlt : k<zs.length
  .have hcx' : wr.cell? ⟨b,off+k,none⟩=some (.int .i64 zs[k]):=hJ _ _ hJs k hlt
   obtain rfl:=ha (by rintro rfl; simp at hlt)
   obtain ⟨fn,tmps,assign,body,hy,hR⟩:=hY _ zs[k] wr hJs (by rw [List.length_take]; omega)
   gi_wp2
   refine hR.mono ?_
   rintro e W3 ⟨rfl,hJ3,hk3⟩
   gi_wp2
   go_roundw
   case rel=>exact ⟨k+1,by omega,by simp,by rw [zrw hlt]; exact hJ3⟩
   case measure=>simp [intOf]; omega
  .obtain rfl : k=zs.length:=by omega
   gi_wp2
   go_end0
   exact ⟨⟨_,rfl⟩,by simpa using hJs⟩
set_option maxRecDepth 100000 in
set_option maxHeartbeats 2000000 in
theorem zpA (F : Fence) (n : Nat) (h11 : F.fn 204) (hFg : F.fn 187) (hro : F.round=none) (hn : 2<=n) (Bs B0 b off cap : Nat) (a : Option Addr) (zs : List Int) (ha : zs≠[]->a=some ⟨b,off,none⟩) (hN : zs.length<=1099511627776) (w : World)
  (hBs : w.cell? ⟨Bs,B0,none⟩=some (.slice a zs.length cap)) (hBl : Bs<w.heap.size) (hbl : zs≠[]->b<w.heap.size) (hc : ∀ j (h : j<zs.length),w.cell? ⟨b,off+j,none⟩=some (.int .i64 zs[j])) :
  CallsIn F n Tryz.prog 204 #[.slice none 0 0,.func (.func 187) #[] #[.pointer (some ⟨Bs,B0,none⟩)]] w λ e w'=>∃ v : Value,e = .returned v/\w'.ownsRow w.heap.size 3 1 v zs.length (zs.map encZ)/\Below w.heap.size w w':=by
 have h1 : 1<=n:=by omega
 have hmax : zs.length<=maxLen:=by unfold maxLen; omega
 have L:=seqL;have hne : (22 : Nat)≠3:=by decide
 have eg : ∀ args w,(callFunc 187 args).run Tryz.prog w = .ok (.enter 187 args) w:=λ args w=>(enters_of Tryz.func187 (by kernel_rfl) rfl) args w
 refine callsIn_of_wp_marks Tryz.func204 rfl h11 ?_ hro;simp only [Tryz.ntmps204,List.size_toArray,List.length_cons,List.length_nil,Nat.reduceAdd,Nat.reduceSub,Array.replicate_succ,Array.replicate_zero,List.push_toArray,List.append_toArray,List.nil_append,List.cons_append]
 gi_wp2
 refine wpIn_rangeFunc ?_;intro fn hfn;rw [hro];obtain ⟨W0,hW0⟩ : ∃ W0,w.alloc (.cells #[.slice none 0 0] 22)=W0:=⟨_,rfl⟩;have hs0 : W0.heap.size=w.heap.size+1:=by rw [<- hW0]; simp
 have hv0 : W0.heap[w.heap.size]? = some (.cells #[.slice none 0 0] 22 (0,0)):=by rw [<- hW0]; exact World.alloc_heap_new w _
 have hb0 : Below w.heap.size w W0:=by rw [<- hW0]; exact (Below.refl _ w).alloc (Nat.le_refl _) _
 rw [hW0];obtain ⟨sv,hsv⟩ : ∃ sv : Value,sv = .func (.func 187) #[] #[.pointer (some ⟨Bs,B0,none⟩)]:=⟨_,rfl⟩;rw [<- hsv];obtain ⟨W1,hW1⟩ : ∃ W1,(W0.alloc (.deferred (some []))).alloc (.loop (AnyZI.apRec zkR fn sv w.heap.size W0.heap.size .ready none))=W1:=⟨_,rfl⟩
 have hold : ∀ k,k<W0.heap.size->W1.heap[k]? = W0.heap[k]?:=λ k hk=>by
  rw [<- hW1]; exact (Below.heap_alloc _ _ k (by simp; omega)).trans (Below.heap_alloc _ _ k hk)
 have hb1 : Below w.heap.size w W1:=by rw [<- hW1]; exact (hb0.alloc hb0.size _).alloc (by have:=hb0.size; simp; omega) _
 have hs1 : W1.heap.size=W0.heap.size+2:=by rw [<- hW1]; simp
 have hM : AnyZI.ApAt zkR w fn sv w.heap.size (W0.heap.size+1) W0.heap.size [] W1 :=
  ⟨⟨_,(hold w.heap.size (by omega)).trans hv0,⟨rfl,.inl ⟨rfl,rfl⟩⟩,by simp⟩,
   by rw [<- hW1]; have:=World.alloc_heap_new (W0.alloc (.deferred (some []))) (.loop (AnyZI.apRec zkR fn sv w.heap.size W0.heap.size .ready none)); rwa [World.size_alloc] at this,
   by rw [<- hW1]; exact (Below.heap_alloc _ _ _ (by simp)).trans (World.alloc_heap_new W0 _),hb1⟩
 refine ⟨W0.heap.size+1,[{ target:=.collected W0.heap.size,args:=#[] }],W1,{ target:=.fn (.func 187) #[.pointer (some ⟨Bs,B0,none⟩)],args:=#[.func (.yield (W0.heap.size+1)) #[] #[]] },W1,187,
  #[.func (.yield (W0.heap.size+1)) #[] #[]] ++ #[.pointer (some ⟨Bs,B0,none⟩)],W1,?_,?_,?_,?_,λ _=>h1,?_⟩
 .rw [<- hW1]; exact run_enterLoop_outer _ _ _ _ _
 .rw [hsv]; simp [resolve,go_sem]
 .intro f' hf'; simp [Target.leads] at hf'; subst hf'; exact hFg
 .simp [invoke,go_sem,eg]
 .refine (ztF F (n - 1) hFg hro (by omega) (W0.heap.size+1) Bs B0 b off cap a zs ha (by omega) (AnyZI.ApAt zkR w fn sv w.heap.size (W0.heap.size+1) W0.heap.size) W1 (λ pre W' h' j hj=>(h'.below.cell (p:=⟨b,off+j,none⟩) (hbl (by rintro rfl; simp at hj))).trans (hc j hj))
   (λ pre x W hJ hl=>AnyZI.apYield { L with } F (n - 1 - 1) w fn hfn _ w.heap.size (W0.heap.size+1) W0.heap.size (by omega) (by omega) (by omega) (Nat.le_refl _) (by omega) zs.length hmax (by omega) pre x W hJ hl) ((hb1.cell (p:=⟨Bs,B0,none⟩) hBl).trans hBs) hM).mono ?_
  rintro e W2 ⟨⟨v0,rfl⟩,h2⟩
  obtain ⟨v,hv,hrow,hnil⟩:=h2.box;have hend:=run_endLoop (P:=Tryz.prog) h2.L (by simp [AnyZI.apRec])
  obtain ⟨W3,hW3⟩ : ∃ W3,W2.putObj (W0.heap.size+1) (.loop { AnyZI.apRec zkR fn sv w.heap.size W0.heap.size .ready none with state:=.exhausted })=W3:=⟨_,rfl⟩;rw [hW3] at hend;have hg3 : W2.grownBy W3 (some (W0.heap.size+1)):=by rw [<- hW3]; exact grownBy_putObj_a _ _ _
  have hv3 : W3.heap[w.heap.size]? = some (.cells #[v] 22 (0,0)):=by rw [<- hW3]; exact (World.putObj_heap_other (by omega)).trans hv
  have hK3 : W3.heap[W0.heap.size]? = some (.deferred (some [])):=by rw [<- hW3]; exact (World.putObj_heap_other (by omega)).trans h2.K
  have hrow3:=hrow.kept hg3 (ownsRow_ne_a hrow h2.L (λ cur e=>by first | cases e | exact hne (Obj.cells.inj e).2.1))
  have hb3 : Below w.heap.size w W3:=h2.below.grown hg3 h2.below.size (λ k e=>by cases e; omega)
  obtain ⟨hc3,hf3⟩:=cell_of_box_a hv3
  clear hW3
  refine ⟨none,W3,hend,?_⟩
  gi_wp2
  rw [<- hs0];refine ⟨by simp,.inl ⟨_,_,rfl,run_takeDeferred hK3,?_⟩⟩
  exact ⟨_,results_tmp rfl _ _ _,v,rfl,hrow3.kept (grownBy_putObj_a _ _ _) (ownsRow_ne_a hrow3 hK3 (λ cur e=>by first | cases e | exact hne (Obj.cells.inj e).2.1)),hb3.grown (grownBy_putObj_a _ _ _) hb3.size (λ k e=>by cases e; omega)⟩
theorem zvI {P : Program} {np : Nat} {α : Type} : ∀ (ops : List zb0) (n i : Nat) (st : St) (tr : List (List Nat × List Nat)) (K : α->St->List (List Nat × List Nat)->Prop),zbp P np n i ops st tr (λ s t=>∃ x,K x s t) -> ∃ x,zbp P np n i ops st tr (K x):=by
 intro ops
 induction ops with
 | nil=>intro n i st tr K h; exact h
 | cons o os ih =>
   intro n i st tr K h
   have hgo : ∀ (op : AOp) (xs : List AV) (h : Nat->Option Ent) (F : AV->List Nat->List (Nat × Option Ent)->(St->List (List Nat × List Nat)->Prop)->Prop),
     (∀ v rd up,F v rd up (λ s t=>∃ x,K x s t) -> ∃ x,F v rd up (K x))->aK P np (n+8*i) op xs h (λ v rd up=>F v rd up (λ s t=>∃ x,K x s t)) -> ∃ x,aK P np (n+8*i) op xs h (λ v rd up=>F v rd up (K x)):=by
    intro op xs h F hF hk;obtain ⟨v,rd,up,h1,h2⟩:=zrN hk;obtain ⟨x,hx⟩:=hF v rd up h1;refine ⟨x,zvk (λ a b c e=>?_) h2⟩;obtain ⟨rfl,rfl,rfl⟩:=e;exact hx
   unfold zbp at h ⊢
   cases hg : o.guard with
   | none =>
     simp only [hg] at h ⊢;exact hgo _ _ _ (λ v rd up K'=>zbp P np n (i+1) os ((st.put o.dst v).upd up) (tr++[(rd,up.map (·.1))]) K') (λ v rd up=>ih _ _ _ _ _) h
   | some gw =>
     obtain ⟨g,want⟩:=gw;simp only [hg] at h ⊢;obtain ⟨b,hb,h⟩:=h
     by_cases hbw : b=some want
     .rw [if_pos hbw] at h
      obtain ⟨x,hx⟩:=hgo _ _ _ (λ v rd up K'=>zbp P np n (i+1) os ((st.put o.dst v).upd up) (tr++[(rd,up.map (·.1))]) K') (λ v rd up=>ih _ _ _ _ _) h
      exact ⟨x,b,hb,by rw [if_pos hbw]; exact hx⟩
     .rw [if_neg hbw] at h
      obtain ⟨x,hx⟩:=ih _ _ _ _ _ h;exact ⟨x,b,hb,by rw [if_neg hbw]; exact hx⟩
theorem Le.trans' {np : Nat} {a b c : St} (h1 : Le np a b) (h2 : Le np b c) : Le np a c:=by
 intro T0 M0 w0 T M ac w ok hn;obtain ⟨T',M',ok',hn'⟩:=h1 T0 M0 w0 T M ac w ok hn;exact h2 T0 M0 w0 T' M' ac w ok' hn'
theorem zzp {P : Program} {np : Nat} : ∀ {c : zfj} {α : Type} {Q : α->zdH->St->Prop} {st : St},awp P np c (λ e s=>∃ x,Q x e s) st -> ∃ x,awp P np c (Q x) st:=by
 intro c
 induction c with
 | skip=>intro α Q st h; exact h
 | reg draw ops after =>
   intro α Q st hw
   obtain ⟨x,hx⟩:=zvI ops st.n 0 st [] (λ x st' tr=>(draw=true->zeL ops after tr=true)/\Q x .normal { st' with n:=st.n+8*ops.length })
    (zcX _ _ _ _ _ _ _ (λ s t h=>by obtain ⟨h1,x,h2⟩:=h; exact ⟨x,h1,h2⟩) hw.2)
   exact ⟨x,hw.1,hx⟩
 | seq a b iha ihb =>
   intro α Q st hw;refine iha (zcM (λ e s hs=>?_) hw)
   cases e with
   | normal =>
     obtain ⟨st2,hle,h2⟩:=hs;obtain ⟨x,hx⟩:=ihb h2;exact ⟨x,st2,hle,hx⟩
   | exit id=>exact hs
   | ret=>exact hs
 | cond c a b iha ihb =>
   intro α Q st hw;obtain ⟨t,ht,hw⟩:=hw
   cases t
   .obtain ⟨x,hx⟩:=ihb hw
    exact ⟨x,false,ht,hx⟩
   .obtain ⟨x,hx⟩:=iha hw
    exact ⟨x,true,ht,hx⟩
 | block id a iha =>
   intro α Q st hw;refine iha (zcM (λ e s hs=>?_) hw)
   cases e with
   | normal=>exact hs
   | exit id' =>
     simp only at hs ⊢
     by_cases hi : id'=id
     .simp only [if_pos hi] at hs ⊢; exact hs
     .simp only [if_neg hi] at hs ⊢; exact hs
   | ret=>exact hs
 | loop a iha =>
   intro α Q st hw;obtain ⟨I,⟨st0,k0,hle,hI⟩,hb⟩:=hw
   have key : ∀ k s,I k s -> ∃ x,awp P np (.loop a) (Q x) s:=by
    intro k
    induction k using Nat.strongRecOn with
    | ind k ihk =>
      intro s hs
      have hpre : awp P np a (λ e s'=>∃ y : { y : α × Nat × (Nat->St->Prop) // ∀ k' s',y.2.2 k' s'->awp P np a (λ e st'=>match e with | .normal=>∃ st2 k2,Le np st' st2/\y.2.2 k2 st2/\k2<k' | e=>Q y.1 e st') s' },
        match e with | .normal=>∃ st2,Le np s' st2/\y.1.2.2 y.1.2.1 st2 | e=>Q y.1.1 e s') s:=by
       refine zcM (λ e s' h=>?_) (hb k s hs)
       cases e with
       | normal =>
         obtain ⟨st2,k2,h1,h2,h3⟩:=h;obtain ⟨x,J,⟨st3,k3,h4,h5⟩,h6⟩:=ihk k2 h3 st2 h2;exact ⟨⟨(x,k3,J),h6⟩,st3,Le.trans' h1 h4,h5⟩
       | exit id=>obtain ⟨x,h⟩:=h; exact ⟨⟨(x,0,λ _ _=>False),λ _ _ h=>h.elim⟩,h⟩
       | ret=>obtain ⟨x,h⟩:=h; exact ⟨⟨(x,0,λ _ _=>False),λ _ _ h=>h.elim⟩,h⟩
      obtain ⟨⟨⟨x,q,J⟩,hJ⟩,hy⟩:=iha hpre;simp only at hJ hy;refine ⟨x,λ k' s'=>J k' s'∨(k'=q+1/\s'=s),⟨s,q+1,Le.refl _ _,.inr ⟨rfl,rfl⟩⟩,?_⟩
      rintro k' s' (h | ⟨rfl,rfl⟩)
      .refine zcM (λ e s2 h2=>?_) (hJ k' s' h)
       cases e with
       | normal=>obtain ⟨st2,k2,h1,h2,h3⟩:=h2; exact ⟨st2,k2,h1,.inl h2,h3⟩
       | exit id=>exact h2
       | ret=>exact h2
      .refine zcM (λ e s2 h2=>?_) hy
       cases e with
       | normal=>obtain ⟨st2,h1,h2⟩:=h2; exact ⟨st2,q,h1,.inl h2,Nat.lt_succ_self q⟩
       | exit id=>exact h2
       | ret=>exact h2
   obtain ⟨x,hx⟩:=key k0 st0 hI;obtain ⟨J,⟨s3,k3,h4,h5⟩,h6⟩:=hx;exact ⟨x,J,⟨s3,k3,Le.trans' hle h4,h5⟩,h6⟩
 | exit id=>intro α Q st h; exact h
 | ret=>intro α Q st h; exact h
 | bad=>intro α Q st h; exact h.elim
def zm0 {α : Type} (rs : List (Nat × Option (Bool × Nat))) (np : Nat) (F : α->AV) (H : α->List (Option Ent)) (R : α->Prop) (e : zdH) (st : St) : Prop:=(e = .normal∨e = .ret) /\ ∃ x,R x/\zao rs np st (F x) (H x)
theorem zm0.mk {α : Type} {rs : List (Nat × Option (Bool × Nat))} {np : Nat} {F : α->AV} {H : α->List (Option Ent)} {R : α->Prop} {e : zdH} {st : St} (he : e = .normal∨e = .ret) (x : α) (hx : R x) (h : zao rs np st (F x) (H x)) : zm0 rs np F H R e st:=⟨he,x,hx,h⟩
theorem Src.acallsX {P : Program} {f : FuncId} {af : AFun} (s : Src P f af) {α : Type} (F : α->AV) (H : α->List (Option Ent)) (R : α->Prop) {args : List AV} {hs : List Ent}
  (hnt : args.length<=af.nt) (hn16 : hs.length<=16) (hlen : ∀ x,hs.length<=(H x).length)
  (h : awp P hs.length af.code (zm0 af.res hs.length F H R) (zgX af args hs)) : ∃ x,R x/\zaj P f args hs (F x) (H x):=by
 obtain ⟨⟨x,hx⟩,hw⟩:=zzp (α:={ x : α // R x }) (Q:=λ x e st=>(e = .normal∨e = .ret)/\zao af.res hs.length st (F x.1) (H x.1)) (zcM (λ e st h=>by
  obtain ⟨h1,x,h2,h3⟩:=h
  exact ⟨⟨x,h2⟩,h1,h3⟩) h)
 exact ⟨x,hx,s.acalls hnt hn16 (hlen x) hw⟩
def idm (l : List Nat) : List (Nat × Nat):=l.map λ i=>(i,i)
def cutS (live keep sn : List Nat) (n : Nat) (st : St) : St :=
 ⟨st.sz,live.map (λ i=>(i,conv (idm keep) sn st.hp 4 (st.get i))),keep.map (λ i=>(i,(st.hp i).map (zay (idm keep) sn st.hp 4))),n⟩
def roOk (keep : List Nat) (st : St) : Prop:=∀ i∈keep,∀ e,st.hp i=some e->e.ro<=e.rows.length
def zrz (np n : Nat) (ρ : List (Nat × Nat)) (sn : List Nat) : Bool :=
 decide (ρ.map (·.1)).Nodup && decide (ρ.map (·.2)).Nodup && ρ.all (λ p=>decide (p.2<n) && (decide (np<=p.2) || p.1 == p.2)) && sn.all (λ i=>decide (np<=i) && !(ρ.map (·.1)).contains i) && decide (np<=n)
theorem Le.go {np : Nat} {st st' : St} (ρ : List (Nat × Nat)) (sn : List Nat) (hsz : st'.sz=st.sz) (hside : zrz np st'.n ρ sn=true)
  (ht : ∀ p∈st'.t,Wk (conv ρ sn st.hp 4 (st.get p.1)) p.2) (hh : ∀ p∈st'.h,∃ q∈ρ,q.2=p.1/\(st.hp q.1).map (zay ρ sn st.hp 4)=p.2 /\ ∀ e,p.2=some e->e.ro<=e.rows.length) : Le np st st':=by
 simp only [zrz,Bool.and_eq_true,List.all_eq_true,decide_eq_true_eq,Bool.or_eq_true,beq_iff_eq,Bool.not_eq_true',List.contains_eq_mem,decide_eq_false_iff_not] at hside;obtain ⟨⟨⟨⟨h1,h2⟩,h3⟩,h4⟩,h5⟩:=hside;refine Le.lst ρ sn [] hsz h1 h2 (λ p hp=>⟨(h3 p hp).1,λ hlt=>?_⟩) (by simp) (λ i hi=>h4 i hi) h5 (by simp) (λ p hp=>.inl (ht p hp)) λ p hp e' he'=>?_
 .rcases (h3 p hp).2 with h | h
  .omega
  .exact h
 .obtain ⟨q,hq,hq2,hm,hr⟩:=hh p hp
  rw [he'] at hm
  cases hs : st.hp q.1 with
  | none=>rw [hs] at hm; cases hm
  | some e =>
    rw [hs] at hm;have hm' : zay ρ sn st.hp 4 e=e':=by simpa using hm
    exact .inl ⟨q,hq,hq2,e,hs,by rw [hm']; exact zaN.rfl' (hr e' he')⟩
theorem LeH {np : Nat} {st st' : St} (ρ : List (Nat × Nat)) (sn : List Nat) (hsz : st'.sz=st.sz:=by rfl) (hside : zrz np st'.n ρ sn=true:=by rfl) (ht : ∀ p∈st'.t,Wk (conv ρ sn st.hp 4 (st.get p.1)) p.2:=by simp) (hh : ∀ p∈st'.h,∃ q∈ρ,q.2=p.1/\(st.hp q.1).map (zay ρ sn st.hp 4)=p.2 /\ ∀ e,p.2=some e->e.ro<=e.rows.length:=by simp) : Le np st st':=Le.go ρ sn hsz hside ht hh
theorem LeI {np : Nat} {st st' : St} (ρ : List (Nat × Nat)) (sn : List Nat) (hsz : st'.sz=st.sz:=by rfl) (hside : zrz np st'.n ρ sn=true:=by rfl) (ht : ∀ p∈st'.t,Wk (conv ρ sn st.hp 4 (st.get p.1)) p.2:=by simp) (hh : ∀ p∈st'.h,∃ q∈ρ,q.2=p.1/\(st.hp q.1).map (zay ρ sn st.hp 4)=p.2 /\ ∀ e,p.2=some e->e.ro<=e.rows.length:=by simp [fcd]) : Le np st st':=Le.go ρ sn hsz hside ht hh
theorem Le.cut {np : Nat} {st : St} (live keep sn : List Nat) (n : Nat) (hside : zrz np n (idm keep) sn=true) (hr : roOk keep st) : Le np st (cutS live keep sn n st):=by
 refine Le.go (idm keep) sn rfl hside (λ p hp=>?_) λ p hp=>?_
 .obtain ⟨i,_,rfl⟩:=List.mem_map.1 hp
  exact .refl _
 .obtain ⟨i,hi,rfl⟩:=List.mem_map.1 hp
  refine ⟨(i,i),List.mem_map.2 ⟨i,hi,rfl⟩,rfl,rfl,λ e he=>?_⟩;simp only at he
  cases hs : st.hp i with
  | none=>rw [hs] at he; cases he
  | some e0 =>
    rw [hs] at he;have he' : zay (idm keep) sn st.hp 4 e0=e:=by simpa using he
    subst he';have:=hr i hi e0 hs
    simpa [zay] using this
theorem rx {P : Program} {np : Nat} {ops : List zb0} {Q : zdH->St->Prop} {sz n : Nat} {t : List (Nat × AV)} {h : List (Nat × Option Ent)} {af : List (List Nat)} {b : zfj} {s : St} (live keep sn : List Nat)
  (hd : ((ops.all λ o=>o.dst.all (· < sz)) && zrz np (n+8*ops.length) (idm keep) sn)=true) (ho : zbp P np n 0 ops ⟨sz,t,h,n⟩ [] λ st' _=>roOk keep st'/\cutS live keep sn (n+8*ops.length) st'=s) (hq : awp P np b Q s) : awp P np (.seq (.reg false ops af) b) Q ⟨sz,t,h,n⟩:=by
 rw [Bool.and_eq_true] at hd;refine zaa s hd.1 (zcX _ _ _ _ _ _ _ (λ st' _ hc=>?_) ho) hq;obtain ⟨h1,rfl⟩:=hc;exact Le.cut (st:=⟨st'.sz,st'.t,st'.h,n+8*ops.length⟩) live keep sn _ hd.2 h1
theorem rs {P : Program} {np : Nat} {ops : List zb0} {Q : zdH->St->Prop} {sz n : Nat} {t : List (Nat × AV)} {h : List (Nat × Option Ent)} {af : List (List Nat)} {b : zfj} {s : St} (live keep sn : List Nat) (hq : awp P np b Q s)
  (hd : ((ops.all λ o=>o.dst.all (· < sz)) && zrz np (n+8*ops.length) (idm keep) sn)=true:=by rfl) (ho : zbp P np n 0 ops ⟨sz,t,h,n⟩ [] (λ st' _=>roOk keep st'/\cutS live keep sn (n+8*ops.length) st'=s):=by simp; rfl) : awp P np (.seq (.reg false ops af) b) Q ⟨sz,t,h,n⟩:=rx live keep sn hd ho hq
def cutK (live keep : List Nat) (n : Nat) (st : St) : St:=⟨st.sz,live.map (λ i=>(i,st.get i)),keep.map (λ i=>(i,st.hp i)),n⟩
theorem Le.cutk {np : Nat} {st : St} (live keep : List Nat) (n : Nat) (hn : st.n<=n) : Le np st (cutK live keep n st) :=
 Le.keep rfl hn (λ p hp=>by obtain ⟨i,_,rfl⟩:=List.mem_map.1 hp; rfl) λ p hp e he=>by
  obtain ⟨i,_,rfl⟩:=List.mem_map.1 hp;exact he
theorem rk {P : Program} {np : Nat} {ops : List zb0} {Q : zdH->St->Prop} {sz n : Nat} {t : List (Nat × AV)} {h : List (Nat × Option Ent)} {af : List (List Nat)} {b : zfj} {s : St} (live keep : List Nat)
  (hd : (ops.all λ o=>o.dst.all (· < sz))=true) (ho : zbp P np n 0 ops ⟨sz,t,h,n⟩ [] λ st' _=>cutK live keep (n+8*ops.length) st'=s) (hq : awp P np b Q s) : awp P np (.seq (.reg false ops af) b) Q ⟨sz,t,h,n⟩:=by
 refine zaa s hd (zcX _ _ _ _ _ _ _ (λ st' _ hc=>?_) ho) hq;subst hc;exact Le.cutk (st:=⟨st'.sz,st'.t,st'.h,n+8*ops.length⟩) live keep _ (Nat.le_refl _)
@[simp] theorem zAY : idm []=[]:=(rfl)
@[simp] theorem zAD {i : Nat} {l : List Nat} : idm (i::l)=(i,i)::idm l:=(rfl)
@[simp] theorem zAJ {st : St} : roOk [] st=True:=by simp [roOk]
@[simp] theorem zzz {i : Nat} {l : List Nat} {st : St} : roOk (i::l) st=((∀ e,st.hp i=some e->e.ro<=e.rows.length)/\roOk l st):=by simp [roOk]
@[simp] theorem zAy {live keep sn : List Nat} {n sz m : Nat} {t : List (Nat × AV)} {h : List (Nat × Option Ent)} : cutS live keep sn n ⟨sz,t,h,m⟩=⟨sz,live.map (λ i=>(i,conv (idm keep) sn (St.mk sz t h m).hp 4 ((St.mk sz t h m).get i))),keep.map (λ i=>(i,((St.mk sz t h m).hp i).map (zay (idm keep) sn (St.mk sz t h m).hp 4))),n⟩:=(rfl)
@[simp] theorem zAK {live keep : List Nat} {n sz m : Nat} {t : List (Nat × AV)} {h : List (Nat × Option Ent)} : cutK live keep n ⟨sz,t,h,m⟩=⟨sz,live.map (λ i=>(i,(St.mk sz t h m).get i)),keep.map (λ i=>(i,(St.mk sz t h m).hp i)),n⟩:=(rfl)
abbrev pC (p : Pol) : List AV:=[ints p.seeds,ints p.table,.I p.lv]
abbrev eP (p : Pol) : AV:=.agg (pC p)
def zqe (p : Pol) (i : Nat) : Prop:=∀ h : i<p.table.length,1<=p.table[i]/\p.table[i]<=1000/\(0<i->p.table[i]<=p.table[i - 1])
def zlc (n : Int) (p : Pol) : Prop:=p.seeds≠[]/\Rise p.seeds 0 (n - 1)/\(1<=p.table.length/\p.table.length<=8)/\(1<=p.lv/\p.lv<=3)
theorem zgZ {n : Int} {p : Pol} : zbu n p↔zlc n p /\ ∀ i,zqe p i:=by
 unfold zbu zlc zqe;constructor
 .rintro ⟨a,b,c,d,e,f,g⟩; exact ⟨⟨a,b,⟨c,d⟩,e,f⟩,g⟩
 .rintro ⟨⟨a,b,⟨c,d⟩,e,f⟩,g⟩; exact ⟨a,b,c,d,e,f,g⟩
theorem zns (p : Pol) (d : Int) : zaj Tryz.prog zh0 [eP p,.I d] [] (.I (zf9 p d)) []:=by
 refine zqB.ac ?_;show awp _ 0 _ _ ⟨19,[(0,eP p),(1,.I d)],[],16⟩;refine rs [1,2] [] [16] ?_;refine zaO (ι:=Unit) (λ _=>⟨19,[],[],200⟩) (λ _=>0<=d/\(p.table.length : Int)<=d) ?_ λ _ hd=>?_
 .refine zaf ?_
  refine rs [1,2,5] [] [] ?_;refine zad _ rfl (λ h3=>?_) λ h3=>?_
  .simp at h3
   refine rs [4] [] [] ?_;refine zai ?_;exact ⟨.inr rfl,zao.one (by simp [zh2 h3])⟩
  simp at h3;refine rs [1,2,8] [] [] ?_;refine zad _ rfl (λ h6=>?_) λ h6=>?_
  .simp at h6
   obtain ⟨k,rfl⟩ : ∃ k : Nat,d=k:=⟨d.toNat,by omega⟩
   have hk : k<p.table.length:=by omega
   refine rx (s:=?s7) [4] [] [] rfl ?o7 ?q7
   case o7=>simp [hk]; rfl
   refine zai ?_;exact ⟨.inr rfl,zao.one (by simp [zf9,hk,show ¬ ((k : Int)<0) by omega])⟩
  simp at h6;refine zae ?_;exact ⟨(),⟨h3,h6⟩,Le.keep rfl (nbz rfl) (by simp) (by simp)⟩
 refine rs [4] [] [] ?_;refine zai ?_
 have h1 : zf9 p d=1:=by
  unfold zf9;rw [if_neg (by omega),List.getD_eq_getElem?_getD,List.getElem?_eq_none (by omega)]
  rfl
 exact ⟨.inr rfl,zao.one (by simp [h1])⟩
theorem zrI (p : Pol) (d : Int) : zaj Tryz.prog zmm [eP p,.I d] [] (.I (zf9 p d)) []:=by
 refine zvc.ac ?_;show awp _ 0 _ _ ⟨17,[(0,eP p),(1,.I d)],[],16⟩;refine rs [1,2] [] [16] ?_;refine zab ?_;refine rs [1,2,6] [] [] ?_;refine zad _ rfl (λ h3=>?_) λ h3=>?_
 .simp at h3
  refine rs [4] [] [] ?_;refine zai ?_;exact ⟨.inr rfl,zao.one (by simp [zh2 h3])⟩
 simp at h3;refine zae ?_;refine zab ?_;refine rs [1,2,11] [] [] ?_;refine zad _ rfl (λ h6=>?_) λ h6=>?_
 .simp at h6
  obtain ⟨k,rfl⟩ : ∃ k : Nat,d=k:=⟨d.toNat,by omega⟩
  have hk : k<p.table.length:=by omega
  refine rx (s:=?s7) [4] [] [] rfl ?o7 ?q7
  case o7=>simp [hk]; rfl
  refine zai ?_;exact ⟨.inr rfl,zao.one (by simp [zf9,hk,show ¬ ((k : Int)<0) by omega])⟩
 simp at h6;refine zae ?_;refine rs [4] [] [] ?_;refine zai ?_
 have h1 : zf9 p d=1:=by
  unfold zf9;rw [if_neg (by omega),List.getD_eq_getElem?_getD,List.getElem?_eq_none (by omega)]
  rfl
 exact ⟨.inr rfl,zao.one (by simp [h1])⟩
open Classical in
theorem zeO (g : Gr) (p : Pol) (hl : g.edges.length<=140737488355328) (hl2 : g.gone.length<=140737488355328) (hs : p.seeds.length<=140737488355328) (ht : p.table.length<=140737488355328) :
  zaj Tryz.prog zbU [eG g,eP p] [] (.I (if GrOk g then if zbu g.size p then 0 else 15 else 14)) []:=by
 refine zib.ac ?_;show awp _ 0 _ _ ⟨65,[(0,eG g),(1,eP p)],[],16⟩;refine rs [2,3] [] [16,24] ?_;refine zab ?_;refine rx (s:=?s2) [2,3,5] [] [] rfl ?o2 ?q2
 case o2=>simp; refine zap (znr g hl hl2) (by simp) ?_; simp; rfl
 refine rs [2,3,5,11] [] [] ?_;refine zad _ rfl (λ h4=>?_) λ h4=>?_
 .simp at h4
  refine rs [4] [] [] ?_;refine zai ?_;exact ⟨.inr rfl,zao.one (by simp [h4])⟩
 simp at h4;have hg0:=h4.1.1;have hg1:=h4.1.2.1;refine zae ?_;refine zab ?_;refine zaa ⟨65,[(3,.pv (pC p)),(38,.B (decide (¬ zlc g.size p)))],[],288⟩ rfl ?_ ?_
 .simp
  repeat' first
   | (refine zf4 zcc rfl ?_; have hw : IntKind.i64.wrap (g.size - 1)=g.size - 1:=w6; rw [hw]; refine zap (zf3 _ _ _ hs) rfl ?_; simp)
   | (refine zf4 zaF rfl ?_; refine zap (zcl ..) rfl ?_; simp)
   | (refine zem (λ hb=>?_) (λ hb=>?_) <;> (try rw [hb]) <;> (try simp at hb) <;> simp [hb])
  all_goals exact Le.snap [] rfl rfl (by simp; first | exact wkB (by (try simp at *); grind [zlc]) | exact ⟨by rw [show pC p=[.vs 1 false [],ints p.table,.I p.lv] by simp [pC,ints,hb]]; exact .refl _,wkB (by (try simp at *); grind [zlc])⟩)
 refine zad _ rfl (λ h7=>?_) λ h7=>?_
 .simp at h7
  refine rs [4] [] [] ?_;refine zai ?_;exact ⟨.inr rfl,zao.one (by simp [h4,zgZ,h7])⟩
 simp at h7;refine zae ?_;refine zab ?_;refine rs [3,40,41,42] [] [] ?_;refine zaf ?_;refine zas (ι:=Nat) (λ i=>⟨65,[(3,.pv (pC p)),(40,ints p.table),(41,.I p.table.length),(42,.I i)],[],320⟩) (λ i=>i<=p.table.length /\ ∀ k,k<i->zqe p k) (λ i=>p.table.length - i) 0 (by simp) (LeH [] []) ?_
 rintro i ⟨hi,hp⟩
 refine rs [3,40,41,42,43] [] [] ?_;refine zab ?_;refine zad _ rfl (λ h11=>?_) λ h11=>?_
 .simp at h11
  have hw2 : IntKind.i64.wrap ((i : Int)+1)=(i : Int)+1:=w6;have hwp : 0<i->IntKind.i64.wrap ((i : Int) - 1)=((i - 1 : Nat) : Int):=λ h=>by rw [w6]; omega
  have h11' : i - 1<p.table.length:=by omega
  refine zae ?_;refine zab ?_;refine zaf ?_;refine rx (s:=?s12) [3,6,7,40,41,42] [] [] rfl ?o12 ?q12
  case o12=>simp [h11]; rfl
  refine zaa ⟨65,[(3,.pv (pC p)),(40,ints p.table),(41,.I p.table.length),(42,.I i),(63,.B (decide (¬ zqe p i)))],[],504⟩ rfl ?_ ?_
  .simp
   repeat' first
    | (refine zf4 zaF rfl ?_; refine zap (zcl ..) rfl ?_; simp)
    | (refine zem (λ hb=>?_) (λ hb=>?_) <;> (try rw [hb]) <;> (try simp at hb) <;> simp [hb,h11,h11',hwp])
   all_goals exact Le.snap [] rfl rfl (by simp; exact wkB (by (try simp at *); grind [zqe]))
  refine zad _ rfl (λ h14=>?_) λ h14=>?_
  .refine rs [4] [] [] ?_
   refine zai ?_;have hn : ¬ zbu g.size p:=λ h=>by simp at h14; exact h14 ((zgZ.1 h).2 i)
   exact ⟨.inr rfl,zao.one (by simp [h4,hn])⟩
  simp at h14;refine zae ?_;refine zan ?_;refine ⟨i+1,⟨h11,λ k hk=>?_⟩,?_,Le.go [] [] rfl rfl (by simp [hw2]) (by simp)⟩
  .rcases Nat.lt_succ_iff_lt_or_eq.1 hk with h | rfl
   .exact hp k h
   .exact h14
  .omega
 simp at h11;have hy : zbu g.size p:=zgZ.2 ⟨h7,λ k hk=>hp k (by omega) hk⟩
 refine zaq ?_;refine hit ?_;refine rs [4] [] [] ?_;refine zai ?_;exact ⟨.inr rfl,zao.one (by simp [h4,hy])⟩
open Classical in
theorem zmk (g : Gr) (p : Pol) (hs : p.seeds.length<=140737488355328) (ht : p.table.length<=140737488355328) :
  zaj Tryz.prog zha [eG g,eP p] [] (.B (decide (zbu g.size p))) []:=by
 refine zpM.ac ?_;show awp _ 0 _ _ ⟨79,[(0,eG g),(1,eP p)],[],16⟩;refine rs [2,3] [] [16,24] ?_;refine zab ?_;refine zaa ⟨79,[(3,.pv (pC p)),(39,.B (decide (¬ zlc g.size p)))],[],312⟩ rfl ?_ ?_
 .simp
  repeat' first
   | (refine zf4 zeK rfl ?_; refine zap (ziu _ _ hs) rfl ?_; simp)
   | (refine zem (λ hb=>?_) (λ hb=>?_) <;> (try rw [hb]) <;> (try simp at hb) <;> simp [hb])
  all_goals exact Le.snap [] rfl rfl (by simp; first | exact wkB (by (try simp at *); grind [zlc]) | exact ⟨by rw [show pC p=[.vs 1 false [],ints p.table,.I p.lv] by simp [pC,ints,hb]]; exact .refl _,wkB (by (try simp at *); grind [zlc])⟩)
 refine zad _ rfl (λ h3=>?_) λ h3=>?_
 .simp at h3
  refine rs [4] [] [] ?_;refine zai ?_;exact ⟨.inr rfl,zao.one (by simp [zgZ,h3])⟩
 simp at h3;refine zae ?_;refine zab ?_;refine rs [3,5] [] [] ?_;refine zaf ?_;refine zas (ι:=Nat) (λ i=>⟨79,[(3,.pv (pC p)),(5,.I i)],[],320⟩) (λ i=>i<=p.table.length /\ ∀ k,k<i->zqe p k) (λ i=>p.table.length - i) 0 (by simp) (LeH [] []) ?_
 rintro i ⟨hi,hp⟩
 refine zab ?_;refine rs [3,5,44] [] [] ?_;refine zad _ rfl (λ h7=>?_) λ h7=>?_
 .simp at h7
  have hw2 : IntKind.i64.wrap ((i : Int)+1)=(i : Int)+1:=w6;have hwp : 0<i->IntKind.i64.wrap ((i : Int) - 1)=((i - 1 : Nat) : Int):=λ h=>by rw [w6]; omega
  have h7' : i - 1<p.table.length:=by omega
  refine zae ?_;refine zab ?_;refine zaf ?_;refine zaC ⟨79,[(3,.pv (pC p)),(5,.I i),(78,.B (decide (¬ zqe p i)))],[],616⟩ rfl ?_ ?_
  .simp [h7]
   repeat' first
    | (refine zem (λ hb=>?_) (λ hb=>?_) <;> (try rw [hb]) <;> (try simp at hb) <;> simp [hb,h7,h7',hwp])
   all_goals exact ⟨rfl,Le.snap [] rfl rfl (by simp; exact wkB (by (try simp at *); grind [zqe]))⟩
  refine zad _ rfl (λ h9=>?_) λ h9=>?_
  .refine rs [4] [] [] ?_
   refine zai ?_;have hn : ¬ zbu g.size p:=λ h=>by simp at h9; exact h9 ((zgZ.1 h).2 i)
   exact ⟨.inr rfl,zao.one (by simp [hn])⟩
  simp at h9;refine zae ?_;refine zan ?_;refine ⟨i+1,⟨h7,λ k hk=>?_⟩,?_,Le.go [] [] rfl rfl (by simp [hw2]) (by simp)⟩
  .rcases Nat.lt_succ_iff_lt_or_eq.1 hk with h | rfl
   .exact hp k h
   .exact h9
  .omega
 simp at h7;have hy : zbu g.size p:=zgZ.2 ⟨h3,λ k hk=>hp k (by omega) hk⟩
 refine zaq ?_;refine hit ?_;refine rs [4] [] [] ?_;refine zai ?_;exact ⟨.inr rfl,zao.one (by simp [hy])⟩
open Classical in
theorem zgz (g : Gr) (p : Pol) (hl : g.edges.length<=140737488355328) (hl2 : g.gone.length<=140737488355328) (hs : p.seeds.length<=140737488355328) (ht : p.table.length<=140737488355328) :
  zaj Tryz.prog zeh [eG g,eP p] [] (.I (if GrOk g then if zbu g.size p then 0 else 15 else 14)) []:=by
 refine zqW.ac ?_;show awp _ 0 _ _ ⟨12,[(0,eG g),(1,eP p)],[],16⟩;refine rs [2,3] [] [16,24] ?_;refine zab ?_;refine rx (s:=?s2) [2,3,7] [] [] rfl ?o2 ?q2
 case o2=>simp; refine zap (zjd g hl hl2) (by simp) ?_; simp; rfl
 refine zad _ rfl (λ h3=>?_) λ h3=>?_
 .simp at h3
  refine rs [4] [] [] ?_;refine zai ?_;exact ⟨.inr rfl,zao.one (by simp [h3])⟩
 simp at h3;refine zae ?_;refine zab ?_;refine rx (s:=?s5) [11] [] [] rfl ?o5 ?q5
 case o5=>simp; refine zap (zmk g p hs ht) (by simp) ?_; simp; rfl
 refine zad _ rfl (λ h6=>?_) λ h6=>?_
 .simp at h6
  refine rs [4] [] [] ?_;refine zai ?_;exact ⟨.inr rfl,zao.one (by simp [h3,h6])⟩
 simp at h6;refine zae ?_;refine rs [4] [] [] ?_;refine zai ?_;exact ⟨.inr rfl,zao.one (by simp [h3,h6])⟩
section
variable {P : Program} {np id : Nat} {h : Nat->Option Ent} {K : AV->List Nat->List (Nat × Option Ent)->Prop} {f : FuncId} {first capt args args' : List AV} {res : AV}
theorem zm4 (sn : List Nat) {e : Ent} (hc : zaj P f args' [] res [some e]) (he : (first++args++capt).map (conv [] sn h 4)=args') (hp : Plain res) (hpe : zi5 e)
  (hk : K (conv (swp [] id) [] (λ _=>none) 4 res) sn [(id,some (zay (swp [] id) [] (λ _=>none) 4 e))]) : aK P np id .call (.fn (.func f) first capt::args) h K :=
 ⟨[],sn,false,args',[],res,[some e],by simp,by simp,by simp,by rw [List.zipIdx_nil,he]; exact zdy _,rfl,hc,by simp,.inr ⟨hp,λ e' he'=>by simp at he'; subst he'; exact hpe⟩,by simpa [swp] using hk⟩
end
theorem zv4 {l : List Int} : zi5 ⟨1,zag l,0⟩:=by
 intro row hrow x hx;simp only [List.mem_map] at hrow;obtain ⟨y,_,rfl⟩:=hrow;simp at hx;subst hx;exact .sc _
variable {g : Gr} {S : List Int}
set_option maxHeartbeats 1000000 in
set_option maxRecDepth 100000 in
theorem zkG (hg : GrOk g) (hN : g.size<20) (hS : S.length<=1099511627776) : zaj Tryz.prog zcg [eG g,ints S] [] (.rs 0 0 (ordL g S).length) [some ⟨1,zag (ordL g S),0⟩]:=by
 refine zgb.ac ?_;show awp _ 0 _ _ ⟨18,[(0,eG g),(1,ints S)],[],16⟩;have hsz:=hg.1.1;obtain ⟨N,hNe⟩ : ∃ N : Nat,N=g.size.toNat:=⟨_,rfl⟩;have hall:=zix g S hg hS;have hDl : (zcL g S).length=N:=by rw [zml,hNe]
 have hDg : ∀ k : Nat,k<N->(zcL g S).getD k 0=dist g S k:=λ k hk=>zuq (by omega)
 rw [<- hNe] at hall;obtain ⟨D,hD⟩ : ∃ D,D=zcL g S:=⟨_,rfl⟩;rw [<- hD] at hall hDl hDg;obtain ⟨W,hW⟩ : ∃ W,W=za7 N λ k=>decide (0<=dist g S k):=⟨_,rfl⟩;have hWl : W.length<=N:=by rw [hW]; exact zfQ _ _
 have hWm : ∀ x∈W,0<=x/\x<N:=λ x hx=>by rw [hW] at hx; exact (zdw.1 hx).1
 have hwhere : zaj Tryz.prog zbt [.I N,.fn (.func zbv) [] [.pv [ints D]]] [] (.rs 0 0 W.length) [some ⟨1,zag W,0⟩]:=by
  have:=zkc zbv [.pv [ints D]] (λ k=>decide (0<=dist g S k)) N (by omega) (λ ρ sn h n=>by simp) (λ k hk=>by
   have h1:=zrQ D k (by omega)
   rw [hDg k (by omega)] at h1
   exact h1)
  simpa [<- hW] using this
 have hsort:=zoT zbY [.pv [ints D]] (cD g S) W W.length rfl (by omega) (λ ρ sn h n=>by simp) (λ x hx y hy=>by
  obtain ⟨a,ha⟩ : ∃ a : Nat,x=a:=⟨x.toNat,by have:=hWm x hx; omega⟩
  obtain ⟨b,hb⟩ : ∃ b : Nat,y=b:=⟨y.toNat,by have:=hWm y hy; omega⟩
  have h1:=hWm x hx;have h2:=hWm y hy;subst ha hb;have h3:=zrh D a b (by omega) (by omega)
  rw [hDg a (by omega),hDg b (by omega)] at h3
  exact h3)
 have hord : ziV (cD g S) W=ordL g S:=by rw [hW,hNe]; exact zwy hg
 have hol : (ordL g S).length=W.length:=by
  rw [<- hord];unfold ziV;rw [List.length_reverse,zlg]
 rw [hord] at hsort;have htk : List.take N (zag D)=zag D:=List.take_of_length_le (by simp [hDl])
 have hRl : (zag D).length=N:=by simp [hDl]
 refine zaa ⟨18,[(1,ints S),(2,.pv (gC g))],[],32⟩ rfl ?_ ?_
 .simp
  exact Le.snap [16] rfl rfl (by simp)
 refine zaa ⟨18,[(5,.pv [ints D])],[],72⟩ rfl ?_ ?_
 .simp
  refine zbz hall rfl ?_;simp [fcd];exact Le.snap [48,56] rfl rfl (by simp [fcd,<- hDl,zac])
 refine zaa ⟨18,[(5,.pv [ints D]),(6,.rs 96 0 W.length)],[(96,some ⟨1,zag W,0⟩)],112⟩ rfl ?_ ?_
 .simp [hDl]
  refine zbz hwhere (by simp) ?_
  simp [fcd];exact Le.keep rfl (Nat.le_refl _) (by simp) (by simp)
 rw [hol];refine zaa ⟨18,[(6,.rs 96 0 W.length)],[(96,some ⟨1,zag (ordL g S),0⟩)],136⟩ rfl ?_ ?_
 .simp
  refine zcz (i:=96) rfl (e':=⟨1,zag W,0⟩) (by simp [fcd]) hsort (by simp) (by simp) ?_
  simp [fcd];exact Le.keep rfl (Nat.le_refl _) (by simp) (by simp)
 refine zab ?_;refine zan ?_;refine zai ?_;exact ⟨.inr rfl,zao.out [96] [] rfl (by simp) (by simp) (by simp) (by simp [fcd])⟩
set_option maxHeartbeats 1000000 in
set_option maxRecDepth 100000 in
theorem znF (hg : GrOk g) (hS : S.length<=1099511627776) : zaj Tryz.prog zih [eG g,ints S] [] (.rs 0 0 (ordL g S).length) [some ⟨1,zag (ordL g S),0⟩]:=by
 refine zqp.ac ?_;show awp _ 0 _ _ ⟨35,[(0,eG g),(1,ints S)],[],16⟩;have hsz:=hg.1.1;have hsz2:=hg.1.2.1;obtain ⟨N,hNe⟩ : ∃ N : Nat,N=g.size.toNat:=⟨_,rfl⟩;have hall:=zin g S hg hS;have hDl : (zcL g S).length=N:=by rw [zml,hNe]
 have hDg : ∀ k : Nat,k<N->(zag (zcL g S))[k]? = some [AV.I (dist g S k)]:=λ k hk=>by simp [zcL,show k<g.size.toNat by omega]
 rw [<- hNe] at hall;obtain ⟨D,hD⟩ : ∃ D,D=zcL g S:=⟨_,rfl⟩;rw [<- hD] at hall hDl hDg;refine zaa ⟨35,[(1,ints S),(2,.pv (gC g))],[],32⟩ rfl ?_ ?_
 .simp
  exact Le.snap [16] rfl rfl (by simp)
 refine zaa ⟨35,[(2,.pv (gC g)),(5,ints D)],[],64⟩ rfl ?_ ?_
 .simp
  refine zbz hall rfl ?_;simp [fcd];exact Le.snap [48] rfl rfl (by simp [fcd,<- hDl,zac])
 refine zab ?_;refine zan ?_;refine zab ?_;refine zab ?_;refine zan ?_;refine zaf ?_
 have hcount : ∀ n k : Nat,n<=N->k<=N->(ordN g S n++za7 k λ x=>decide (dist g S x=n)).length<=100000:=by
  intro n k hn hk
  have h1 : ∀ m : Nat,m<=64->(ordN g S m).length<=m*64:=by
   intro m
   induction m with
   | zero=>intro _; simp [ordN]
   | succ m ih =>
     intro hm;rw [ordN,List.length_append];have:=ih (by omega)
     have:=zfQ g.size.toNat λ k=>decide (dist g S k=m);omega
  have:=h1 n (by omega)
  have:=zfQ k λ x=>decide (dist g S x=n);rw [List.length_append];omega
 let T : Nat->Nat->List Int:=λ n k=>ordN g S n++za7 k λ x=>decide (dist g S x=n)
 have hT0 : ∀ n,T n 0=ordN g S n:=λ n=>by simp [T,za7]
 have hTN : ∀ n,T n N=ordN g S (n+1):=λ n=>by simp only [T]; rw [hNe]; rfl
 let C : Nat->St:=λ n=>⟨35,[(2,.pv (gC g)),(5,ints D),(6,.rs 16 0 (ordN g S n).length),(7,.I n)],[(16,some ⟨1,zag (ordN g S n),0⟩)],80⟩
 refine zas C (λ n=>n<=N) (λ n=>N - n) 0 (Nat.zero_le _) (Le.lst [] [] [(16,1)] rfl (by simp) (by simp) (by simp) (by simp [C]) (by simp) (by simp) (by simp) (by simp [C,Up,ordN]) (by simp [C,ordN])) ?_
 intro n hn;have hCn : C n=⟨35,[(2,.pv (gC g)),(5,ints D),(6,.rs 16 0 (ordN g S n).length),(7,.I n)],[(16,some ⟨1,zag (ordN g S n),0⟩)],80⟩:=rfl;rw [hCn];refine zab ?_;refine zaa ⟨35,[(2,.pv (gC g)),(5,ints D),(6,.rs 16 0 (ordN g S n).length),(7,.I n),(15,.B (decide ((n : Int)<g.size)))],[(16,some ⟨1,zag (ordN g S n),0⟩)],112⟩ rfl ?_ ?_
 .simp
  exact Le.keep rfl (Nat.le_refl _) (by simp) (by simp)
 refine zad _ rfl (λ h=>zae ?_) λ h=>zaq (hit ?_)
 .simp only [decide_eq_true_eq] at h
  refine zaO (ι:=Unit) (λ _=>⟨35,[(2,.pv (gC g)),(5,ints D),(6,.rs 16 0 (ordN g S (n+1)).length),(7,.I n)],[(16,some ⟨1,zag (ordN g S (n+1)),0⟩)],80⟩) (λ _=>True) ?_ λ _ _=>?_
  .rw [<- hT0 n,<- hTN n]
   refine zaf ?_;refine zaa ⟨35,[(2,.pv (gC g)),(5,ints D),(6,.rs 16 0 (T n 0).length),(7,.I n),(8,.I 0)],[(16,some ⟨1,zag (T n 0),0⟩)],120⟩ rfl ?_ ?_
   .simp
    exact Le.keep rfl (Nat.le_refl _) (by simp) (by simp)
   refine zaf ?_;refine zas (ι:=Nat) (λ k=>⟨35,[(2,.pv (gC g)),(5,ints D),(6,.rs 16 0 (T n k).length),(7,.I n),(8,.I k)],[(16,some ⟨1,zag (T n k),0⟩)],120⟩) (λ k=>k<=N) (λ k=>N - k) 0 (Nat.zero_le _) (Le.refl _ _) ?_;intro k hk;have hTl:=hcount n k (by omega) hk
   have hTs : T n (k+1)=T n k++if dist g S k=n then [(k : Int)] else []:=by
    simp only [T];rw [zhg,List.append_assoc]
    congr 2
    by_cases hq : dist g S k=n <;> simp [hq]
   have hTe : T n k=ordN g S n++za7 k λ x=>decide (dist g S x=n):=rfl;rw [<- hTe] at hTl;refine zab ?_;refine zaa ⟨35,[(2,.pv (gC g)),(5,ints D),(6,.rs 16 0 (T n k).length),(7,.I n),(8,.I k),(21,.B (decide ((k : Int)<g.size)))],[(16,some ⟨1,zag (T n k),0⟩)],152⟩ rfl ?_ ?_
   .simp
    exact Le.keep rfl (Nat.le_refl _) (by simp) (by simp)
   refine zad _ rfl (λ h2=>zae ?_) λ h2=>zaq (hit ?_)
   .simp only [decide_eq_true_eq] at h2
    have hkN : k<N:=by omega
    have hget:=hDg k hkN;refine zaO (ι:=Unit) (λ _=>⟨35,[(2,.pv (gC g)),(5,ints D),(6,.rs 16 0 (T n (k+1)).length),(7,.I n),(8,.I k)],[(16,some ⟨1,zag (T n (k+1)),0⟩)],120⟩) (λ _=>True) ?_ λ _ _=>?_
    .rw [hTs]
     generalize T n k=A at *;refine zaf ?_;refine zaa ⟨35,[(2,.pv (gC g)),(5,ints D),(6,.rs 16 0 A.length),(7,.I n),(8,.I k),(29,.B (decide (dist g S k=n)))],[(16,some ⟨1,zag A,0⟩)],200⟩ rfl ?_ ?_
     .simp only [zzW,List.map_cons,List.map_nil]
      simp
      have hget2 : D[k]? = some (dist g S k):=by
       have:=hget;rw [zag,List.getElem?_map] at this
       cases hq : D[k]? with
       | none=>rw [hq] at this; simp at this
       | some v=>rw [hq] at this; simp at this; rw [this]
      simp [hget2];exact Le.keep rfl (Nat.le_refl _) (by simp <;> rw [Bool.eq_iff_iff] <;> simp) (by simp)
     refine zad _ rfl (λ h5=>?_) λ h5=>zae ?_
     .simp only [decide_eq_true_eq] at h5
      rw [if_pos h5];refine zav rfl ?_;simp [List.replicate];refine ⟨by omega,by omega,zky (i:=224) (sn:=[]) rfl rfl (by simp) (by simp) rfl (by simp [fcd,zac]) (by simp) (by simp)⟩
     .simp only [decide_eq_false_iff_not] at h5
      rw [if_neg h5,List.append_nil];exact ⟨(),trivial,Le.l1 16 16 [] rfl rfl (by simp) (by simp) rfl (by simp)⟩
    have hwk : IntKind.i64.wrap ((k : Int)+1)=((k+1 : Nat) : Int):=by rw [w6]; omega
    refine zav rfl ?_;simp [hwk];exact ⟨k+1,by omega,by omega,Le.l1 16 16 [] rfl rfl (by simp) (by simp) rfl (by simp)⟩
   simp only [decide_eq_false_iff_not] at h2;obtain rfl : k=N:=by omega
   exact ⟨(),trivial,Le.l1 16 16 [] rfl rfl (by simp) (by simp) rfl (by simp)⟩
  have hwn : IntKind.i64.wrap ((n : Int)+1)=((n+1 : Nat) : Int):=by rw [w6]; omega
  refine zav rfl ?_;simp [hwn];exact ⟨n+1,by omega,by omega,Le.l1 16 16 [] rfl rfl (by simp [C]) (by simp) rfl (by simp [C])⟩
 simp only [decide_eq_false_iff_not] at h;obtain rfl : n=N:=by omega
 have hfin : ordN g S n=ordL g S:=by rw [hNe]; rfl
 rw [hfin];refine zab ?_;refine zan ?_;refine zai ?_;exact ⟨.inr rfl,zao.out [16] [] rfl (by simp) (by simp) (by simp) (by simp [fcd])⟩
theorem GrOk.edges_le {g : Gr} (h : GrOk g) : g.edges.length<=500:=h.1.2.2.1
theorem zcN {g : Gr} {p : Pol} : (zaQ g p).length=g.size.toNat:=by simp [zaQ,zcL,zal]
def zef (g : Gr) (p : Pol) (k : Nat) : List Int:=(zaQ g p).take k++(zcL (zal g p.lv) p.seeds).drop k
theorem zor {g : Gr} {p : Pol} (k : Nat) (hk : k<=g.size.toNat) : (zef g p k).length=g.size.toNat:=by simp [zef,zcN,zcL,zal]; omega
theorem zr6 {g : Gr} {p : Pol} : zef g p 0=zcL (zal g p.lv) p.seeds:=by simp [zef]
theorem ztY {g : Gr} {p : Pol} : zef g p g.size.toNat=zaQ g p:=by
 unfold zef;rw [List.take_of_length_le (by rw [zcN]; exact Nat.le_refl _),List.drop_eq_nil_of_le (by simp [zcL,zal])]
 simp
theorem ztx {g : Gr} {p : Pol} {k : Nat} (hk : k<g.size.toNat) : (zef g p k)[k]? = some (dist (zal g p.lv) p.seeds k):=by
 unfold zef;rw [List.getElem?_append_right (by simp [zcN]; omega)]
 simp [zcN,Nat.min_eq_left (Nat.le_of_lt hk),zcL,zal,hk]
theorem ztE {g : Gr} {p : Pol} {k : Nat} (hk : k<g.size.toNat) : (zag (zef g p k)).set k [AV.I (zf9 p (dist (zal g p.lv) p.seeds k))]=zag (zef g p (k+1)):=by
 rw [show [AV.I (zf9 p (dist (zal g p.lv) p.seeds k))]=(λ n : Int=>[AV.I n]) (zf9 p (dist (zal g p.lv) p.seeds k)) from rfl]
 show (List.map (λ n : Int=>[AV.I n]) (zef g p k)).set k _=List.map (λ n : Int=>[AV.I n]) _;rw [<- List.map_set]
 congr 1
 have hc : k<(zaQ g p).length:=by rw [zcN]; exact hk
 have hd : k<(zcL (zal g p.lv) p.seeds).length:=by simp [zcL,zal,hk]
 unfold zef;rw [List.set_append,if_neg (by simp [zcN]; omega)]
 rw [show k - ((zaQ g p).take k).length=0 by simp [zcN]; omega]
 rw [List.drop_eq_getElem_cons hd,List.set_cons_zero,List.take_succ_eq_append_getElem hc,List.append_assoc]
 congr 2
 simp [zaQ,zcL]
set_option maxRecDepth 100000 in
theorem zng (g : Gr) (p : Pol) (hg : GrOk g) (hs : p.seeds.length<=1099511627776) : zaj Tryz.prog zg9 [eG g,eP p] [] (.rs 0 0 g.size.toNat) [some ⟨1,zag (zaQ g p),0⟩]:=by
 refine zpn.ac ?_;show awp _ 0 _ _ ⟨30,[(0,eG g),(1,eP p)],[],16⟩;have hsz:=hg.1.1;have hsz2:=hg.1.2.1;have hel:=hg.edges_le;have hgl:=hg.gone_le;have hall:=zix (zal g p.lv) p.seeds (hg.level p.lv) hs;have hsl : (zal g p.lv).size=g.size:=rfl;rw [hsl,<- zr6] at hall;obtain ⟨N,hNe⟩ : ∃ N : Nat,N=g.size.toNat:=⟨_,rfl⟩;rw [<- hNe] at hall;have hml : ∀ k,k<=N->(zag (zef g p k)).length=N:=λ k hk=>by rw [List.length_map,zor k (by omega),hNe]
 have hmg : ∀ (k : Nat) (h : k<(zef g p k).length),k<N->(zef g p k)[k]=dist (zal g p.lv) p.seeds k:=λ k h hk=>by
  have:=ztx (g:=g) (p:=p) (k:=k) (by omega)
  rw [List.getElem?_eq_getElem h] at this;exact Option.some.inj this
 have hml2 : ∀ k,k<=N->(zef g p k).length=N:=λ k hk=>by rw [zor k (by omega),hNe]
 have hms : ∀ k : Nat,k<N->(zag (zef g p k)).set k [AV.I (zf9 p (dist (zal g p.lv) p.seeds k))]=zag (zef g p (k+1)):=λ k hk=>ztE (by omega)
 refine rs [2,3] [] [16,24] ?_;refine zaC ⟨30,[(3,.pv (pC p)),(5,.rs 88 0 N)],[(88,some ⟨1,zag (zef g p 0),0⟩)],104⟩ rfl ?_ ?_
 .simp
  refine zap (zgO g p.lv (by omega) (by omega)) (by simp) ?_
  simp;refine zbz hall rfl ?_;simp [fcd];exact ⟨rfl,Le.keep rfl (Nat.le_refl _) (by simp) (by simp)⟩
 refine zab ?_;refine rk (s:=?s3) [3,5,15,16,17] [88] rfl ?o3 ?q3
 case o3=>simp; rfl
 refine zaf ?_;refine zas (ι:=Nat) (λ i=>⟨30,[(3,.pv (pC p)),(5,.rs 88 0 N),(15,.rs 88 0 N),(16,.I N),(17,.I i)],[(88,some ⟨1,zag (zef g p i),0⟩)],128⟩) (λ i=>i<=N) (λ i=>N - i) 0 (by simp) (Le.keep rfl (Nat.le_refl _) (by simp) (by simp)) ?_
 intro i hi;refine rk (s:=?s5) [3,5,15,16,17,18] [88] rfl ?o5 ?q5
 case o5=>simp; rfl
 refine zab ?_;refine zad _ rfl (λ h6=>?_) λ h6=>?_
 .simp at h6
  have hw : IntKind.i64.wrap ((i : Int)+1)=(i : Int)+1:=w6;refine zae ?_;refine zab ?_;refine zaf ?_;refine rk (s:=?s7) [3,5,6,7,15,16,17] [88] rfl ?o7 ?q7
  case o7=>simp [h6,hml2,hmg,hi]; rfl
  refine zar (s:=?s8) rfl ?o8 ?q8
  case o8 =>
   simp;refine zap (zns p (dist (zal g p.lv) p.seeds i)) (by simp) ?_
   simp [h6,hml2,hi,hms];rfl
  refine zar (s:=?s9) rfl ?o9 ?q9
  case o9=>simp [hw]; rfl
  exact ⟨i+1,by omega,by omega,LeI [(88,88)] []⟩
 simp at h6;obtain rfl : i=N:=by omega
 refine zaq ?_;refine hit ?_;refine rk (s:=?s10) [4] [88] rfl ?o10 ?q10
 case o10=>simp; rfl
 refine zai ?_;refine ⟨.inr rfl,zao.out [88] [] rfl (by simp) (by simp) (by simp [hNe]) (by simp [fcd,hNe,ztY])⟩
theorem zmM {g : Gr} {p : Pol} {k : Nat} (hk : k<g.size.toNat) : (zaQ g p).take (k+1)=(zaQ g p).take k++[zf9 p (dist (zal g p.lv) p.seeds k)]:=by
 rw [List.take_succ_eq_append_getElem (by rw [zcN]; exact hk)]
 simp [zaQ,zcL]
set_option maxRecDepth 100000 in
theorem zqf (g : Gr) (p : Pol) (hg : GrOk g) (hs : p.seeds.length<=1099511627776) : zaj Tryz.prog zkC [eG g,eP p] [] (.rs 0 0 g.size.toNat) [some ⟨1,zag (zaQ g p),0⟩]:=by
 refine ztz.ac ?_;show awp _ 0 _ _ ⟨31,[(0,eG g),(1,eP p)],[],16⟩;have hsz:=hg.1.1;have hsz2:=hg.1.2.1;have hel:=hg.edges_le;have hgl:=hg.gone_le;have hall:=zin (zal g p.lv) p.seeds (hg.level p.lv) hs;have hsl : (zal g p.lv).size=g.size:=rfl;rw [hsl] at hall;obtain ⟨N,hNe⟩ : ∃ N : Nat,N=g.size.toNat:=⟨_,rfl⟩;have hDl : (zcL (zal g p.lv) p.seeds).length=N:=by simp [zcL,zal,hNe]
 have hDg : ∀ (k : Nat) (h : k<(zcL (zal g p.lv) p.seeds).length),(zcL (zal g p.lv) p.seeds)[k]=dist (zal g p.lv) p.seeds k:=λ k h=>by simp [zcL]
 rw [<- hNe] at hall;obtain ⟨D,hD⟩ : ∃ D,D=zcL (zal g p.lv) p.seeds:=⟨_,rfl⟩;rw [<- hD] at hall hDl;simp only [<- hD] at hDg;have hcl : (zaQ g p).length=N:=by rw [zcN,hNe]
 obtain ⟨C,hC0,hCs,hCl,hCN⟩ : ∃ C : Nat->List Int,C 0=[]/\(∀ k : Nat,k<N->C (k+1)=C k++[zf9 p (dist (zal g p.lv) p.seeds k)])/\(∀ k,k<=N->(C k).length=k)/\C N=zaQ g p :=
  ⟨λ k=>(zaQ g p).take k,by simp,λ k hk=>zmM (by omega),λ k hk=>by simp [hcl,hk],by simp [<- hcl]⟩
 refine rs [2,3] [] [16,24] ?_;refine zaC ⟨31,[(3,.pv (pC p)),(5,ints D)],[],104⟩ rfl ?_ ?_
 .simp
  refine zap (zgC g p.lv (by omega) (by omega)) (by simp) ?_
  simp;refine zbz hall rfl ?_;simp [fcd];exact ⟨rfl,Le.snap [88] rfl rfl (by simp [fcd,<- hDl,zac])⟩
 refine rs [3,5,6] [] [] ?_;refine zab ?_;refine rs [3,5,6,7] [] [] ?_;refine zaf ?_;refine zas (ι:=Nat) (λ i=>⟨31,[(3,.pv (pC p)),(5,ints D),(6,.rs 16 0 i),(7,.I i)],[(16,some ⟨1,zag (C i),0⟩)],120⟩) (λ i=>i<=N) (λ i=>N - i) 0 (by simp) (Le.lst [] [] [(16,1)] rfl (by simp) (by simp) (by simp) (by simp) (by simp) (by simp) (by simp) (by simp [Up]) (by simp [hC0])) ?_
 intro i hi;have hCi:=hCl i hi;have hti : ∀ f : Int->List AV,List.take i (List.map f (C i))=List.map f (C i):=λ f=>List.take_of_length_le (by simp [hCi])
 refine zab ?_;refine rk (s:=?s5) [3,5,6,7,18] [16] rfl ?o5 ?q5
 case o5=>simp [hDl]; rfl
 refine zad _ rfl (λ h6=>?_) λ h6=>?_
 .simp at h6
  have hw : IntKind.i64.wrap ((i : Int)+1)=(i : Int)+1:=w6;refine zae ?_;refine zab ?_;refine zaf ?_;refine zcP rfl ?_;simp [h6,hDl,hDg];refine zap (zrI p (dist (zal g p.lv) p.seeds i)) (by simp) ?_
  simp [hCi];refine ⟨by omega,by omega,rfl,?_⟩
  refine zav rfl ?_;simp [hw];exact ⟨i+1,by omega,by omega,Le.go [(216,16)] [] rfl rfl (by simp) (by simp [fcd,hCs i h6,hti])⟩
 simp at h6;obtain rfl : i=N:=by omega
 refine zaq ?_;refine hit ?_;refine rk (s:=?s7) [4] [16] rfl ?o7 ?q7
 case o7=>simp; rfl
 refine zai ?_;exact ⟨.inr rfl,zao.out [16] [] rfl (by simp) (by simp) (by simp [hNe]) (by simp [fcd,hCN])⟩
end Go.Proofs.YtkngdgplbojdlaaGreat
namespace Go.Proofs.YtkngdgplbojdlaaGreat
open Go Go.RowKit Go.Shelf Go.Maps Go.Sort
theorem arr2 {vs : Array Value} (h : vs.size=2) : vs = #[vs.getD 0 undef,vs.getD 1 undef]:=by
 apply Array.ext
 .simpa using h
 .intro i h1 h2
  have : i=0∨i=1:=by simp at h2; omega
  rcases this with rfl | rfl <;> simp [Array.getD,h1] <;> intro h3 <;> omega
theorem zwn (x : Int) : (encZ x : Value) = .int .i64 x:=rfl
theorem zqa (l : List Int) (hl : l.length<=1099511627776) : zaj Tryz.prog zdz [.nilS,.fn (.func zcu) [] [.pv [ints l]]] [] (.rs 0 0 l.length) [some ⟨1,zag l,0⟩]:=by
 refine ⟨⟨_,_,Tryz.func204,rfl,by decide⟩,by simp,λ T M w vs htok hhs hdom hrep=>?_⟩
 obtain ⟨hsz,hr⟩:=hrep;have hr0:=hr 0 (by simp)
 have hr1:=hr 1 (by simp)
 simp only [List.getD_cons_zero,List.getD_cons_succ] at hr0 hr1;rw [arr2 hsz];generalize vs.getD 0 undef=v0 at hr0;generalize vs.getD 1 undef=v1 at hr1
 cases hr0
 cases hr1 with
 | fn _ _ _ _ us ws hx hy h h' =>
 have hus : us = #[]:=by simpa using hx
 subst hus;have hws:=arr1 (vs:=ws) hy;have hc0:=h' 0 (by simp)
 simp only [List.getD_cons_zero] at hc0;rw [hws];generalize ws.getD 0 undef=u at hc0
 cases hc0 with
 | pv _ _ Bs B0 cells ty fz c hb ht hcc ho hh =>
 have hB:=hcc 0 (by simp)
 have hv:=hh 0 (by simp)
 simp only [List.getD_cons_zero,Nat.add_zero] at hB hv;have hBl : Bs<w.heap.size:=(Array.getElem?_eq_some_iff.1 hb).1;generalize c 0=sv at hB hv
 cases hv with
 | vs _ _ _ _ a cap cc hf hle hw hbb h1 hcv =>
 have hlen : (l.map λ n=>[AV.I n]).length=l.length:=by simp
 rw [hlen] at hB
 have hcell : ∃ b off,(l≠[]->a=some ⟨b,off,none⟩/\b<w.heap.size) /\ ∀ j (h : j<l.length),w.cell? ⟨b,off+j,none⟩=some (.int .i64 l[j]):=by
  by_cases h0 : l=[]
  .exact ⟨0,0,λ h=>absurd h0 h,λ j hj=>by subst h0; simp at hj⟩
  .obtain ⟨b,off,cs,ty',fz',ha,hwb,_,hrow⟩:=hbb (by simpa using h0)
   refine ⟨b,off,λ _=>⟨ha,(Array.getElem?_eq_some_iff.1 hwb).1⟩,λ j hj=>?_⟩;have h2:=hrow j 0 (by simpa using hj) (by decide)
   have h3:=hcv j 0 (by simpa using hj) (by decide)
   have e : ((l.map λ n=>[AV.I n]).getD j []).getD 0 .dead = .I l[j]:=by simp [List.getD,hj]
   rw [e] at h3;have h4:=zbW h3 rfl;rw [h4] at h2;simp only [World.cell?,hwb]
   simpa using h2
 obtain ⟨b,off,hab,hcs⟩:=hcell;rw [<- callsIn_wide (n:=2)];refine (zpA Fence.wide 2 trivial trivial rfl (by omega) Bs B0 b off cap a l (λ h=>(hab h).1) hl w ?_ hBl (λ h=>(hab h).2) hcs).mono ?_
 .simp only [World.cell?,hb]
  exact hB
 rintro e w' ⟨v,rfl,⟨_,hown⟩,hbel⟩
 have hpr : Pres T w T w':=⟨λ _=>Nat.le_refl _,λ b' cs' ty' fz' h=>⟨cs',fz',by rw [hbel.block b' (Array.getElem?_eq_some_iff.1 h).1]; exact h,rfl,λ _ _=>rfl⟩⟩
 have hT0 : ∀ b',w.heap.size<=b'->T b'=0:=λ b' hb'=>by
  rcases Nat.eq_zero_or_pos (T b') with e | e
  .exact e
  .obtain ⟨cells,ty,fz,h1,_⟩:=htok b' e
   have:=(Array.getElem?_eq_some_iff.1 h1).1;omega
 have htok' : TOk T w':=λ b' hb'=>by
  obtain ⟨cells,ty,fz,h1,h2⟩:=htok b' hb';exact ⟨cells,ty,fz,by rw [hbel.block b' (Array.getElem?_eq_some_iff.1 h1).1]; exact h1,h2⟩
 have fin : ∀ g : GE,(∀ b,g.blk=some b->w.heap.size<=b)->zp6 T w' (λ k=>if k=0 then some g else none) ⟨1,zag l,0⟩ g->Rep T w' (λ k=>if k=0 then some g else none) (.rs 0 0 l.length) v ->
   ∃ v' T' M',Ending.returned v = .returned v'/\Rep T' w' M' (.rs 0 0 l.length) v'/\HsOk T' w' M' (zna [some ⟨1,zag l,0⟩])/\zkz 0 T M w T' M' w':=by
  intro g hg ent hv;refine ⟨v,T,_,rfl,hv,?_,⟨htok',λ _ _ _=>rfl,λ k hk=>absurd hk (Nat.not_lt_zero k),hbel.os,hbel.tape,hbel.output,hbel.size,λ b' hb' _=>hbel.block b' hb',hpr,λ k g1 b1 _ h1 h2=>?_⟩⟩
  .rw [show ([some ⟨1,zag l,0⟩] : List (Option Ent))=List.map some [⟨1,zag l,0⟩] from rfl,ziP]
   have z : ∀ id e,hpOf [(⟨1,zag l,0⟩ : Ent)] id=some e->id=0/\e=⟨1,zag l,0⟩:=by
    intro id e he
    cases id with
    | zero=>simp [hpOf] at he; exact ⟨rfl,he.symm⟩
    | succ k=>simp [hpOf] at he
   refine ⟨λ id e he=>?_,λ id id' e e' _ _ _ h1 h2 _ _ _ _=>by rw [(z _ _ h1).1,(z _ _ h2).1]⟩
   obtain ⟨rfl,rfl⟩:=z _ _ he;exact ⟨g,rfl,ent⟩
  .by_cases hk : k=0
   .subst hk
    simp at h1;subst h1;exact .inr (hg b1 h2)
   .simp [hk] at h1
 have hwide : ∀ row∈zag l,row.length=1:=by intro row hr; simp at hr; obtain ⟨x,_,rfl⟩:=hr; rfl
 rcases hown with ⟨rfl,h0⟩ | ⟨g,cp,cur,rfl,hg,hgw,hle2,hcm,hcsz,htk⟩
 .have h0' : l=[]:=List.length_eq_zero_iff.1 h0
  subst h0';exact fin ⟨none,0,1⟩ (by simp) ⟨rfl,Nat.zero_le _,λ _=>hwide,(λ _=>rfl),(λ hz=>absurd hz (Nat.succ_ne_zero 0)),λ _ b' hb'=>by cases hb'⟩ (.rs _ _ _ _ _ _ _ rfl (Nat.succ_ne_zero 0) (Nat.le_refl _) (λ _=>⟨rfl,rfl⟩) λ b' hb'=>by cases hb')
 .refine fin ⟨some g,0,1⟩ (λ b' hb'=>by cases hb'; exact hg) ⟨rfl,Nat.zero_le _,λ _=>hwide,(λ hn=>by cases hn),(λ hz=>absurd hz (Nat.succ_ne_zero 0)),λ _ b' hb'=>?_⟩ (.rs _ _ _ _ cp _ _ rfl (Nat.succ_ne_zero 0) hle2 (λ hn=>by cases hn) λ b' hb'=>?_)
  .obtain rfl:=Option.some.inj hb'
   refine ⟨cur,3,hgw,by rw [hT0 g hg]; exact Nat.zero_le _,by simp; omega,λ i j hi hj=>?_⟩
   have hi' : i<l.length:=by simpa using hi
   obtain rfl : j=0:=by simpa using hj
   refine ⟨.int .i64 l[i],?_,rfl,?_⟩
   .have : (cur.toList.take (l.length*1))[i]? = (l.map encZ)[i]?:=by rw [htk]
    rw [List.getElem?_take,if_pos (by omega)] at this
    simpa [hi',zwn] using this
   .have e : ((zag l).getD i []).getD 0 .dead = .I l[i]:=by simp [List.getD,hi']
    rw [e];exact .sc _ _ rfl
  .obtain rfl:=Option.some.inj hb'
   exact ⟨.inr (by simp),cur,3,(0,0),hgw,by simp; omega⟩
section
variable {P : Program} {np id : Nat} {h : Nat->Option Ent} {K : AV->List Nat->List (Nat × Option Ent)->Prop} {f : FuncId} {first capt args args' : List AV} {res : AV}
theorem zAj (sn : List Nat) (hnp : ∀ i∈sn,np<=i) (hc : zaj P f args' [] res []) (hw : (first++args++capt).map (conv [] sn h 4)=args')
  (hk : K (conv (((List.range 8).map (id + ·)).zipIdx.map λ (a,b)=>(b,a)) [] (λ _=>none) 4 res) sn (sn.filterMap λ i=>(h i).map λ e=>(i,some { e with ro:=e.rows.length }))) : aK P np id .call (.fn (.func f) first capt::args) h K :=
 ⟨[],sn,true,args',[],res,[],by simp,by simp,λ _=>hnp,by rw [List.zipIdx_nil,hw]; exact zdy _,rfl,hc,by simp,.inl rfl,by simpa using hk⟩
end
abbrev seqF (l : List Int) : AV:=.fn (.func zcu) [] [.pv [ints l]]
theorem zum (l : List Int) : zaj Tryz.prog zcS [ints l] [] (seqF l) []:=by
 refine zhv.ac ?_;show awp _ 0 _ _ ⟨4,[(0,ints l)],[],16⟩;refine rk (s:=?s1) [1] [16] rfl ?o1 ?q1
 case o1=>simp; rfl
 refine rk (s:=?s2) [2] [16] rfl ?o2 ?q2
 case o2=>simp; rfl
 refine zai ?_;exact ⟨.inr rfl,zao.out [] [16] rfl (by simp) (by simp) (by simp) (by simp)⟩
theorem ztt (l : List Int) (hl : l.length<=1099511627776) : zaj Tryz.prog zd8 [seqF l] [] (.rs 0 0 l.length) [some ⟨1,zag l,0⟩]:=by
 refine zjo.ac ?_;show awp _ 0 _ _ ⟨5,[(0,seqF l)],[],16⟩;refine rk (s:=?s1) [0] [] rfl ?o1 ?q1
 case o1=>simp; rfl
 refine rk (s:=?s2) [2] [32] rfl ?o2 ?q2
 case o2 =>
  simp;refine zbz (zqa l hl) (by simp) ?_
  simp [fcd];rfl
 refine zai ?_;exact ⟨.inr rfl,zao.out [32] [] rfl (by simp) (by simp) (by simp) (by simp [fcd])⟩
theorem zvd (l : List Int) (hl : l.length<=1099511627776) : zaj Tryz.prog zde [seqF l] [] (.rs 0 0 l.length) [some ⟨1,zag (ziE l),0⟩]:=by
 refine zjL.ac ?_;show awp _ 0 _ _ ⟨9,[(0,seqF l)],[],16⟩;refine rk (s:=?s1) [0] [] rfl ?o1 ?q1
 case o1=>simp; rfl
 refine rk (s:=?s2) [3] [32] rfl ?o2 ?q2
 case o2 =>
  simp;refine zbz (ztt l hl) (by simp) ?_
  simp [fcd];rfl
 refine rk (s:=?s3) [3] [32] rfl ?o3 ?q3
 case o3 =>
  simp;refine zcz (i:=32) rfl (e':=⟨1,zgc l,0⟩) (by simp [fcd,zgc]) (zuF l (by omega)) (by simp) (by simp) ?_
  simp [fcd,zgc];rfl
 refine rk (s:=?s4) [2] [32] rfl ?o4 ?q4
 case o4=>simp; rfl
 refine zai ?_;exact ⟨.inr rfl,zao.out [32] [] rfl (by simp) (by simp) (by simp) (by simp [fcd])⟩
section
variable {P : Program} {np id : Nat} {h : Nat->Option Ent} {K : AV->List Nat->List (Nat × Option Ent)->Prop} {s s' l k : Nat} {f : Bool} {rows : List (List AV)}
@[simp] theorem zAM : aK P np id (.slc s true true false) [.vs s' f rows,.sc (.int .i64 (l : Int)),.sc (.int .i64 (k : Int))] h K=(l<=k/\k<=rows.length/\s'=s/\K (.vs s false ((rows.drop l).take (k - l))) [] []):=by
 rw [zmd];refine propext ⟨?_,?_⟩
 .rintro ⟨l',r,m,n,h1,h2,h4,h5,h6,h7,h3,h10,h8,h9⟩
  simp at h4 h1;subst h1;obtain ⟨rfl,rfl⟩ : l=l'/\k=r:=by omega
  exact ⟨h2,h3,h8,by simpa using h9⟩
 .rintro ⟨h1,h2,h3,h4⟩
  exact ⟨l,k,0,rows.length,rfl,h1,by simp,(λ h=>by cases h),(λ h=>by cases h),(λ h=>by cases h),h2,(λ h=>by cases h),h3,by simpa using h4⟩
end
theorem znn {g : Gr} {p : Pol} {n : Int} (hp : zbu n p) : ∀ c∈zaQ g p,0<=c/\c<=1000:=by
 intro c hc;obtain ⟨d,_,rfl⟩:=List.mem_map.1 hc;exact zjh hp d
end Go.Proofs.YtkngdgplbojdlaaGreat
