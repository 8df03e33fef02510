/- Texts of this claim,merged. -/
import Derived.Test.YtkngdgplbojdlaaGreatRv10
import Derived.Test.YtkngdgplbojdlaaGreatRv9
import Derived.Test.YtkngdgplbojdlaaGreatRv7
import Derived.Shelf.SlIterI.Collect
import Derived.RangeFuncLeaves
set_option linter.unusedSimpArgs false
set_option linter.unusedVariables false
set_option linter.unusedSectionVars false
namespace Go.Proofs.YtkngdgplbojdlaaGreat
open Go
set_option maxRecDepth 100000 in
theorem zud (f : FuncId) (capt : List AV) (c : Int→Int→Int) (l : List Int) (n : Nat) (hn : l.length=n) (hl : n<20) (hs : zk2 capt)
  (hc : ∀ x∈l,∀ y∈l,zak Tryz.prog f (AV.I x::AV.I y::capt) [] (.I (c x y)) []) :
  zak Tryz.prog zbh [.rs 0 0 n,.I n,.fn (.func f) [] capt] [⟨1,zai l,0⟩] (.tup []) [some ⟨1,zai (zik c l),0⟩]:=by
 have hs2 : ∀ ρ sn h,capt.map (conv ρ sn h 2)=capt:=fun _ _ _=>hs _ _ _ 1
 have hs3 : ∀ ρ sn h,capt.map (conv ρ sn h 3)=capt:=fun _ _ _=>hs _ _ _ 2
 have hs4 : ∀ ρ sn h,capt.map (conv ρ sn h 4)=capt:=fun _ _ _=>hs _ _ _ 3
 refine zcF.acalls (nbz rfl) (nbz rfl) (nbz rfl) ?_
 show awp _ 1 _ _ ⟨63,[(0,.rs 0 0 n),(1,.I n),(2,.fn (.func f) [] capt)],[(0,some ⟨1,zai l,0⟩)],16⟩
 have hins:=zpK f capt c [] l [] n 0 n (by simpa using hn) rfl (by simpa using hn) (by omega) hs hc
 simp only [List.nil_append,List.append_nil] at hins
 refine zaa ?_
 refine zac (s:=?s1) rfl ?o1 ?q1
 case o1=>simp; rfl
 refine zab ⟨63,[(0,.rs 0 0 n),(1,.I n),(2,.fn (.func f) [] capt),(6,.I 20),(7,.I 0),(8,.I 20)],[(0,some ⟨1,zai l,0⟩)],48⟩ rfl ?_ ?_
 ·simp
  exact Le.keep rfl (Nat.le_refl _) (by simp) (by simp)
 refine zaa ?_
 refine zah ?_
 refine zav (ι:=Unit) (fun _=>⟨63,[(0,.rs 0 0 n),(1,.I n),(2,.fn (.func f) [] capt),(6,.I 20),(7,.I 0),(8,.I 20)],[(0,some ⟨1,zai l,0⟩)],48⟩) (fun _=>True) (fun _=>0) () trivial (Le.refl _ _) ?_
 intro _ _
 refine zaa ?_
 refine zab ⟨63,[(0,.rs 0 0 n),(1,.I n),(2,.fn (.func f) [] capt),(6,.I 20),(7,.I 0),(8,.I 20),(13,.B false)],[(0,some ⟨1,zai l,0⟩)],72⟩ rfl ?_ ?_
 ·simp
  exact Le.keep rfl (Nat.le_refl _) (by simp; omega) (by simp)
 refine zae _ rfl (fun h=>by cases h) fun _=>zas (hit ?_)
 refine zab ⟨63,[(1,.I n),(6,.I 20)],[(0,some ⟨1,zai (zik c l),0⟩)],112⟩ rfl ?_ ?_
 ·simp
  refine zcJ (i:=0) rfl (e':=⟨1,zai l,0⟩) (by simp [fcd]) hins (by simp) ?_ ?_
  ·simp [hs2,hs3,hs4]
  simp [fcd]
  exact Le.keep rfl (Nat.le_refl _) (by simp) (by simp)
 refine zah ?_
 refine zav (ι:=Unit) (fun _=>⟨63,[(1,.I n),(6,.I 20)],[(0,some ⟨1,zai (zik c l),0⟩)],112⟩) (fun _=>True) (fun _=>0) () trivial (Le.refl _ _) ?_
 intro _ _
 refine zaa ?_
 refine zab ⟨63,[(1,.I n),(6,.I 20),(30,.B false)],[(0,some ⟨1,zai (zik c l),0⟩)],136⟩ rfl ?_ ?_
 ·simp
  exact Le.keep rfl (Nat.le_refl _) (by simp; omega) (by simp)
 refine zae _ rfl (fun h=>by cases h) fun _=>zas (hit ?_)
 exact ⟨.inl rfl,⟨[],rfl,[],[],by simp [List.range,List.range.loop],by simp,by simp,by simp,by simp [List.range,List.range.loop,fcd]⟩⟩
theorem zoe (f : FuncId) (capt : List AV) (c : Int→Int→Int) (l : List Int) (n : Nat) (hn : l.length=n) (hl : n<20) (hs : zk2 capt)
  (hc : ∀ x∈l,∀ y∈l,zak Tryz.prog f (AV.I x::AV.I y::capt) [] (.I (c x y)) []) :
  zak Tryz.prog zaY [.rs 0 0 n,.fn (.func f) [] capt] [⟨1,zai l,0⟩] (.tup []) [some ⟨1,zai (zik c l),0⟩]:=by
 have hs2 : ∀ ρ sn h,capt.map (conv ρ sn h 2)=capt:=fun _ _ _=>hs _ _ _ 1
 have hs3 : ∀ ρ sn h,capt.map (conv ρ sn h 3)=capt:=fun _ _ _=>hs _ _ _ 2
 have hs4 : ∀ ρ sn h,capt.map (conv ρ sn h 4)=capt:=fun _ _ _=>hs _ _ _ 3
 refine zbF.acalls (nbz rfl) (nbz rfl) (nbz rfl) ?_
 show awp _ 1 _ _ ⟨9,[(0,.rs 0 0 n),(1,.fn (.func f) [] capt)],[(0,some ⟨1,zai l,0⟩)],16⟩
 refine zac (s:=?s1) rfl ?o1 ?q1
 case o1 =>
  simp
  refine zcJ (i:=0) rfl (e':=⟨1,zai l,0⟩) (by simp [fcd]) (zud f capt c l n hn hl hs hc) (by simp) ?_ ?_
  ·simp [hs2,hs3,hs4]
  simp [fcd]
  rfl
 exact ⟨.inl rfl,⟨[],rfl,[],[],by simp [List.range,List.range.loop],by simp,by simp,by simp,by simp [List.range,List.range.loop,fcd]⟩⟩
theorem zqD (D : List Int) (k : Nat) (hk : k<D.length) : zak Tryz.prog zbs [.I k,.pv [ints D]] [] (.B (decide (0≤D.getD k 0))) []:=by
 refine zeo.acalls (nbz rfl) (nbz rfl) (Nat.le_refl _) ?_
 show awp _ 0 _ _ ⟨9,[(0,.I k),(1,.pv [ints D])],[],16⟩
 refine zaa ?_
 refine zac (s:=?s0) rfl ?o0 ?q0
 case o0=>simp; rfl
 refine zaa ?_
 refine zac (s:=?s1) rfl ?o1 ?q1
 case o1=>simp [hk]; rfl
 refine zag ?_
 exact ⟨.inr rfl,zan.one (by simp [hk])⟩
theorem zpZ (D : List Int) (a b : Nat) (ha : a<D.length) (hb : b<D.length) : zak Tryz.prog zbS [.I a,.I b,.pv [ints D]] [] (.I (cmpI (D.getD a 0) (D.getD b 0))) []:=by
 refine zev.acalls (nbz rfl) (nbz rfl) (Nat.le_refl _) ?_
 show awp _ 0 _ _ ⟨15,[(0,.I a),(1,.I b),(2,.pv [ints D])],[],16⟩
 refine zaa ?_
 refine zac (s:=?s0) rfl ?o0 ?q0
 case o0=>simp; rfl
 refine zaa ?_
 refine zg9 (s:=?s1) (tr:=?t1) rfl ?o1 ?r1 ?q1
 case o1=>simp [ha,hb]; refine zaq (zkf ..) rfl ?_; simp; constructor <;> rfl
 case r1=>rfl
 refine zag ?_
 exact ⟨.inr rfl,zan.one (by simp [ha,hb])⟩
variable {g : Gr} {S : List Int}
theorem zpr {k : Nat} (hk : k<g.size.toNat) : (zc8 g S).getD k 0=dist g S k:=by simp [zc8,List.getD,hk]
theorem zl3 : (zc8 g S).length=g.size.toNat:=by simp [zc8]
def Lt (g : Gr) (S : List Int) (a b : Int) : Prop:=dist g S a<dist g S b∨dist g S a=dist g S b∧a<b
def cD (g : Gr) (S : List Int) (a b : Int) : Int:=cmpI (dist g S a) (dist g S b)
def ordN (g : Gr) (S : List Int) : Nat→List Int
 | 0=>[]
 | m+1=>ordN g S m++zbp g.size.toNat fun k=>decide (dist g S k=m)
def ordL (g : Gr) (S : List Int) : List Int:=ordN g S g.size.toNat
theorem zc3 {n : Nat} {q : Int→Bool} {x : Int} : x∈zbp n q↔(0≤x∧x<n)∧q x=true:=by
 unfold zbp
 simp only [List.mem_filter,List.mem_map,List.mem_range]
 constructor
 ·rintro ⟨⟨i,hi,rfl⟩,h⟩
  exact ⟨⟨by omega,by omega⟩,h⟩
 ·rintro ⟨⟨h1,h2⟩,h⟩
  exact ⟨⟨x.toNat,by omega,by omega⟩,h⟩
theorem zg1 (n : Nat) (q : Int→Bool) : (zbp n q).Pairwise (· < ·):=by
 unfold zbp
 refine List.Pairwise.filter _ ?_
 rw [List.pairwise_map]
 exact List.pairwise_lt_range.imp fun h=>by omega
theorem zlc {m : Nat} {x : Int} : x∈ordN g S m↔(0≤x∧x<g.size.toNat)∧0≤dist g S x∧dist g S x<m:=by
 induction m with
 | zero=>simp [ordN] <;> omega
 | succ m ih =>
   rw [ordN,List.mem_append,ih,zc3]
   simp only [decide_eq_true_eq]
   constructor
   ·rintro (⟨h1,h2,h3⟩ | ⟨h1,h2⟩)
    ·exact ⟨h1,h2,by omega⟩
    ·exact ⟨h1,by omega,by omega⟩
   ·rintro ⟨h1,h2,h3⟩
    by_cases h4 : dist g S x=m
    ·exact .inr ⟨h1,h4⟩
    ·exact .inl ⟨h1,h2,by omega⟩
theorem zms (m : Nat) : (ordN g S m).Pairwise (Lt g S):=by
 induction m with
 | zero=>exact .nil
 | succ m ih =>
   rw [ordN,List.pairwise_append]
   refine ⟨ih,?_,fun a ha b hb=>?_⟩
   ·refine (zg1 _ _).imp_of_mem fun {a b} ha hb hab=>?_
    have h1:=(zc3.1 ha).2
    have h2:=(zc3.1 hb).2
    simp at h1 h2
    exact .inr ⟨by omega,hab⟩
   ·have h1:=zlc.1 ha
    have h2:=(zc3.1 hb).2
    simp at h2
    exact .inl (by omega)
theorem zwp {a b : Int} : cD g S a b<0↔dist g S a<dist g S b:=by
 simp only [cD,cmpI]
 grind
theorem zlE : ∀ (r : List Int) (x : Int),r.Pairwise (fun a b=>Lt g S b a)→(∀ y∈r,y<x)→(zeA (cD g S) r x).Pairwise fun a b=>Lt g S b a
 | [],x,_,_=>by simp [zeA]
 | y::r,x,hp,hx=>by
   unfold zeA
   rw [List.pairwise_cons] at hp
   split
   ·rename_i h
    rw [zwp] at h
    rw [List.pairwise_cons]
    refine ⟨fun z hz=>?_,zlE r x hp.2 fun z hz=>hx z (List.mem_cons_of_mem _ hz)⟩
    have:=(zhb (cD g S) r x).mem_iff.1 hz
    rcases List.mem_cons.1 this with rfl | hz
    ·exact .inl h
    ·exact hp.1 z hz
   ·rename_i h
    rw [zwp] at h
    rw [List.pairwise_cons,List.pairwise_cons]
    have hyx:=hx y List.mem_cons_self
    refine ⟨fun z hz=>?_,hp.1,hp.2⟩
    rcases List.mem_cons.1 hz with rfl | hz
    ·unfold Lt; omega
    ·have h1:=hp.1 z hz
     have h2:=hx z (List.mem_cons_of_mem _ hz)
     unfold Lt at *
     omega
theorem zsp {l : List Int} (h : l.Pairwise (· < ·)) : (zik (cD g S) l).Pairwise (Lt g S):=by
 have key : ∀ (l acc : List Int),l.Pairwise (· < ·)→acc.Pairwise (fun a b=>Lt g S b a)→(∀ y∈acc,∀ x∈l,y<x)→(l.foldl (zeA (cD g S)) acc).Pairwise fun a b=>Lt g S b a:=by
  intro l
  induction l with
  | nil=>intro acc _ h _; exact h
  | cons x l ih =>
    intro acc hl hacc hlt
    rw [List.pairwise_cons] at hl
    refine ih _ hl.2 (zlE acc x hacc fun y hy=>hlt y hy x List.mem_cons_self) fun y hy z hz=>?_
    have:=(zhb (cD g S) acc x).mem_iff.1 hy
    rcases List.mem_cons.1 this with rfl | hy
    ·exact hl.1 z hz
    ·exact hlt y hy z (List.mem_cons_of_mem _ hz)
 unfold zik zdP
 rw [List.pairwise_reverse]
 exact key l [] h .nil (by simp)
theorem zjs {R : Int→Int→Prop} (hR : ∀ a b,R a b→¬ R b a) : ∀ {l1 l2 : List Int},l1.Pairwise R→l2.Pairwise R→(∀ x,x∈l1↔x∈l2)→l1=l2
 | [],[],_,_,_=>rfl
 | [],b::l2,_,_,h=>absurd ((h b).2 List.mem_cons_self) (by simp)
 | a::l1,[],_,_,h=>absurd ((h a).1 List.mem_cons_self) (by simp)
 | a::l1,b::l2,h1,h2,h=>by
   rw [List.pairwise_cons] at h1 h2
   have hab : a=b:=by
    rcases List.mem_cons.1 ((h a).1 List.mem_cons_self) with e | ha
    ·exact e
    ·rcases List.mem_cons.1 ((h b).2 List.mem_cons_self) with e | hb
     ·exact e.symm
     ·exact absurd (h1.1 b hb) (hR _ _ (h2.1 a ha))
   subst hab
   congr 1
   refine zjs hR h1.2 h2.2 fun x=>?_
   constructor
   ·intro hx
    rcases List.mem_cons.1 ((h x).1 (List.mem_cons_of_mem _ hx)) with rfl | hx2
    ·exact absurd (h1.1 x hx) (fun q=>hR _ _ q q)
    ·exact hx2
   ·intro hx
    rcases List.mem_cons.1 ((h x).2 (List.mem_cons_of_mem _ hx)) with rfl | hx2
    ·exact absurd (h2.1 x hx) (fun q=>hR _ _ q q)
    ·exact hx2
theorem zv2 (hg : GrOk g) : zik (cD g S) (zbp g.size.toNat fun k=>decide (0≤dist g S k))=ordL g S:=by
 refine zjs (R:=Lt g S) (fun a b h1 h2=>by unfold Lt at *; omega) (zsp (zg1 _ _)) (zms _) fun x=>?_
 have hp : x∈zik (cD g S) (zbp g.size.toNat fun k=>decide (0≤dist g S k))↔x∈zbp g.size.toNat fun k=>decide (0≤dist g S k):=by
  unfold zik
  rw [List.mem_reverse]
  exact (zgM _ _).mem_iff
 rw [hp,zc3]
 have hm:=zlc (g:=g) (S:=S) (m:=g.size.toNat) (x:=x)
 unfold ordL
 rw [hm]
 simp only [decide_eq_true_eq]
 constructor
 ·rintro ⟨h1,h2⟩
  refine ⟨h1,h2,?_⟩
  rcases zqv hg (S:=S) (k:=x) ⟨h1.1,by omega⟩ with h | h <;> omega
 ·rintro ⟨h1,h2,_⟩
  exact ⟨h1,h2⟩
structure Expl where
 key : Int
 acc : Bool
 before : List Int
 paths : List (List Int)
 side : List Int
theorem zct (g : Gr) (S : List Int) : (ordL g S).Nodup:=by
 refine (zms (g:=g) (S:=S) g.size.toNat).imp fun {a b} h e=>?_
 subst e
 unfold Lt at h
 omega
theorem zgv {g : Gr} {S : List Int} {k : Int} (h : k∈ordL g S) : 0≤k∧k<g.size:=by
 have:=zlc.1 h
 omega
open Classical in
noncomputable def ztx (g : Gr) (p : Pol) (x : Expl) : Int :=
 let order:=ordL (zaj g p.lv) p.seeds
 let c:=zaz g p
 if x.key∉order then 11
 else if ¬ zh3 order x.before x.key∨(x.acc=true∧x.side≠[])∨(x.acc=false∧x.paths≠[]) then 1
 else if x.acc=true then (if zj5 g p.lv p.seeds order c x.paths (x.before++[x.key]) then 0 else 52)
 else if znU ⟨2+2*g.size,zbR g p c (srt (x.before++[x.key]))⟩ x.side x.before.length then 0 else 52
open Classical in
noncomputable def zsU (g : Gr) (p : Pol) (x : Expl) : Int :=
 let order:=ordL (zaj g p.lv) p.seeds
 let c:=zaz g p
 if x.key∉order then 11
 else if ¬ zh3 order x.before x.key∨(x.acc=true∧x.side≠[])∨(x.acc=false∧x.paths≠[]) then 1
 else if x.acc=true then (if zl8 g p.lv p.seeds order c x.paths (x.before++[x.key]) then 0 else 52)
 else if znU ⟨2+2*g.size,zbR g p c (za0 (x.before++[x.key]))⟩ x.side x.before.length then 0 else 52
theorem zsx {g : Gr} (hs : g.size≤64) (p : Pol) (x : Expl) : ztx g p x=zsU g p x:=by
 unfold ztx zsU
 simp only
 have hno:=zct (zaj g p.lv) p.seeds
 have hra : ∀ k∈ordL (zaj g p.lv) p.seeds,0≤k∧k<64:=fun k hk=>by
  have:=zgv hk
  have h2 : (zaj g p.lv).size=g.size:=rfl
  omega
 generalize ordL (zaj g p.lv) p.seeds=o at *
 by_cases h1 : x.key∈o
 ·by_cases h2 : ¬ zh3 o x.before x.key∨(x.acc=true∧x.side≠[])∨(x.acc=false∧x.paths≠[])
  ·rw [if_neg (not_not_intro h1),if_pos h2,if_neg (not_not_intro h1),if_pos h2]
  ·rw [if_neg (not_not_intro h1),if_neg h2,if_neg (not_not_intro h1),if_neg h2]
   have h3 : zh3 o x.before x.key:=Classical.byContradiction fun h=>h2 (.inl h)
   have h4:=h3.nodup hno
   have h5 : ∀ k∈x.before++[x.key],0≤k∧k<64:=fun k hk=>by
    rcases List.mem_append.1 hk with hk | hk
    ·exact hra k ((List.takeWhile_sublist _).subset (h3.subset hk))
    ·rw [List.mem_singleton] at hk
     rw [hk]
     exact hra _ h1
   rw [zot h4 h5]
   by_cases ha : x.acc=true
   ·rw [if_pos ha,if_pos ha]
    by_cases hc : zj5 g p.lv p.seeds o (zaz g p) x.paths (x.before++[x.key])
    ·rw [if_pos hc,if_pos ((zns h4).1 hc)]
    ·rw [if_neg hc,if_neg fun h=>hc ((zns h4).2 h)]
   ·rw [if_neg ha,if_neg ha]
 ·rw [if_pos h1,if_pos h1]
theorem zjo {g : Gr} {p : Pol} {k : Int} (h0 : 0≤k) (h1 : k<g.size) : (zaz g p).getD k.toNat 0=zfH p (dist (zaj g p.lv) p.seeds k):=by
 unfold zaz zc8
 have h2 : k.toNat<(zaj g p.lv).size.toNat:=by show k.toNat<g.size.toNat; omega
 rw [List.getD_eq_getElem?_getD,List.getElem?_map,List.getElem?_map,List.getElem?_range h2]
 simp only [Option.map_some,Option.getD_some]
 rw [show ((k.toNat : Nat) : Int)=k by omega]
theorem zmq {g : Gr} {p : Pol} {k : Int} (h1 : g.size≤k) : (zaz g p).getD k.toNat 0=0:=by
 unfold zaz zc8
 have h2 : ¬ k.toNat<(zaj g p.lv).size.toNat:=by show ¬ k.toNat<g.size.toNat; omega
 rw [List.getD_eq_getElem?_getD,List.getElem?_eq_none (by simp; omega)]
 rfl
theorem zkv {g : Gr} {p : Pol} {n : Int} (hp : zbl n p) : ∀ x∈zaz g p,0≤x:=fun x hx=>by
 unfold zaz at hx
 obtain ⟨d,_,rfl⟩:=List.mem_map.1 hx
 exact (ziT hp d).1
theorem zib {g : Gr} {p : Pol} {n : Int} (hp : zbl n p) {k : Int} (h0 : 0≤k) : 0<(zaz g p).getD k.toNat 0↔k<g.size∧0≤dist (zaj g p.lv) p.seeds k:=by
 by_cases h1 : k<g.size
 ·rw [zjo h0 h1,zuM hp]
  exact ⟨fun h=>⟨h1,h⟩,fun h=>h.2⟩
 ·rw [zmq (by omega)]
  constructor
  ·intro h; omega
  ·intro h; exact absurd h.1 h1
theorem GrOk.level {g : Gr} (h : GrOk g) (v : Int) : GrOk (zaj g v):=by
 refine ⟨⟨h.1.1,h.1.2.1,Nat.le_trans (List.length_filter_le _ _) h.1.2.2.1,h.1.2.2.2⟩,fun i hi=>?_⟩
 have hm : (zaj g v).edges[i]∈g.edges:=(List.mem_filter.1 (List.getElem_mem hi)).1
 obtain ⟨j,hj,hje⟩:=List.mem_iff_getElem.1 hm
 have h1:=h.2 j hj
 rw [hje] at h1
 refine ⟨h1.1,h1.2.1,h1.2.2.1,fun h0=>?_⟩
 rw [zj3]
 have hp : (zaj g v).edges.Pairwise Bef:=h.pair.filter _
 exact List.pairwise_iff_getElem.1 hp (i - 1) i (by omega) hi (by omega)
theorem zjI {g : Gr} (h : GrOk g) {S : List Int} {k : Int} : k∈ordL g S↔Key g k∧0≤dist g S k:=by
 unfold ordL
 rw [zlc]
 constructor
 ·rintro ⟨⟨h1,h2⟩,h3,_⟩
  exact ⟨⟨h1,by omega⟩,h3⟩
 ·rintro ⟨h1,h2⟩
  have h3:=zqv (S:=S) h h1
  have h4:=h1.1
  have h5:=h1.2
  exact ⟨⟨h4,by omega⟩,h2,by omega⟩
theorem zkb {g : Gr} (h : GrOk g) (v : Int) : ((zaj g v).edges.map zfZ).Nodup ∧ ∀ e∈(zaj g v).edges,0≤e.f∧e.f<g.size∧0≤e.t∧e.t<g.size:=by
 have hl:=h.level v
 refine ⟨?_,fun e he=>?_⟩
 ·rw [List.Nodup,List.pairwise_map]
  refine hl.pair.imp fun {a b} hab he=>?_
  unfold Bef at hab
  unfold zfZ at he
  simp at he
  omega
 ·obtain ⟨i,hi,rfl⟩:=List.mem_iff_getElem.1 he
  have h1:=(hl.2 i hi).1
  have h2 : (zaj g v).size=g.size:=rfl
  unfold Fits at h1
  omega
theorem Rise.nodup {l : List Int} {lo hi : Int} (h : Rise l lo hi) : l.Nodup ∧ ∀ x∈l,lo≤x∧x≤hi:=by
 have hlt : ∀ (j i : Nat) (hj : j<l.length) (hij : i<j),l[i]<l[j]:=by
  intro j
  induction j with
  | zero=>intro i _ hij; omega
  | succ j ih =>
    intro i hj hij
    have h1:=(h (j+1) hj).2.2 (by omega)
    simp only [Nat.add_sub_cancel] at h1
    rcases Nat.lt_or_ge i j with h2 | h2
    ·have:=ih i (by omega) h2
     omega
    ·have : i=j:=by omega
     subst this
     exact h1
 refine ⟨List.pairwise_iff_getElem.2 fun i j hi hj hij he=>?_,fun x hx=>?_⟩
 ·have:=hlt j i hj hij
  omega
 ·obtain ⟨i,hi,rfl⟩:=List.mem_iff_getElem.1 hx
  have:=h i hi
  exact ⟨this.1,this.2.1⟩
theorem zpa {g : Gr} {p : Pol} {sinks ends f : List Int} {W : List (List Nat)} (hg : GrOk g) (hp : zbl g.size p) (hk : sinks.Nodup) (hk0 : ∀ x∈sinks,0≤x) (hpe : ends.Perm sinks)
  (hf : Fit2 (zbR g p (zaz g p) sinks) f) (hw : ∀ w∈W,WayA (zbR g p (zaz g p) sinks) 0 w 1∧(metA (zbR g p (zaz g p) sinks) w).Nodup)
  (hs : ∀ i,i<(zbR g p (zaz g p) sinks).length→(sumN (List.count i) W : Int)≤f.getD i 0) (hl : W.length=sinks.length) :
  zl8 g p.lv p.seeds (ordL (zaj g p.lv) p.seeds) (zaz g p) (W.map (zed (zbR g p (zaz g p) sinks))) ends:=by
 have hgl:=hg.level p.lv
 have hse:=hp.2.1.nodup
 have hle:=zkb hg p.lv
 have hmo : ∀ k,0≤k→0<(zaz g p).getD k.toNat 0→k∈ordL (zaj g p.lv) p.seeds:=fun k h0 hc=>by
  have h1:=(zib hp h0).1 hc
  exact (zjI hgl).2 ⟨⟨h0,h1.1⟩,h1.2⟩
 have hnet : zjx (zbR g p (zaz g p) sinks) (fun x y=>zrs g p.lv x y∧y∈ordL (zaj g p.lv) p.seeds) (p.seeds.filter fun x=>decide (x∈ordL (zaj g p.lv) p.seeds)) sinks fun x=>(zaz g p).getD x.toNat 0:=by
  refine zp0 (fun e he hc=>?_) (fun x hx hc=>?_) hse.1 (fun x hx=>(hse.2 x hx).1) hk hk0 hle.1 fun e he=>⟨(hle.2 e he).1,(hle.2 e he).2.2.1⟩
  ·have h0:=hle.2 e he
   have h1:=(zib hp h0.1).1 hc
   have h2:=ztX hgl he h1.2
   refine ⟨?_,(zjI hgl).2 ⟨⟨h0.2.2.1,h0.2.2.2⟩,h2.1⟩⟩
   unfold zaj at he
   have h3:=List.mem_filter.1 he
   refine ⟨e,h3.1,rfl,rfl,?_⟩
   have:=h3.2
   simp at this
   omega
  ·exact List.mem_filter.2 ⟨hx,by simpa using hmo x (hse.2 x hx).1 hc⟩
 obtain ⟨q1,q2,q3,q4⟩:=zsS hnet hf hw hs (zkv hp)
 refine ⟨by rw [List.length_map,hl,hpe.length_eq],hpe.nodup_iff.2 hk,fun w hwW=>?_,fun k hkl=>hpe.mem_iff.2 (q3 k hkl),q2,q1⟩
 obtain ⟨⟨k,hk1,hk2⟩,h2,h3⟩:=q4 w hwW
 have hk3:=List.mem_filter.1 hk2
 have hk4 : k∈ordL (zaj g p.lv) p.seeds:=by simpa using hk3.2
 refine ⟨⟨k,hk1,hk3.1⟩,fun x hx=>?_,h2,fun i hi=>(h3 i hi).1⟩
 obtain ⟨i,hi,rfl⟩:=List.mem_iff_getElem.1 hx
 cases i with
 | zero =>
   rw [List.head?_eq_getElem?,List.getElem?_eq_getElem hi] at hk1
   rw [Option.some.inj hk1]
   exact hk4
 | succ i=>exact (h3 i hi).2
theorem ztM {P Q : List (List Int)} (h : P.Perm Q) (k : Int) : begC P k=begC Q k:=h.countP_eq _
theorem ztq {P Q : List (List Int)} (h : P.Perm Q) (k : Int) : useC P k=useC Q k:=(h.flatMap_right _).count_eq k
theorem zvm {P Q : List (List Int)} (h : P.Sublist Q) (k : Int) : begC P k≤begC Q k:=h.countP_le
theorem zvu {P Q : List (List Int)} (h : P.Sublist Q) (k : Int) : useC P k≤useC Q k:=by
 unfold useC
 induction h with
 | slnil=>exact Nat.le_refl _
 | cons a _ ih=>rw [List.flatMap_cons,List.count_append]; omega
 | cons_cons a _ ih=>rw [List.flatMap_cons,List.flatMap_cons,List.count_append,List.count_append]; omega
theorem znQ.perm {c : List Int} {P Q : List (List Int)} (h : znQ c P) (hp : P.Perm Q) : znQ c Q:=fun k hk=>by
 rw [← ztM hp,← ztq hp]
 exact h k hk
theorem znQ.sub {c : List Int} {P Q : List (List Int)} (h : znQ c Q) (hs : P.Sublist Q) : znQ c P:=fun k hk=>by
 have h1:=h k hk
 have h2:=zvm hs k
 have h3:=zvu hs k
 omega
theorem zsO {P Q : List (List Int)} (h : P.Perm Q) : (zke P).Perm (zke Q):=h.filterMap _
theorem zj5.perm {g : Gr} {lv : Int} {seeds order c : List Int} {P Q : List (List Int)} {ends ends' : List Int} (h : zj5 g lv seeds order c P ends) (hp : P.Perm Q) (he : ends.Perm ends') : zj5 g lv seeds order c Q ends' :=
 ⟨fun w hw=>h.1 w (hp.mem_iff.2 hw),h.2.1.perm hp,zij.2 (((zsO hp).symm.trans (zij.1 h.2.2)).trans he)⟩
theorem zlO {N : Nat} {A : List Ed} (hn : zfS N A) : zaO N A (A.map fun _=>0):=by
 have hs : ∀ (φ : Ed→Int→Int),(∀ e,φ e 0=0) → ∀ A : List Ed,sumF φ A (A.map fun _=>0)=0:=by
  intro φ hφ A
  induction A with
  | nil=>simp [sumF]
  | cons e A ih=>simp only [List.map_cons,sumF]; rw [hφ,ih]; omega
 refine ⟨?_,fun x _ _=>?_⟩
 ·have h0 : ∀ B : List Ed,(∀ e∈B,0≤e.v)→Fit2 B (B.map fun _=>0):=by
   intro B
   induction B with
   | nil=>intro _; exact True.intro
   | cons e B ih=>intro h; exact ⟨⟨Int.le_refl _,h e (List.mem_cons_self ..)⟩,ih fun x hx=>h x (List.mem_cons_of_mem _ hx)⟩
  exact h0 A fun e he=>(hn.arc e he).2.2.2.2.2.2.2
 ·unfold outF inF
  rw [hs _ fun e=>by split <;> rfl,hs _ fun e=>by split <;> rfl]
theorem zg3 {N : Nat} {A : List Ed} (hn : zfS N A) : ∃ f,zaO N A f ∧ ∀ f',zaO N A f'→valF A f'≤valF A f:=by
 have hb : ∀ f,zaO N A f→valF A f≤capS (fun x=>decide (x=0)) A:=fun f hf=>zgB hn hf (by simp) (by simp)
 have key : ∀ (n : Nat) (f : List Int),zaO N A f→capS (fun x=>decide (x=0)) A - valF A f≤n → ∃ f,zaO N A f ∧ ∀ f',zaO N A f'→valF A f'≤valF A f:=by
  intro n
  induction n with
  | zero =>
    intro f hf h
    exact ⟨f,hf,fun f' hf'=>by have:=hb f' hf'; omega⟩
  | succ n ih =>
    intro f hf h
    by_cases hm : ∀ f',zaO N A f'→valF A f'≤valF A f
    ·exact ⟨f,hf,hm⟩
    ·obtain ⟨f',hf'⟩:=Classical.not_forall.1 hm
     obtain ⟨h1,h2⟩:=Classical.not_imp.1 hf'
     exact ih f' h1 (by omega)
 exact key _ _ (zlO hn) (Int.self_le_toNat _)
noncomputable def maxF (N : Nat) (A : List Ed) : Int:=open Classical in if h : ∃ f,zaO N A f ∧ ∀ f',zaO N A f'→valF A f'≤valF A f then valF A h.choose else 0
theorem zkl {N : Nat} {A : List Ed} {f : List Int} (hf : zaO N A f) (hm : ∀ f',zaO N A f'→valF A f'≤valF A f) : maxF N A=valF A f:=by
 have h : ∃ f,zaO N A f ∧ ∀ f',zaO N A f'→valF A f'≤valF A f:=⟨f,hf,hm⟩
 unfold maxF
 rw [dif_pos h]
 have h1:=h.choose_spec
 have h2:=hm _ h1.1
 have h3:=h1.2 _ hf
 omega
theorem zs5 {N : Nat} {A : List Ed} (hn : zfS N A) {f : List Int} (hf : zaO N A f) : valF A f≤maxF N A:=by
 obtain ⟨m,h1,h2⟩:=zg3 hn
 rw [zkl h1 h2]
 exact h2 f hf
theorem zrU {N : Nat} {A : List Ed} (hn : zfS N A) : ∃ f,zaO N A f∧valF A f=maxF N A:=by
 obtain ⟨m,h1,h2⟩:=zg3 hn
 exact ⟨m,h1,(zkl h1 h2).symm⟩
theorem zsJ {g : Gr} {p : Pol} {sinks : List Int} (hg : GrOk g) (hp : zbl g.size p) (hk : ∀ x∈sinks,0≤x∧x<g.size) : zfS (2+2*g.size).toNat (zbR g p (zaz g p) sinks):=by
 have hs0:=hg.1.1
 have hse:=hp.2.1.nodup
 have hle:=zkb hg p.lv
 have hcl : (zaz g p).length=g.size.toNat:=by unfold zaz; rw [List.length_map,zl3]; rfl
 refine ⟨by omega,fun a ha=>?_⟩
 unfold zbR at ha
 rcases List.mem_append.1 ha with ha | ha
 ·rcases List.mem_append.1 ha with ha | ha
  ·rcases List.mem_append.1 ha with ha | ha
   ·obtain ⟨x,hx,rfl⟩:=List.mem_map.1 ha
    have h1:=List.mem_filter.1 hx
    have h2:=hse.2 x h1.1
    have h3 : 0<(zaz g p).getD x.toNat 0:=by simpa using h1.2
    simp only
    omega
   ·obtain ⟨i,hx,rfl⟩:=List.mem_map.1 ha
    have h1:=List.mem_filter.1 hx
    have h2:=List.mem_range.1 h1.1
    have h3 : 0<(zaz g p).getD i 0:=by simpa using h1.2
    simp only
    omega
  ·obtain ⟨x,hx,rfl⟩:=List.mem_map.1 ha
   have h2:=hk x (List.mem_filter.1 hx).1
   simp only
   omega
 ·obtain ⟨e,hx,rfl⟩:=List.mem_map.1 ha
  have h2:=hle.2 e (List.mem_filter.1 hx).1
  simp only
  omega
def encS (s : Stp) : Int:=if s.2 then -((s.1 : Int)+1) else (s.1 : Int)+1
def decS (v : Int) : Stp:=if 0<v then ((v - 1).toNat,false) else ((-v - 1).toNat,true)
theorem zqc (s : Stp) : decS (encS s)=s:=by
 obtain ⟨i,b⟩:=s
 unfold decS encS
 cases b
 ·simp only [Bool.false_eq_true,if_false]
  rw [if_pos (by omega)]
  congr 1
  omega
 ·simp only [if_true]
  rw [if_neg (by omega)]
  congr 1
  omega
theorem zwm (s : Stp) : encS s≠0:=by unfold encS; split <;> omega
structure Bfs (N : Nat) (A : List Ed) (f D b : List Int) : Prop where
 tree : ztB A f D fun x=>decS (b.getD x.toNat 0)
 rng : ∀ x∈D,0≤x∧x<N
 len : b.length=N
 zero : b.getD 0 0=0
 out : ∀ x : Int,0≤x→x∉D→b.getD x.toNat 0=0
 inn : ∀ x∈D,x≠0→b.getD x.toNat 0≠0
def ziJ (A : List Ed) (f D : List Int) (m : Nat) : Prop:=∀ s : Stp,s.1<A.length→stF A s∈D.take m→0<zde A f s→stT A s∈D
def zuC (A : List Ed) (f D : List Int) (k : Int) (i : Nat) : Prop:=∀ s : Stp,s.1<i→stF A s=k→0<zde A f s→stT A s∈D
variable {N : Nat} {A : List Ed} {f D b : List Int}
theorem Bfs.start (hN : 0<N) : Bfs N A f [0] (List.replicate N 0):=by
 have h0 : ∀ i,(List.replicate N (0 : Int)).getD i 0=0:=fun i=>by
  rw [List.getD_eq_getElem?_getD,List.getElem?_replicate]
  split <;> rfl
 exact ⟨⟨rfl,by simp,fun j h hj=>by simp at h; omega⟩,fun x hx=>by simp at hx; omega,by simp,h0 0,fun x _ _=>h0 _,fun x hx hn=>absurd (by simpa using hx) hn⟩
theorem Bfs.mem0 (h : Bfs N A f D b) : (0 : Int)∈D:=List.mem_of_mem_head? (by rw [h.tree.zero]; rfl)
theorem Bfs.push (h : Bfs N A f D b) {s : Stp} (hs : s.1<A.length) (hF : stF A s∈D) (hr : 0<zde A f s) (hT : stT A s∉D) (h0 : 0≤stT A s) (h1 : stT A s<N) : Bfs N A f (D++[stT A s]) (b.set (stT A s).toNat (encS s)):=by
 have hb : (stT A s).toNat<b.length:=by rw [h.len]; omega
 have hne : ∀ x : Int,0≤x→x≠stT A s→(b.set (stT A s).toNat (encS s)).getD x.toNat 0=b.getD x.toNat 0:=fun x hx hxn=>by
  rw [List.getD_eq_getElem?_getD,List.getElem?_set_ne (by omega),List.getD_eq_getElem?_getD]
 have heq : (b.set (stT A s).toNat (encS s)).getD (stT A s).toNat 0=encS s:=by
  rw [List.getD_eq_getElem?_getD,List.getElem?_set_self hb,Option.getD_some]
 have hn0 : stT A s≠0:=fun e=>hT (e ▸ h.mem0)
 refine ⟨⟨?_,?_,fun j hj hj0=>?_⟩,fun x hx=>?_,by rw [List.length_set]; exact h.len,?_,fun x hx hxn=>?_,fun x hx hxn=>?_⟩
 ·rw [List.head?_append,h.tree.zero]
  rfl
 ·rw [List.nodup_append]
  exact ⟨h.tree.nodup,by simp,fun a ha c hc=>by rw [List.mem_singleton] at hc; subst hc; rintro rfl; exact hT ha⟩
 ·rw [List.length_append,List.length_singleton] at hj
  by_cases hjl : j<D.length
  ·have hm:=List.getElem_mem hjl
   have hx : D[j]≠stT A s:=fun e=>hT (e ▸ hm)
   simp only [List.getElem_append_left hjl]
   rw [hne _ (h.rng _ hm).1 hx]
   obtain ⟨q1,q2,q3,q4⟩:=h.tree.step j hjl hj0
   refine ⟨q1,q2,?_,q4⟩
   rw [List.take_append_of_le_length (by omega)]
   exact q3
  ·obtain rfl : j=D.length:=by omega
   have e : (D++[stT A s])[D.length]'(by simp)=stT A s:=by simp
   simp only [e]
   rw [heq,zqc]
   refine ⟨hs,rfl,?_,hr⟩
   rw [List.take_append_of_le_length (Nat.le_refl _),List.take_length]
   exact hF
 ·rcases List.mem_append.1 hx with h2 | h2
  ·exact h.rng x h2
  ·rw [List.mem_singleton] at h2
   subst h2
   exact ⟨h0,h1⟩
 ·have:=hne 0 (Int.le_refl _) (Ne.symm hn0)
  simp only [Int.toNat_zero] at this
  rw [this]
  exact h.zero
 ·rw [List.mem_append,List.mem_singleton,not_or] at hxn
  rw [hne x hx hxn.2]
  exact h.out x hx hxn.1
 ·by_cases hxt : x=stT A s
  ·subst hxt
   rw [heq]
   exact zwm s
  ·rcases List.mem_append.1 hx with h2 | h2
   ·rw [hne x (h.rng x h2).1 hxt]
    exact h.inn x h2 hxn
   ·exact absurd (List.mem_singleton.1 h2) hxt
theorem Bfs.few (h : Bfs N A f D b) : D.length≤N:=by
 have:=zbt (b:=(List.range N).map fun i : Nat=>(i : Int)) h.tree.nodup fun x hx=>by
  have:=h.rng x hx
  exact List.mem_map.2 ⟨x.toNat,List.mem_range.2 (by omega),by omega⟩
 simpa using this
theorem ziJ.next {m : Nat} (hm : m<D.length) {D' : List Int} (h : ziJ A f D m) (hi : zuC A f D' D[m] A.length) {l : List Int} (hD : D'=D++l) : ziJ A f D' (m+1):=by
 subst hD
 intro s hs hF hr
 rw [List.take_append_of_le_length (by omega),List.take_succ_eq_append_getElem hm] at hF
 rcases List.mem_append.1 hF with h1 | h1
 ·exact List.mem_append_left _ (h s hs h1 hr)
 ·exact hi s hs (List.mem_singleton.1 h1) hr
theorem ziJ.all (h : ziJ A f D D.length) : zh1 A f D:=fun s hs hF hr=>h s hs (by rw [List.take_length]; exact hF) hr
theorem zpo {α : Type} {l : List α} (h : l.Nodup) : l.reverse.Nodup:=List.pairwise_reverse.2 (h.imp fun hne e=>hne e.symm)
theorem zxi {v : Int} (hv : v≠0) : encS (decS v)=v:=by
 unfold decS encS
 by_cases h : 0<v
 ·rw [if_pos h]; simp; omega
 ·rw [if_neg h]; simp; omega
def endW (A : List Ed) (u : Int) (l : List Stp) : Nat→Int
 | 0=>u
 | j+1=>stT A (l.getD j (0,false))
theorem zpf {A : List Ed} {u : Int} {s : Stp} {l : List Stp} (j : Nat) : endW A u (s::l) (j+1)=endW A (stT A s) l j:=by
 cases j <;> rfl
theorem zwq {A : List Ed} : ∀ {l : List Stp} {u w : Int},WayS A u l w → ∀ j (hj : j<l.length),stF A l[j]=endW A u l j
 | s::l,u,w,h,0,_=>h.2.1
 | s::l,u,w,h,j+1,hj=>by
   rw [zpf]
   exact zwq h.2.2 j (by simpa using hj)
theorem zul {A : List Ed} : ∀ {l : List Stp} {u w : Int},WayS A u l w→endW A u l l.length=w
 | [],u,w,h=>h
 | s::l,u,w,h=>by
   rw [List.length_cons,zpf]
   exact zul h.2.2
variable {N : Nat} {A : List Ed} {f D b : List Int}
structure zm8 (N : Nat) (A : List Ed) (f b : List Int) (l : List Stp) : Prop where
 way : WayS A 0 l 1
 nodup : (l.map (·.1)).Nodup
 at_ : ∀ j (h : j<l.length),l[j].1<A.length∧0<zde A f l[j]∧stT A l[j]≠0∧0≤stT A l[j]∧stT A l[j]<N∧b.getD (stT A l[j]).toNat 0=encS l[j]
theorem Bfs.chain (h : Bfs N A f D b) (h1 : (1 : Int)∈D) : ∃ l,zm8 N A f b l:=by
 obtain ⟨j,hj,hx⟩:=List.mem_iff_getElem.1 h1
 obtain ⟨l,l1,l2,l3⟩:=h.tree.way j j hj (Nat.le_refl _)
 rw [hx] at l1
 refine ⟨l,l1,l2,fun i hi=>?_⟩
 obtain ⟨q1,q2,q3,q4,_,q5⟩:=l3 _ (List.getElem_mem hi)
 have hm:=List.mem_of_mem_take q5
 have hr:=h.rng _ hm
 have hne:=h.inn _ hm q4
 refine ⟨q1,q2,q4,hr.1,hr.2,?_⟩
 rw [← zxi hne,q3]
theorem zm8.from_ {l : List Stp} (h : zm8 N A f b l) (j : Nat) (hj : j<l.length) : stF A l[j]=endW A 0 l j:=zwq h.way j hj
def zhn (v : Int) (f : List Int) (l : List Stp) (j : Nat) : List Int:=ziV v f (l.drop j).reverse
theorem zt2 (v : Int) (f : List Int) (l : List Stp) : zhn v f l l.length=f:=by simp [zhn,ziV]
theorem ztV (v : Int) (f : List Int) (l : List Stp) (j : Nat) : (zhn v f l j).length=f.length:=zh5
theorem zrZ {v : Int} {f : List Int} {l : List Stp} (j : Nat) (hj : j<l.length) : zhn v f l j=zjk v (zhn v f l (j+1)) l[j]:=by
 unfold zhn ziV
 rw [List.drop_eq_getElem_cons hj,List.reverse_cons,List.foldl_append]
 rfl
theorem zuH {v : Int} {l : List Stp} (hn : (l.map (·.1)).Nodup) (hr : ∀ s∈l,s.1<f.length) (j : Nat) (hj : j<l.length) : (zhn v f l (j+1)).getD l[j].1 0=f.getD l[j].1 0:=by
 refine (zhv (δ:=v) (f:=f) (i:=l[j].1) (l:=(l.drop (j+1)).reverse) ?_ ?_).1 ?_
 ·rw [List.map_reverse]
  refine zpo ?_
  exact hn.sublist ((List.drop_sublist _ _).map _)
 ·intro s hs
  exact hr s (List.mem_of_mem_drop (List.mem_reverse.1 hs))
 ·rw [List.map_reverse,List.mem_reverse]
  intro hm
  obtain ⟨s,hs,he⟩:=List.mem_map.1 hm
  obtain ⟨i,hi,rfl⟩:=List.mem_iff_getElem.1 hs
  rw [List.length_drop] at hi
  rw [List.getElem_drop] at he
  have h1:=(List.pairwise_iff_getElem.1 hn) j (j+1+i) (by rw [List.length_map]; exact hj) (by rw [List.length_map]; omega) (by omega)
  rw [List.getElem_map,List.getElem_map] at h1
  exact h1 he.symm
theorem zub {v : Int} {l : List Stp} (hn : (l.map (·.1)).Nodup) (hr : ∀ s∈l,s.1<f.length) : zhn v f l 0=ziV v f l:=by
 unfold zhn
 rw [List.drop_zero]
 have hn' : (l.reverse.map (·.1)).Nodup:=by rw [List.map_reverse]; exact zpo hn
 have hr' : ∀ s∈l.reverse,s.1<f.length:=fun s hs=>hr s (List.mem_reverse.1 hs)
 apply List.ext_getElem (by rw [zh5,zh5])
 intro i h1 h2
 have e : ∀ (L : List Int) (h : i<L.length),L[i]=L.getD i 0:=fun L h=>by rw [List.getD_eq_getElem?_getD,List.getElem?_eq_getElem h,Option.getD_some]
 rw [e _ h1,e _ h2]
 have g1:=zhv (δ:=v) (f:=f) (i:=i) hn' hr'
 have g2:=zhv (δ:=v) (f:=f) (i:=i) hn hr
 by_cases hm : i∈l.map (·.1)
 ·obtain ⟨s,hs,rfl⟩:=List.mem_map.1 hm
  rw [g1.2 s.2 (List.mem_reverse.2 hs),g2.2 s.2 hs]
 ·rw [g1.1 (by rw [List.map_reverse,List.mem_reverse]; exact hm),g2.1 hm]
theorem zm8.push {l : List Stp} (hn : zfS N A) (hf : zaO N A f) (h : zm8 N A f b l) {v : Int} (h0 : 0≤v) (hv : ∀ s∈l,v≤zde A f s) : zaO N A (zhn v f l 0)∧valF A (zhn v f l 0)=valF A f+v:=by
 have hr : ∀ s∈l,s.1<A.length:=fun s hs=>by
  obtain ⟨i,hi,rfl⟩:=List.mem_iff_getElem.1 hs
  exact (h.at_ i hi).1
 rw [zub h.nodup fun s hs=>by rw [hf.fit.len]; exact hr s hs]
 exact zxe hn hf h0 h.way h.nodup fun s hs=>⟨hr s hs,hv s hs⟩
theorem zic {A : List Ed} {N : Nat} (h : zdd ⟨N,A⟩) : zfS N A:=by
 obtain ⟨h1,_,_,h4⟩:=h
 simp only at h1 h4
 refine ⟨by omega,fun e he=>?_⟩
 obtain ⟨q1,q2,q3,q4,q5,q6,q7,q8,_⟩:=h4 e he
 exact ⟨q1,by omega,q3,by omega,q5,q6,q7,q8⟩
end Go.Proofs.YtkngdgplbojdlaaGreat
namespace Go.Proofs.YtkngdgplbojdlaaGreat
open Go Go.RowKit Go.Shelf Go.Maps Go.Sort
attribute [local go_sem] Oper.semAt_some
def zjX : Go.Shelf.Ren:=⟨fun | 11=>204 | n=>n,fun | 0=>0 | 24=>22 | 26=>3 | 28=>180 | 33=>68 | n=>n,fun | n=>n⟩
theorem seqL : SlLaysZI.n11 Tryz.prog zjX:={
 mixed:=by kernel_rfl
 f11:=⟨Tryz.f204.name,by decide,Tryz.func204.trans (congrArg some (by kernel_rfl))⟩
 t0:=Tryz.underlying0
 a0:=Tryz.isAgg0
 z0:=Tryz.sizeOf0
 v0:=Tryz.zeroValue0
 t24:=Tryz.underlying22
 a24:=Tryz.isAgg22
 z24:=Tryz.sizeOf22
 v24:=Tryz.zeroValue22
 t26:=Tryz.underlying3
 a26:=Tryz.isAgg3
 z26:=Tryz.sizeOf3
 v26:=Tryz.zeroValue3
 t28:=Tryz.underlying180
 a28:=Tryz.isAgg180
 z28:=Tryz.sizeOf180
 v28:=Tryz.zeroValue180
 i26:=by kernel_rfl
}
theorem zqW {l : List Int} {k : Nat} (h : k<l.length) : l.take (k+1)=l.take k++[l[k]]:=List.take_succ_eq_append_getElem h
set_option maxRecDepth 100000 in
set_option maxHeartbeats 2000000 in
theorem zr3 (F : Fence) (n : Nat) (h7 : F.fn 187) (hro : F.round=none) (hn : 1≤n) (l Bs B0 b off cap : Nat) (a : Option Addr) (zs : List Int) (ha : zs≠[]→a=some ⟨b,off,none⟩) (hreach : zs.length≤17592186044416) (J : List Int→World→Prop) (W : World)
  (hJ : ∀ pre W1,J pre W1 → ∀ j (h : j<zs.length),W1.cell? ⟨b,off+j,none⟩=some (.int .i64 zs[j]))
  (hY : ∀ pre x W1,J pre W1→pre.length<zs.length→YieldAt F (n - 1) Tryz.prog l #[.int .i64 x] W1 fun e W'=>e = .returned (.bool true)∧J (pre++[x]) W'∧KeepsWalks W1 W')
  (hBs : W.cell? ⟨Bs,B0,none⟩=some (.slice a zs.length cap)) (h0 : J [] W) :
  CallsIn F n Tryz.prog 187 #[.func (.yield l) #[] #[],.pointer (some ⟨Bs,B0,none⟩)] W fun e W'=>(∃ v,e = .returned v)∧J zs W':=by
 refine callsIn_of_wp Tryz.func187 rfl h7 ?_ hro
 simp only [Tryz.ntmps187,List.size_toArray,List.length_cons,List.length_nil,Nat.reduceAdd,Nat.reduceSub,Array.replicate_succ,Array.replicate_zero,List.push_toArray,List.append_toArray,List.nil_append,List.cons_append]
 gi_wp2
 gi_loopw [7] (fun i wr=>∃ k : Nat,k≤zs.length∧i = .int .i64 k∧J (zs.take k) wr) (fun i _=>zs.length - (intOf i).toNat)
 case atStart=>exact ⟨0,Nat.zero_le _,rfl,by simpa using h0⟩
 case round =>
  obtain ⟨k,hk,rfl,hJs⟩:=hrel
  by_cases hlt : k<zs.length
  ·have hcx' : wr.cell? ⟨b,off+k,none⟩=some (.int .i64 zs[k]):=hJ _ _ hJs k hlt
   obtain rfl:=ha (by rintro rfl; simp at hlt)
   obtain ⟨fn,tmps,assign,body,hy,hR⟩:=hY _ zs[k] wr hJs (by rw [List.length_take]; omega)
   gi_wp2
   refine hR.mono ?_
   rintro e W3 ⟨rfl,hJ3,hk3⟩
   gi_wp2
   go_roundw
   case rel=>exact ⟨k+1,by omega,by simp,by rw [zqW hlt]; exact hJ3⟩
   case measure=>simp [intOf]; omega
  ·obtain rfl : k=zs.length:=by omega
   gi_wp2
   go_end0
   exact ⟨⟨_,rfl⟩,by simpa using hJs⟩
set_option maxRecDepth 100000 in
set_option maxHeartbeats 2000000 in
theorem zon (F : Fence) (n : Nat) (h11 : F.fn 204) (hFg : F.fn 187) (hro : F.round=none) (hn : 2≤n) (Bs B0 b off cap : Nat) (a : Option Addr) (zs : List Int) (ha : zs≠[]→a=some ⟨b,off,none⟩) (hN : zs.length≤1099511627776) (w : World)
  (hBs : w.cell? ⟨Bs,B0,none⟩=some (.slice a zs.length cap)) (hBl : Bs<w.heap.size) (hbl : zs≠[]→b<w.heap.size) (hc : ∀ j (h : j<zs.length),w.cell? ⟨b,off+j,none⟩=some (.int .i64 zs[j])) :
  CallsIn F n Tryz.prog 204 #[.slice none 0 0,.func (.func 187) #[] #[.pointer (some ⟨Bs,B0,none⟩)]] w fun e w'=>∃ v : Value,e = .returned v∧w'.ownsRow w.heap.size 3 1 v zs.length (zs.map encZ)∧Below w.heap.size w w':=by
 have h1 : 1≤n:=by omega
 have hmax : zs.length≤maxLen:=by unfold maxLen; omega
 have L:=seqL
 have hne : (22 : Nat)≠3:=by decide
 have eg : ∀ args w,(callFunc 187 args).run Tryz.prog w = .ok (.enter 187 args) w:=fun args w=>(enters_of Tryz.func187 (by kernel_rfl) rfl) args w
 refine callsIn_of_wp_marks Tryz.func204 rfl h11 ?_ hro
 simp only [Tryz.ntmps204,List.size_toArray,List.length_cons,List.length_nil,Nat.reduceAdd,Nat.reduceSub,Array.replicate_succ,Array.replicate_zero,List.push_toArray,List.append_toArray,List.nil_append,List.cons_append]
 gi_wp2
 refine wpIn_rangeFunc ?_
 intro fn hfn
 rw [hro]
 obtain ⟨W0,hW0⟩ : ∃ W0,w.alloc (.cells #[.slice none 0 0] 22)=W0:=⟨_,rfl⟩
 have hs0 : W0.heap.size=w.heap.size+1:=by rw [← hW0]; simp
 have hv0 : W0.heap[w.heap.size]? = some (.cells #[.slice none 0 0] 22 (0,0)):=by rw [← hW0]; exact World.alloc_heap_new w _
 have hb0 : Below w.heap.size w W0:=by rw [← hW0]; exact (Below.refl _ w).alloc (Nat.le_refl _) _
 rw [hW0]
 obtain ⟨sv,hsv⟩ : ∃ sv : Value,sv = .func (.func 187) #[] #[.pointer (some ⟨Bs,B0,none⟩)]:=⟨_,rfl⟩
 rw [← hsv]
 obtain ⟨W1,hW1⟩ : ∃ W1,(W0.alloc (.deferred (some []))).alloc (.loop (AnyZI.apRec zjX fn sv w.heap.size W0.heap.size .ready none))=W1:=⟨_,rfl⟩
 have hold : ∀ k,k<W0.heap.size→W1.heap[k]? = W0.heap[k]?:=fun k hk=>by
  rw [← hW1]; exact (Below.heap_alloc _ _ k (by simp; omega)).trans (Below.heap_alloc _ _ k hk)
 have hb1 : Below w.heap.size w W1:=by rw [← hW1]; exact (hb0.alloc hb0.size _).alloc (by have:=hb0.size; simp; omega) _
 have hs1 : W1.heap.size=W0.heap.size+2:=by rw [← hW1]; simp
 have hM : AnyZI.ApAt zjX w fn sv w.heap.size (W0.heap.size+1) W0.heap.size [] W1 :=
  ⟨⟨_,(hold w.heap.size (by omega)).trans hv0,⟨rfl,.inl ⟨rfl,rfl⟩⟩,by simp⟩,
   by rw [← hW1]; have:=World.alloc_heap_new (W0.alloc (.deferred (some []))) (.loop (AnyZI.apRec zjX fn sv w.heap.size W0.heap.size .ready none)); rwa [World.size_alloc] at this,
   by rw [← hW1]; exact (Below.heap_alloc _ _ _ (by simp)).trans (World.alloc_heap_new W0 _),hb1⟩
 refine ⟨W0.heap.size+1,[{ target:=.collected W0.heap.size,args:=#[] }],W1,{ target:=.fn (.func 187) #[.pointer (some ⟨Bs,B0,none⟩)],args:=#[.func (.yield (W0.heap.size+1)) #[] #[]] },W1,187,
  #[.func (.yield (W0.heap.size+1)) #[] #[]] ++ #[.pointer (some ⟨Bs,B0,none⟩)],W1,?_,?_,?_,?_,fun _=>h1,?_⟩
 ·rw [← hW1]; exact run_enterLoop_outer _ _ _ _ _
 ·rw [hsv]; simp [resolve,go_sem]
 ·intro f' hf'; simp [Target.leads] at hf'; subst hf'; exact hFg
 ·simp [invoke,go_sem,eg]
 ·refine (zr3 F (n - 1) hFg hro (by omega) (W0.heap.size+1) Bs B0 b off cap a zs ha (by omega) (AnyZI.ApAt zjX w fn sv w.heap.size (W0.heap.size+1) W0.heap.size) W1 (fun pre W' h' j hj=>(h'.below.cell (p:=⟨b,off+j,none⟩) (hbl (by rintro rfl; simp at hj))).trans (hc j hj))
   (fun pre x W hJ hl=>AnyZI.apYield { L with } F (n - 1 - 1) w fn hfn _ w.heap.size (W0.heap.size+1) W0.heap.size (by omega) (by omega) (by omega) (Nat.le_refl _) (by omega) zs.length hmax (by omega) pre x W hJ hl) ((hb1.cell (p:=⟨Bs,B0,none⟩) hBl).trans hBs) hM).mono ?_
  rintro e W2 ⟨⟨v0,rfl⟩,h2⟩
  obtain ⟨v,hv,hrow,hnil⟩:=h2.box
  have hend:=run_endLoop (P:=Tryz.prog) h2.L (by simp [AnyZI.apRec])
  obtain ⟨W3,hW3⟩ : ∃ W3,W2.putObj (W0.heap.size+1) (.loop { AnyZI.apRec zjX fn sv w.heap.size W0.heap.size .ready none with state:=.exhausted })=W3:=⟨_,rfl⟩
  rw [hW3] at hend
  have hg3 : W2.grownBy W3 (some (W0.heap.size+1)):=by rw [← hW3]; exact grownBy_putObj_a _ _ _
  have hv3 : W3.heap[w.heap.size]? = some (.cells #[v] 22 (0,0)):=by rw [← hW3]; exact (World.putObj_heap_other (by omega)).trans hv
  have hK3 : W3.heap[W0.heap.size]? = some (.deferred (some [])):=by rw [← hW3]; exact (World.putObj_heap_other (by omega)).trans h2.K
  have hrow3:=hrow.kept hg3 (ownsRow_ne_a hrow h2.L (fun cur e=>by first | cases e | exact hne (Obj.cells.inj e).2.1))
  have hb3 : Below w.heap.size w W3:=h2.below.grown hg3 h2.below.size (fun k e=>by cases e; omega)
  obtain ⟨hc3,hf3⟩:=cell_of_box_a hv3
  clear hW3
  refine ⟨none,W3,hend,?_⟩
  gi_wp2
  rw [← hs0]
  refine ⟨by simp,.inl ⟨_,_,rfl,run_takeDeferred hK3,?_⟩⟩
  exact ⟨_,results_tmp rfl _ _ _,v,rfl,hrow3.kept (grownBy_putObj_a _ _ _) (ownsRow_ne_a hrow3 hK3 (fun cur e=>by first | cases e | exact hne (Obj.cells.inj e).2.1)),hb3.grown (grownBy_putObj_a _ _ _) hb3.size (fun k e=>by cases e; omega)⟩
theorem ztR {P : Program} {np : Nat} {α : Type} : ∀ (ops : List zb7) (n i : Nat) (st : St) (tr : List (List Nat × List Nat)) (K : α→St→List (List Nat × List Nat)→Prop),zbq P np n i ops st tr (fun s t=>∃ x,K x s t) → ∃ x,zbq P np n i ops st tr (K x):=by
 intro ops
 induction ops with
 | nil=>intro n i st tr K h; exact h
 | cons o os ih =>
   intro n i st tr K h
   have hgo : ∀ (op : AOp) (xs : List AV) (h : Nat→Option Ent) (F : AV→List Nat→List (Nat × Option Ent)→(St→List (List Nat × List Nat)→Prop)→Prop),
     (∀ v rd up,F v rd up (fun s t=>∃ x,K x s t) → ∃ x,F v rd up (K x))→aK P np (n+8*i) op xs h (fun v rd up=>F v rd up (fun s t=>∃ x,K x s t)) → ∃ x,aK P np (n+8*i) op xs h (fun v rd up=>F v rd up (K x)):=by
    intro op xs h F hF hk
    obtain ⟨v,rd,up,h1,h2⟩:=zqw hk
    obtain ⟨x,hx⟩:=hF v rd up h1
    refine ⟨x,zua (fun a b c e=>?_) h2⟩
    obtain ⟨rfl,rfl,rfl⟩:=e
    exact hx
   unfold zbq at h ⊢
   cases hg : o.guard with
   | none =>
     simp only [hg] at h ⊢
     exact hgo _ _ _ (fun v rd up K'=>zbq P np n (i+1) os ((st.put o.dst v).upd up) (tr++[(rd,up.map (·.1))]) K') (fun v rd up=>ih _ _ _ _ _) h
   | some gw =>
     obtain ⟨g,want⟩:=gw
     simp only [hg] at h ⊢
     obtain ⟨b,hb,h⟩:=h
     by_cases hbw : b=some want
     ·rw [if_pos hbw] at h
      obtain ⟨x,hx⟩:=hgo _ _ _ (fun v rd up K'=>zbq P np n (i+1) os ((st.put o.dst v).upd up) (tr++[(rd,up.map (·.1))]) K') (fun v rd up=>ih _ _ _ _ _) h
      exact ⟨x,b,hb,by rw [if_pos hbw]; exact hx⟩
     ·rw [if_neg hbw] at h
      obtain ⟨x,hx⟩:=ih _ _ _ _ _ h
      exact ⟨x,b,hb,by rw [if_neg hbw]; exact hx⟩
theorem Le.trans' {np : Nat} {a b c : St} (h1 : Le np a b) (h2 : Le np b c) : Le np a c:=by
 intro T0 M0 w0 T M ac w ok hn
 obtain ⟨T',M',ok',hn'⟩:=h1 T0 M0 w0 T M ac w ok hn
 exact h2 T0 M0 w0 T' M' ac w ok' hn'
theorem zyu {P : Program} {np : Nat} : ∀ {c : zfo} {α : Type} {Q : α→zec→St→Prop} {st : St},awp P np c (fun e s=>∃ x,Q x e s) st → ∃ x,awp P np c (Q x) st:=by
 intro c
 induction c with
 | skip=>intro α Q st h; exact h
 | reg draw ops after =>
   intro α Q st hw
   obtain ⟨x,hx⟩:=ztR ops st.n 0 st [] (fun x st' tr=>(draw=true→zeK ops after tr=true)∧Q x .normal { st' with n:=st.n+8*ops.length })
    (zcM _ _ _ _ _ _ _ (fun s t h=>by obtain ⟨h1,x,h2⟩:=h; exact ⟨x,h1,h2⟩) hw.2)
   exact ⟨x,hw.1,hx⟩
 | seq a b iha ihb =>
   intro α Q st hw
   refine iha (zcH (fun e s hs=>?_) hw)
   cases e with
   | normal =>
     obtain ⟨st2,hle,h2⟩:=hs
     obtain ⟨x,hx⟩:=ihb h2
     exact ⟨x,st2,hle,hx⟩
   | exit id=>exact hs
   | ret=>exact hs
 | cond c a b iha ihb =>
   intro α Q st hw
   obtain ⟨t,ht,hw⟩:=hw
   cases t
   ·obtain ⟨x,hx⟩:=ihb hw
    exact ⟨x,false,ht,hx⟩
   ·obtain ⟨x,hx⟩:=iha hw
    exact ⟨x,true,ht,hx⟩
 | block id a iha =>
   intro α Q st hw
   refine iha (zcH (fun e s hs=>?_) hw)
   cases e with
   | normal=>exact hs
   | exit id' =>
     simp only at hs ⊢
     by_cases hi : id'=id
     ·simp only [if_pos hi] at hs ⊢; exact hs
     ·simp only [if_neg hi] at hs ⊢; exact hs
   | ret=>exact hs
 | loop a iha =>
   intro α Q st hw
   obtain ⟨I,⟨st0,k0,hle,hI⟩,hb⟩:=hw
   have key : ∀ k s,I k s → ∃ x,awp P np (.loop a) (Q x) s:=by
    intro k
    induction k using Nat.strongRecOn with
    | ind k ihk =>
      intro s hs
      have hpre : awp P np a (fun e s'=>∃ y : { y : α × Nat × (Nat→St→Prop) // ∀ k' s',y.2.2 k' s'→awp P np a (fun e st'=>match e with | .normal=>∃ st2 k2,Le np st' st2∧y.2.2 k2 st2∧k2<k' | e=>Q y.1 e st') s' },
        match e with | .normal=>∃ st2,Le np s' st2∧y.1.2.2 y.1.2.1 st2 | e=>Q y.1.1 e s') s:=by
       refine zcH (fun e s' h=>?_) (hb k s hs)
       cases e with
       | normal =>
         obtain ⟨st2,k2,h1,h2,h3⟩:=h
         obtain ⟨x,J,⟨st3,k3,h4,h5⟩,h6⟩:=ihk k2 h3 st2 h2
         exact ⟨⟨(x,k3,J),h6⟩,st3,Le.trans' h1 h4,h5⟩
       | exit id=>obtain ⟨x,h⟩:=h; exact ⟨⟨(x,0,fun _ _=>False),fun _ _ h=>h.elim⟩,h⟩
       | ret=>obtain ⟨x,h⟩:=h; exact ⟨⟨(x,0,fun _ _=>False),fun _ _ h=>h.elim⟩,h⟩
      obtain ⟨⟨⟨x,q,J⟩,hJ⟩,hy⟩:=iha hpre
      simp only at hJ hy
      refine ⟨x,fun k' s'=>J k' s'∨(k'=q+1∧s'=s),⟨s,q+1,Le.refl _ _,.inr ⟨rfl,rfl⟩⟩,?_⟩
      rintro k' s' (h | ⟨rfl,rfl⟩)
      ·refine zcH (fun e s2 h2=>?_) (hJ k' s' h)
       cases e with
       | normal=>obtain ⟨st2,k2,h1,h2,h3⟩:=h2; exact ⟨st2,k2,h1,.inl h2,h3⟩
       | exit id=>exact h2
       | ret=>exact h2
      ·refine zcH (fun e s2 h2=>?_) hy
       cases e with
       | normal=>obtain ⟨st2,h1,h2⟩:=h2; exact ⟨st2,q,h1,.inl h2,Nat.lt_succ_self q⟩
       | exit id=>exact h2
       | ret=>exact h2
   obtain ⟨x,hx⟩:=key k0 st0 hI
   obtain ⟨J,⟨s3,k3,h4,h5⟩,h6⟩:=hx
   exact ⟨x,J,⟨s3,k3,Le.trans' hle h4,h5⟩,h6⟩
 | exit id=>intro α Q st h; exact h
 | ret=>intro α Q st h; exact h
 | bad=>intro α Q st h; exact h.elim
def zpl {α : Type} (rs : List (Nat × Option (Bool × Nat))) (np : Nat) (F : α→AV) (H : α→List (Option Ent)) (R : α→Prop) (e : zec) (st : St) : Prop:=(e = .normal∨e = .ret) ∧ ∃ x,R x∧zan rs np st (F x) (H x)
theorem zpl.mk {α : Type} {rs : List (Nat × Option (Bool × Nat))} {np : Nat} {F : α→AV} {H : α→List (Option Ent)} {R : α→Prop} {e : zec} {st : St} (he : e = .normal∨e = .ret) (x : α) (hx : R x) (h : zan rs np st (F x) (H x)) : zpl rs np F H R e st:=⟨he,x,hx,h⟩
theorem Src.acallsX {P : Program} {f : FuncId} {af : AFun} (s : Src P f af) {α : Type} (F : α→AV) (H : α→List (Option Ent)) (R : α→Prop) {args : List AV} {hs : List Ent}
  (hnt : args.length≤af.nt) (hn16 : hs.length≤16) (hlen : ∀ x,hs.length≤(H x).length)
  (h : awp P hs.length af.code (zpl af.res hs.length F H R) (zhf af args hs)) : ∃ x,R x∧zak P f args hs (F x) (H x):=by
 obtain ⟨⟨x,hx⟩,hw⟩:=zyu (α:={ x : α // R x }) (Q:=fun x e st=>(e = .normal∨e = .ret)∧zan af.res hs.length st (F x.1) (H x.1)) (zcH (fun e st h=>by
  obtain ⟨h1,x,h2,h3⟩:=h
  exact ⟨⟨x,h2⟩,h1,h3⟩) h)
 exact ⟨x,hx,s.acalls hnt hn16 (hlen x) hw⟩
def idm (l : List Nat) : List (Nat × Nat):=l.map fun i=>(i,i)
def cutS (live keep sn : List Nat) (n : Nat) (st : St) : St :=
 ⟨st.sz,live.map (fun i=>(i,conv (idm keep) sn st.hp 4 (st.get i))),keep.map (fun i=>(i,(st.hp i).map (zau (idm keep) sn st.hp 4))),n⟩
def roOk (keep : List Nat) (st : St) : Prop:=∀ i∈keep,∀ e,st.hp i=some e→e.ro≤e.rows.length
def zsv (np n : Nat) (ρ : List (Nat × Nat)) (sn : List Nat) : Bool :=
 decide (ρ.map (·.1)).Nodup && decide (ρ.map (·.2)).Nodup && ρ.all (fun p=>decide (p.2<n) && (decide (np≤p.2) || p.1 == p.2)) && sn.all (fun i=>decide (np≤i) && !(ρ.map (·.1)).contains i) && decide (np≤n)
theorem Le.go {np : Nat} {st st' : St} (ρ : List (Nat × Nat)) (sn : List Nat) (hsz : st'.sz=st.sz) (hside : zsv np st'.n ρ sn=true)
  (ht : ∀ p∈st'.t,Wk (conv ρ sn st.hp 4 (st.get p.1)) p.2) (hh : ∀ p∈st'.h,∃ q∈ρ,q.2=p.1∧(st.hp q.1).map (zau ρ sn st.hp 4)=p.2 ∧ ∀ e,p.2=some e→e.ro≤e.rows.length) : Le np st st':=by
 simp only [zsv,Bool.and_eq_true,List.all_eq_true,decide_eq_true_eq,Bool.or_eq_true,beq_iff_eq,Bool.not_eq_true',List.contains_eq_mem,decide_eq_false_iff_not] at hside
 obtain ⟨⟨⟨⟨h1,h2⟩,h3⟩,h4⟩,h5⟩:=hside
 refine Le.lst ρ sn [] hsz h1 h2 (fun p hp=>⟨(h3 p hp).1,fun hlt=>?_⟩) (by simp) (fun i hi=>h4 i hi) h5 (by simp) (fun p hp=>.inl (ht p hp)) fun p hp e' he'=>?_
 ·rcases (h3 p hp).2 with h | h
  ·omega
  ·exact h
 ·obtain ⟨q,hq,hq2,hm,hr⟩:=hh p hp
  rw [he'] at hm
  cases hs : st.hp q.1 with
  | none=>rw [hs] at hm; cases hm
  | some e =>
    rw [hs] at hm
    have hm' : zau ρ sn st.hp 4 e=e':=by simpa using hm
    exact .inl ⟨q,hq,hq2,e,hs,by rw [hm']; exact zaM.rfl' (hr e' he')⟩
theorem LeH {np : Nat} {st st' : St} (ρ : List (Nat × Nat)) (sn : List Nat) (hsz : st'.sz=st.sz:=by rfl) (hside : zsv np st'.n ρ sn=true:=by rfl) (ht : ∀ p∈st'.t,Wk (conv ρ sn st.hp 4 (st.get p.1)) p.2:=by simp) (hh : ∀ p∈st'.h,∃ q∈ρ,q.2=p.1∧(st.hp q.1).map (zau ρ sn st.hp 4)=p.2 ∧ ∀ e,p.2=some e→e.ro≤e.rows.length:=by simp) : Le np st st':=Le.go ρ sn hsz hside ht hh
theorem LeI {np : Nat} {st st' : St} (ρ : List (Nat × Nat)) (sn : List Nat) (hsz : st'.sz=st.sz:=by rfl) (hside : zsv np st'.n ρ sn=true:=by rfl) (ht : ∀ p∈st'.t,Wk (conv ρ sn st.hp 4 (st.get p.1)) p.2:=by simp) (hh : ∀ p∈st'.h,∃ q∈ρ,q.2=p.1∧(st.hp q.1).map (zau ρ sn st.hp 4)=p.2 ∧ ∀ e,p.2=some e→e.ro≤e.rows.length:=by simp [fcd]) : Le np st st':=Le.go ρ sn hsz hside ht hh
theorem Le.cut {np : Nat} {st : St} (live keep sn : List Nat) (n : Nat) (hside : zsv np n (idm keep) sn=true) (hr : roOk keep st) : Le np st (cutS live keep sn n st):=by
 refine Le.go (idm keep) sn rfl hside (fun p hp=>?_) fun p hp=>?_
 ·obtain ⟨i,_,rfl⟩:=List.mem_map.1 hp
  exact .refl _
 ·obtain ⟨i,hi,rfl⟩:=List.mem_map.1 hp
  refine ⟨(i,i),List.mem_map.2 ⟨i,hi,rfl⟩,rfl,rfl,fun e he=>?_⟩
  simp only at he
  cases hs : st.hp i with
  | none=>rw [hs] at he; cases he
  | some e0 =>
    rw [hs] at he
    have he' : zau (idm keep) sn st.hp 4 e0=e:=by simpa using he
    subst he'
    have:=hr i hi e0 hs
    simpa [zau] using this
theorem rx {P : Program} {np : Nat} {ops : List zb7} {Q : zec→St→Prop} {sz n : Nat} {t : List (Nat × AV)} {h : List (Nat × Option Ent)} {af : List (List Nat)} {b : zfo} {s : St} (live keep sn : List Nat)
  (hd : ((ops.all fun o=>o.dst.all (· < sz)) && zsv np (n+8*ops.length) (idm keep) sn)=true) (ho : zbq P np n 0 ops ⟨sz,t,h,n⟩ [] fun st' _=>roOk keep st'∧cutS live keep sn (n+8*ops.length) st'=s) (hq : awp P np b Q s) : awp P np (.seq (.reg false ops af) b) Q ⟨sz,t,h,n⟩:=by
 rw [Bool.and_eq_true] at hd
 refine zab s hd.1 (zcM _ _ _ _ _ _ _ (fun st' _ hc=>?_) ho) hq
 obtain ⟨h1,rfl⟩:=hc
 exact Le.cut (st:=⟨st'.sz,st'.t,st'.h,n+8*ops.length⟩) live keep sn _ hd.2 h1
def cutK (live keep : List Nat) (n : Nat) (st : St) : St:=⟨st.sz,live.map (fun i=>(i,st.get i)),keep.map (fun i=>(i,st.hp i)),n⟩
theorem Le.cutk {np : Nat} {st : St} (live keep : List Nat) (n : Nat) (hn : st.n≤n) : Le np st (cutK live keep n st) :=
 Le.keep rfl hn (fun p hp=>by obtain ⟨i,_,rfl⟩:=List.mem_map.1 hp; rfl) fun p hp e he=>by
  obtain ⟨i,_,rfl⟩:=List.mem_map.1 hp
  exact he
theorem rk {P : Program} {np : Nat} {ops : List zb7} {Q : zec→St→Prop} {sz n : Nat} {t : List (Nat × AV)} {h : List (Nat × Option Ent)} {af : List (List Nat)} {b : zfo} {s : St} (live keep : List Nat)
  (hd : (ops.all fun o=>o.dst.all (· < sz))=true) (ho : zbq P np n 0 ops ⟨sz,t,h,n⟩ [] fun st' _=>cutK live keep (n+8*ops.length) st'=s) (hq : awp P np b Q s) : awp P np (.seq (.reg false ops af) b) Q ⟨sz,t,h,n⟩:=by
 refine zab s hd (zcM _ _ _ _ _ _ _ (fun st' _ hc=>?_) ho) hq
 subst hc
 exact Le.cutk (st:=⟨st'.sz,st'.t,st'.h,n+8*ops.length⟩) live keep _ (Nat.le_refl _)
@[simp] theorem zzE : idm []=[]:=(rfl)
@[simp] theorem zzg {i : Nat} {l : List Nat} : idm (i::l)=(i,i)::idm l:=(rfl)
@[simp] theorem zzr {st : St} : roOk [] st=True:=by simp [roOk]
@[simp] theorem zxK {i : Nat} {l : List Nat} {st : St} : roOk (i::l) st=((∀ e,st.hp i=some e→e.ro≤e.rows.length)∧roOk l st):=by simp [roOk]
@[simp] theorem zzl {live keep sn : List Nat} {n sz m : Nat} {t : List (Nat × AV)} {h : List (Nat × Option Ent)} : cutS live keep sn n ⟨sz,t,h,m⟩=⟨sz,live.map (fun i=>(i,conv (idm keep) sn (St.mk sz t h m).hp 4 ((St.mk sz t h m).get i))),keep.map (fun i=>(i,((St.mk sz t h m).hp i).map (zau (idm keep) sn (St.mk sz t h m).hp 4))),n⟩:=(rfl)
@[simp] theorem zze {live keep : List Nat} {n sz m : Nat} {t : List (Nat × AV)} {h : List (Nat × Option Ent)} : cutK live keep n ⟨sz,t,h,m⟩=⟨sz,live.map (fun i=>(i,(St.mk sz t h m).get i)),keep.map (fun i=>(i,(St.mk sz t h m).hp i)),n⟩:=(rfl)
abbrev pC (p : Pol) : List AV:=[ints p.seeds,ints p.table,.I p.lv]
abbrev eP (p : Pol) : AV:=.agg (pC p)
def zti (p : Pol) (i : Nat) : Prop:=∀ h : i<p.table.length,1≤p.table[i]∧p.table[i]≤1000∧(0<i→p.table[i]≤p.table[i - 1])
def zpt (n : Int) (p : Pol) : Prop:=p.seeds≠[]∧Rise p.seeds 0 (n - 1)∧(1≤p.table.length∧p.table.length≤8)∧(1≤p.lv∧p.lv≤3)
theorem zl1 {n : Int} {p : Pol} : zbl n p↔zpt n p ∧ ∀ i,zti p i:=by
 unfold zbl zpt zti
 constructor
 ·rintro ⟨a,b,c,d,e,f,g⟩; exact ⟨⟨a,b,⟨c,d⟩,e,f⟩,g⟩
 ·rintro ⟨⟨a,b,⟨c,d⟩,e,f⟩,g⟩; exact ⟨a,b,c,d,e,f,g⟩
theorem zmL (p : Pol) (d : Int) : zak Tryz.prog zhL [eP p,.I d] [] (.I (zfH p d)) []:=by
 refine zo4.acalls (nbz rfl) (nbz rfl) (Nat.le_refl _) ?_
 show awp _ 0 _ _ ⟨19,[(0,eP p),(1,.I d)],[],16⟩
 refine rx (s:=?s1) [1,2] [] [16] rfl ?o1 ?q1
 case o1=>simp; rfl
 refine zbH (ι:=Unit) (fun _=>⟨19,[],[],200⟩) (fun _=>0≤d∧(p.table.length : Int)≤d) ?_ fun _ hd=>?_
 ·refine zah ?_
  refine rx (s:=?s2) [1,2,5] [] [] rfl ?o2 ?q2
  case o2=>simp; rfl
  refine zae _ rfl (fun h3=>?_) fun h3=>?_
  ·simp at h3
   refine rx (s:=?s4) [4] [] [] rfl ?o4 ?q4
   case o4=>simp; rfl
   refine zag ?_
   exact ⟨.inr rfl,zan.one (by simp [zhH h3])⟩
  simp at h3
  refine rx (s:=?s5) [1,2,8] [] [] rfl ?o5 ?q5
  case o5=>simp; rfl
  refine zae _ rfl (fun h6=>?_) fun h6=>?_
  ·simp at h6
   obtain ⟨k,rfl⟩ : ∃ k : Nat,d=k:=⟨d.toNat,by omega⟩
   have hk : k<p.table.length:=by omega
   refine rx (s:=?s7) [4] [] [] rfl ?o7 ?q7
   case o7=>simp [hk]; rfl
   refine zag ?_
   exact ⟨.inr rfl,zan.one (by simp [zfH,hk,show ¬ ((k : Int)<0) by omega])⟩
  simp at h6
  refine zaf ?_
  exact ⟨(),⟨h3,h6⟩,Le.keep rfl (nbz rfl) (by simp) (by simp)⟩
 refine rx (s:=?s8) [4] [] [] rfl ?o8 ?q8
 case o8=>simp; rfl
 refine zag ?_
 have h1 : zfH p d=1:=by
  unfold zfH
  rw [if_neg (by omega),List.getD_eq_getElem?_getD,List.getElem?_eq_none (by omega)]
  rfl
 exact ⟨.inr rfl,zan.one (by simp [h1])⟩
theorem zqB (p : Pol) (d : Int) : zak Tryz.prog zmp [eP p,.I d] [] (.I (zfH p d)) []:=by
 refine zt5.acalls (nbz rfl) (nbz rfl) (Nat.le_refl _) ?_
 show awp _ 0 _ _ ⟨17,[(0,eP p),(1,.I d)],[],16⟩
 refine rx (s:=?s1) [1,2] [] [16] rfl ?o1 ?q1
 case o1=>simp; rfl
 refine zaa ?_
 refine rx (s:=?s2) [1,2,6] [] [] rfl ?o2 ?q2
 case o2=>simp; rfl
 refine zae _ rfl (fun h3=>?_) fun h3=>?_
 ·simp at h3
  refine rx (s:=?s4) [4] [] [] rfl ?o4 ?q4
  case o4=>simp; rfl
  refine zag ?_
  exact ⟨.inr rfl,zan.one (by simp [zhH h3])⟩
 simp at h3
 refine zaf ?_
 refine zaa ?_
 refine rx (s:=?s5) [1,2,11] [] [] rfl ?o5 ?q5
 case o5=>simp; rfl
 refine zae _ rfl (fun h6=>?_) fun h6=>?_
 ·simp at h6
  obtain ⟨k,rfl⟩ : ∃ k : Nat,d=k:=⟨d.toNat,by omega⟩
  have hk : k<p.table.length:=by omega
  refine rx (s:=?s7) [4] [] [] rfl ?o7 ?q7
  case o7=>simp [hk]; rfl
  refine zag ?_
  exact ⟨.inr rfl,zan.one (by simp [zfH,hk,show ¬ ((k : Int)<0) by omega])⟩
 simp at h6
 refine zaf ?_
 refine rx (s:=?s8) [4] [] [] rfl ?o8 ?q8
 case o8=>simp; rfl
 refine zag ?_
 have h1 : zfH p d=1:=by
  unfold zfH
  rw [if_neg (by omega),List.getD_eq_getElem?_getD,List.getElem?_eq_none (by omega)]
  rfl
 exact ⟨.inr rfl,zan.one (by simp [h1])⟩
open Classical in
theorem zeO (g : Gr) (p : Pol) (hl : g.edges.length≤140737488355328) (hl2 : g.gone.length≤140737488355328) (hs : p.seeds.length≤140737488355328) (ht : p.table.length≤140737488355328) :
  zak Tryz.prog zbM [eG g,eP p] [] (.I (if GrOk g then if zbl g.size p then 0 else 15 else 14)) []:=by
 refine zh4.acalls (nbz rfl) (nbz rfl) (Nat.le_refl _) ?_
 show awp _ 0 _ _ ⟨65,[(0,eG g),(1,eP p)],[],16⟩
 refine rx (s:=?s1) [2,3] [] [16,24] rfl ?o1 ?q1
 case o1=>simp; rfl
 refine zaa ?_
 refine rx (s:=?s2) [2,3,5] [] [] rfl ?o2 ?q2
 case o2=>simp; refine zaq (zmD g hl hl2) (by simp) ?_; simp; rfl
 refine rx (s:=?s3) [2,3,5,11] [] [] rfl ?o3 ?q3
 case o3=>simp; rfl
 refine zae _ rfl (fun h4=>?_) fun h4=>?_
 ·simp at h4
  refine rx (s:=?s5) [4] [] [] rfl ?o5 ?q5
  case o5=>simp; rfl
  refine zag ?_
  exact ⟨.inr rfl,zan.one (by simp [h4])⟩
 simp at h4
 have hg0:=h4.1.1
 have hg1:=h4.1.2.1
 refine zaf ?_
 refine zaa ?_
 refine zab ⟨65,[(3,.pv (pC p)),(38,.B (decide (¬ zpt g.size p)))],[],288⟩ rfl ?_ ?_
 ·simp
  repeat' first
   | (refine zgm zb6 rfl ?_; have hw : IntKind.i64.wrap (g.size - 1)=g.size - 1:=w64 (by omega) (by omega); rw [hw]; refine zaq (zfN _ _ _ hs) rfl ?_; simp)
   | (refine zgm zaC rfl ?_; refine zaq (zcb ..) rfl ?_; simp)
   | (refine zgF (fun hb=>?_) (fun hb=>?_) <;> (try rw [hb]) <;> (try simp at hb) <;> simp [hb])
  all_goals exact Le.snap [] rfl rfl (by simp; first | exact wkB (by (try simp at *); grind [zpt]) | exact ⟨by rw [show pC p=[.vs 1 false [],ints p.table,.I p.lv] by simp [pC,ints,hb]]; exact .refl _,wkB (by (try simp at *); grind [zpt])⟩)
 refine zae _ rfl (fun h7=>?_) fun h7=>?_
 ·simp at h7
  refine rx (s:=?s8) [4] [] [] rfl ?o8 ?q8
  case o8=>simp; rfl
  refine zag ?_
  exact ⟨.inr rfl,zan.one (by simp [h4,zl1,h7])⟩
 simp at h7
 refine zaf ?_
 refine zaa ?_
 refine rx (s:=?s9) [3,40,41,42] [] [] rfl ?o9 ?q9
 case o9=>simp; rfl
 refine zah ?_
 refine zav (ι:=Nat) (fun i=>⟨65,[(3,.pv (pC p)),(40,ints p.table),(41,.I p.table.length),(42,.I i)],[],320⟩) (fun i=>i≤p.table.length ∧ ∀ k,k<i→zti p k) (fun i=>p.table.length - i) 0 (by simp) (LeH [] []) ?_
 rintro i ⟨hi,hp⟩
 refine rx (s:=?s10) [3,40,41,42,43] [] [] rfl ?o10 ?q10
 case o10=>simp; rfl
 refine zaa ?_
 refine zae _ rfl (fun h11=>?_) fun h11=>?_
 ·simp at h11
  have hw2 : IntKind.i64.wrap ((i : Int)+1)=(i : Int)+1:=w64 (by omega) (by omega)
  have hwp : 0<i→IntKind.i64.wrap ((i : Int) - 1)=((i - 1 : Nat) : Int):=fun h=>by rw [w64 (by omega) (by omega)]; omega
  have h11' : i - 1<p.table.length:=by omega
  refine zaf ?_
  refine zaa ?_
  refine zah ?_
  refine rx (s:=?s12) [3,6,7,40,41,42] [] [] rfl ?o12 ?q12
  case o12=>simp [h11]; rfl
  refine zab ⟨65,[(3,.pv (pC p)),(40,ints p.table),(41,.I p.table.length),(42,.I i),(63,.B (decide (¬ zti p i)))],[],504⟩ rfl ?_ ?_
  ·simp
   repeat' first
    | (refine zgm zaC rfl ?_; refine zaq (zcb ..) rfl ?_; simp)
    | (refine zgF (fun hb=>?_) (fun hb=>?_) <;> (try rw [hb]) <;> (try simp at hb) <;> simp [hb,h11,h11',hwp])
   all_goals exact Le.snap [] rfl rfl (by simp; exact wkB (by (try simp at *); grind [zti]))
  refine zae _ rfl (fun h14=>?_) fun h14=>?_
  ·refine rx (s:=?s15) [4] [] [] rfl ?o15 ?q15
   case o15=>simp; rfl
   refine zag ?_
   have hn : ¬ zbl g.size p:=fun h=>by simp at h14; exact h14 ((zl1.1 h).2 i)
   exact ⟨.inr rfl,zan.one (by simp [h4,hn])⟩
  simp at h14
  refine zaf ?_
  refine zac (s:=?s16) rfl ?o16 ?q16
  case o16=>simp; rfl
  refine ⟨i+1,⟨h11,fun k hk=>?_⟩,?_,Le.go [] [] rfl rfl (by simp [hw2]) (by simp)⟩
  ·rcases Nat.lt_succ_iff_lt_or_eq.1 hk with h | rfl
   ·exact hp k h
   ·exact h14
  ·omega
 simp at h11
 have hy : zbl g.size p:=zl1.2 ⟨h7,fun k hk=>hp k (by omega) hk⟩
 refine zas ?_
 refine hit ?_
 refine rx (s:=?s17) [4] [] [] rfl ?o17 ?q17
 case o17=>simp; rfl
 refine zag ?_
 exact ⟨.inr rfl,zan.one (by simp [h4,hy])⟩
section
variable {P : Program} {np id : Nat} {h : Nat→Option Ent} {K : AV→List Nat→List (Nat × Option Ent)→Prop} {f : FuncId} {first capt args args' : List AV} {res : AV}
theorem zqt (sn : List Nat) {e : Ent} (hc : zak P f args' [] res [some e]) (he : (first++args++capt).map (conv [] sn h 4)=args') (hp : Plain res) (hpe : zir e)
  (hk : K (conv (swp [] id) [] (fun _=>none) 4 res) sn [(id,some (zau (swp [] id) [] (fun _=>none) 4 e))]) : aK P np id .call (.fn (.func f) first capt::args) h K :=
 ⟨[],sn,false,args',[],res,[some e],by simp,by simp,by simp,by rw [List.zipIdx_nil,he]; exact zdq _,rfl,hc,by simp,.inr ⟨hp,fun e' he'=>by simp at he'; subst he'; exact hpe⟩,by simpa [swp] using hk⟩
end
theorem zxD {l : List Int} : zir ⟨1,zai l,0⟩:=by
 intro row hrow x hx
 simp only [List.mem_map] at hrow
 obtain ⟨y,_,rfl⟩:=hrow
 simp at hx
 subst hx
 exact .sc _
variable {g : Gr} {S : List Int}
set_option maxHeartbeats 1000000 in
set_option maxRecDepth 100000 in
theorem zjY (hg : GrOk g) (hN : g.size<20) (hS : S.length≤1099511627776) : zak Tryz.prog zci [eG g,ints S] [] (.rs 0 0 (ordL g S).length) [some ⟨1,zai (ordL g S),0⟩]:=by
 refine zfC.acalls (nbz rfl) (nbz rfl) (Nat.zero_le _) ?_
 show awp _ 0 _ _ ⟨18,[(0,eG g),(1,ints S)],[],16⟩
 have hsz:=hg.1.1
 obtain ⟨N,hNe⟩ : ∃ N : Nat,N=g.size.toNat:=⟨_,rfl⟩
 have hall:=zhS g S hg hS
 have hDl : (zc8 g S).length=N:=by rw [zl3,hNe]
 have hDg : ∀ k : Nat,k<N→(zc8 g S).getD k 0=dist g S k:=fun k hk=>zpr (by omega)
 rw [← hNe] at hall
 obtain ⟨D,hD⟩ : ∃ D,D=zc8 g S:=⟨_,rfl⟩
 rw [← hD] at hall hDl hDg
 obtain ⟨W,hW⟩ : ∃ W,W=zbp N fun k=>decide (0≤dist g S k):=⟨_,rfl⟩
 have hWl : W.length≤N:=by rw [hW]; exact zlS _ _
 have hWm : ∀ x∈W,0≤x∧x<N:=fun x hx=>by rw [hW] at hx; exact (zc3.1 hx).1
 have hwhere : zak Tryz.prog zbo [.I N,.fn (.func zbs) [] [.pv [ints D]]] [] (.rs 0 0 W.length) [some ⟨1,zai W,0⟩]:=by
  have:=zjg zbs [.pv [ints D]] (fun k=>decide (0≤dist g S k)) N (by omega) (fun ρ sn h n=>by simp) (fun k hk=>by
   have h1:=zqD D k (by omega)
   rw [hDg k (by omega)] at h1
   exact h1)
  simpa [← hW] using this
 have hsort:=zoe zbS [.pv [ints D]] (cD g S) W W.length rfl (by omega) (fun ρ sn h n=>by simp) (fun x hx y hy=>by
  obtain ⟨a,ha⟩ : ∃ a : Nat,x=a:=⟨x.toNat,by have:=hWm x hx; omega⟩
  obtain ⟨b,hb⟩ : ∃ b : Nat,y=b:=⟨y.toNat,by have:=hWm y hy; omega⟩
  have h1:=hWm x hx
  have h2:=hWm y hy
  subst ha hb
  have h3:=zpZ D a b (by omega) (by omega)
  rw [hDg a (by omega),hDg b (by omega)] at h3
  exact h3)
 have hord : zik (cD g S) W=ordL g S:=by rw [hW,hNe]; exact zv2 hg
 have hol : (ordL g S).length=W.length:=by
  rw [← hord]
  unfold zik
  rw [List.length_reverse,zkw]
 rw [hord] at hsort
 have htk : List.take N (zai D)=zai D:=List.take_of_length_le (by simp [hDl])
 have hRl : (zai D).length=N:=by simp [hDl]
 refine zab ⟨18,[(1,ints S),(2,.pv (gC g))],[],32⟩ rfl ?_ ?_
 ·simp
  exact Le.snap [16] rfl rfl (by simp)
 refine zab ⟨18,[(5,.pv [ints D])],[],72⟩ rfl ?_ ?_
 ·simp
  refine zcq hall rfl ?_
  simp [fcd]
  exact Le.snap [48,56] rfl rfl (by simp [fcd,← hDl,zao])
 refine zab ⟨18,[(5,.pv [ints D]),(6,.rs 96 0 W.length)],[(96,some ⟨1,zai W,0⟩)],112⟩ rfl ?_ ?_
 ·simp [hDl]
  refine zcq hwhere (by simp) ?_
  simp [fcd]
  exact Le.keep rfl (Nat.le_refl _) (by simp) (by simp)
 rw [hol]
 refine zab ⟨18,[(6,.rs 96 0 W.length)],[(96,some ⟨1,zai (ordL g S),0⟩)],136⟩ rfl ?_ ?_
 ·simp
  refine zcJ (i:=96) rfl (e':=⟨1,zai W,0⟩) (by simp [fcd]) hsort (by simp) (by simp) ?_
  simp [fcd]
  exact Le.keep rfl (Nat.le_refl _) (by simp) (by simp)
 refine zaa ?_
 refine zac (s:=?s1) rfl ?o1 ?q1
 case o1=>simp; rfl
 refine zag ?_
 exact ⟨.inr rfl,zan.out [96] [] rfl (by simp) (by simp) (by simp) (by simp [fcd])⟩
theorem GrOk.edges_le {g : Gr} (h : GrOk g) : g.edges.length≤500:=h.1.2.2.1
theorem zce {g : Gr} {p : Pol} : (zaz g p).length=g.size.toNat:=by simp [zaz,zc8,zaj]
def zd7 (g : Gr) (p : Pol) (k : Nat) : List Int:=(zaz g p).take k++(zc8 (zaj g p.lv) p.seeds).drop k
theorem znp {g : Gr} {p : Pol} (k : Nat) (hk : k≤g.size.toNat) : (zd7 g p k).length=g.size.toNat:=by simp [zd7,zce,zc8,zaj]; omega
theorem zqP {g : Gr} {p : Pol} : zd7 g p 0=zc8 (zaj g p.lv) p.seeds:=by simp [zd7]
theorem zsl {g : Gr} {p : Pol} : zd7 g p g.size.toNat=zaz g p:=by
 unfold zd7
 rw [List.take_of_length_le (by rw [zce]; exact Nat.le_refl _),List.drop_eq_nil_of_le (by simp [zc8,zaj])]
 simp
theorem zsn {g : Gr} {p : Pol} {k : Nat} (hk : k<g.size.toNat) : (zd7 g p k)[k]? = some (dist (zaj g p.lv) p.seeds k):=by
 unfold zd7
 rw [List.getElem?_append_right (by simp [zce]; omega)]
 simp [zce,Nat.min_eq_left (Nat.le_of_lt hk),zc8,zaj,hk]
theorem zsk {g : Gr} {p : Pol} {k : Nat} (hk : k<g.size.toNat) : (zai (zd7 g p k)).set k [AV.I (zfH p (dist (zaj g p.lv) p.seeds k))]=zai (zd7 g p (k+1)):=by
 rw [show [AV.I (zfH p (dist (zaj g p.lv) p.seeds k))]=(fun n : Int=>[AV.I n]) (zfH p (dist (zaj g p.lv) p.seeds k)) from rfl]
 show (List.map (fun n : Int=>[AV.I n]) (zd7 g p k)).set k _=List.map (fun n : Int=>[AV.I n]) _
 rw [← List.map_set]
 congr 1
 have hc : k<(zaz g p).length:=by rw [zce]; exact hk
 have hd : k<(zc8 (zaj g p.lv) p.seeds).length:=by simp [zc8,zaj,hk]
 unfold zd7
 rw [List.set_append,if_neg (by simp [zce]; omega)]
 rw [show k - ((zaz g p).take k).length=0 by simp [zce]; omega]
 rw [List.drop_eq_getElem_cons hd,List.set_cons_zero,List.take_succ_eq_append_getElem hc,List.append_assoc]
 congr 2
 simp [zaz,zc8]
set_option maxRecDepth 100000 in
theorem zlH (g : Gr) (p : Pol) (hg : GrOk g) (hs : p.seeds.length≤1099511627776) : zak Tryz.prog zgS [eG g,eP p] [] (.rs 0 0 g.size.toNat) [some ⟨1,zai (zaz g p),0⟩]:=by
 refine znC.acalls (nbz rfl) (nbz rfl) (Nat.zero_le _) ?_
 show awp _ 0 _ _ ⟨30,[(0,eG g),(1,eP p)],[],16⟩
 have hsz:=hg.1.1
 have hsz2:=hg.1.2.1
 have hel:=hg.edges_le
 have hgl:=hg.gone_le
 have hall:=zhS (zaj g p.lv) p.seeds (hg.level p.lv) hs
 have hsl : (zaj g p.lv).size=g.size:=rfl
 rw [hsl,← zqP] at hall
 obtain ⟨N,hNe⟩ : ∃ N : Nat,N=g.size.toNat:=⟨_,rfl⟩
 rw [← hNe] at hall
 have hml : ∀ k,k≤N→(zai (zd7 g p k)).length=N:=fun k hk=>by rw [List.length_map,znp k (by omega),hNe]
 have hmg : ∀ (k : Nat) (h : k<(zd7 g p k).length),k<N→(zd7 g p k)[k]=dist (zaj g p.lv) p.seeds k:=fun k h hk=>by
  have:=zsn (g:=g) (p:=p) (k:=k) (by omega)
  rw [List.getElem?_eq_getElem h] at this
  exact Option.some.inj this
 have hml2 : ∀ k,k≤N→(zd7 g p k).length=N:=fun k hk=>by rw [znp k (by omega),hNe]
 have hms : ∀ k : Nat,k<N→(zai (zd7 g p k)).set k [AV.I (zfH p (dist (zaj g p.lv) p.seeds k))]=zai (zd7 g p (k+1)):=fun k hk=>zsk (by omega)
 refine rx (s:=?s1) [2,3] [] [16,24] rfl ?o1 ?q1
 case o1=>simp; rfl
 refine zba ⟨30,[(3,.pv (pC p)),(5,.rs 88 0 N)],[(88,some ⟨1,zai (zd7 g p 0),0⟩)],104⟩ rfl ?_ ?_
 ·simp
  refine zaq (zgi g p.lv (by omega) (by omega)) (by simp) ?_
  simp
  refine zcq hall rfl ?_
  simp [fcd]
  exact ⟨rfl,Le.keep rfl (Nat.le_refl _) (by simp) (by simp)⟩
 refine zaa ?_
 refine rk (s:=?s3) [3,5,15,16,17] [88] rfl ?o3 ?q3
 case o3=>simp; rfl
 refine zah ?_
 refine zav (ι:=Nat) (fun i=>⟨30,[(3,.pv (pC p)),(5,.rs 88 0 N),(15,.rs 88 0 N),(16,.I N),(17,.I i)],[(88,some ⟨1,zai (zd7 g p i),0⟩)],128⟩) (fun i=>i≤N) (fun i=>N - i) 0 (by simp) (Le.keep rfl (Nat.le_refl _) (by simp) (by simp)) ?_
 intro i hi
 refine rk (s:=?s5) [3,5,15,16,17,18] [88] rfl ?o5 ?q5
 case o5=>simp; rfl
 refine zaa ?_
 refine zae _ rfl (fun h6=>?_) fun h6=>?_
 ·simp at h6
  have hw : IntKind.i64.wrap ((i : Int)+1)=(i : Int)+1:=w64 (by omega) (by omega)
  refine zaf ?_
  refine zaa ?_
  refine zah ?_
  refine rk (s:=?s7) [3,5,6,7,15,16,17] [88] rfl ?o7 ?q7
  case o7=>simp [h6,hml2,hmg,hi]; rfl
  refine zac (s:=?s8) rfl ?o8 ?q8
  case o8 =>
   simp
   refine zaq (zmL p (dist (zaj g p.lv) p.seeds i)) (by simp) ?_
   simp [h6,hml2,hi,hms]
   rfl
  refine zac (s:=?s9) rfl ?o9 ?q9
  case o9=>simp [hw]; rfl
  exact ⟨i+1,by omega,by omega,LeI [(88,88)] []⟩
 simp at h6
 obtain rfl : i=N:=by omega
 refine zas ?_
 refine hit ?_
 refine rk (s:=?s10) [4] [88] rfl ?o10 ?q10
 case o10=>simp; rfl
 refine zag ?_
 refine ⟨.inr rfl,zan.out [88] [] rfl (by simp) (by simp) (by simp [hNe]) (by simp [fcd,hNe,zsl])⟩
theorem zlA {g : Gr} {p : Pol} {k : Nat} (hk : k<g.size.toNat) : (zaz g p).take (k+1)=(zaz g p).take k++[zfH p (dist (zaj g p.lv) p.seeds k)]:=by
 rw [List.take_succ_eq_append_getElem (by rw [zce]; exact hk)]
 simp [zaz,zc8]
set_option maxRecDepth 100000 in
theorem zpi (g : Gr) (p : Pol) (hg : GrOk g) (hs : p.seeds.length≤1099511627776) : zak Tryz.prog zkp [eG g,eP p] [] (.rs 0 0 g.size.toNat) [some ⟨1,zai (zaz g p),0⟩]:=by
 refine zr0.acalls (nbz rfl) (nbz rfl) (Nat.zero_le _) ?_
 show awp _ 0 _ _ ⟨31,[(0,eG g),(1,eP p)],[],16⟩
 have hsz:=hg.1.1
 have hsz2:=hg.1.2.1
 have hel:=hg.edges_le
 have hgl:=hg.gone_le
 have hall:=zkx (zaj g p.lv) p.seeds (hg.level p.lv) hs
 have hsl : (zaj g p.lv).size=g.size:=rfl
 rw [hsl] at hall
 obtain ⟨N,hNe⟩ : ∃ N : Nat,N=g.size.toNat:=⟨_,rfl⟩
 have hDl : (zc8 (zaj g p.lv) p.seeds).length=N:=by simp [zc8,zaj,hNe]
 have hDg : ∀ (k : Nat) (h : k<(zc8 (zaj g p.lv) p.seeds).length),(zc8 (zaj g p.lv) p.seeds)[k]=dist (zaj g p.lv) p.seeds k:=fun k h=>by simp [zc8]
 rw [← hNe] at hall
 obtain ⟨D,hD⟩ : ∃ D,D=zc8 (zaj g p.lv) p.seeds:=⟨_,rfl⟩
 rw [← hD] at hall hDl
 simp only [← hD] at hDg
 have hcl : (zaz g p).length=N:=by rw [zce,hNe]
 obtain ⟨C,hC0,hCs,hCl,hCN⟩ : ∃ C : Nat→List Int,C 0=[]∧(∀ k : Nat,k<N→C (k+1)=C k++[zfH p (dist (zaj g p.lv) p.seeds k)])∧(∀ k,k≤N→(C k).length=k)∧C N=zaz g p :=
  ⟨fun k=>(zaz g p).take k,by simp,fun k hk=>zlA (by omega),fun k hk=>by simp [hcl,hk],by simp [← hcl]⟩
 refine rx (s:=?s1) [2,3] [] [16,24] rfl ?o1 ?q1
 case o1=>simp; rfl
 refine zba ⟨31,[(3,.pv (pC p)),(5,ints D)],[],104⟩ rfl ?_ ?_
 ·simp
  refine zaq (ziv g p.lv (by omega) (by omega)) (by simp) ?_
  simp
  refine zcq hall rfl ?_
  simp [fcd]
  exact ⟨rfl,Le.snap [88] rfl rfl (by simp [fcd,← hDl,zao])⟩
 refine rx (s:=?s3) [3,5,6] [] [] rfl ?o3 ?q3
 case o3=>simp; rfl
 refine zaa ?_
 refine rx (s:=?s4) [3,5,6,7] [] [] rfl ?o4 ?q4
 case o4=>simp; rfl
 refine zah ?_
 refine zav (ι:=Nat) (fun i=>⟨31,[(3,.pv (pC p)),(5,ints D),(6,.rs 16 0 i),(7,.I i)],[(16,some ⟨1,zai (C i),0⟩)],120⟩) (fun i=>i≤N) (fun i=>N - i) 0 (by simp) (Le.lst [] [] [(16,1)] rfl (by simp) (by simp) (by simp) (by simp) (by simp) (by simp) (by simp) (by simp [Up]) (by simp [hC0])) ?_
 intro i hi
 have hCi:=hCl i hi
 have hti : ∀ f : Int→List AV,List.take i (List.map f (C i))=List.map f (C i):=fun f=>List.take_of_length_le (by simp [hCi])
 refine zaa ?_
 refine rk (s:=?s5) [3,5,6,7,18] [16] rfl ?o5 ?q5
 case o5=>simp [hDl]; rfl
 refine zae _ rfl (fun h6=>?_) fun h6=>?_
 ·simp at h6
  have hw : IntKind.i64.wrap ((i : Int)+1)=(i : Int)+1:=w64 (by omega) (by omega)
  refine zaf ?_
  refine zaa ?_
  refine zah ?_
  refine zfe rfl ?_
  simp [h6,hDl,hDg]
  refine zaq (zqB p (dist (zaj g p.lv) p.seeds i)) (by simp) ?_
  simp [hCi]
  refine ⟨by omega,by omega,rfl,?_⟩
  refine zaL rfl ?_
  simp [hw]
  exact ⟨i+1,by omega,by omega,Le.go [(216,16)] [] rfl rfl (by simp) (by simp [fcd,hCs i h6,hti])⟩
 simp at h6
 obtain rfl : i=N:=by omega
 refine zas ?_
 refine hit ?_
 refine rk (s:=?s7) [4] [16] rfl ?o7 ?q7
 case o7=>simp; rfl
 refine zag ?_
 exact ⟨.inr rfl,zan.out [16] [] rfl (by simp) (by simp) (by simp [hNe]) (by simp [fcd,hCN])⟩
end Go.Proofs.YtkngdgplbojdlaaGreat
namespace Go.Proofs.YtkngdgplbojdlaaGreat
open Go Go.RowKit Go.Shelf Go.Maps Go.Sort
theorem arr2 {vs : Array Value} (h : vs.size=2) : vs = #[vs.getD 0 undef,vs.getD 1 undef]:=by
 apply Array.ext
 ·simpa using h
 ·intro i h1 h2
  have : i=0∨i=1:=by simp at h2; omega
  rcases this with rfl | rfl <;> simp [Array.getD,h1] <;> intro h3 <;> omega
theorem zu1 (x : Int) : (encZ x : Value) = .int .i64 x:=rfl
theorem zpY (l : List Int) (hl : l.length≤1099511627776) : zak Tryz.prog zdu [.nilS,.fn (.func zcr) [] [.pv [ints l]]] [] (.rs 0 0 l.length) [some ⟨1,zai l,0⟩]:=by
 refine ⟨⟨_,_,Tryz.func204,rfl,by decide⟩,by simp,fun T M w vs htok hhs hdom hrep=>?_⟩
 obtain ⟨hsz,hr⟩:=hrep
 have hr0:=hr 0 (by simp)
 have hr1:=hr 1 (by simp)
 simp only [List.getD_cons_zero,List.getD_cons_succ] at hr0 hr1
 rw [arr2 hsz]
 generalize vs.getD 0 undef=v0 at hr0
 generalize vs.getD 1 undef=v1 at hr1
 cases hr0
 cases hr1 with
 | fn _ _ _ _ us ws hx hy h h' =>
 have hus : us = #[]:=by simpa using hx
 subst hus
 have hws:=arr1 (vs:=ws) hy
 have hc0:=h' 0 (by simp)
 simp only [List.getD_cons_zero] at hc0
 rw [hws]
 generalize ws.getD 0 undef=u at hc0
 cases hc0 with
 | pv _ _ Bs B0 cells ty fz c hb ht hcc ho hh =>
 have hB:=hcc 0 (by simp)
 have hv:=hh 0 (by simp)
 simp only [List.getD_cons_zero,Nat.add_zero] at hB hv
 have hBl : Bs<w.heap.size:=(Array.getElem?_eq_some_iff.1 hb).1
 generalize c 0=sv at hB hv
 cases hv with
 | vs _ _ _ _ a cap cc hf hle hw hbb h1 hcv =>
 have hlen : (l.map fun n=>[AV.I n]).length=l.length:=by simp
 rw [hlen] at hB
 have hcell : ∃ b off,(l≠[]→a=some ⟨b,off,none⟩∧b<w.heap.size) ∧ ∀ j (h : j<l.length),w.cell? ⟨b,off+j,none⟩=some (.int .i64 l[j]):=by
  by_cases h0 : l=[]
  ·exact ⟨0,0,fun h=>absurd h0 h,fun j hj=>by subst h0; simp at hj⟩
  ·obtain ⟨b,off,cs,ty',fz',ha,hwb,_,hrow⟩:=hbb (by simpa using h0)
   refine ⟨b,off,fun _=>⟨ha,(Array.getElem?_eq_some_iff.1 hwb).1⟩,fun j hj=>?_⟩
   have h2:=hrow j 0 (by simpa using hj) (by decide)
   have h3:=hcv j 0 (by simpa using hj) (by decide)
   have e : ((l.map fun n=>[AV.I n]).getD j []).getD 0 .dead = .I l[j]:=by simp [List.getD,hj]
   rw [e] at h3
   have h4:=zbU h3 rfl
   rw [h4] at h2
   simp only [World.cell?,hwb]
   simpa using h2
 obtain ⟨b,off,hab,hcs⟩:=hcell
 rw [← callsIn_wide (n:=2)]
 refine (zon Fence.wide 2 trivial trivial rfl (by omega) Bs B0 b off cap a l (fun h=>(hab h).1) hl w ?_ hBl (fun h=>(hab h).2) hcs).mono ?_
 ·simp only [World.cell?,hb]
  exact hB
 rintro e w' ⟨v,rfl,⟨_,hown⟩,hbel⟩
 have hpr : Pres T w T w':=⟨fun _=>Nat.le_refl _,fun b' cs' ty' fz' h=>⟨cs',fz',by rw [hbel.block b' (Array.getElem?_eq_some_iff.1 h).1]; exact h,rfl,fun _ _=>rfl⟩⟩
 have hT0 : ∀ b',w.heap.size≤b'→T b'=0:=fun b' hb'=>by
  rcases Nat.eq_zero_or_pos (T b') with e | e
  ·exact e
  ·obtain ⟨cells,ty,fz,h1,_⟩:=htok b' e
   have:=(Array.getElem?_eq_some_iff.1 h1).1
   omega
 have htok' : TOk T w':=fun b' hb'=>by
  obtain ⟨cells,ty,fz,h1,h2⟩:=htok b' hb'
  exact ⟨cells,ty,fz,by rw [hbel.block b' (Array.getElem?_eq_some_iff.1 h1).1]; exact h1,h2⟩
 have fin : ∀ g : GE,(∀ b,g.blk=some b→w.heap.size≤b)→zpV T w' (fun k=>if k=0 then some g else none) ⟨1,zai l,0⟩ g→Rep T w' (fun k=>if k=0 then some g else none) (.rs 0 0 l.length) v →
   ∃ v' T' M',Ending.returned v = .returned v'∧Rep T' w' M' (.rs 0 0 l.length) v'∧HsOk T' w' M' (zlR [some ⟨1,zai l,0⟩])∧zj8 0 T M w T' M' w':=by
  intro g hg ent hv
  refine ⟨v,T,_,rfl,hv,?_,⟨htok',fun _ _ _=>rfl,fun k hk=>absurd hk (Nat.not_lt_zero k),hbel.os,hbel.tape,hbel.output,hbel.size,fun b' hb' _=>hbel.block b' hb',hpr,fun k g1 b1 _ h1 h2=>?_⟩⟩
  ·rw [show ([some ⟨1,zai l,0⟩] : List (Option Ent))=List.map some [⟨1,zai l,0⟩] from rfl,zia]
   have z : ∀ id e,hpOf [(⟨1,zai l,0⟩ : Ent)] id=some e→id=0∧e=⟨1,zai l,0⟩:=by
    intro id e he
    cases id with
    | zero=>simp [hpOf] at he; exact ⟨rfl,he.symm⟩
    | succ k=>simp [hpOf] at he
   refine ⟨fun id e he=>?_,fun id id' e e' _ _ _ h1 h2 _ _ _ _=>by rw [(z _ _ h1).1,(z _ _ h2).1]⟩
   obtain ⟨rfl,rfl⟩:=z _ _ he
   exact ⟨g,rfl,ent⟩
  ·by_cases hk : k=0
   ·subst hk
    simp at h1
    subst h1
    exact .inr (hg b1 h2)
   ·simp [hk] at h1
 have hwide : ∀ row∈zai l,row.length=1:=by intro row hr; simp at hr; obtain ⟨x,_,rfl⟩:=hr; rfl
 rcases hown with ⟨rfl,h0⟩ | ⟨g,cp,cur,rfl,hg,hgw,hle2,hcm,hcsz,htk⟩
 ·have h0' : l=[]:=List.length_eq_zero_iff.1 h0
  subst h0'
  exact fin ⟨none,0,1⟩ (by simp) ⟨rfl,Nat.zero_le _,fun _=>hwide,(fun _=>rfl),(fun hz=>absurd hz (Nat.succ_ne_zero 0)),fun _ b' hb'=>by cases hb'⟩ (.rs _ _ _ _ _ _ _ rfl (Nat.succ_ne_zero 0) (Nat.le_refl _) (fun _=>⟨rfl,rfl⟩) fun b' hb'=>by cases hb')
 ·refine fin ⟨some g,0,1⟩ (fun b' hb'=>by cases hb'; exact hg) ⟨rfl,Nat.zero_le _,fun _=>hwide,(fun hn=>by cases hn),(fun hz=>absurd hz (Nat.succ_ne_zero 0)),fun _ b' hb'=>?_⟩ (.rs _ _ _ _ cp _ _ rfl (Nat.succ_ne_zero 0) hle2 (fun hn=>by cases hn) fun b' hb'=>?_)
  ·obtain rfl:=Option.some.inj hb'
   refine ⟨cur,3,hgw,by rw [hT0 g hg]; exact Nat.zero_le _,by simp; omega,fun i j hi hj=>?_⟩
   have hi' : i<l.length:=by simpa using hi
   obtain rfl : j=0:=by simpa using hj
   refine ⟨.int .i64 l[i],?_,rfl,?_⟩
   ·have : (cur.toList.take (l.length*1))[i]? = (l.map encZ)[i]?:=by rw [htk]
    rw [List.getElem?_take,if_pos (by omega)] at this
    simpa [hi',zu1] using this
   ·have e : ((zai l).getD i []).getD 0 .dead = .I l[i]:=by simp [List.getD,hi']
    rw [e]
    exact .sc _ _ rfl
  ·obtain rfl:=Option.some.inj hb'
   exact ⟨.inr (by simp),cur,3,(0,0),hgw,by simp; omega⟩
section
variable {P : Program} {np id : Nat} {h : Nat→Option Ent} {K : AV→List Nat→List (Nat × Option Ent)→Prop} {f : FuncId} {first capt args args' : List AV} {res : AV}
theorem zym (sn : List Nat) (hnp : ∀ i∈sn,np≤i) (hc : zak P f args' [] res []) (hw : (first++args++capt).map (conv [] sn h 4)=args')
  (hk : K (conv (((List.range 8).map (id + ·)).zipIdx.map fun (a,b)=>(b,a)) [] (fun _=>none) 4 res) sn (sn.filterMap fun i=>(h i).map fun e=>(i,some { e with ro:=e.rows.length }))) : aK P np id .call (.fn (.func f) first capt::args) h K :=
 ⟨[],sn,true,args',[],res,[],by simp,by simp,fun _=>hnp,by rw [List.zipIdx_nil,hw]; exact zdq _,rfl,hc,by simp,.inl rfl,by simpa using hk⟩
end
abbrev seqF (l : List Int) : AV:=.fn (.func zcr) [] [.pv [ints l]]
theorem ztu (l : List Int) : zak Tryz.prog zcX [ints l] [] (seqF l) []:=by
 refine zgP.acalls (nbz rfl) (nbz rfl) (Nat.le_refl _) ?_
 show awp _ 0 _ _ ⟨4,[(0,ints l)],[],16⟩
 refine rk (s:=?s1) [1] [16] rfl ?o1 ?q1
 case o1=>simp; rfl
 refine rk (s:=?s2) [2] [16] rfl ?o2 ?q2
 case o2=>simp; rfl
 refine zag ?_
 exact ⟨.inr rfl,zan.out [] [16] rfl (by simp) (by simp) (by simp) (by simp)⟩
theorem zsj (l : List Int) (hl : l.length≤1099511627776) : zak Tryz.prog zdW [seqF l] [] (.rs 0 0 l.length) [some ⟨1,zai l,0⟩]:=by
 refine ziW.acalls (nbz rfl) (nbz rfl) (Nat.zero_le _) ?_
 show awp _ 0 _ _ ⟨5,[(0,seqF l)],[],16⟩
 refine rk (s:=?s1) [0] [] rfl ?o1 ?q1
 case o1=>simp; rfl
 refine rk (s:=?s2) [2] [32] rfl ?o2 ?q2
 case o2 =>
  simp
  refine zcq (zpY l hl) (by simp) ?_
  simp [fcd]
  rfl
 refine zag ?_
 exact ⟨.inr rfl,zan.out [32] [] rfl (by simp) (by simp) (by simp) (by simp [fcd])⟩
theorem zsZ (l : List Int) (hl : l.length≤1099511627776) : zak Tryz.prog zda [seqF l] [] (.rs 0 0 l.length) [some ⟨1,zai (zh0 l),0⟩]:=by
 refine zjc.acalls (nbz rfl) (nbz rfl) (Nat.zero_le _) ?_
 show awp _ 0 _ _ ⟨9,[(0,seqF l)],[],16⟩
 refine rk (s:=?s1) [0] [] rfl ?o1 ?q1
 case o1=>simp; rfl
 refine rk (s:=?s2) [3] [32] rfl ?o2 ?q2
 case o2 =>
  simp
  refine zcq (zsj l hl) (by simp) ?_
  simp [fcd]
  rfl
 refine rk (s:=?s3) [3] [32] rfl ?o3 ?q3
 case o3 =>
  simp
  refine zcJ (i:=32) rfl (e':=⟨1,zf0 l,0⟩) (by simp [fcd,zf0]) (ztl l (by omega)) (by simp) (by simp) ?_
  simp [fcd,zf0]
  rfl
 refine rk (s:=?s4) [2] [32] rfl ?o4 ?q4
 case o4=>simp; rfl
 refine zag ?_
 exact ⟨.inr rfl,zan.out [32] [] rfl (by simp) (by simp) (by simp) (by simp [fcd])⟩
section
variable {P : Program} {np id : Nat} {h : Nat→Option Ent} {K : AV→List Nat→List (Nat × Option Ent)→Prop} {s s' l k : Nat} {f : Bool} {rows : List (List AV)}
@[simp] theorem zzh : aK P np id (.slc s true true false) [.vs s' f rows,.sc (.int .i64 (l : Int)),.sc (.int .i64 (k : Int))] h K=(l≤k∧k≤rows.length∧s'=s∧K (.vs s false ((rows.drop l).take (k - l))) [] []):=by
 rw [zl9]
 refine propext ⟨?_,?_⟩
 ·rintro ⟨l',r,m,n,h1,h2,h4,h5,h6,h7,h3,h10,h8,h9⟩
  simp at h4 h1
  subst h1
  obtain ⟨rfl,rfl⟩ : l=l'∧k=r:=by omega
  exact ⟨h2,h3,h8,by simpa using h9⟩
 ·rintro ⟨h1,h2,h3,h4⟩
  exact ⟨l,k,0,rows.length,rfl,h1,by simp,(fun h=>by cases h),(fun h=>by cases h),(fun h=>by cases h),h2,(fun h=>by cases h),h3,by simpa using h4⟩
end
theorem zmi {g : Gr} {p : Pol} {n : Int} (hp : zbl n p) : ∀ c∈zaz g p,0≤c∧c≤1000:=by
 intro c hc
 obtain ⟨d,_,rfl⟩:=List.mem_map.1 hc
 exact ziT hp d
abbrev nC (n : Net) : List AV:=[.I n.nodes,eEs n.arcs]
abbrev eN (n : Net) : AV:=.agg (nC n)
theorem zoa (f : FuncId) (capt : List AV) (q : Ed→Bool) (l : List Ed) (hl : l.length≤1099511627776) (hs : zk2 capt) (hc : ∀ e∈l,zak Tryz.prog f (eE e::capt) [] (.B (q e)) []) : zak Tryz.prog za4 [eEs l,.fn (.func f) [] capt] [] (.I (idxQ l q)) []:=by
 have hs2 : ∀ ρ sn h,capt.map (conv ρ sn h 2)=capt:=fun _ _ _=>hs _ _ _ 1
 have hs3 : ∀ ρ sn h,capt.map (conv ρ sn h 3)=capt:=fun _ _ _=>hs _ _ _ 2
 have hs4 : ∀ ρ sn h,capt.map (conv ρ sn h 4)=capt:=fun _ _ _=>hs _ _ _ 3
 refine zco.acalls (nbz rfl) (nbz rfl) (Nat.le_refl _) ?_
 show awp _ 0 _ _ ⟨19,[(0,eEs l),(1,.fn (.func f) [] capt)],[],16⟩
 refine zaa ?_
 refine zac (s:=?s1) rfl ?o1 ?q1
 case o1=>simp; rfl
 refine zaa ?_
 refine zaa ?_
 refine zac (s:=?s2) rfl ?o2 ?q2
 case o2=>simp; rfl
 refine zah ?_
 refine zav (ι:=Nat) (fun k=>⟨19,[(0,eEs l),(1,.fn (.func f) [] capt),(7,.I l.length),(8,.I k)],[],16⟩) (fun k=>k≤l.length ∧ ∀ i,i<k → ∀ h : i<l.length,q l[i]=false) (fun k=>l.length - k) (0) ?_ (Le.snap [] rfl rfl (by simp [hs2,hs3,hs4])) ?_
 ·simp
 rintro k ⟨hk,hp⟩
 refine zaa ?_
 refine zac (s:=?s3) rfl ?o3 ?q3
 case o3=>simp; rfl
 refine zaa ?_
 refine zae _ rfl (fun h4=>?_) fun h4=>?_
 ·try simp at h4
  have hw2 : IntKind.i64.wrap ((k : Int)+1)=(k : Int)+1:=w64 (by omega) (by omega)
  have hck:=hc l[k] (List.getElem_mem h4)
  refine zaf ?_
  refine zaa ?_
  refine zah ?_
  refine zaa ?_
  refine zac (s:=?s5) rfl ?o5 ?q5
  case o5=>simp [h4,hw2]; rfl
  refine zaa ?_
  refine zac (s:=?s6) rfl ?o6 ?q6
  case o6 =>
   simp [h4,hw2]
   refine zaq hck ?_ ?_
   ·simp [hs2,hs3,hs4]
   simp [h4,hw2]; rfl
  refine zae _ rfl (fun h7=>?_) fun h7=>?_
  ·try simp at h7
   refine zaa ?_
   refine zac (s:=?s8) rfl ?o8 ?q8
   case o8=>simp [h4,hw2]; rfl
   refine zag ?_
   exact ⟨.inr rfl,zan.one (by simp [zqG h4 hp h7])⟩
  try simp at h7
  refine zaf ?_
  refine zac (s:=?s9) rfl ?o9 ?q9
  case o9=>simp [h4,hw2]; rfl
  refine ⟨k+1,⟨h4,fun i hi=>?_⟩,by omega,Le.snap [] rfl rfl (by simp [h4,hw2,hs2,hs3,hs4])⟩
  rcases Nat.lt_succ_iff_lt_or_eq.1 hi with h | rfl
  ·exact hp i h
  ·exact fun _=>h7
 try simp at h4
 have hall : ∀ i,i<l.length → ∀ h : i<l.length,q l[i]=false:=fun i hi=>hp i (by omega)
 refine zas ?_
 refine hit ?_
 refine zaa ?_
 refine zac (s:=?s10) rfl ?o10 ?q10
 case o10=>simp; rfl
 refine zag ?_
 exact ⟨.inr rfl,zan.one (by simp [zqQ hall])⟩
theorem zkK (f : FuncId) (capt : List AV) (q : Ed→Bool) (l : List Ed) (hl : l.length≤1099511627776) (hs : zk2 capt) (hc : ∀ e∈l,zak Tryz.prog f (eE e::capt) [] (.B (q e)) []) : zak Tryz.prog zaW [eEs l,.fn (.func f) [] capt] [] (.B (l.any q)) []:=by
 have hs2 : ∀ ρ sn h,capt.map (conv ρ sn h 2)=capt:=fun _ _ _=>hs _ _ _ 1
 have hs3 : ∀ ρ sn h,capt.map (conv ρ sn h 3)=capt:=fun _ _ _=>hs _ _ _ 2
 have hs4 : ∀ ρ sn h,capt.map (conv ρ sn h 4)=capt:=fun _ _ _=>hs _ _ _ 3
 refine zb3.acalls (nbz rfl) (nbz rfl) (Nat.le_refl _) ?_
 show awp _ 0 _ _ ⟨9,[(0,eEs l),(1,.fn (.func f) [] capt)],[],16⟩
 refine zaa ?_
 refine zac (s:=?s1) rfl ?o1 ?q1
 case o1=>simp; rfl
 have hi : decide (0≤idxQ l q)=l.any q:=by
  unfold idxQ
  by_cases h : l.findIdx q<l.length
  ·rw [if_pos h]
   have:=List.findIdx_getElem (w:=h)
   have h2 : l.any q=true:=List.any_eq_true.2 ⟨_,List.getElem_mem h,this⟩
   rw [h2]
   simp
  ·rw [if_neg h]
   have : l.findIdx q=l.length:=by have:=List.findIdx_le_length (xs:=l) (p:=q); omega
   rw [List.findIdx_eq_length] at this
   have h2 : l.any q=false:=by
    rw [List.any_eq_false]
    intro x hx
    simp [this x hx]
   rw [h2]
   simp
 refine zab ⟨9,[(4,.B (l.any q))],[],16⟩ rfl ?_ ?_
 ·simp
  refine zaq (zoa f capt q l hl hs hc) ?_ ?_
  ·simp [hs2,hs3,hs4]
  simp
  exact Le.snap [] rfl rfl (by simp; exact wkB hi)
 refine zag ?_
 exact ⟨.inr rfl,zan.one (by simp)⟩
theorem zkM (n : Net) (a : Ed) (h2 : 2≤n.nodes) (h3 : n.nodes≤130) : zak Tryz.prog zdA [eE a,.pv (nC n)] [] (.B (!decide (zo2 n.nodes a))) []:=by
 refine ziu.acalls (nbz rfl) (nbz rfl) (Nat.le_refl _) ?_
 show awp _ 0 _ _ ⟨43,[(0,eE a),(1,.pv (nC n))],[],16⟩
 have hw : IntKind.i64.wrap (n.nodes - 1)=n.nodes - 1:=w64 (by omega) (by omega)
 refine rx (s:=?s1) [1,2] [] [16] rfl ?o1 ?q1
 case o1=>simp; rfl
 refine zab ⟨43,[(3,.B (!decide (zo2 n.nodes a)))],[],400⟩ rfl ?_ ?_
 ·simp [hw]
  repeat' first
   | (refine zgm zaC rfl ?_; refine zaq (zcb ..) rfl ?_; simp [hw])
   | (refine zgF (fun hb=>?_) (fun hb=>?_) <;> (try rw [hb]) <;> (try simp at hb) <;> simp [hb,hw])
  all_goals exact Le.snap [] rfl rfl (by simp <;> exact wkB (by (try simp at *); grind [zo2]))
 refine zag ?_
 exact ⟨.inr rfl,zan.one (by simp)⟩
theorem zjE (n : Net) (hl : n.arcs.length≤1099511627776) : zak Tryz.prog zfI [eN n] [] (.I (if zdd n then 0 else 16)) []:=by
 refine zlG.acalls (nbz rfl) (nbz rfl) (Nat.le_refl _) ?_
 show awp _ 0 _ _ ⟨21,[(0,eN n)],[],16⟩
 refine rx (s:=?s1) [1] [] [16] rfl ?o1 ?q1
 case o1=>simp; rfl
 refine rx (s:=?s2) [1,3] [] [] rfl ?o2 ?q2
 case o2=>simp; rfl
 refine zaa ?_
 refine zab ⟨21,[(20,.B (!decide (zdd n)))],[],300⟩ rfl ?_ ?_
 ·by_cases h2 : 2≤n.nodes∧n.nodes≤130
  ·have hcf:=zkK zdA [.pv (nC n)] (fun a=>!decide (zo2 n.nodes a)) n.arcs hl (fun ρ sn h k=>by simp) (fun e _=>zkM n e h2.1 h2.2)
   simp
   refine zaq (zcb ..) rfl ?_
   simp [h2]
   by_cases h3 : n.arcs.length≤1200
   ·simp [show ¬ (1200<n.arcs.length) by omega,show ¬ (1200<(n.arcs.length : Int)) by omega]
    refine zaq hcf (by simp) ?_
    simp
    refine Le.snap [] rfl rfl (by simp <;> exact wkB (by rw [Bool.eq_iff_iff]; simp [zdd,h2,h3]))
   ·simp [show (1200<n.arcs.length) by omega,show (1200<(n.arcs.length : Int)) by omega]
    refine Le.snap [] rfl rfl (by simp [zdd,h3])
  ·simp
   refine zaq (zcb ..) rfl ?_
   have h2' : (decide (2≤n.nodes) && decide (n.nodes≤130))=false:=by simpa using fun h=>by omega
   simp [h2']
   have hn : ¬ zdd n:=fun h=>h2 ⟨h.1,h.2.1⟩
   refine Le.snap [] rfl rfl (by simp [hn])
 refine zae _ rfl (fun h7=>?_) fun h7=>?_
 ·simp at h7
  refine rx (s:=?s8) [2] [] [] rfl ?o8 ?q8
  case o8=>simp; rfl
  refine zag ?_
  exact ⟨.inr rfl,zan.one (by simp [h7])⟩
 simp at h7
 refine zaf ?_
 refine rx (s:=?s9) [2] [] [] rfl ?o9 ?q9
 case o9=>simp; rfl
 refine zag ?_
 exact ⟨.inr rfl,zan.one (by simp [h7])⟩
section
variable {P : Program} {np id : Nat} {h : Nat→Option Ent} {K : AV→List Nat→List (Nat × Option Ent)→Prop} {f : FuncId} {first capt args args' : List AV} {res : AV}
theorem zi7 {i j : Nat} {e1 e2 e1' e2' : Ent} {hs' : List (Option Ent)} (hij : i≠j) (h1 : h i=some e1) (h2 : h j=some e2) (he1 : zau [(i,0),(j,1)] [] h 4 e1=e1') (he2 : zau [(i,0),(j,1)] [] h 4 e2=e2')
  (hc : zak P f args' [e1',e2'] res hs') (h8 : hs'.length≤10) (he : (first++args++capt).map (conv [(i,0),(j,1)] [] h 4)=args')
  (hk : K (conv (swp [i,j] id) [] (fun _=>none) 4 res) [i,j] (hs'.zipIdx.map fun (e,k)=>((i::j::(List.range 8).map (id + ·)).getD k 0,e.map (zau (swp [i,j] id) [] (fun _=>none) 4)))) : aK P np id .call (.fn (.func f) first capt::args) h K :=
 ⟨[i,j],[],true,args',[e1',e2'],res,hs',by simp [hij],by simp,by simp,by rw [show [i,j].zipIdx=[(i,0),(j,1)] from rfl,he]; exact zdq _,by
  rw [show [i,j].zipIdx=[(i,0),(j,1)] from rfl]
  simp only [List.map_cons,List.map_nil,h1,h2,Option.map_some,he1,he2],hc,by simpa using h8,.inl rfl,by simpa [swp] using hk⟩
end
theorem zc2 (k : Int) (h : 0≤k) (h2 : k≤1000000) : zak Tryz.prog zcL [.I k] [] (.I (2+2*k)) []:=by
 refine zoS.acalls (nbz rfl) (nbz rfl) (Nat.le_refl _) ?_
 show awp _ 0 _ _ ⟨6,[(0,.I k)],[],16⟩
 have hw1 : IntKind.i64.wrap (2*k)=2*k:=w64 (by omega) (by omega)
 have hw2 : IntKind.i64.wrap (2+2*k)=2+2*k:=w64 (by omega) (by omega)
 refine rx (s:=?s1) [0] [] [] rfl ?o1 ?q1
 case o1=>simp; rfl
 refine rx (s:=?s2) [2] [] [] rfl ?o2 ?q2
 case o2=>simp [hw1,hw2]; rfl
 refine zag ?_
 exact ⟨.inr rfl,zan.one (by simp)⟩
theorem zjH (k : Int) (h : 0≤k) (h2 : k≤1000000) : zak Tryz.prog zg6 [.I k] [] (.I (3+2*k)) []:=by
 refine zp5.acalls (nbz rfl) (nbz rfl) (Nat.le_refl _) ?_
 show awp _ 0 _ _ ⟨_,[(0,.I k)],[],16⟩
 have hw2 : IntKind.i64.wrap (2+2*k+1)=3+2*k:=by rw [w64 (by omega) (by omega)]; omega
 refine rx (s:=?s1) [0] [] [] rfl ?o1 ?q1
 case o1=>simp; rfl
 refine rx (s:=?s2) [2] [] [] rfl ?o2 ?q2
 case o2=>simp; refine zaq (zc2 k h h2) (by simp) ?_; simp [hw2]; rfl
 refine zag ?_
 exact ⟨.inr rfl,zan.one (by simp)⟩
abbrev outV (N : Int) (B n : Nat) : Ent:=⟨2,[[.I N,.rs B 0 n]],0⟩
theorem zrp (N f t v : Int) (L : List Ed) (n : Nat) (hL : L.length=n) (hn : n≤1000000) : zak Tryz.prog zaI [.I f,.I t,.I v,.pt 0 0 0] [outV N 1 n,⟨3,za3 L,0⟩] (.tup []) [some (outV N 2 (n+1)),none,some ⟨3,za3 (L++[⟨f,t,v⟩]),0⟩]:=by
 refine zko.acalls (nbz rfl) (nbz rfl) (nbz rfl) ?_
 show awp _ 2 _ _ ⟨16,[(0,.I f),(1,.I t),(2,.I v),(3,.pt 0 0 0)],[(0,some (outV N 1 n)),(1,some ⟨3,za3 L,0⟩)],16⟩
 have htl : ∀ f : Ed→List AV,List.take n (List.map f L)=List.map f L:=fun f=>List.take_of_length_le (by simp [hL])
 refine zac (s:=?s1) rfl ?o1 ?q1
 case o1=>simp [hL,htl]; refine ⟨by omega,by omega,?_⟩; rfl
 refine ⟨.inl rfl,⟨[],rfl,[72],[],by simp [List.range,List.range.loop],by simp,by simp,by simp,?_⟩⟩
 simp [List.range,List.range.loop]
end Go.Proofs.YtkngdgplbojdlaaGreat
