/- Texts of this claim,merged. -/
import Derived.Test.YtkngdgplbojdlaaGreatRx12
import Derived.Test.YtkngdgplbojdlaaGreatRx10
import Derived.Test.YtkngdgplbojdlaaGreatRx7
set_option linter.unusedSimpArgs false
set_option linter.unusedVariables false
set_option linter.unusedSectionVars false
namespace Go.Proofs.YtkngdgplbojdlaaGreat
open Go
abbrev nC (n : Net) : List AV:=[.I n.nodes,eEs n.arcs]
abbrev eN (n : Net) : AV:=.agg (nC n)
theorem zoM (f : FuncId) (capt : List AV) (q : Ed->Bool) (l : List Ed) (hl : l.length<=1099511627776) (hs : zlI capt) (hc : ∀ e∈l,zaj Tryz.prog f (eE e::capt) [] (.B (q e)) []) : zaj Tryz.prog za8 [eEs l,.fn (.func f) [] capt] [] (.I (idxQ l q)) []:=by
 have hs2 : ∀ ρ sn h,capt.map (conv ρ sn h 2)=capt:=λ _ _ _=>hs _ _ _ 1
 have hs3 : ∀ ρ sn h,capt.map (conv ρ sn h 3)=capt:=λ _ _ _=>hs _ _ _ 2
 have hs4 : ∀ ρ sn h,capt.map (conv ρ sn h 4)=capt:=λ _ _ _=>hs _ _ _ 3
 refine zcs.ac ?_;show awp _ 0 _ _ ⟨19,[(0,eEs l),(1,.fn (.func f) [] capt)],[],16⟩;refine zab ?_;refine zan ?_;refine zab ?_;refine zab ?_;refine zan ?_;refine zaf ?_;refine zas (ι:=Nat) (λ k=>⟨19,[(0,eEs l),(1,.fn (.func f) [] capt),(7,.I l.length),(8,.I k)],[],16⟩) (λ k=>k<=l.length /\ ∀ i,i<k -> ∀ h : i<l.length,q l[i]=false) (λ k=>l.length - k) (0) ?_ (Le.snap [] rfl rfl (by simp [hs2,hs3,hs4])) ?_
 .simp
 rintro k ⟨hk,hp⟩
 refine zab ?_;refine zan ?_;refine zab ?_;refine zad _ rfl (λ h4=>?_) λ h4=>?_
 .try simp at h4
  have hw2 : IntKind.i64.wrap ((k : Int)+1)=(k : Int)+1:=w6;have hck:=hc l[k] (List.getElem_mem h4);refine zae ?_;refine zab ?_;refine zaf ?_;refine zab ?_;refine zar (s:=?s5) rfl ?o5 ?q5
  case o5=>simp [h4,hw2]; rfl
  refine zab ?_;refine zar (s:=?s6) rfl ?o6 ?q6
  case o6 =>
   simp [h4,hw2];refine zap hck ?_ ?_
   .simp [hs2,hs3,hs4]
   simp [h4,hw2]; rfl
  refine zad _ rfl (λ h7=>?_) λ h7=>?_
  .try simp at h7
   refine zab ?_;refine zar (s:=?s8) rfl ?o8 ?q8
   case o8=>simp [h4,hw2]; rfl
   refine zai ?_;exact ⟨.inr rfl,zao.one (by simp [zrC h4 hp h7])⟩
  try simp at h7
  refine zae ?_;refine zar (s:=?s9) rfl ?o9 ?q9
  case o9=>simp [h4,hw2]; rfl
  refine ⟨k+1,⟨h4,λ i hi=>?_⟩,by omega,Le.snap [] rfl rfl (by simp [h4,hw2,hs2,hs3,hs4])⟩
  rcases Nat.lt_succ_iff_lt_or_eq.1 hi with h | rfl
  .exact hp i h
  .exact λ _=>h7
 try simp at h4
 have hall : ∀ i,i<l.length -> ∀ h : i<l.length,q l[i]=false:=λ i hi=>hp i (by omega)
 refine zaq ?_;refine hit ?_;refine zab ?_;refine zan ?_;refine zai ?_;exact ⟨.inr rfl,zao.one (by simp [zrF hall])⟩
theorem zln (f : FuncId) (capt : List AV) (q : Ed->Bool) (l : List Ed) (hl : l.length<=1099511627776) (hs : zlI capt) (hc : ∀ e∈l,zaj Tryz.prog f (eE e::capt) [] (.B (q e)) []) : zaj Tryz.prog za2 [eEs l,.fn (.func f) [] capt] [] (.B (l.any q)) []:=by
 have hs2 : ∀ ρ sn h,capt.map (conv ρ sn h 2)=capt:=λ _ _ _=>hs _ _ _ 1
 have hs3 : ∀ ρ sn h,capt.map (conv ρ sn h 3)=capt:=λ _ _ _=>hs _ _ _ 2
 have hs4 : ∀ ρ sn h,capt.map (conv ρ sn h 4)=capt:=λ _ _ _=>hs _ _ _ 3
 refine zb9.ac ?_;show awp _ 0 _ _ ⟨9,[(0,eEs l),(1,.fn (.func f) [] capt)],[],16⟩;refine zab ?_;refine zan ?_
 have hi : decide (0<=idxQ l q)=l.any q:=by
  unfold idxQ
  by_cases h : l.findIdx q<l.length
  .rw [if_pos h]
   have:=List.findIdx_getElem (w:=h);have h2 : l.any q=true:=List.any_eq_true.2 ⟨_,List.getElem_mem h,this⟩;rw [h2];simp
  .rw [if_neg h]
   have : l.findIdx q=l.length:=by have:=List.findIdx_le_length (xs:=l) (p:=q); omega
   rw [List.findIdx_eq_length] at this
   have h2 : l.any q=false:=by
    rw [List.any_eq_false];intro x hx;simp [this x hx]
   rw [h2];simp
 refine zaa ⟨9,[(4,.B (l.any q))],[],16⟩ rfl ?_ ?_
 .simp
  refine zap (zoM f capt q l hl hs hc) ?_ ?_
  .simp [hs2,hs3,hs4]
  simp;exact Le.snap [] rfl rfl (by simp; exact wkB hi)
 refine zai ?_;exact ⟨.inr rfl,zao.one (by simp)⟩
theorem zly (n : Net) (a : Ed) (h2 : 2<=n.nodes) (h3 : n.nodes<=130) : zaj Tryz.prog zdK [eE a,.pv (nC n)] [] (.B (!decide (zmb n.nodes a))) []:=by
 refine zi4.ac ?_;show awp _ 0 _ _ ⟨43,[(0,eE a),(1,.pv (nC n))],[],16⟩;have hw : IntKind.i64.wrap (n.nodes - 1)=n.nodes - 1:=w6;refine rs [1,2] [] [16] ?_;refine zaa ⟨43,[(3,.B (!decide (zmb n.nodes a)))],[],400⟩ rfl ?_ ?_
 .simp [hw]
  repeat' first
   | (refine zf4 zaF rfl ?_; refine zap (zcl ..) rfl ?_; simp [hw])
   | (refine zem (λ hb=>?_) (λ hb=>?_) <;> (try rw [hb]) <;> (try simp at hb) <;> simp [hb,hw])
  all_goals exact Le.snap [] rfl rfl (by simp <;> exact wkB (by (try simp at *); grind [zmb]))
 refine zai ?_;exact ⟨.inr rfl,zao.one (by simp)⟩
theorem zkg (n : Net) (hl : n.arcs.length<=1099511627776) : zaj Tryz.prog zf1 [eN n] [] (.I (if zbX n then 0 else 16)) []:=by
 refine znj.ac ?_;show awp _ 0 _ _ ⟨21,[(0,eN n)],[],16⟩;refine rs [1] [] [16] ?_;refine rs [1,3] [] [] ?_;refine zab ?_;refine zaa ⟨21,[(20,.B (!decide (zbX n)))],[],300⟩ rfl ?_ ?_
 .by_cases h2 : 2<=n.nodes/\n.nodes<=130
  .have hcf:=zln zdK [.pv (nC n)] (λ a=>!decide (zmb n.nodes a)) n.arcs hl (λ ρ sn h k=>by simp) (λ e _=>zly n e h2.1 h2.2)
   simp;refine zap (zcl ..) rfl ?_;simp [h2]
   by_cases h3 : n.arcs.length<=1200
   .simp [show ¬ (1200<n.arcs.length) by omega,show ¬ (1200<(n.arcs.length : Int)) by omega]
    refine zap hcf (by simp) ?_
    simp;refine Le.snap [] rfl rfl (by simp <;> exact wkB (by rw [Bool.eq_iff_iff]; simp [zbX,h2,h3]))
   .simp [show (1200<n.arcs.length) by omega,show (1200<(n.arcs.length : Int)) by omega]
    refine Le.snap [] rfl rfl (by simp [zbX,h3])
  .simp
   refine zap (zcl ..) rfl ?_;have h2' : (decide (2<=n.nodes) && decide (n.nodes<=130))=false:=by simpa using λ h=>by omega
   simp [h2'];have hn : ¬ zbX n:=λ h=>h2 ⟨h.1,h.2.1⟩;refine Le.snap [] rfl rfl (by simp [hn])
 refine zad _ rfl (λ h7=>?_) λ h7=>?_
 .simp at h7
  refine rs [2] [] [] ?_;refine zai ?_;exact ⟨.inr rfl,zao.one (by simp [h7])⟩
 simp at h7;refine zae ?_;refine rs [2] [] [] ?_;refine zai ?_;exact ⟨.inr rfl,zao.one (by simp [h7])⟩
def zsD (n : Net) : Prop:=(2<=n.nodes/\n.nodes<=130)/\n.arcs.length<=1200
def zvi (n : Net) (i : Nat) : Prop:=∀ h : i<n.arcs.length,zmb n.nodes n.arcs[i]
theorem zkL {n : Net} : zbX n↔zsD n /\ ∀ i,zvi n i:=by
 unfold zbX zsD zvi;constructor
 .rintro ⟨a,b,c,d⟩
  exact ⟨⟨⟨a,b⟩,c⟩,λ i h=>d _ (List.getElem_mem h)⟩
 .rintro ⟨⟨⟨a,b⟩,c⟩,d⟩
  exact ⟨a,b,c,λ x hx=>by obtain ⟨i,hi,rfl⟩:=List.getElem_of_mem hx; exact d i hi⟩
set_option maxRecDepth 100000 in
open Classical in
theorem zi7 (n : Net) (hl : n.arcs.length<=1099511627776) : zaj Tryz.prog zgl [eN n] [] (.I (if zbX n then 0 else 16)) []:=by
 refine zp2.ac ?_;show awp _ 0 _ _ ⟨80,[(0,eN n)],[],16⟩;refine rs [1] [] [16] ?_;refine zab ?_;refine zaa ⟨80,[(1,.pv (nC n)),(18,.B (!decide (zsD n)))],[],300⟩ rfl ?_ ?_
 .simp
  repeat' first
   | (refine zem (λ hb=>?_) (λ hb=>?_) <;> (try rw [hb]) <;> (try simp at hb) <;> simp [hb])
  all_goals exact Le.snap [] rfl rfl (by simp <;> exact wkB (by (try simp at *); grind [zsD]))
 refine zad _ rfl (λ h3=>?_) λ h3=>?_
 .simp at h3
  refine rs [2] [] [] ?_;refine zai ?_;exact ⟨.inr rfl,zao.one (by simp [zkL,h3])⟩
 simp at h3;refine zae ?_;refine zab ?_;refine rs [1,3] [] [] ?_;refine zaf ?_;refine zas (ι:=Nat) (λ i=>⟨80,[(1,.pv (nC n)),(3,.I i)],[],308⟩) (λ i=>i<=n.arcs.length /\ ∀ k,k<i->zvi n k) (λ i=>n.arcs.length - i) 0 (by simp) (LeH [] []) ?_
 rintro i ⟨hi,hp⟩
 refine zab ?_;refine rs [1,3,23] [] [] ?_;refine zad _ rfl (λ h7=>?_) λ h7=>?_
 .simp at h7
  have hw : IntKind.i64.wrap ((i : Int)+1)=(i : Int)+1:=w6;refine zae ?_;refine zab ?_;refine zaf ?_;refine zaa ⟨80,[(1,.pv (nC n)),(3,.I i),(4,.pv (eC n.arcs[i]))],[],408⟩ rfl ?_ ?_
  .simp [h7]
   exact Le.snap [388] rfl rfl (by simp)
  refine zaa ⟨80,[(1,.pv (nC n)),(3,.I i),(79,.B (!decide (zvi n i)))],[],900⟩ rfl ?_ ?_
  .simp
   have hat : zvi n i↔zmb n.nodes n.arcs[i]:=⟨λ h=>h h7,λ h _=>h⟩
   repeat' first
    | (refine zem (λ hb=>?_) (λ hb=>?_) <;> (try rw [hb]) <;> (try simp at hb) <;> simp [hb])
   all_goals exact Le.snap [] rfl rfl (by simp <;> exact wkB (by (try simp at *); simp only [hat]; grind [zmb]))
  refine zad _ rfl (λ h9=>?_) λ h9=>?_
  .refine rs [2] [] [] ?_
   refine zai ?_;have hn : ¬ zbX n:=λ h=>by simp at h9; exact h9 ((zkL.1 h).2 i)
   exact ⟨.inr rfl,zao.one (by simp [hn])⟩
  simp at h9;refine zae ?_;refine zan ?_;refine ⟨i+1,⟨h7,λ k hk=>?_⟩,by omega,Le.go [] [] rfl rfl (by simp [hw]) (by simp)⟩
  rcases Nat.lt_succ_iff_lt_or_eq.1 hk with h | rfl
  .exact hp k h
  .exact h9
 simp at h7;have hy : zbX n:=zkL.2 ⟨h3,λ k hk=>hp k (by omega) hk⟩
 refine zaq ?_;refine hit ?_;refine rs [2] [] [] ?_;refine zai ?_;exact ⟨.inr rfl,zao.one (by simp [hy])⟩
section
variable {P : Program} {np id : Nat} {h : Nat->Option Ent} {K : AV->List Nat->List (Nat × Option Ent)->Prop} {f : FuncId} {first capt args args' : List AV} {res : AV}
theorem zjX {i j : Nat} {e1 e2 e1' e2' : Ent} {hs' : List (Option Ent)} (hij : i≠j) (h1 : h i=some e1) (h2 : h j=some e2) (he1 : zay [(i,0),(j,1)] [] h 4 e1=e1') (he2 : zay [(i,0),(j,1)] [] h 4 e2=e2')
  (hc : zaj P f args' [e1',e2'] res hs') (h8 : hs'.length<=10) (he : (first++args++capt).map (conv [(i,0),(j,1)] [] h 4)=args')
  (hk : K (conv (swp [i,j] id) [] (λ _=>none) 4 res) [i,j] (hs'.zipIdx.map λ (e,k)=>((i::j::(List.range 8).map (id + ·)).getD k 0,e.map (zay (swp [i,j] id) [] (λ _=>none) 4)))) : aK P np id .call (.fn (.func f) first capt::args) h K :=
 ⟨[i,j],[],true,args',[e1',e2'],res,hs',by simp [hij],by simp,by simp,by rw [show [i,j].zipIdx=[(i,0),(j,1)] from rfl,he]; exact zdy _,by
  rw [show [i,j].zipIdx=[(i,0),(j,1)] from rfl]
  simp only [List.map_cons,List.map_nil,h1,h2,Option.map_some,he1,he2],hc,by simpa using h8,.inl rfl,by simpa [swp] using hk⟩
end
theorem zc8 (k : Int) (h : 0<=k) (h2 : k<=1000000) : zaj Tryz.prog zcR [.I k] [] (.I (2+2*k)) []:=by
 refine zpV.ac ?_;show awp _ 0 _ _ ⟨6,[(0,.I k)],[],16⟩;have hw1 : IntKind.i64.wrap (2*k)=2*k:=w6;have hw2 : IntKind.i64.wrap (2+2*k)=2+2*k:=w6;refine rs [0] [] [] ?_;refine rx (s:=?s2) [2] [] [] rfl ?o2 ?q2
 case o2=>simp [hw1,hw2]; rfl
 refine zai ?_;exact ⟨.inr rfl,zao.one (by simp)⟩
theorem zkt (k : Int) (h : 0<=k) (h2 : k<=1000000) : zaj Tryz.prog zhc [.I k] [] (.I (3+2*k)) []:=by
 refine zrj.ac ?_;show awp _ 0 _ _ ⟨_,[(0,.I k)],[],16⟩;have hw2 : IntKind.i64.wrap (2+2*k+1)=3+2*k:=by rw [w6]; omega
 refine rs [0] [] [] ?_;refine rx (s:=?s2) [2] [] [] rfl ?o2 ?q2
 case o2=>simp; refine zap (zc8 k h h2) (by simp) ?_; simp [hw2]; rfl
 refine zai ?_;exact ⟨.inr rfl,zao.one (by simp)⟩
theorem ze2 (k : Int) (h : 0<=k) (h2 : k<=1000000) : zaj Tryz.prog zec [.I k] [] (.I (2+2*k)) []:=by
 refine zq7.ac ?_;show awp _ 0 _ _ ⟨_,[(0,.I k)],[],16⟩;have hw1 : IntKind.i64.wrap (2*k)=2*k:=w6;have hw2 : IntKind.i64.wrap (2+2*k)=2+2*k:=w6;refine rs [0] [] [] ?_;refine rx (s:=?s2) [2] [] [] rfl ?o2 ?q2
 case o2=>simp [hw1,hw2]; rfl
 refine zai ?_;exact ⟨.inr rfl,zao.one (by simp)⟩
theorem zj4 (k : Int) (h : 0<=k) (h2 : k<=1000000) : zaj Tryz.prog zhE [.I k] [] (.I (3+2*k)) []:=by
 refine zse.ac ?_;show awp _ 0 _ _ ⟨_,[(0,.I k)],[],16⟩;have hw1 : IntKind.i64.wrap (2*k)=2*k:=w6;have hw2 : IntKind.i64.wrap (3+2*k)=3+2*k:=w6;refine rs [0] [] [] ?_;refine rx (s:=?s2) [2] [] [] rfl ?o2 ?q2
 case o2=>simp [hw1,hw2]; rfl
 refine zai ?_;exact ⟨.inr rfl,zao.one (by simp)⟩
abbrev outV (N : Int) (B n : Nat) : Ent:=⟨2,[[.I N,.rs B 0 n]],0⟩
theorem zs4 (N f t v : Int) (L : List Ed) (n : Nat) (hL : L.length=n) (hn : n<=1000000) : zaj Tryz.prog zaP [.I f,.I t,.I v,.pt 0 0 0] [outV N 1 n,⟨3,zaT L,0⟩] (.tup []) [some (outV N 2 (n+1)),none,some ⟨3,zaT (L++[⟨f,t,v⟩]),0⟩]:=by
 refine zkH.acalls (nbz rfl) (nbz rfl) (nbz rfl) ?_;show awp _ 2 _ _ ⟨16,[(0,.I f),(1,.I t),(2,.I v),(3,.pt 0 0 0)],[(0,some (outV N 1 n)),(1,some ⟨3,zaT L,0⟩)],16⟩;have htl : ∀ f : Ed->List AV,List.take n (List.map f L)=List.map f L:=λ f=>List.take_of_length_le (by simp [hL])
 refine zar (s:=?s1) rfl ?o1 ?q1
 case o1=>simp [hL,htl]; refine ⟨by omega,by omega,?_⟩; rfl
 refine ⟨.inl rfl,⟨[],rfl,[72],[],by simp [List.range,List.range.loop],by simp,by simp,by simp,?_⟩⟩
 simp [List.range,List.range.loop]
def arc1 (c : List Int) (x : Int) : List Ed:=if 0<c.getD x.toNat 0 then [⟨0,2+2*x,c.getD x.toNat 0⟩] else []
def arc2 (c : List Int) (i : Nat) : List Ed:=if 0<c.getD i 0 then [⟨2+2*(i : Int),3+2*(i : Int),c.getD i 0 - 1⟩] else []
def arc3 (c : List Int) (x : Int) : List Ed:=if 0<c.getD x.toNat 0 then [⟨2+2*x,1,1⟩] else []
def arc4 (c : List Int) (e : Ed) : List Ed:=if 0<c.getD e.f.toNat 0 then [⟨3+2*e.f,2+2*e.t,64⟩] else []
theorem zeC {α : Type} (q : α->Bool) (f : α->Ed) (l : List α) : (l.filter q).map f=l.flatMap λ x=>if q x=true then [f x] else []:=by
 induction l with
 | nil=>rfl
 | cons x l ih=>by_cases h : q x=true <;> simp [h,ih]
theorem zh9 (g : Gr) (p : Pol) (c sinks : List Int) : zbK g p c sinks=p.seeds.flatMap (arc1 c)++(List.range c.length).flatMap (arc2 c)++sinks.flatMap (arc3 c)++(zal g p.lv).edges.flatMap (arc4 c):=by
 unfold zbK;rw [zeC,zeC,zeC,zeC];simp only [decide_eq_true_eq];rfl
theorem zff {α : Type} (f : α->List Ed) (l : List α) (i : Nat) (h : i<l.length) : (l.take (i+1)).flatMap f=(l.take i).flatMap f++f l[i]:=by
 rw [List.take_succ_eq_append_getElem h,List.flatMap_append];simp
theorem zdv {α : Type} (f : α->List Ed) (hf : ∀ x,(f x).length<=1) (l : List α) : (l.flatMap f).length<=l.length:=by
 induction l with
 | nil=>simp
 | cons x l ih=>rw [List.flatMap_cons,List.length_append,List.length_cons]; have:=hf x; omega
theorem zjS (c : List Int) (x : Int) : (arc1 c x).length<=1:=by unfold arc1; split <;> simp
theorem zjM (c : List Int) (x : Nat) : (arc2 c x).length<=1:=by unfold arc2; split <;> simp
theorem zkb (c : List Int) (x : Int) : (arc3 c x).length<=1:=by unfold arc3; split <;> simp
theorem zkv (c : List Int) (x : Ed) : (arc4 c x).length<=1:=by unfold arc4; split <;> simp
theorem zcA {α : Type} (f : α->List Ed) (hf : ∀ x,(f x).length<=1) (l : List α) (i : Nat) : ((l.take i).flatMap f).length<=l.length:=Nat.le_trans (zdv f hf _) (List.length_take_le' i l)
set_option maxRecDepth 100000 in
set_option maxHeartbeats 4000000 in
theorem zlN (g : Gr) (p : Pol) (sinks : List Int) (hg : GrOk g) (hp : zbu g.size p) (hr : Rise sinks 0 (g.size - 1)) (hs : p.seeds.length<=64) (hsl : sinks.length<=64) :
  zaj Tryz.prog zgF [eG g,eP p,ints sinks] [] (.tup [eN ⟨2+2*g.size,zbK g p (zaQ g p) sinks⟩,.I 0]) []:=by
 refine znJ.ac ?_;show awp _ 0 _ _ ⟨123,[(0,eG g),(1,eP p),(2,ints sinks)],[],16⟩;have hsz:=hg.1.1;have hsz2:=hg.1.2.1;have hel:=hg.edges_le;have hgl:=hg.gone_le;have hchk:=zeO g p (by omega) (by omega) (by omega) (by have:=hp.2.2.2.1; omega)
 rw [if_pos hg,if_pos hp] at hchk;have hcap:=zng g p hg (by omega)
 have hcb:=znn (g:=g) hp;have hcl : (zaQ g p).length=g.size.toNat:=zcN;rw [<- hcl] at hcap;have hlev:=zgO g p.lv (by omega) (by omega)
 rw [zh9];obtain ⟨C,hC⟩ : ∃ C,C=zaQ g p:=⟨_,rfl⟩;rw [<- hC] at hcap hcl hcb ⊢;have hGe : ∀ e∈(zal g p.lv).edges,e∈g.edges:=λ e he=>(List.mem_filter.1 he).1;have hGl : (zal g p.lv).edges.length<=500:=Nat.le_trans (List.length_filter_le ..) hel;obtain ⟨G,hG⟩ : ∃ G,G=zal g p.lv:=⟨_,rfl⟩;rw [<- hG] at hlev hGe hGl ⊢;have hw1 : IntKind.i64.wrap (g.size - 1)=g.size - 1:=w6
 have hfit : ∀ e∈G.edges,(0<=e.f/\e.f<g.size)/\(0<=e.t/\e.t<g.size):=λ e he=>by
  have:=hg.fits e (hGe e he);unfold Fits at this;omega
 have hkey : ∀ k : Int,0<=k->k<g.size -> ∃ j : Nat,k=j/\j<C.length/\j<64:=λ k h0 h1=>⟨k.toNat,by omega,by omega,by omega⟩
 have hseed : ∀ k∈p.seeds,∃ j : Nat,k=j/\j<C.length/\j<64:=λ k hk=>by
  obtain ⟨i,hi,rfl⟩:=List.getElem_of_mem hk;have:=hp.2.1 i hi;exact hkey _ (by omega) (by omega)
 have hsink : ∀ k∈sinks,∃ j : Nat,k=j/\j<C.length/\j<64:=λ k hk=>by
  obtain ⟨i,hi,rfl⟩:=List.getElem_of_mem hk;have:=hr i hi;exact hkey _ (by omega) (by omega)
 refine zaa ⟨123,[(2,ints sinks),(3,.pv (gC g)),(4,.pv (pC p)),(6,.pt 32 0 0)],[(32,some ⟨2,[[.I 0,.nilS]],0⟩)],48⟩ rfl ?_ ?_
 .simp
  exact LeH [(32,32)] [16,24]
 refine zab ?_;refine rk (s:=?s2) [2,3,4,6,8] [32] rfl ?o2 ?q2
 case o2=>simp; refine zap hchk (by simp) ?_; simp; rfl
 refine rk (s:=?s3) [2,3,4,6,24] [32] rfl ?o3 ?q3
 case o3=>simp; rfl
 refine zad _ rfl (λ h4=>?_) λ h4=>zae ?_
 .simp at h4
 refine zab ?_;refine rk (s:=?s5) [2,3,4,6,32] [32] rfl ?o5 ?q5
 case o5=>simp [hw1]; refine zap (zf3 sinks 0 (g.size - 1) (by omega)) (by simp) ?_; simp [hr]; rfl
 refine zad _ rfl (λ h6=>?_) λ h6=>zae ?_
 .simp at h6
 refine rk (s:=?s7) [2,3,4,6,9] [32,176] rfl ?o7 ?q7
 case o7=>simp; refine zap (zc8 g.size hsz (by omega)) (by simp) ?_; simp; rfl
 obtain ⟨N,hN⟩ : ∃ N : Int,N=2+2*g.size:=⟨_,rfl⟩;simp only [<- hN];refine rk (s:=?s8) [2,3,4,6,9,10] [32,176] rfl ?o8 ?q8
 case o8=>simp; rfl
 refine zaa ⟨123,[(2,ints sinks),(3,.pv (gC g)),(4,.pv (pC p)),(6,.pt 32 0 0),(9,.pt 176 0 0),(10,.fn (.func zaP) [] [.pt 176 0 0]),(11,ints C)],[(32,some ⟨2,[[.I 0,.nilS]],0⟩),(176,some ⟨2,[[.I N,.nilS]],0⟩)],240⟩ rfl ?_ ?_
 .simp
  refine zbz hcap (by simp) ?_
  simp [fcd];exact Le.go [(32,32),(176,176)] [224] rfl rfl (by simp [fcd,zac]) (by simp)
 have hb1 : (p.seeds.flatMap (arc1 C)).length<=64:=Nat.le_trans (zdv _ (zjS C) _) hs;have hb2 : ((List.range C.length).flatMap (arc2 C)).length<=64:=Nat.le_trans (zdv _ (zjM C) _) (by rw [List.length_range]; omega)
 have hb3 : (sinks.flatMap (arc3 C)).length<=64:=Nat.le_trans (zdv _ (zkb C) _) hsl;have hb4 : (G.edges.flatMap (arc4 C)).length<=500:=Nat.le_trans (zdv _ (zkv C) _) hGl;obtain ⟨X1,hX1⟩ : ∃ X,X=p.seeds.flatMap (arc1 C):=⟨_,rfl⟩;obtain ⟨X2,hX2⟩ : ∃ X,X=(List.range C.length).flatMap (arc2 C):=⟨_,rfl⟩;obtain ⟨X3,hX3⟩ : ∃ X,X=sinks.flatMap (arc3 C):=⟨_,rfl⟩;obtain ⟨X4,hX4⟩ : ∃ X,X=G.edges.flatMap (arc4 C):=⟨_,rfl⟩;obtain ⟨Z2,hZ2⟩ : ∃ Z,Z=X1++X2:=⟨_,rfl⟩;obtain ⟨Z3,hZ3⟩ : ∃ Z,Z=Z2++X3:=⟨_,rfl⟩;obtain ⟨Z4,hZ4⟩ : ∃ Z,Z=Z3++X4:=⟨_,rfl⟩;rw [<- hX1] at hb1;rw [<- hX2] at hb2;rw [<- hX3] at hb3;rw [<- hX4] at hb4;rw [<- hX1,<- hX2,<- hX3,<- hX4,<- hZ2,<- hZ3,<- hZ4];have hz2 : Z2.length<=128:=by rw [hZ2,List.length_append]; omega
 have hz3 : Z3.length<=192:=by rw [hZ3,List.length_append]; omega
 refine zab ?_;refine rk (s:=?sa1) [2,3,4,6,9,10,11,43,44,45] [32,176] rfl ?oa1 ?qa1
 case oa1=>simp; rfl
 refine zaf ?_
 obtain ⟨Fa,Fa0,Fas,Fal,FaN⟩ : ∃ F : Nat->List Ed,F 0=[]/\(∀ i (h : i<(p.seeds).length),F (i+1)=F i++arc1 C (p.seeds)[i])/\(∀ i,(F i).length<=64)/\F (p.seeds).length=(p.seeds).flatMap (arc1 C) :=
  ⟨λ i=>((p.seeds).take i).flatMap (arc1 C),by simp,λ i h=>by simp only [zff _ _ i h,List.append_assoc],λ i=>by have:=zcA _ (zjS C) (p.seeds) i; exact Nat.le_trans this hs,by simp⟩
 rw [<- hX1] at FaN;refine zas (ι:=Nat) (λ i=>⟨123,[(2,ints sinks),(3,.pv (gC g)),(4,.pv (pC p)),(6,.pt 32 0 0),(9,.pt 176 0 0),(10,.fn (.func zaP) [] [.pt 176 0 0]),(11,ints C),(43,ints p.seeds),(44,.I p.seeds.length),(45,.I i)],[(32,some ⟨2,[[.I 0,.nilS]],0⟩),(176,some (outV N 16 (Fa i).length)),(16,some ⟨3,zaT (Fa i),0⟩)],272⟩) (λ i=>i<=p.seeds.length) (λ i=>p.seeds.length - i) 0 (Nat.zero_le _) (Le.lst [(32,32),(176,176)] [] [(16,3)] rfl (by simp) (by simp) (by simp) (by simp) (by simp) (by simp) (by simp) (by simp [Up]) (by simp [Fa0]; refine ⟨zaN.rfl' (by simp),zaN.row rfl (by omega) (by simp [UpL,Up])⟩)) ?_
 intro i hi;refine rk (s:=?sa2) [2,3,4,6,9,10,11,43,44,45,46] [32,176,16] rfl ?oa2 ?qa2
 case oa2=>simp; rfl
 refine zab ?_;refine zad _ rfl (λ h7=>?_) λ h7=>?_
 .simp at h7
  have hw : IntKind.i64.wrap ((i : Int)+1)=(i : Int)+1:=w6;have hFi:=Fal i;obtain ⟨k,hk,hkC,hk64⟩:=hseed _ (List.getElem_mem h7)
  have hFn : Fa (i+1)=Fa i++if 0<C[k] then [⟨0,2+2*(k : Int),C[k]⟩] else []:=by
   rw [Fas i h7,hk];unfold arc1;simp [hkC]
  refine zae ?_;refine zaO (ι:=Unit) (λ _=>⟨123,[(2,ints sinks),(3,.pv (gC g)),(4,.pv (pC p)),(6,.pt 32 0 0),(9,.pt 176 0 0),(10,.fn (.func zaP) [] [.pt 176 0 0]),(11,ints C),(43,ints p.seeds),(44,.I p.seeds.length),(45,.I i)],[(32,some ⟨2,[[.I 0,.nilS]],0⟩),(176,some (outV N 16 (Fa (i+1)).length)),(16,some ⟨3,zaT (Fa (i+1)),0⟩)],700⟩) (λ _=>True) ?_ λ _ _=>?_
  .refine zaf ?_
   refine rk (s:=?sa3) [2,3,4,6,9,10,11,13,43,44,45] [32,176,16] rfl ?oa3 ?qa3
   case oa3=>simp [h7,hk]; rfl
   refine rk (s:=?sa4) [2,3,4,6,9,10,11,13,43,44,45,53] [32,176,16] rfl ?oa4 ?qa4
   case oa4=>simp [hkC]; rfl
   refine zad _ rfl (λ h8=>?_) λ h8=>?_
   .simp at h8
    rw [if_pos h8] at hFn;refine zcP rfl ?_;simp [hkC];refine zap (zc8 k (by omega) (by omega)) (by simp) ?_
    simp [hkC];refine zjX (i:=176) (j:=16) (by decide) rfl rfl (e1':=outV N 1 (Fa i).length) (e2':=⟨3,zaT (Fa i),0⟩) (by simp) (by simp [fcd]) (zs4 N 0 (2+2*(k : Int)) C[k] (Fa i) _ rfl (by omega)) (by simp) (by simp) ?_
    simp [fcd];exact ⟨rfl,Le.go [(32,32),(176,176),(400,16)] [] rfl rfl (by simp [hFn]) (by simp [hFn,fcd])⟩
   .simp at h8
    rw [if_neg (by omega)] at hFn
    refine zae ?_;exact ⟨(),trivial,Le.go [(32,32),(176,176),(16,16)] [] rfl rfl (by simp [hFn]) (by simp [hFn,fcd])⟩
  refine zan ?_;exact ⟨i+1,by omega,by omega,Le.go [(32,32),(176,176),(16,16)] [] rfl rfl (by simp [hw]) (by simp [fcd])⟩
 simp at h7;obtain rfl : i=p.seeds.length:=by omega
 rw [FaN];refine zaq ?_;refine hit ?_;refine zab ?_;refine rk (s:=?sb1) [2,3,4,6,9,10,11,63,64,65] [32,176,16] rfl ?ob1 ?qb1
 case ob1=>simp; rfl
 refine zaf ?_
 obtain ⟨Fb,Fb0,Fbs,Fbl,FbN⟩ : ∃ F : Nat->List Ed,F 0=X1/\(∀ i (h : i<(List.range C.length).length),F (i+1)=F i++arc2 C (List.range C.length)[i])/\(∀ i,(F i).length<=200)/\F (List.range C.length).length=X1++(List.range C.length).flatMap (arc2 C) :=
  ⟨λ i=>X1++((List.range C.length).take i).flatMap (arc2 C),by simp,λ i h=>by simp only [zff _ _ i h,List.append_assoc],λ i=>by have:=zcA _ (zjM C) (List.range C.length) i; rw [List.length_range] at this; rw [List.length_append]; omega,by simp⟩
 rw [List.length_range,<- hX2,<- hZ2] at FbN;refine zas (ι:=Nat) (λ i=>⟨123,[(2,ints sinks),(3,.pv (gC g)),(4,.pv (pC p)),(6,.pt 32 0 0),(9,.pt 176 0 0),(10,.fn (.func zaP) [] [.pt 176 0 0]),(11,ints C),(63,ints C),(64,.I C.length),(65,.I i)],[(32,some ⟨2,[[.I 0,.nilS]],0⟩),(176,some (outV N 16 (Fb i).length)),(16,some ⟨3,zaT (Fb i),0⟩)],304⟩) (λ i=>i<=C.length) (λ i=>C.length - i) 0 (Nat.zero_le _) (Le.go [(32,32),(176,176),(16,16)] [] rfl rfl (by simp [Fb0]) (by simp [Fb0,fcd])) ?_
 intro i hi;refine rk (s:=?sb2) [2,3,4,6,9,10,11,63,64,65,66] [32,176,16] rfl ?ob2 ?qb2
 case ob2=>simp; rfl
 refine zab ?_;refine zad _ rfl (λ h7=>?_) λ h7=>?_
 .simp at h7
  have hw : IntKind.i64.wrap ((i : Int)+1)=(i : Int)+1:=w6;have hFi:=Fbl i;have hkC:=h7
  have hFn : Fb (i+1)=Fb i++if 0<C[i] then [⟨2+2*(i : Int),3+2*(i : Int),C[i] - 1⟩] else []:=by
   rw [Fbs i (by simpa using h7)]
   unfold arc2;simp [hkC]
  have hci:=hcb _ (List.getElem_mem h7);have hwc : IntKind.i64.wrap (C[i] - 1)=C[i] - 1:=w6;refine zae ?_;refine zaO (ι:=Unit) (λ _=>⟨123,[(2,ints sinks),(3,.pv (gC g)),(4,.pv (pC p)),(6,.pt 32 0 0),(9,.pt 176 0 0),(10,.fn (.func zaP) [] [.pt 176 0 0]),(11,ints C),(63,ints C),(64,.I C.length),(65,.I i)],[(32,some ⟨2,[[.I 0,.nilS]],0⟩),(176,some (outV N 16 (Fb (i+1)).length)),(16,some ⟨3,zaT (Fb (i+1)),0⟩)],700⟩) (λ _=>True) ?_ λ _ _=>?_
  .refine zaf ?_
   refine rk (s:=?sb3) [2,3,4,6,9,10,11,14,15,63,64,65] [32,176,16] rfl ?ob3 ?qb3
   case ob3=>simp [h7]; rfl
   refine rk (s:=?sb4) [2,3,4,6,9,10,11,14,15,63,64,65,71] [32,176,16] rfl ?ob4 ?qb4
   case ob4=>simp [hkC]; rfl
   refine zad _ rfl (λ h8=>?_) λ h8=>?_
   .simp at h8
    rw [if_pos h8] at hFn;refine zav rfl ?_;simp [hkC];refine zap (zc8 i (by omega) (by omega)) (by simp) ?_
    simp [hkC,hwc];refine zap (zkt i (by omega) (by omega)) (by simp) ?_
    simp [hkC,hwc];refine zjX (i:=176) (j:=16) (by decide) rfl rfl (e1':=outV N 1 (Fb i).length) (e2':=⟨3,zaT (Fb i),0⟩) (by simp) (by simp [fcd]) (zs4 N (2+2*(i : Int)) (3+2*(i : Int)) (C[i] - 1) (Fb i) _ rfl (by omega)) (by simp) (by simp) ?_
    simp [fcd];exact Le.go [(32,32),(176,176),(424,16)] [] rfl rfl (by simp [hFn]) (by simp [hFn,fcd])
   .simp at h8
    rw [if_neg (by omega)] at hFn
    refine zae ?_;exact ⟨(),trivial,Le.go [(32,32),(176,176),(16,16)] [] rfl rfl (by simp [hFn]) (by simp [hFn,fcd])⟩
  refine zan ?_;exact ⟨i+1,by omega,by omega,Le.go [(32,32),(176,176),(16,16)] [] rfl rfl (by simp [hw]) (by simp [fcd])⟩
 simp at h7;obtain rfl : i=C.length:=by omega
 rw [FbN];refine zaq ?_;refine hit ?_;refine zab ?_;refine rk (s:=?sc1) [3,4,6,9,10,11,81,82,83] [32,176,16] rfl ?oc1 ?qc1
 case oc1=>simp; rfl
 refine zaf ?_
 obtain ⟨Fc,Fc0,Fcs,Fcl,FcN⟩ : ∃ F : Nat->List Ed,F 0=Z2/\(∀ i (h : i<(sinks).length),F (i+1)=F i++arc3 C (sinks)[i])/\(∀ i,(F i).length<=300)/\F (sinks).length=Z2++(sinks).flatMap (arc3 C) :=
  ⟨λ i=>Z2++((sinks).take i).flatMap (arc3 C),by simp,λ i h=>by simp only [zff _ _ i h,List.append_assoc],λ i=>by have:=zcA _ (zkb C) (sinks) i; simp only [List.length_append]; omega,by simp⟩
 rw [<- hX3,<- hZ3] at FcN;refine zas (ι:=Nat) (λ i=>⟨123,[(3,.pv (gC g)),(4,.pv (pC p)),(6,.pt 32 0 0),(9,.pt 176 0 0),(10,.fn (.func zaP) [] [.pt 176 0 0]),(11,ints C),(81,ints sinks),(82,.I sinks.length),(83,.I i)],[(32,some ⟨2,[[.I 0,.nilS]],0⟩),(176,some (outV N 16 (Fc i).length)),(16,some ⟨3,zaT (Fc i),0⟩)],336⟩) (λ i=>i<=sinks.length) (λ i=>sinks.length - i) 0 (Nat.zero_le _) (Le.go [(32,32),(176,176),(16,16)] [] rfl rfl (by simp [Fc0]) (by simp [Fc0,fcd])) ?_
 intro i hi;refine rk (s:=?sc2) [3,4,6,9,10,11,81,82,83,84] [32,176,16] rfl ?oc2 ?qc2
 case oc2=>simp; rfl
 refine zab ?_;refine zad _ rfl (λ h7=>?_) λ h7=>?_
 .simp at h7
  have hw : IntKind.i64.wrap ((i : Int)+1)=(i : Int)+1:=w6;have hFi:=Fcl i;obtain ⟨k,hk,hkC,hk64⟩:=hsink _ (List.getElem_mem h7)
  have hFn : Fc (i+1)=Fc i++if 0<C[k] then [⟨2+2*(k : Int),1,1⟩] else []:=by
   rw [Fcs i h7,hk];unfold arc3;simp [hkC]
  refine zae ?_;refine zaO (ι:=Unit) (λ _=>⟨123,[(3,.pv (gC g)),(4,.pv (pC p)),(6,.pt 32 0 0),(9,.pt 176 0 0),(10,.fn (.func zaP) [] [.pt 176 0 0]),(11,ints C),(81,ints sinks),(82,.I sinks.length),(83,.I i)],[(32,some ⟨2,[[.I 0,.nilS]],0⟩),(176,some (outV N 16 (Fc (i+1)).length)),(16,some ⟨3,zaT (Fc (i+1)),0⟩)],700⟩) (λ _=>True) ?_ λ _ _=>?_
  .refine zaf ?_
   refine rk (s:=?sc3) [3,4,6,9,10,11,17,81,82,83] [32,176,16] rfl ?oc3 ?qc3
   case oc3=>simp [h7,hk]; rfl
   refine rk (s:=?sc4) [3,4,6,9,10,11,17,81,82,83,91] [32,176,16] rfl ?oc4 ?qc4
   case oc4=>simp [hkC]; rfl
   refine zad _ rfl (λ h8=>?_) λ h8=>?_
   .simp at h8
    rw [if_pos h8] at hFn;refine zav rfl ?_;simp [hkC];refine zap (zc8 k (by omega) (by omega)) (by simp) ?_
    simp [hkC];refine zjX (i:=176) (j:=16) (by decide) rfl rfl (e1':=outV N 1 (Fc i).length) (e2':=⟨3,zaT (Fc i),0⟩) (by simp) (by simp [fcd]) (zs4 N (2+2*(k : Int)) 1 1 (Fc i) _ rfl (by omega)) (by simp) (by simp) ?_
    simp [fcd];exact Le.go [(32,32),(176,176),(432,16)] [] rfl rfl (by simp [hFn]) (by simp [hFn,fcd])
   .simp at h8
    rw [if_neg (by omega)] at hFn
    refine zae ?_;exact ⟨(),trivial,Le.go [(32,32),(176,176),(16,16)] [] rfl rfl (by simp [hFn]) (by simp [hFn,fcd])⟩
  refine zan ?_;exact ⟨i+1,by omega,by omega,Le.go [(32,32),(176,176),(16,16)] [] rfl rfl (by simp [hw]) (by simp [fcd])⟩
 simp at h7;obtain rfl : i=sinks.length:=by omega
 rw [FcN];refine zaq ?_;refine hit ?_;refine zab ?_;refine rk (s:=?sd1) [6,9,10,11,101,102,103] [32,176,16] rfl ?od1 ?qd1
 case od1=>simp; refine zap hlev (by simp) ?_; simp; rfl
 refine zaf ?_
 obtain ⟨Fd,Fd0,Fds,Fdl,FdN⟩ : ∃ F : Nat->List Ed,F 0=Z3/\(∀ i (h : i<(G.edges).length),F (i+1)=F i++arc4 C (G.edges)[i])/\(∀ i,(F i).length<=900)/\F (G.edges).length=Z3++(G.edges).flatMap (arc4 C) :=
  ⟨λ i=>Z3++((G.edges).take i).flatMap (arc4 C),by simp,λ i h=>by simp only [zff _ _ i h,List.append_assoc],λ i=>by have:=zcA _ (zkv C) (G.edges) i; simp only [List.length_append]; omega,by simp⟩
 rw [<- hX4,<- hZ4] at FdN;refine zas (ι:=Nat) (λ i=>⟨123,[(6,.pt 32 0 0),(9,.pt 176 0 0),(10,.fn (.func zaP) [] [.pt 176 0 0]),(11,ints C),(101,eEs G.edges),(102,.I G.edges.length),(103,.I i)],[(32,some ⟨2,[[.I 0,.nilS]],0⟩),(176,some (outV N 16 (Fd i).length)),(16,some ⟨3,zaT (Fd i),0⟩)],400⟩) (λ i=>i<=G.edges.length) (λ i=>G.edges.length - i) 0 (Nat.zero_le _) (Le.go [(32,32),(176,176),(16,16)] [] rfl rfl (by simp [Fd0]) (by simp [Fd0,fcd])) ?_
 intro i hi;refine rk (s:=?sd2) [6,9,10,11,101,102,103,104] [32,176,16] rfl ?od2 ?qd2
 case od2=>simp; rfl
 refine zab ?_;refine zad _ rfl (λ h7=>?_) λ h7=>?_
 .simp at h7
  have hw : IntKind.i64.wrap ((i : Int)+1)=(i : Int)+1:=w6;have hFi:=Fdl i;obtain ⟨x,hx⟩ : ∃ x,x=G.edges[i]:=⟨_,rfl⟩;have hfx:=hfit _ (List.getElem_mem h7);rw [<- hx] at hfx;obtain ⟨k,hk,hkC,hk64⟩:=hkey x.f hfx.1.1 hfx.1.2;obtain ⟨u,hu,huC,hu64⟩:=hkey x.t hfx.2.1 hfx.2.2
  have hFn : Fd (i+1)=Fd i++if 0<C[k] then [⟨3+2*(k : Int),2+2*(u : Int),64⟩] else []:=by
   rw [Fds i h7,<- hx];unfold arc4;rw [hk,hu];simp [hkC]
  refine zae ?_;refine zaO (ι:=Unit) (λ _=>⟨123,[(6,.pt 32 0 0),(9,.pt 176 0 0),(10,.fn (.func zaP) [] [.pt 176 0 0]),(11,ints C),(101,eEs G.edges),(102,.I G.edges.length),(103,.I i)],[(32,some ⟨2,[[.I 0,.nilS]],0⟩),(176,some (outV N 16 (Fd (i+1)).length)),(16,some ⟨3,zaT (Fd (i+1)),0⟩)],700⟩) (λ _=>True) ?_ λ _ _=>?_
  .refine zaf ?_
   refine zaa ⟨123,[(6,.pt 32 0 0),(9,.pt 176 0 0),(10,.fn (.func zaP) [] [.pt 176 0 0]),(11,ints C),(19,.pv (eC x)),(101,eEs G.edges),(102,.I G.edges.length),(103,.I i)],[(32,some ⟨2,[[.I 0,.nilS]],0⟩),(176,some (outV N 16 (Fd i).length)),(16,some ⟨3,zaT (Fd i),0⟩)],440⟩ rfl ?_ ?_
   .simp [h7,<- hx]
    exact LeI [(32,32),(176,176),(16,16)] [424]
   refine rk (s:=?sd4) [6,9,10,11,19,101,102,103,112] [32,176,16] rfl ?od4 ?qd4
   case od4=>simp [hk,hkC]; rfl
   refine zad _ rfl (λ h8=>?_) λ h8=>?_
   .simp at h8
    rw [if_pos h8] at hFn;refine zcP rfl ?_;simp [hk,hu];refine zap (zkt k (by omega) (by omega)) (by simp) ?_
    simp [hkC];refine zap (zc8 u (by omega) (by omega)) (by simp) ?_
    simp [hkC];refine zjX (i:=176) (j:=16) (by decide) rfl rfl (e1':=outV N 1 (Fd i).length) (e2':=⟨3,zaT (Fd i),0⟩) (by simp) (by simp [fcd]) (zs4 N (3+2*(k : Int)) (2+2*(u : Int)) 64 (Fd i) _ rfl (by omega)) (by simp) (by simp) ?_
    simp [fcd];exact ⟨rfl,Le.go [(32,32),(176,176),(544,16)] [] rfl rfl (by simp [hFn]) (by simp [hFn,fcd])⟩
   .simp at h8
    rw [if_neg (by omega)] at hFn
    refine zae ?_;exact ⟨(),trivial,Le.go [(32,32),(176,176),(16,16)] [] rfl rfl (by simp [hFn]) (by simp [hFn,fcd])⟩
  refine zan ?_;exact ⟨i+1,by omega,by omega,Le.go [(32,32),(176,176),(16,16)] [] rfl rfl (by simp [hw]) (by simp [fcd])⟩
 simp at h7;obtain rfl : i=G.edges.length:=by omega
 rw [FdN];refine zaq ?_;refine hit ?_;refine rk (s:=?sz) [6,7] [32,16] rfl ?oz ?qz
 case oz=>simp; rfl
 refine zai ?_;exact ⟨.inr rfl,zao.out [] [16] rfl (by simp) (by simp) (by simp [hN,fcd,zac]) (by simp)⟩
set_option maxRecDepth 100000 in
set_option maxHeartbeats 4000000 in
theorem zlm (g : Gr) (p : Pol) (sinks : List Int) (hg : GrOk g) (hp : zbu g.size p) (hr : Rise sinks 0 (g.size - 1)) (hs : p.seeds.length<=64) (hsl : sinks.length<=64) :
  zaj Tryz.prog zgG [eG g,eP p,ints sinks] [] (.tup [eN ⟨2+2*g.size,zbK g p (zaQ g p) sinks⟩,.I 0]) []:=by
 refine znv.ac ?_;show awp _ 0 _ _ ⟨158,[(0,eG g),(1,eP p),(2,ints sinks)],[],16⟩;have hsz:=hg.1.1;have hsz2:=hg.1.2.1;have hel:=hg.edges_le;have hgl:=hg.gone_le;have hchk:=zgz g p (by omega) (by omega) (by omega) (by have:=hp.2.2.2.1; omega)
 rw [if_pos hg,if_pos hp] at hchk;have hcb:=znn (g:=g) hp;have hcl : (zaQ g p).length=g.size.toNat:=zcN;have hlev:=zgC g p.lv (by omega) (by omega)
 rw [zh9];have hGe : ∀ e∈(zal g p.lv).edges,e∈g.edges:=λ e he=>(List.mem_filter.1 he).1;have hGl : (zal g p.lv).edges.length<=500:=Nat.le_trans (List.length_filter_le ..) hel;have hall:=zin (zal g p.lv) p.seeds (hg.level p.lv) (by omega)
 have hcap:=zqf (zal g p.lv) p (hg.level p.lv) (by omega)
 have hcc : zaQ (zal g p.lv) p=zaQ g p:=by unfold zaQ; rw [zqH]
 rw [hcc] at hcap
 have hDC : ∀ k : Nat,k<g.size.toNat -> ∀ (h1 : k<(zcL (zal g p.lv) p.seeds).length) (h2 : k<(zaQ g p).length),0<=(zcL (zal g p.lv) p.seeds)[k]↔0<(zaQ g p)[k]:=λ k hk h1 h2=>by
  have:=zqS hp (d:=(zcL (zal g p.lv) p.seeds)[k]);rw [<- this];simp [zaQ]
 have hDl : (zcL (zal g p.lv) p.seeds).length=g.size.toNat:=by simp [zcL,zal]
 have hGs : (zal g p.lv).size=g.size:=rfl;rw [hGs] at hall hcap;rw [<- hcl] at hcap;rw [<- hDl] at hall;obtain ⟨C,hC⟩ : ∃ C,C=zaQ g p:=⟨_,rfl⟩;obtain ⟨D,hD⟩ : ∃ D,D=zcL (zal g p.lv) p.seeds:=⟨_,rfl⟩;rw [<- hC] at hcap hcl hcb ⊢;rw [<- hD] at hall hDl;simp only [<- hC,<- hD] at hDC;have hDk : ∀ k : Nat,k<C.length->k<D.length:=λ k hk=>by omega
 have hDC' : ∀ (k : Nat) (h2 : k<C.length),0<=D[k]'(hDk k h2)↔0<C[k]:=λ k h2=>hDC k (by omega) (hDk k h2) h2
 obtain ⟨G,hG⟩ : ∃ G,G=zal g p.lv:=⟨_,rfl⟩;rw [<- hG] at hlev hGe hGl hall hcap hGs ⊢
 have hfit : ∀ e∈G.edges,(0<=e.f/\e.f<g.size)/\(0<=e.t/\e.t<g.size):=λ e he=>by
  have:=hg.fits e (hGe e he);unfold Fits at this;omega
 have hkey : ∀ k : Int,0<=k->k<g.size -> ∃ j : Nat,k=j/\j<C.length/\j<64:=λ k h0 h1=>⟨k.toNat,by omega,by omega,by omega⟩
 have hseed : ∀ k∈p.seeds,∃ j : Nat,k=j/\j<C.length/\j<64:=λ k hk=>by
  obtain ⟨i,hi,rfl⟩:=List.getElem_of_mem hk;have:=hp.2.1 i hi;exact hkey _ (by omega) (by omega)
 have hsink : ∀ k∈sinks,∃ j : Nat,k=j/\j<C.length/\j<64:=λ k hk=>by
  obtain ⟨i,hi,rfl⟩:=List.getElem_of_mem hk;have:=hr i hi;exact hkey _ (by omega) (by omega)
 have hw3 : IntKind.i64.wrap (2*g.size)=2*g.size:=w6;have hw4 : IntKind.i64.wrap (2+2*g.size)=2+2*g.size:=w6;refine zaa ⟨158,[(2,ints sinks),(3,.pt 16 0 0),(4,.pv (pC p)),(6,.pt 32 0 0)],[(16,some ⟨3,[gC g],0⟩),(32,some ⟨2,[[.I 0,.nilS]],0⟩)],48⟩ rfl ?_ ?_
 .simp
  exact LeH [(16,16),(32,32)] [24]
 refine zab ?_;refine rk (s:=?s2) [2,3,4,6,8] [16,32] rfl ?o2 ?q2
 case o2=>simp; refine zap hchk (by simp) ?_; simp; rfl
 refine rk (s:=?s3) [2,3,4,6,22] [16,32] rfl ?o3 ?q3
 case o3=>simp; rfl
 refine zad _ rfl (λ h4=>?_) λ h4=>zae ?_
 .simp at h4
 refine zab ?_;refine rk (s:=?s5) [2,3,4,6,29] [16,32] rfl ?o5 ?q5
 case o5=>simp; refine zap (ziu sinks g.size (by omega)) (by simp) ?_; simp [hr]; rfl
 refine zad _ rfl (λ h6=>?_) λ h6=>zae ?_
 .simp at h6
 refine zaa ⟨158,[(2,ints sinks),(3,.pv (gC G)),(4,.pv (pC p)),(6,.pt 32 0 0)],[(32,some ⟨2,[[.I 0,.nilS]],0⟩)],176⟩ rfl ?_ ?_
 .simp
  refine zap hlev (by simp) ?_
  simp;exact LeH [(32,32)] [16]
 refine zaC ⟨158,[(2,ints sinks),(3,.pv (gC G)),(4,.pv (pC p)),(6,.pt 32 0 0),(9,ints D),(10,ints C)],[(32,some ⟨2,[[.I 0,.nilS]],0⟩)],248⟩ rfl ?_ ?_
 .simp
  refine zbz hall (by simp) ?_
  simp [fcd];refine zbz hcap (by simp) ?_
  simp [fcd];exact ⟨rfl,Le.go [(32,32)] [200,224] rfl rfl (by simp [fcd,zac]) (by simp)⟩
 refine rk (s:=?s7) [2,3,4,6,9,10,11] [32,288] rfl ?o7 ?q7
 case o7=>simp [hGs,hw3,hw4]; rfl
 obtain ⟨N,hN⟩ : ∃ N : Int,N=2+2*g.size:=⟨_,rfl⟩;simp only [<- hN];have hb1 : (p.seeds.flatMap (arc1 C)).length<=64:=Nat.le_trans (zdv _ (zjS C) _) hs;have hb2 : ((List.range C.length).flatMap (arc2 C)).length<=64:=Nat.le_trans (zdv _ (zjM C) _) (by rw [List.length_range]; omega)
 have hb3 : (sinks.flatMap (arc3 C)).length<=64:=Nat.le_trans (zdv _ (zkb C) _) hsl;have hb4 : (G.edges.flatMap (arc4 C)).length<=500:=Nat.le_trans (zdv _ (zkv C) _) hGl;obtain ⟨X1,hX1⟩ : ∃ X,X=p.seeds.flatMap (arc1 C):=⟨_,rfl⟩;obtain ⟨X2,hX2⟩ : ∃ X,X=(List.range C.length).flatMap (arc2 C):=⟨_,rfl⟩;obtain ⟨X3,hX3⟩ : ∃ X,X=sinks.flatMap (arc3 C):=⟨_,rfl⟩;obtain ⟨X4,hX4⟩ : ∃ X,X=G.edges.flatMap (arc4 C):=⟨_,rfl⟩;obtain ⟨Z2,hZ2⟩ : ∃ Z,Z=X1++X2:=⟨_,rfl⟩;obtain ⟨Z3,hZ3⟩ : ∃ Z,Z=Z2++X3:=⟨_,rfl⟩;obtain ⟨Z4,hZ4⟩ : ∃ Z,Z=Z3++X4:=⟨_,rfl⟩;rw [<- hX1] at hb1;rw [<- hX2] at hb2;rw [<- hX3] at hb3;rw [<- hX4] at hb4;rw [<- hX1,<- hX2,<- hX3,<- hX4,<- hZ2,<- hZ3,<- hZ4];have hz2 : Z2.length<=128:=by rw [hZ2,List.length_append]; omega
 have hz3 : Z3.length<=192:=by rw [hZ3,List.length_append]; omega
 refine zab ?_;refine rk (s:=?sa1) [2,3,4,6,9,10,11,12] [32,288] rfl ?oa1 ?qa1
 case oa1=>simp; rfl
 refine zaf ?_
 obtain ⟨Fa,Fa0,Fas,Fal,FaN⟩ : ∃ F : Nat->List Ed,F 0=[]/\(∀ i (h : i<(p.seeds).length),F (i+1)=F i++arc1 C (p.seeds)[i])/\(∀ i,(F i).length<=64)/\F (p.seeds).length=(p.seeds).flatMap (arc1 C) :=
  ⟨λ i=>((p.seeds).take i).flatMap (arc1 C),by simp,λ i h=>by simp only [zff _ _ i h,List.append_assoc],λ i=>by have:=zcA _ (zjS C) (p.seeds) i; exact Nat.le_trans this hs,by simp⟩
 rw [<- hX1] at FaN;refine zas (ι:=Nat) (λ i=>⟨158,[(2,ints sinks),(3,.pv (gC G)),(4,.pv (pC p)),(6,.pt 32 0 0),(9,ints D),(10,ints C),(11,.pt 288 0 0),(12,.I i)],[(32,some ⟨2,[[.I 0,.nilS]],0⟩),(288,some (outV N 16 (Fa i).length)),(16,some ⟨3,zaT (Fa i),0⟩)],312⟩) (λ i=>i<=p.seeds.length) (λ i=>p.seeds.length - i) 0 (Nat.zero_le _) (Le.lst [(32,32),(288,288)] [] [(16,3)] rfl (by simp) (by simp) (by simp) (by simp) (by simp) (by simp) (by simp) (by simp [Up]) (by simp [Fa0]; refine ⟨zaN.rfl' (by simp),zaN.row rfl (by omega) (by simp [UpL,Up])⟩)) ?_
 intro i hi;refine zab ?_;refine rk (s:=?sa2) [2,3,4,6,9,10,11,12,51] [32,288,16] rfl ?oa2 ?qa2
 case oa2=>simp; rfl
 refine zad _ rfl (λ h7=>?_) λ h7=>?_
 .simp at h7
  have hw : IntKind.i64.wrap ((i : Int)+1)=(i : Int)+1:=w6;have hFi:=Fal i;obtain ⟨k,hk,hkC,hk64⟩:=hseed _ (List.getElem_mem h7)
  have hFn : Fa (i+1)=Fa i++if 0<C[k] then [⟨0,2+2*(k : Int),C[k]⟩] else []:=by
   rw [Fas i h7,hk];unfold arc1;simp [hkC]
  have hkD:=hDk _ hkC;have hdc:=hDC' _ hkC;refine zae ?_;refine zaO (ι:=Unit) (λ _=>⟨158,[(2,ints sinks),(3,.pv (gC G)),(4,.pv (pC p)),(6,.pt 32 0 0),(9,ints D),(10,ints C),(11,.pt 288 0 0),(12,.I i)],[(32,some ⟨2,[[.I 0,.nilS]],0⟩),(288,some (outV N 16 (Fa (i+1)).length)),(16,some ⟨3,zaT (Fa (i+1)),0⟩)],800⟩) (λ _=>True) ?_ λ _ _=>?_
  .refine zaf ?_
   refine rk (s:=?sa3) [2,3,4,6,9,10,11,12,13] [32,288,16] rfl ?oa3 ?qa3
   case oa3=>simp [h7,hk]; rfl
   refine rk (s:=?sa4) [2,3,4,6,9,10,11,12,13,63] [32,288,16] rfl ?oa4 ?qa4
   case oa4=>simp [hkD]; rfl
   refine zad _ rfl (λ h8=>?_) λ h8=>?_
   .simp at h8
    rw [if_pos (hdc.1 h8)] at hFn;have htl : ∀ f : Ed->List AV,List.take (Fa i).length (List.map f (Fa i))=List.map f (Fa i):=λ f=>List.take_of_length_le (by simp)
    refine zcP rfl ?_;simp [hkC];refine zap (ze2 k (by omega) (by omega)) (by simp) ?_
    simp [htl,hkC];refine ⟨by omega,by omega,?_⟩
    exact ⟨rfl,Le.go [(32,32),(288,288),(520,16)] [] rfl rfl (by simp [hFn]) (by simp [hFn,fcd])⟩
   .simp at h8
    rw [if_neg (by omega)] at hFn
    refine zae ?_;exact ⟨(),trivial,Le.go [(32,32),(288,288),(16,16)] [] rfl rfl (by simp [hFn]) (by simp [hFn,fcd])⟩
  refine zan ?_;exact ⟨i+1,by omega,by omega,Le.go [(32,32),(288,288),(16,16)] [] rfl rfl (by simp [hw]) (by simp [fcd])⟩
 simp at h7;obtain rfl : i=p.seeds.length:=by omega
 rw [FaN];refine zaq ?_;refine hit ?_;refine zab ?_;refine rk (s:=?sb1) [2,3,6,9,10,11,14] [32,288,16] rfl ?ob1 ?qb1
 case ob1=>simp; rfl
 refine zaf ?_
 obtain ⟨Fb,Fb0,Fbs,Fbl,FbN⟩ : ∃ F : Nat->List Ed,F 0=X1/\(∀ i (h : i<(List.range C.length).length),F (i+1)=F i++arc2 C (List.range C.length)[i])/\(∀ i,(F i).length<=200)/\F (List.range C.length).length=X1++(List.range C.length).flatMap (arc2 C) :=
  ⟨λ i=>X1++((List.range C.length).take i).flatMap (arc2 C),by simp,λ i h=>by simp only [zff _ _ i h,List.append_assoc],λ i=>by have:=zcA _ (zjM C) (List.range C.length) i; rw [List.length_range] at this; rw [List.length_append]; omega,by simp⟩
 rw [List.length_range,<- hX2,<- hZ2] at FbN;refine zas (ι:=Nat) (λ i=>⟨158,[(2,ints sinks),(3,.pv (gC G)),(6,.pt 32 0 0),(9,ints D),(10,ints C),(11,.pt 288 0 0),(14,.I i)],[(32,some ⟨2,[[.I 0,.nilS]],0⟩),(288,some (outV N 16 (Fb i).length)),(16,some ⟨3,zaT (Fb i),0⟩)],360⟩) (λ i=>i<=C.length) (λ i=>C.length - i) 0 (Nat.zero_le _) (Le.go [(32,32),(288,288),(16,16)] [] rfl rfl (by simp [Fb0]) (by simp [Fb0,fcd])) ?_
 intro i hi;refine zab ?_;refine rk (s:=?sb2) [2,3,6,9,10,11,14,79] [32,288,16] rfl ?ob2 ?qb2
 case ob2=>simp; rfl
 refine zad _ rfl (λ h7=>?_) λ h7=>?_
 .simp [hGs] at h7
  have hw : IntKind.i64.wrap ((i : Int)+1)=(i : Int)+1:=w6;have hFi:=Fbl i;have hkC : i<C.length:=by omega
  have hFn : Fb (i+1)=Fb i++if 0<C[i] then [⟨2+2*(i : Int),3+2*(i : Int),C[i] - 1⟩] else []:=by
   rw [Fbs i (by simpa using hkC)]
   unfold arc2;simp [hkC]
  have hci:=hcb _ (List.getElem_mem hkC);have hwc : IntKind.i64.wrap (C[i] - 1)=C[i] - 1:=w6;have hkD:=hDk _ hkC;have hdc:=hDC' _ hkC;refine zae ?_;refine zaO (ι:=Unit) (λ _=>⟨158,[(2,ints sinks),(3,.pv (gC G)),(6,.pt 32 0 0),(9,ints D),(10,ints C),(11,.pt 288 0 0),(14,.I i)],[(32,some ⟨2,[[.I 0,.nilS]],0⟩),(288,some (outV N 16 (Fb (i+1)).length)),(16,some ⟨3,zaT (Fb (i+1)),0⟩)],800⟩) (λ _=>True) ?_ λ _ _=>?_
  .refine zaf ?_
   refine rk (s:=?sb3) [2,3,6,9,10,11,14,86] [32,288,16] rfl ?ob3 ?qb3
   case ob3=>simp [hkD]; rfl
   refine zad _ rfl (λ h8=>?_) λ h8=>?_
   .simp at h8
    rw [if_pos (hdc.1 h8)] at hFn;have htl : ∀ f : Ed->List AV,List.take (Fb i).length (List.map f (Fb i))=List.map f (Fb i):=λ f=>List.take_of_length_le (by simp)
    refine zcP rfl ?_;simp [hkC,hwc];refine zap (ze2 i (by omega) (by omega)) (by simp) ?_
    simp [htl,hkC,hwc];refine zap (zj4 i (by omega) (by omega)) (by simp) ?_
    simp [htl,hkC,hwc];refine ⟨by omega,by omega,?_⟩
    exact ⟨rfl,Le.go [(32,32),(288,288),(536,16)] [] rfl rfl (by simp [hFn]) (by simp [hFn,fcd])⟩
   .simp at h8
    rw [if_neg (by omega)] at hFn
    refine zae ?_;exact ⟨(),trivial,Le.go [(32,32),(288,288),(16,16)] [] rfl rfl (by simp [hFn]) (by simp [hFn,fcd])⟩
  refine zan ?_;exact ⟨i+1,by omega,by omega,Le.go [(32,32),(288,288),(16,16)] [] rfl rfl (by simp [hw]) (by simp [fcd])⟩
 simp [hGs] at h7;obtain rfl : i=C.length:=by omega
 rw [FbN];refine zaq ?_;refine hit ?_;refine zab ?_;refine rk (s:=?sc1) [2,3,6,9,11,15] [32,288,16] rfl ?oc1 ?qc1
 case oc1=>simp; rfl
 refine zaf ?_
 obtain ⟨Fc,Fc0,Fcs,Fcl,FcN⟩ : ∃ F : Nat->List Ed,F 0=Z2/\(∀ i (h : i<(sinks).length),F (i+1)=F i++arc3 C (sinks)[i])/\(∀ i,(F i).length<=300)/\F (sinks).length=Z2++(sinks).flatMap (arc3 C) :=
  ⟨λ i=>Z2++((sinks).take i).flatMap (arc3 C),by simp,λ i h=>by simp only [zff _ _ i h,List.append_assoc],λ i=>by have:=zcA _ (zkb C) (sinks) i; simp only [List.length_append]; omega,by simp⟩
 rw [<- hX3,<- hZ3] at FcN;refine zas (ι:=Nat) (λ i=>⟨158,[(2,ints sinks),(3,.pv (gC G)),(6,.pt 32 0 0),(9,ints D),(11,.pt 288 0 0),(15,.I i)],[(32,some ⟨2,[[.I 0,.nilS]],0⟩),(288,some (outV N 16 (Fc i).length)),(16,some ⟨3,zaT (Fc i),0⟩)],400⟩) (λ i=>i<=sinks.length) (λ i=>sinks.length - i) 0 (Nat.zero_le _) (Le.go [(32,32),(288,288),(16,16)] [] rfl rfl (by simp [Fc0]) (by simp [Fc0,fcd])) ?_
 intro i hi;refine zab ?_;refine rk (s:=?sc2) [2,3,6,9,11,15,105] [32,288,16] rfl ?oc2 ?qc2
 case oc2=>simp; rfl
 refine zad _ rfl (λ h7=>?_) λ h7=>?_
 .simp at h7
  have hw : IntKind.i64.wrap ((i : Int)+1)=(i : Int)+1:=w6;have hFi:=Fcl i;obtain ⟨k,hk,hkC,hk64⟩:=hsink _ (List.getElem_mem h7)
  have hFn : Fc (i+1)=Fc i++if 0<C[k] then [⟨2+2*(k : Int),1,1⟩] else []:=by
   rw [Fcs i h7,hk];unfold arc3;simp [hkC]
  have hkD:=hDk _ hkC;have hdc:=hDC' _ hkC;refine zae ?_;refine zaO (ι:=Unit) (λ _=>⟨158,[(2,ints sinks),(3,.pv (gC G)),(6,.pt 32 0 0),(9,ints D),(11,.pt 288 0 0),(15,.I i)],[(32,some ⟨2,[[.I 0,.nilS]],0⟩),(288,some (outV N 16 (Fc (i+1)).length)),(16,some ⟨3,zaT (Fc (i+1)),0⟩)],800⟩) (λ _=>True) ?_ λ _ _=>?_
  .refine zaf ?_
   refine rk (s:=?sc3) [2,3,6,9,11,15,115] [32,288,16] rfl ?oc3 ?qc3
   case oc3=>simp [h7,hk,hkD]; rfl
   refine zad _ rfl (λ h8=>?_) λ h8=>?_
   .simp at h8
    rw [if_pos (hdc.1 h8)] at hFn;have htl : ∀ f : Ed->List AV,List.take (Fc i).length (List.map f (Fc i))=List.map f (Fc i):=λ f=>List.take_of_length_le (by simp)
    refine zcP rfl ?_;simp [h7,hk];refine zap (ze2 k (by omega) (by omega)) (by simp) ?_
    simp [htl,h7,hk];refine ⟨by omega,by omega,?_⟩
    exact ⟨rfl,Le.go [(32,32),(288,288),(568,16)] [] rfl rfl (by simp [hFn]) (by simp [hFn,fcd])⟩
   .simp at h8
    rw [if_neg (by omega)] at hFn
    refine zae ?_;exact ⟨(),trivial,Le.go [(32,32),(288,288),(16,16)] [] rfl rfl (by simp [hFn]) (by simp [hFn,fcd])⟩
  refine zan ?_;exact ⟨i+1,by omega,by omega,Le.go [(32,32),(288,288),(16,16)] [] rfl rfl (by simp [hw]) (by simp [fcd])⟩
 simp at h7;obtain rfl : i=sinks.length:=by omega
 rw [FcN];refine zaq ?_;refine hit ?_;refine zab ?_;refine rk (s:=?sd1) [3,6,9,11,16] [32,288,16] rfl ?od1 ?qd1
 case od1=>simp; rfl
 refine zaf ?_
 obtain ⟨Fd,Fd0,Fds,Fdl,FdN⟩ : ∃ F : Nat->List Ed,F 0=Z3/\(∀ i (h : i<(G.edges).length),F (i+1)=F i++arc4 C (G.edges)[i])/\(∀ i,(F i).length<=900)/\F (G.edges).length=Z3++(G.edges).flatMap (arc4 C) :=
  ⟨λ i=>Z3++((G.edges).take i).flatMap (arc4 C),by simp,λ i h=>by simp only [zff _ _ i h,List.append_assoc],λ i=>by have:=zcA _ (zkv C) (G.edges) i; simp only [List.length_append]; omega,by simp⟩
 rw [<- hX4,<- hZ4] at FdN;refine zas (ι:=Nat) (λ i=>⟨158,[(3,.pv (gC G)),(6,.pt 32 0 0),(9,ints D),(11,.pt 288 0 0),(16,.I i)],[(32,some ⟨2,[[.I 0,.nilS]],0⟩),(288,some (outV N 16 (Fd i).length)),(16,some ⟨3,zaT (Fd i),0⟩)],440⟩) (λ i=>i<=G.edges.length) (λ i=>G.edges.length - i) 0 (Nat.zero_le _) (Le.go [(32,32),(288,288),(16,16)] [] rfl rfl (by simp [Fd0]) (by simp [Fd0,fcd])) ?_
 intro i hi;refine zab ?_;refine rk (s:=?sd2) [3,6,9,11,16,131] [32,288,16] rfl ?od2 ?qd2
 case od2=>simp; rfl
 refine zad _ rfl (λ h7=>?_) λ h7=>?_
 .simp at h7
  have hw : IntKind.i64.wrap ((i : Int)+1)=(i : Int)+1:=w6;have hFi:=Fdl i;obtain ⟨x,hx⟩ : ∃ x,x=G.edges[i]:=⟨_,rfl⟩;have hfx:=hfit _ (List.getElem_mem h7);rw [<- hx] at hfx;obtain ⟨k,hk,hkC,hk64⟩:=hkey x.f hfx.1.1 hfx.1.2;obtain ⟨u,hu,huC,hu64⟩:=hkey x.t hfx.2.1 hfx.2.2
  have hFn : Fd (i+1)=Fd i++if 0<C[k] then [⟨3+2*(k : Int),2+2*(u : Int),64⟩] else []:=by
   rw [Fds i h7,<- hx];unfold arc4;rw [hk,hu];simp [hkC]
  have hkD:=hDk _ hkC;have hdc:=hDC' _ hkC;refine zae ?_;refine zaO (ι:=Unit) (λ _=>⟨158,[(3,.pv (gC G)),(6,.pt 32 0 0),(9,ints D),(11,.pt 288 0 0),(16,.I i)],[(32,some ⟨2,[[.I 0,.nilS]],0⟩),(288,some (outV N 16 (Fd (i+1)).length)),(16,some ⟨3,zaT (Fd (i+1)),0⟩)],800⟩) (λ _=>True) ?_ λ _ _=>?_
  .refine zaf ?_
   refine zaa ⟨158,[(3,.pv (gC G)),(6,.pt 32 0 0),(9,ints D),(11,.pt 288 0 0),(16,.I i),(17,.pv (eC x))],[(32,some ⟨2,[[.I 0,.nilS]],0⟩),(288,some (outV N 16 (Fd i).length)),(16,some ⟨3,zaT (Fd i),0⟩)],536⟩ rfl ?_ ?_
   .simp [h7,<- hx]
    exact LeI [(32,32),(288,288),(16,16)] [520]
   refine rk (s:=?sd4) [3,6,9,11,16,17,144] [32,288,16] rfl ?od4 ?qd4
   case od4=>simp [hk,hkD]; rfl
   refine zad _ rfl (λ h8=>?_) λ h8=>?_
   .simp at h8
    rw [if_pos (hdc.1 h8)] at hFn;have htl : ∀ f : Ed->List AV,List.take (Fd i).length (List.map f (Fd i))=List.map f (Fd i):=λ f=>List.take_of_length_le (by simp)
    refine zcP rfl ?_;simp [hk,hu];refine zap (zj4 k (by omega) (by omega)) (by simp) ?_
    simp [htl,hk,hu];refine zap (ze2 u (by omega) (by omega)) (by simp) ?_
    simp [htl,hk,hu];refine ⟨by omega,by omega,?_⟩
    exact ⟨rfl,Le.go [(32,32),(288,288),(664,16)] [] rfl rfl (by simp [hFn]) (by simp [hFn,fcd])⟩
   .simp at h8
    rw [if_neg (by omega)] at hFn
    refine zae ?_;exact ⟨(),trivial,Le.go [(32,32),(288,288),(16,16)] [] rfl rfl (by simp [hFn]) (by simp [hFn,fcd])⟩
  refine zan ?_;exact ⟨i+1,by omega,by omega,Le.go [(32,32),(288,288),(16,16)] [] rfl rfl (by simp [hw]) (by simp [fcd])⟩
 simp at h7;obtain rfl : i=G.edges.length:=by omega
 rw [FdN];refine zaq ?_;refine hit ?_;refine rk (s:=?sz) [6,7] [32,16] rfl ?oz ?qz
 case oz=>simp; rfl
 refine zai ?_;exact ⟨.inr rfl,zao.out [] [16] rfl (by simp) (by simp) (by simp [hN,fcd,zac]) (by simp)⟩
instance (g : Gr) (lv f t : Int) : Decidable (zsZ g lv f t):=by unfold zsZ; infer_instance
theorem ziq {a : List Int} {n : Int} (h : ∀ k∈a,0<=k/\k<n) : Rise (zaM a) 0 (n - 1):=by
 intro i hi;have hm:=zfL.1 (List.getElem_mem hi);have:=h _ hm.1;refine ⟨by omega,by omega,λ hp=>?_⟩
 exact (List.pairwise_iff_getElem.1 (ziG a)) (i - 1) i (by omega) hi (by omega)
theorem zgS (a : List Int) : (zaM a).length<=64:=Nat.le_trans (List.length_filter_le ..) (by simp)
theorem zrW (g : Gr) (p : Pol) (sinks : List Int) (hg : GrOk g) (hs : p.seeds.length<=64) (hsl : sinks.length<=64) : (zbK g p (zaQ g p) sinks).length<=1000:=by
 rw [zh9];have h1:=zdv _ (zjS (zaQ g p)) p.seeds;have h2:=zdv _ (zjM (zaQ g p)) (List.range (zaQ g p).length);have h3:=zdv _ (zkb (zaQ g p)) sinks;have h4:=zdv _ (zkv (zaQ g p)) (zal g p.lv).edges;have h5 : (zal g p.lv).edges.length<=g.edges.length:=List.length_filter_le ..;have h6:=hg.edges_le;have h7:=hg.1.2.1;have h8:=hg.1.1;rw [List.length_range] at h2;have h9 : (zaQ g p).length=g.size.toNat:=zcN;simp only [List.length_append];omega
def netN (g : Gr) : Nat:=(2+2*g.size).toNat
theorem zlR {g : Gr} (hg : GrOk g) : ((netN g : Nat) : Int)=2+2*g.size:=by unfold netN; have:=hg.1.1; omega
abbrev netA (g : Gr) (p : Pol) (ks : List Int) : List Ed:=zbK g p (zaQ g p) ks
def zau (g : Gr) (p : Pol) (ks : List Int) : Prop:=maxF (netN g) (netA g p ks)=ks.length
theorem zmH {g : Gr} {p : Pol} {ks : List Int} (hg : GrOk g) (hp : zbu g.size p) (hk : ∀ x∈ks,0<=x/\x<g.size) : zfO (netN g) (netA g p ks):=ztQ hg hp hk
theorem zlU {g : Gr} {p : Pol} {ks : List Int} (hg : GrOk g) (hp : zbu g.size p) (hk : ∀ x∈ks,0<=x/\x<g.size) (hs : p.seeds.length<=64) (hsl : ks.length<=64) : zbX ⟨netN g,netA g p ks⟩:=by
 have h1:=zmH hg hp hk;have h2 : (netA g p ks).length<=1000:=zrW g p ks hg hs hsl;have h3:=hg.1.2.1;have hN:=zlR hg;have h0:=hg.1.1
 have hcb : ∀ i : Nat,(zaQ g p).getD i 0<=1000:=λ i=>by
  rw [List.getD_eq_getElem?_getD]
  cases h : (zaQ g p)[i]? with
  | none=>simp
  | some v =>
    have hm:=List.mem_of_getElem? h;unfold zaQ at hm;obtain ⟨d,_,rfl⟩:=List.mem_map.1 hm;exact (zjh hp d).2
 refine ⟨by simp only; omega,by simp only; omega,by simp only; omega,λ a ha=>?_⟩
 obtain ⟨q1,q2,q3,q4,q5,q6,q7,q8⟩:=h1.arc a ha;refine ⟨q1,by simp only; omega,q3,by simp only; omega,q5,q6,q7,q8,?_⟩
 simp only [netA,zbK] at ha;rcases List.mem_append.1 ha with ha | ha
 .rcases List.mem_append.1 ha with ha | ha
  .rcases List.mem_append.1 ha with ha | ha
   .obtain ⟨x,hx,rfl⟩:=List.mem_map.1 ha
    have:=hcb x.toNat;simp only;omega
   .obtain ⟨i,hx,rfl⟩:=List.mem_map.1 ha
    have:=hcb i;simp only;omega
  .obtain ⟨x,hx,rfl⟩:=List.mem_map.1 ha
   simp
 .obtain ⟨e,hx,rfl⟩:=List.mem_map.1 ha
  simp
section
variable {P : Program} {np id : Nat} {h : Nat->Option Ent} {K : AV->List Nat->List (Nat × Option Ent)->Prop} {f : FuncId} {first capt args args' : List AV} {res : AV}
end
def lowN : List Int->Int->Nat
 | [],_=>0
 | x::l,k=>if x<k then lowN l k+1 else 0
def putL (l : List Int) (k : Int) : List Int:=if l[lowN l k]? = some k then l else l.take (lowN l k)++k::l.drop (lowN l k)
theorem zpl : ∀ (l : List Int) (k : Int),lowN l k<=l.length
 | [],_=>Nat.le_refl _
 | x::l,k=>by unfold lowN; have:=zpl l k; split <;> simp <;> omega
theorem zrk : ∀ {l : List Int} {k : Int} {i : Nat} (h : i<l.length),i<lowN l k->l[i]<k
 | x::l,k,0,_,h=>by
   unfold lowN at h;split at h
   .simpa
   .omega
 | x::l,k,i+1,hi,h=>by
   unfold lowN at h;split at h
   .simpa using zrk (l:=l) (by simpa using hi) (by omega)
   .omega
theorem zno : ∀ {l : List Int} {k : Int} (h : lowN l k<l.length),¬ l[lowN l k]<k
 | x::l,k,h=>by
   by_cases hx : x<k
   .have e : lowN (x::l) k=lowN l k+1:=by simp [lowN,hx]
    simp only [e,List.getElem_cons_succ];exact zno (by rw [e] at h; simpa using h)
   .have e : lowN (x::l) k=0:=by simp [lowN,hx]
    simp only [e,List.getElem_cons_zero];exact hx
theorem zx1 {l : List Int} {k : Int} {i : Nat} (hi : i<=l.length) (h1 : ∀ j (h : j<l.length),j<i->l[j]<k) (h2 : ∀ h : i<l.length,¬ l[i]<k) : lowN l k=i:=by
 rcases Nat.lt_trichotomy (lowN l k) i with h | h | h
 .exact absurd (h1 _ (by omega) h) (zno (by omega))
 .exact h
 .have hl:=zpl l k
  exact absurd (zrk (by omega) h) (h2 (by omega))
theorem zwM (l : List Int) (k : Int) : (putL l k).length<=l.length+1:=by
 unfold putL;split
 .omega
 .simp; have:=zpl l k; omega
theorem zpI {l : List Int} {k x : Int} : x∈putL l k↔x∈l∨x=k:=by
 unfold putL;split
 .rename_i h
  constructor
  .exact .inl
  .rintro (h1 | rfl)
   .exact h1
   .exact List.mem_of_getElem? h
 .rw [List.mem_append,List.mem_cons]
  conv=>rhs; rw [<- List.take_append_drop (lowN l k) l,List.mem_append]
  constructor
  .rintro (h | rfl | h)
   .exact .inl (.inl h)
   .exact .inr rfl
   .exact .inl (.inr h)
  .rintro ((h | h) | rfl)
   .exact .inl h
   .exact .inr (.inr h)
   .exact .inr (.inl rfl)
theorem zqC {l : List Int} {k : Int} (h : l.Pairwise (· < ·)) : (putL l k).Pairwise (· < ·):=by
 unfold putL;split
 .exact h
 .rename_i hne
  have hd : ∀ y∈l.drop (lowN l k),k<y:=by
   intro y hy;obtain ⟨i,hi,rfl⟩:=List.getElem_of_mem hy;rw [List.length_drop] at hi;rw [List.getElem_drop];have h0 : lowN l k<l.length:=by omega
   have h1:=zno h0;have h2 : l[lowN l k]≠k:=λ e=>hne (by rw [List.getElem?_eq_getElem h0,e])
   rcases Nat.eq_zero_or_pos i with rfl | hp
   .simp only [Nat.add_zero]; omega
   .have:=(List.pairwise_iff_getElem.1 h) (lowN l k) (lowN l k+i) h0 (by omega) (by omega)
    omega
  have ht : ∀ y∈l.take (lowN l k),y<k:=by
   intro y hy;obtain ⟨i,hi,rfl⟩:=List.getElem_of_mem hy;rw [List.length_take] at hi;rw [List.getElem_take];exact zrk (by omega) (by omega)
  rw [List.pairwise_append,List.pairwise_cons];refine ⟨h.sublist (List.take_sublist ..),⟨hd,h.sublist (List.drop_sublist ..)⟩,λ x hx y hy=>?_⟩;rcases List.mem_cons.1 hy with rfl | hy
  .exact ht x hx
  .have:=ht x hx; have:=hd y hy; omega
theorem zh3 {l : List Int} {n : Int} (h : l.Pairwise (· < ·)) (hr : ∀ k∈l,0<=k/\k<n) : Rise l 0 (n - 1):=by
 intro i hi;have:=hr _ (List.getElem_mem hi);refine ⟨by omega,by omega,λ hp=>?_⟩
 exact (List.pairwise_iff_getElem.1 h) (i - 1) i (by omega) hi (by omega)
theorem zxz (l : List Int) (k : Int) (hl : l.length<=1000000) : zaj Tryz.prog zgV [ints l,.I k] [] (.rs 0 0 (putL l k).length) [some ⟨1,zag (putL l k),0⟩]:=by
 refine zuc.ac ?_;show awp _ 0 _ _ ⟨45,[(0,ints l),(1,.I k)],[],16⟩;refine rs [0,1] [] [] ?_;refine rs [0,1,5] [] [] ?_;refine zaO (ι:=Nat) (λ i=>⟨45,[(0,ints l),(1,.I k),(5,.I i)],[],200⟩) (λ i=>i=lowN l k) ?_ λ i hil=>?_
 .refine zaf ?_
  refine zas (ι:=Nat) (λ i=>⟨45,[(0,ints l),(1,.I k),(5,.I i)],[],32⟩) (λ i=>i<=l.length /\ ∀ j (h : j<l.length),j<i->l[j]<k) (λ i=>l.length - i) 0 (by simp) (LeH [] []) ?_
  rintro i ⟨hi,hp⟩
  refine zab ?_;refine zaa ⟨45,[(0,ints l),(1,.I k),(5,.I i),(17,.B (decide (∃ h : i<l.length,l[i]<k)))],[],200⟩ rfl ?_ ?_
  .by_cases h1 : i<l.length
   .simp [h1]
    exact Le.snap [] rfl rfl (by simp [h1])
   .have hno : ¬ ∃ h : i<l.length,l[i]<k:=λ ⟨h,_⟩=>h1 h
    rw [decide_eq_false hno];simp [h1];exact Le.snap [] rfl rfl (by simp)
  refine zad _ rfl (λ h2=>?_) λ h2=>?_
  .rw [decide_eq_true_eq] at h2
   obtain ⟨h1,h2⟩:=h2;have hw : IntKind.i64.wrap ((i : Int)+1)=(i : Int)+1:=w6;refine zae ?_;refine zaf ?_;refine zan ?_;refine ⟨i+1,⟨h1,λ j hj hji=>?_⟩,by omega,Le.go [] [] rfl rfl (by simp [hw]) (by simp)⟩
   rcases Nat.lt_succ_iff_lt_or_eq.1 hji with h | rfl
   .exact hp j hj h
   .exact h2
  .rw [decide_eq_false_iff_not] at h2
   refine zaq ?_;refine hit ?_;exact ⟨i,(zx1 hi hp λ h h3=>h2 ⟨h,h3⟩).symm,LeH [] []⟩
 have hlo:=zpl l k;rw [<- hil] at hlo;refine zab ?_;refine zaa ⟨45,[(0,ints l),(1,.I k),(5,.I i),(31,.B (decide (l[i]? = some k)))],[],400⟩ rfl ?_ ?_
 .by_cases h1 : i<l.length
  .simp [h1]
   exact Le.snap [] rfl rfl (by simp [h1]; exact wkB (by rw [Bool.eq_iff_iff]; simp))
  .have hno : ¬ l[i]? = some k:=by rw [List.getElem?_eq_none (by omega)]; simp
   rw [decide_eq_false hno];simp [h1];exact Le.snap [] rfl rfl (by simp)
 refine zad _ rfl (λ h2=>?_) λ h2=>?_
 .rw [decide_eq_true_eq] at h2
  have hput : putL l k=l:=by unfold putL; rw [<- hil,if_pos h2]
  rw [hput];refine rk (s:=?s6) [4] [408] rfl ?o6 ?q6
  case o6=>simp; refine ⟨by omega,by omega,?_⟩; rfl
  refine zai ?_;exact ⟨.inr rfl,zao.out [408] [] rfl (by simp) (by simp) (by simp) (by simp [fcd])⟩
 rw [decide_eq_false_iff_not] at h2;have hput : putL l k=l.take i++k::l.drop i:=by unfold putL; rw [<- hil,if_neg h2]
 have hpl : (putL l k).length=l.length+1:=by rw [hput]; simp; omega
 have hpl2 : (putL l k).length=i+1+(l.length - i):=by omega
 refine zae ?_;refine zaC ⟨45,[(4,.rs 480 0 (putL l k).length)],[(480,some ⟨1,zag (putL l k),0⟩)],600⟩ rfl ?_ ?_
 .simp [hlo]
  refine ⟨by omega,by omega,by omega,by omega,by omega,by omega,rfl,Le.go [(480,480)] [] rfl rfl (by simp [hpl2]) (by simp [hput,fcd,List.take_of_length_le,hlo])⟩
 refine zai ?_;exact ⟨.inr rfl,zao.out [480] [] rfl (by simp) (by simp) (by simp) (by simp [fcd])⟩
theorem znQ : ∀ {a b : List Int},a.Pairwise (· < ·)->b.Pairwise (· < ·)->(∀ x,x∈a↔x∈b)->a=b
 | [],[],_,_,_=>rfl
 | [],y::b,_,_,h=>by have:=(h y).2 (by simp); cases this
 | x::a,[],_,_,h=>by have:=(h x).1 (by simp); cases this
 | x::a,y::b,ha,hb,h=>by
   have ha':=List.pairwise_cons.1 ha;have hb':=List.pairwise_cons.1 hb
   have hxy : x=y:=by
    have h1:=(h x).1 (by simp)
    have h2:=(h y).2 (by simp)
    rcases List.mem_cons.1 h1 with e | e
    .exact e
    .rcases List.mem_cons.1 h2 with e2 | e2
     .exact e2.symm
     .have:=hb'.1 x e
      have:=ha'.1 y e2;omega
   subst hxy
   congr 1
   refine znQ ha'.2 hb'.2 λ z=>⟨λ hz=>?_,λ hz=>?_⟩
   .rcases List.mem_cons.1 ((h z).1 (List.mem_cons_of_mem _ hz)) with rfl | e
    .have:=ha'.1 z hz; omega
    .exact e
   .rcases List.mem_cons.1 ((h z).2 (List.mem_cons_of_mem _ hz)) with rfl | e
    .have:=hb'.1 z hz; omega
    .exact e
theorem zuu {a : List Int} {k : Int} (h0 : 0<=k) (h1 : k<64) : putL (zaM a) k=zaM (a++[k]):=by
 refine znQ (zqC (ziG a)) (ziG _) λ x=>?_;rw [zpI,zfL,zfL,List.mem_append,List.mem_singleton];constructor
 .rintro (h | rfl)
  .exact ⟨.inl h.1,h.2⟩
  .exact ⟨.inr rfl,h0,h1⟩
 .rintro ⟨h | h,h2⟩
  .exact .inl ⟨h,h2⟩
  .exact .inr h
open Classical in
noncomputable def accR (g : Gr) (p : Pol) (o : List Int) : List Int:=o.foldl (λ acc k=>if zau g p (zaM (acc++[k])) then acc++[k] else acc) []
variable {g : Gr} {p : Pol}
theorem zl0 : accR g p []=[]:=rfl
open Classical in
theorem zc3 {o : List Int} {k : Int} (h : zau g p (zaM (accR g p o++[k]))) : accR g p (o++[k])=accR g p o++[k]:=by
 have h2 : accR g p (o++[k])=if zau g p (zaM (accR g p o++[k])) then accR g p o++[k] else accR g p o:=by unfold accR; rw [List.foldl_append]; rfl
 rw [h2,if_pos h]
open Classical in
theorem zjE {o : List Int} {k : Int} (h : ¬ zau g p (zaM (accR g p o++[k]))) : accR g p (o++[k])=accR g p o:=by
 have h2 : accR g p (o++[k])=if zau g p (zaM (accR g p o++[k])) then accR g p o++[k] else accR g p o:=by unfold accR; rw [List.foldl_append]; rfl
 rw [h2,if_neg h]
theorem zqv (o : List Int) (k : Int) : accR g p (o++[k])=accR g p o∨accR g p (o++[k])=accR g p o++[k]:=by
 by_cases h : zau g p (zaM (accR g p o++[k]))
 .exact .inr (zc3 h)
 .exact .inl (zjE h)
theorem zgp : ∀ (n : Nat) (o : List Int),o.length=n->(accR g p o).Sublist o
 | 0,o,h=>by
   obtain rfl:=List.eq_nil_of_length_eq_zero h;exact List.nil_sublist _
 | n+1,o,h=>by
   have hne : o≠[]:=λ e=>by rw [e] at h; cases h
   rw [<- List.dropLast_concat_getLast hne];have ih:=zgp n o.dropLast (by rw [List.length_dropLast,h]; rfl)
   rcases zqv (g:=g) (p:=p) o.dropLast (o.getLast hne) with e | e
   .rw [e]; exact ih.trans (List.sublist_append_left _ _)
   .rw [e]; exact ih.append (List.Sublist.refl _)
theorem zfF {o : List Int} {x : Int} (h : x∈accR g p o) : x∈o:=(zgp _ o rfl).subset h
theorem zoL (o : List Int) : (accR g p o).length<=o.length:=(zgp _ o rfl).length_le
open Classical in
noncomputable def zgT (N : Nat) (A : List Ed) : List Int:=((List.range N).map λ k : Nat=>(k : Int)).filter λ k=>decide (∀ S : Int->Bool,S 0=true->S 1=false->capS S A=maxF N A->S k=true)
theorem zo8 {N : Nat} {A : List Ed} {f D : List Int} {by_ : Int->Stp} (hn : zfO N A) (hf : zaJ N A f) (hm : ∀ f',zaJ N A f'->valF A f'<=valF A f) (ht : zv9 A f D by_) (h0 : (0 : Int)∈D) (h1 : (1 : Int)∉D) (hc : zgA A f D) :
  ((List.range N).map λ k : Nat=>(k : Int)).filter (λ k=>decide (k∈D))=zgT N A:=by
 unfold zgT;refine List.filter_congr λ k _=>?_;rw [decide_eq_decide];have hmf:=ziw hf hm;constructor
 .intro hk S s0 s1 hS
  exact znX hn hf ht s0 s1 (hS.trans hmf) k hk
 .intro h
  have:=h (λ x=>decide (x∈D)) (by simpa using h0) (by simpa using h1) (by rw [hmf]; exact (ziF hn hf h0 h1 hc).1.symm)
  simpa using this
open Classical in
noncomputable def refS (g : Gr) (p : Pol) (o : List Int) : List Int × List (Int × List Int) :=
 o.foldl (λ s k=>if zau g p (zaM (s.1++[k])) then (s.1++[k],s.2) else (s.1,s.2++[(k,zgT (netN g) (netA g p (zaM (s.1++[k]))))])) ([],[])
noncomputable def refR (g : Gr) (p : Pol) (o : List Int) : List (Int × List Int):=(refS g p o).2
open Classical in
theorem zme (o : List Int) (k : Int) : refS g p (o++[k])=if zau g p (zaM ((refS g p o).1++[k])) then ((refS g p o).1++[k],(refS g p o).2) else ((refS g p o).1,(refS g p o).2++[(k,zgT (netN g) (netA g p (zaM ((refS g p o).1++[k]))))]):=by
 unfold refS;rw [List.foldl_append];rfl
theorem zpD : ∀ (n : Nat) (o : List Int),o.length=n->(refS g p o).1=accR g p o
 | 0,o,h=>by
   obtain rfl:=List.eq_nil_of_length_eq_zero h;rfl
 | n+1,o,h=>by
   have hne : o≠[]:=λ e=>by rw [e] at h; cases h
   rw [<- List.dropLast_concat_getLast hne];have ih:=zpD n o.dropLast (by rw [List.length_dropLast,h]; rfl)
   rw [zme,ih];split
   .rename_i h1
    rw [zc3 h1]
   .rename_i h1
    rw [zjE h1]
theorem ziL {o : List Int} {k : Int} (h : zau g p (zaM (accR g p o++[k]))) : refR g p (o++[k])=refR g p o:=by
 unfold refR;rw [zme,zpD _ o rfl,if_pos h]
theorem zpy {o : List Int} {k : Int} (h : ¬ zau g p (zaM (accR g p o++[k]))) : refR g p (o++[k])=refR g p o++[(k,zgT (netN g) (netA g p (zaM (accR g p o++[k]))))]:=by
 unfold refR;rw [zme,zpD _ o rfl,if_neg h]
structure zxQ (g : Gr) (p : Pol) (acc : List Int) (k : Int) (side : List Int) : Prop where
 no : ¬ zau g p (zaM (acc++[k]))
 ok : zqK ⟨netN g,netA g p (zaM (acc++[k]))⟩ side
 cut : cutV (netA g p (zaM (acc++[k]))) side=maxF (netN g) (netA g p (zaM (acc++[k])))
 len : side.length<=130
 eq : side=zgT (netN g) (netA g p (zaM (acc++[k])))
structure zjW (g : Gr) (p : Pol) (o : List Int) (R : List (Int × List Int)) : Prop where
 all : ∀ i (h : i<o.length),o[i]∉accR g p (o.take (i+1)) -> ∃ side,(o[i],side)∈R
 right : ∀ r∈R,∃ i,∃ h : i<o.length,o[i]=r.1/\zxQ g p (accR g p (o.take i)) r.1 r.2
 len : R.length<=o.length
 eq : R=refR g p o
theorem zjW.nil : zjW g p [] []:=⟨λ i h=>absurd h (Nat.not_lt_zero _),(λ r h=>nomatch h),Nat.le_refl _,rfl⟩
theorem zjW.yes {o : List Int} {k : Int} {R : List (Int × List Int)} (hr : zjW g p o R) (h : zau g p (zaM (accR g p o++[k]))) : zjW g p (o++[k]) R:=by
 refine ⟨λ i hi hn=>?_,λ r hr'=>?_,Nat.le_trans hr.len (by simp),by rw [ziL h]; exact hr.eq⟩
 .rw [List.length_append,List.length_singleton] at hi
  by_cases hio : i<o.length
  .rw [List.getElem_append_left hio] at hn ⊢
   rw [List.take_append_of_le_length (by omega)] at hn
   exact hr.all i hio hn
  .obtain rfl : i=o.length:=by omega
   refine absurd ?_ hn;rw [List.take_of_length_le (by simp),zc3 h]
   simp
 .obtain ⟨i,hi,h1,h2⟩:=hr.right r hr'
  refine ⟨i,by simp; omega,by rw [List.getElem_append_left hi]; exact h1,?_⟩
  rw [List.take_append_of_le_length (by omega)]
  exact h2
theorem zjW.no {o : List Int} {k : Int} {R : List (Int × List Int)} {side : List Int} (hr : zjW g p o R) (h : zxQ g p (accR g p o) k side) : zjW g p (o++[k]) (R++[(k,side)]):=by
 refine ⟨λ i hi hn=>?_,λ r hr'=>?_,by have:=hr.len; simp; omega,by rw [zpy h.no,<- hr.eq,<- h.eq]⟩
 .rw [List.length_append,List.length_singleton] at hi
  by_cases hio : i<o.length
  .rw [List.getElem_append_left hio] at hn ⊢
   rw [List.take_append_of_le_length (by omega)] at hn
   obtain ⟨s,hs⟩:=hr.all i hio hn;exact ⟨s,List.mem_append_left _ hs⟩
  .obtain rfl : i=o.length:=by omega
   exact ⟨side,by simp⟩
 .rcases List.mem_append.1 hr' with h3 | h3
  .obtain ⟨i,hi,h1,h2⟩:=hr.right r h3
   refine ⟨i,by simp; omega,by rw [List.getElem_append_left hi]; exact h1,?_⟩
   rw [List.take_append_of_le_length (by omega)]
   exact h2
  .rw [List.mem_singleton] at h3
   subst h3;refine ⟨o.length,by simp,by simp,?_⟩
   rw [List.take_append_of_le_length (Nat.le_refl _),List.take_length];exact h
theorem zl6 (side : List Int) : ∀ A : List Ed,cutV A side=capS (λ x=>decide (x∈side)) A
 | []=>rfl
 | e::A=>by
   have h1 : cutV (e::A) side=(if e.f∈side/\e.t∉side then e.v else 0)+cutV A side:=by simp [cutV]
   have h2 : capS (λ x=>decide (x∈side)) (e::A)=(if decide (e.f∈side)=true/\decide (e.t∈side)=false then e.v else 0)+capS (λ x=>decide (x∈side)) A:=rfl
   rw [h1,h2,zl6 side A];simp
def zgP : List Int->List Int->List Int->Bool
 | [],a,r=>a.isEmpty && r.isEmpty
 | x::o,a,r=>if a.head? = some x then zgP o a.tail r else if r.head? = some x then zgP o a r.tail else false
theorem zmh : ∀ {o a r : List Int} {k : Int},zgP o a r=true->k∉o->zgP (o++[k]) (a++[k]) r=true
 | [],a,r,k,h,_=>by
   simp [zgP] at h;rw [h.1,h.2];simp [zgP]
 | x::o,a,r,k,h,hk=>by
   have hkx : k≠x:=λ e=>hk (by simp [e])
   have hko : k∉o:=λ e=>hk (List.mem_cons_of_mem _ e);simp only [zgP] at h;simp only [List.cons_append,zgP];split at h
   .rename_i h1
    cases a with
    | nil=>cases h1
    | cons y a =>
      have : y=x:=by simpa using h1
      subst this
      simpa using zmh h hko
   .rename_i h1
    split at h
    .rename_i h2
     have h3 : (a++[k]).head? ≠ some x:=by
      cases a with
      | nil=>simpa using hkx
      | cons y a=>simpa using h1
     rw [if_neg h3,if_pos h2];exact zmh h hko
    .cases h
theorem zm1 : ∀ {o a r : List Int} {k : Int},zgP o a r=true->k∉o->zgP (o++[k]) a (r++[k])=true
 | [],a,r,k,h,_=>by
   simp [zgP] at h;rw [h.1,h.2];simp [zgP]
 | x::o,a,r,k,h,hk=>by
   have hkx : k≠x:=λ e=>hk (by simp [e])
   have hko : k∉o:=λ e=>hk (List.mem_cons_of_mem _ e);simp only [zgP] at h;simp only [List.cons_append,zgP];split at h
   .rename_i h1
    rw [if_pos h1];exact zm1 h hko
   .rename_i h1
    rw [if_neg h1];split at h
    .rename_i h2
     cases r with
     | nil=>cases h2
     | cons y r =>
       have : y=x:=by simpa using h2
       subst this
       simpa using zm1 h hko
    .cases h
def zyl (g : Gr) (p : Pol) (b : List Int) (r : Int × List Int) : Prop:=zpr ⟨netN g,netA g p (zaM (b++[r.1]))⟩ r.2 b.length
def zkV (g : Gr) (p : Pol) : List Int->List Int->List Int->List (Int × List Int)->Prop
 | _,[],_,_=>True
 | b,x::o,a,R=>if a.head? = some x then zkV g p (b++[x]) o a.tail R else match R with
   | []=>True
   | r::R=>zyl g p b r/\zkV g p b o a R
def zrS (R : List (Int × List Int)) : List Int:=R.map (·.1)
theorem WayA.last {A : List Ed} : ∀ {l : List Nat} {u w : Int},WayA A u l w->(u::metA A l)[l.length]? = some w
 | [],u,w,h=>by
   have : u=w:=h;simp [metA,this]
 | i::l,u,w,h=>by
   have:=WayA.last h.2.2
   simpa [metA] using this
structure BalF (N : Nat) (A : List Ed) (f : List Int) : Prop where
 len : f.length=A.length
 nonneg : ∀ i,0<=f.getD i 0
 bal : ∀ x : Int,2<=x->x<N->exF A f x=0
variable {N : Nat} {A : List Ed} {f g : List Int}
theorem zaJ.balF (h : zaJ N A f) : BalF N A f:=by
 have hf:=zeB.1 h.fit;refine ⟨hf.1,λ i=>?_,λ x h2 h3=>?_⟩
 .by_cases hi : i<A.length
  .exact (hf.2 i hi).1
  .rw [List.getD_eq_getElem?_getD,List.getElem?_eq_none (by rw [hf.1]; omega)]
   exact Int.le_refl _
 .have:=h.bal x.toNat (by omega) (by omega)
  rw [Int.toNat_of_nonneg (by omega)] at this
  unfold exF;omega
theorem zmw.balF (hf : BalF N A f) {l : List Nat} (h : zmw A f g l 1) : BalF N A g/\exF A g 0=exF A f 0 - 1:=by
 refine ⟨⟨h.len,h.nonneg,λ x h2 h3=>?_⟩,?_⟩
 .rw [h.ex x,hf.bal x h2 h3,if_neg (by omega),if_neg (by omega)]
  rfl
 .rw [h.ex 0,if_pos rfl,if_neg (by decide)]
  omega
structure zn8 (N : Nat) (A : List Ed) (f g : List Int) (W : List (List Nat)) : Prop where
 bal : BalF N A g
 ex : exF A g 0=exF A f 0 - W.length
 ways : ∀ w∈W,WayA A 0 w 1/\(metA A w).Nodup
 used : ∀ i,g.getD i 0+(sumN (List.count i) W : Int)<=f.getD i 0
theorem zn8.nil (hf : BalF N A f) : zn8 N A f f []:=⟨hf,by simp,by simp,λ i=>by simp [sumN]⟩
theorem zn8.more {g' : List Int} {W : List (List Nat)} {l : List Nat} (h : zn8 N A f g W) (hl : zmw A g g' l 1) : zn8 N A f g' (W++[l]):=by
 obtain ⟨b1,b2⟩:=hl.balF h.bal;refine ⟨b1,by rw [b2,h.ex,List.length_append,List.length_singleton]; omega,λ w hw=>?_,λ i=>?_⟩
 .rcases List.mem_append.1 hw with hw | hw
  .exact h.ways w hw
  .rw [List.mem_singleton] at hw
   subst hw;exact ⟨hl.way,(List.nodup_cons.1 hl.met).2⟩
 .have h1:=h.used i
  have h2:=hl.used i;have h3 : sumN (List.count i) (W++[l])=sumN (List.count i) W+l.count i:=by unfold sumN; simp
  rw [h3];omega
theorem zlP (S : Int->Bool) : ∀ A : List Ed,capS S A=(A.map λ e=>if S e.f=true/\S e.t=false then e.v else 0).sum
 | []=>rfl
 | e::A=>by
   have ih:=zlP S A;unfold capS at ih ⊢;simp only [List.map_cons,sumF,List.sum_cons];rw [ih]
theorem zlT {α : Type} {h : α->Int} : ∀ {l : List α},(∀ x∈l,h x=0)->(l.map h).sum=0
 | [],_=>rfl
 | x::l,hx=>by
   rw [List.map_cons,List.sum_cons,hx x (List.mem_cons_self ..),zlT λ y hy=>hx y (List.mem_cons_of_mem _ hy)];rfl
theorem zvX {α : Type} {h : α->Int} : ∀ {l : List α},(∀ x∈l,h x<=1)->(l.map h).sum<=l.length
 | [],_=>Int.le_refl _
 | x::l,hx=>by
   have ih:=zvX (l:=l) λ y hy=>hx y (List.mem_cons_of_mem _ hy);have h1:=hx x (List.mem_cons_self ..);rw [List.map_cons,List.sum_cons,List.length_cons];omega
theorem zjF {g : Gr} {p : Pol} {ks : List Int} (hg : GrOk g) (hp : zbu g.size p) (hk : ∀ x∈ks,0<=x/\x<g.size) : maxF (netN g) (netA g p ks)<=ks.length:=by
 have hno:=zmH hg hp hk;obtain ⟨f,hf,hv⟩:=zta hno;rw [<- hv];refine Int.le_trans (zfH (S:=λ x=>decide (x≠1)) hno hf (by simp) (by simp)) ?_
 rw [zlP];simp only [netA,zbK,List.map_append,List.sum_append,List.map_map];have hle:=zk2 hg p.lv;rw [zlT,zlT,zlT (l:=(zal g p.lv).edges.filter _)]
 .have h1:=zvX (h:=(λ e : Ed=>if (decide (e.f≠1))=true/\(decide (e.t≠1))=false then e.v else 0)∘λ x : Int=>(⟨2+2*x,1,1⟩ : Ed)) (l:=ks.filter λ x=>decide (0<(zaQ g p).getD x.toNat 0)) λ x _=>by
   simp only [Function.comp];split <;> omega
  have h2:=List.length_filter_le (λ x=>decide (0<(zaQ g p).getD x.toNat 0)) ks;omega
 .intro e he
  have:=hle.2 e (List.mem_filter.1 he).1;simp only [Function.comp];rw [if_neg];simp;omega
 .intro i _
  simp only [Function.comp];rw [if_neg];simp;omega
 .intro x _
  simp only [Function.comp];rw [if_neg];simp;omega
theorem zxW {N : Nat} {A : List Ed} {f : List Int} (hn : zfO N A) : exF A f 0=valF A f:=by
 unfold exF valF;rw [zmi hn];omega
section
variable {N : Nat} {A : List Ed} {f : List Int}
theorem zu6 (hn : zfO N A) {s : Stp} (hs : s.1<A.length) : 0<=stT A s/\stT A s<N:=by
 have:=hn.arc _ (zfz hs);unfold stT;split <;> omega
theorem Bfs.grow (hn : zfO N A) : ∀ (n : Nat) (D b : List Int),Bfs N A f D b->N - D.length<=n -> ∃ D' b',Bfs N A f D' b'/\zgA A f D'
 | n,D,b,h,hl=>by
   by_cases hc : zgA A f D
   .exact ⟨D,b,h,hc⟩
   .unfold zgA at hc
    obtain ⟨s,hs⟩:=Classical.not_forall.1 hc;obtain ⟨h1,hs⟩:=Classical.not_imp.1 hs;obtain ⟨h2,hs⟩:=Classical.not_imp.1 hs;obtain ⟨h3,h4⟩:=Classical.not_imp.1 hs;have hr:=zu6 hn h1;have hp:=h.push h1 h2 h3 h4 hr.1 hr.2;have hf:=hp.few;rw [List.length_append,List.length_singleton] at hf
    match n,hl with
    | 0,hl=>omega
    | n+1,hl=>exact Bfs.grow hn n _ _ hp (by rw [List.length_append,List.length_singleton]; omega)
theorem zrv (hn : zfO N A) {D b : List Int} (hf1 : zaJ N A f) (hf2 : ∀ f',zaJ N A f'->valF A f'<=valF A f) (hb : Bfs N A f D b) : (1 : Int)∉D:=λ hm=>by
 obtain ⟨l,hl⟩:=hb.chain hm
 have h1:=hl.push hn hf1 (v:=1) (by omega) λ s hs=>by
  obtain ⟨i,hi,rfl⟩:=List.mem_iff_getElem.1 hs;have:=(hl.at_ i hi).2.1;omega
 have h2:=hf2 _ h1.1;omega
theorem zya (hn : zfO N A) {S : Int->Bool} (h0 : S 0=true) (h1 : S 1=false) : maxF N A<=capS S A:=by
 obtain ⟨f,hf,hv⟩:=zta hn;rw [<- hv];exact zfH hn hf h0 h1
theorem zw9 (hn : zfO N A) : ∃ X : Int->Bool,X 0=true/\X 1=false/\capS X A=maxF N A /\ ∀ S : Int->Bool,S 0=true->S 1=false->capS S A=maxF N A -> ∀ x,X x=true->S x=true:=by
 obtain ⟨f,hf,hm⟩:=zhF hn;obtain ⟨D,b,hb,hc⟩:=Bfs.grow hn N [0] _ (Bfs.start (f:=f) (by have:=hn.two; omega)) (by omega)
 have h1:=zrv hn hf hm hb;have hmf:=ziw hf hm;refine ⟨λ x=>decide (x∈D),by simpa using hb.mem0,by simpa using h1,?_,λ S s0 s1 hS x hx=>?_⟩
 .rw [hmf]
  exact (ziF hn hf hb.mem0 h1 hc).1.symm
 .exact znX hn hf hb.tree s0 s1 (hS.trans hmf) x (by simpa using hx)
end
def zuR (g : Gr) (p : Pol) (S : Int->Bool) : Int:=capS S (netA g p [])
def zjV (S : Int->Bool) (ks : List Int) : Int:=(ks.map λ k=>if S (2+2*k)=true then 1 else 0).sum
variable {g : Gr} {p : Pol}
def zxv (g : Gr) (p : Pol) (k : Int) : Prop:=0<(zaQ g p).getD k.toNat 0
theorem zn1 {S : Int->Bool} (h1 : S 1=false) {ks : List Int} (hk : ∀ k∈ks,zxv g p k) : capS S (netA g p ks)=zuR g p S+zjV S ks:=by
 have hf : ks.filter (λ x=>decide (0<(zaQ g p).getD x.toNat 0))=ks:=List.filter_eq_self.2 λ x hx=>decide_eq_true (hk x hx);unfold zuR zjV;simp only [zlP,netA,zbK,List.map_append,List.sum_append,List.map_map,hf]
 have e : ((λ e : Ed=>if S e.f=true/\S e.t=false then e.v else 0)∘λ x : Int=>(⟨2+2*x,1,1⟩ : Ed))=λ k=>if S (2+2*k)=true then 1 else 0:=by
  funext k
  simp only [Function.comp,h1,and_true]
 rw [e];simp only [List.filter_nil,List.map_nil,List.sum_nil];omega
theorem zsK (S : Int->Bool) : ∀ ks : List Int,zjV S ks<=ks.length
 | []=>Int.le_refl _
 | k::ks=>by
   have ih:=zsK S ks;unfold zjV at ih ⊢;simp only [List.map_cons,List.sum_cons,List.length_cons];split <;> omega
theorem zp3 (S : Int->Bool) (a b : List Int) : zjV S (a++b)=zjV S a+zjV S b:=by simp [zjV]
theorem ztH (S : Int->Bool) {a b : List Int} (h : a.Perm b) : zjV S a=zjV S b:=by
 unfold zjV
 induction h with
 | nil=>rfl
 | cons x _ ih=>simp only [List.map_cons,List.sum_cons,ih]
 | swap x y l=>simp only [List.map_cons,List.sum_cons]; omega
 | trans _ _ ih1 ih2=>exact ih1.trans ih2
theorem znY {S : Int->Bool} : ∀ {ks : List Int},(∀ k∈ks,S (2+2*k)=false)->zjV S ks=0
 | [],_=>rfl
 | k::ks,h=>by
   have ih:=znY (S:=S) (ks:=ks) λ x hx=>h x (List.mem_cons_of_mem _ hx);unfold zjV at ih ⊢;simp [ih,h k (List.mem_cons_self ..)]
structure zdg (g : Gr) (p : Pol) (ks : List Int) : Prop where
 rng : ∀ x∈ks,0<=x/\x<g.size
 reach : ∀ x∈ks,zxv g p x
theorem zdg.sub {a b : List Int} (h : zdg g p b) (hs : ∀ x∈a,x∈b) : zdg g p a:=⟨λ x hx=>h.rng x (hs x hx),λ x hx=>h.reach x (hs x hx)⟩
theorem zdg.nil : zdg g p []:=⟨λ _ h=>(List.not_mem_nil h).elim,λ _ h=>(List.not_mem_nil h).elim⟩
theorem zdg.append {a b : List Int} (h : zdg g p a) (h' : zdg g p b) : zdg g p (a++b) :=
 ⟨λ x hx=>(List.mem_append.1 hx).elim (h.rng x) (h'.rng x),λ x hx=>(List.mem_append.1 hx).elim (h.reach x) (h'.reach x)⟩
theorem zfd (hg : GrOk g) (hp : zbu g.size p) {ks : List Int} (hk : zdg g p ks) : zau g p ks ↔ ∀ S : Int->Bool,S 0=true->S 1=false->(ks.length : Int)<=zuR g p S+zjV S ks:=by
 have hn:=zmH hg hp hk.rng;unfold zau;constructor
 .intro h S h0 h1
  rw [<- zn1 h1 hk.reach,<- h];exact zya hn h0 h1
 .intro h
  obtain ⟨X,h0,h1,hc,_⟩:=zw9 hn;have h2:=h X h0 h1;rw [<- zn1 h1 hk.reach,hc] at h2;have h3:=zjF (p:=p) hg hp hk.rng;omega
theorem zau.perm (hg : GrOk g) (hp : zbu g.size p) {a b : List Int} (ha : zdg g p a) (h : zau g p a) (hp' : a.Perm b) : zau g p b:=by
 have hb : zdg g p b:=ha.sub λ x hx=>hp'.mem_iff.2 hx;rw [zfd hg hp hb];rw [zfd hg hp ha] at h;intro S h0 h1;rw [<- ztH S hp',<- hp'.length_eq];exact h S h0 h1
theorem zau.left (hg : GrOk g) (hp : zbu g.size p) {a b : List Int} (hk : zdg g p (a++b)) (h : zau g p (a++b)) : zau g p a:=by
 have ha : zdg g p a:=hk.sub λ x hx=>List.mem_append_left _ hx;rw [zfd hg hp ha];rw [zfd hg hp hk] at h;intro S h0 h1;have:=h S h0 h1;rw [zp3,List.length_append] at this;have:=zsK S b;omega
theorem zau.sublist (hg : GrOk g) (hp : zbu g.size p) {a b : List Int} (hk : zdg g p b) (h : zau g p b) (hs : a.Sublist b) : zau g p a:=by
 obtain ⟨c,hc⟩ : ∃ c,(a++c).Perm b:=by
  induction hs with
  | slnil=>exact ⟨[],.refl _⟩
  | cons x hs ih =>
    obtain ⟨c,hc⟩:=ih (hk.sub λ y hy=>List.mem_cons_of_mem _ hy) (by
     have h2 : zau g p (_++[x]):=h.perm hg hp hk (List.perm_append_comm (l₁:=[x]))
     exact h2.left hg hp (hk.sub λ y hy=>by simpa [or_comm] using hy))
    exact ⟨x::c,List.perm_middle.trans (hc.cons x)⟩
  | cons_cons x hs ih =>
    obtain ⟨c,hc⟩:=ih (hk.sub λ y hy=>List.mem_cons_of_mem _ hy) (by
     have h2 : zau g p (_++[x]):=h.perm hg hp hk (List.perm_append_comm (l₁:=[x]))
     exact h2.left hg hp (hk.sub λ y hy=>by simpa [or_comm] using hy))
    exact ⟨c,hc.cons x⟩
 exact (h.perm hg hp hk hc.symm).left hg hp (hk.sub λ x hx=>hc.mem_iff.1 hx)
theorem zau.nil (hg : GrOk g) (hp : zbu g.size p) : zau g p []:=by
 have h1:=zjF (p:=p) (ks:=[]) hg hp (by simp)
 have hn:=zmH (p:=p) (ks:=[]) hg hp (by simp)
 have h2:=zvs hn (zko hn)
 have h3 : valF (netA g p []) ((netA g p []).map λ _=>0)=0:=by
  unfold valF outF
  have : ∀ A : List Ed,sumF (λ e v=>if e.f=0 then v else 0) A (A.map λ _=>0)=0:=by
   intro A
   induction A with
   | nil=>rfl
   | cons e A ih=>simp only [List.map_cons,sumF,ih]; split <;> rfl
  exact this _
 unfold zau;simp at h1 ⊢;omega
variable {g : Gr} {S : List Int} {key : Int}
abbrev zkX (l : List Bool) : List (List AV):=l.map λ b=>[AV.B b]
variable {g : Gr} {S : List Int} {key : Int}
end Go.Proofs.YtkngdgplbojdlaaGreat
