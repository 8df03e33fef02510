/- Texts of this claim,merged. -/
import Derived.Test.YteiabadhhhckfaaGreatRi14
import Derived.Test.YteiabadhhhckfaaGreatRi12
import Derived.Test.YteiabadhhhckfaaGreatRi13
import Derived.Test.YteiabadhhhckfaaGreatRi10
import Derived.Test.YteiabadhhhckfaaGreatRi6
set_option linter.unusedSimpArgs false
set_option linter.unusedVariables false
set_option linter.unusedSectionVars false
namespace Go.Proofs.YteiabadhhhckfaaGreat
open Go
structure PwSt where
 W : List (List Nat)
 g : List Int
structure PiSt where
 l : List Nat
 w : Int
 g : List Int
 V : List Int
 R : List (List AV)
structure zvl (A : List Ed) (f : List Int) (s : PiSt) : Prop where
 left : zgf A f s.g s.l s.w
 v : s.V.take s.l.length = natL s.l
 vl : s.l.length ≤ s.V.length
 r : MapI s.R (metF A s.l)
set_option maxRecDepth 100000 in
set_option maxHeartbeats 8000000 in
open Classical in
theorem zmQ (N : Nat) (A : List Ed) (f : List Int) (hn : za4 ⟨N,A⟩) (hf : zaD N A f) (hNl : N ≤ 130) :
  ∃ W : List (List Nat),((∃ g',zfY N A f g' W) ∧ (W.length : Int) = valF A f ∧ ∀ w ∈ W,w.length ≤ 130) ∧ zaj Tryz.prog zf7 [eN ⟨N,A⟩,ints f] [] (.tup [.vs 1 false (W.map fun w=>[ints (natL w)]),.I 0]) []:=by
 refine zn0.acallsX (args:=[eN ⟨N,A⟩,ints f]) (hs:=[]) (fun W=>.tup [.vs 1 false (W.map fun w=>[ints (natL w)]),.I 0]) (fun _=>[]) (fun W : List (List Nat)=>(∃ g',zfY N A f g' W) ∧ (W.length : Int) = valF A f ∧ ∀ w ∈ W,w.length ≤ 130) (nbz rfl) (nbz rfl) (fun _=>Nat.le_refl _) ?_
 show awp _ 0 _ _ ⟨119,[(0,eN ⟨N,A⟩),(1,ints f)],[],16⟩
 have hno:=zd4 hn
 have hfit:=zcl.1 hf.fit
 have hfl:=hf.fit.len
 have hal:=hn.2.2.1
 simp only at hal
 have hchk:=zeM ⟨N,A⟩ (by simp only; omega)
 rw [if_pos hn] at hchk
 have hvld:=zgF (f:=f) hn (by omega)
 rw [decide_eq_true hf] at hvld
 have hval:=zg4 (f:=f) hn (by omega)
 rw [if_pos hf] at hval
 have hclone:=zet f (by omega)
 have hex:=zrk (f:=f) hno
 have hbal:=hf.balF
 have hv0:=zqc hno hbal
 have hfb : ∀ i,f.getD i 0 ≤ 1048576:=fun i=>by
  by_cases hi : i < A.length
  ·have h1:=hfit.2 i hi
   have h2 : (arcD A i).v ≤ 1048576:=(hn.2.2.2 _ (zb0 hi)).2.2.2.2.2.2.2.2
   omega
  ·rw [List.getD_eq_getElem?_getD,List.getElem?_eq_none (by omega)]
   simp
 obtain ⟨vl,hvl⟩ : ∃ vl : Nat,valF A f = (vl : Int):=⟨(valF A f).toNat,by omega⟩
 rw [hvl] at hval hex
 have htf : ∀ h : Int → List AV,List.take A.length (List.map h f) = List.map h f:=fun h=>List.take_of_length_le (by simp; omega)
 have hvb : vl ≤ 10000000000:=by
  have hb:=zhw (A:=A) (f:=f) hfl (fun q hq=>⟨by have:=(hfit.2 q (by omega)).1; rwa [zgN hq] at this,by have:=hfb q; rwa [zgN hq] at this⟩) 0 A.length (Nat.le_refl _)
  rw [List.take_of_length_le (Nat.le_refl _),List.take_of_length_le (by omega)] at hb
  unfold exF at hex
  rw [zfh hno] at hex
  omega
 refine zaa ⟨119,[(1,ints f),(2,.pv (nC ⟨N,A⟩))],[],100⟩ rfl ?_ ?_
 ·simp
  exact LeH [] [16]
 refine zab ?_
 refine zaa ⟨119,[(1,ints f),(2,.pv (nC ⟨N,A⟩)),(6,.I 0)],[],200⟩ rfl ?_ ?_
 ·simp
  refine zap hchk (by simp) ?_
  simp
  exact LeH [] []
 refine zaa ⟨119,[(1,ints f),(2,.pv (nC ⟨N,A⟩)),(20,.B false)],[],300⟩ rfl ?_ ?_
 ·simp
  exact LeH [] []
 refine zac _ rfl (fun h=>by cases h) fun _=>?_
 refine zad ?_
 refine zab ?_
 refine zaa ⟨119,[(1,ints f),(2,.pv (nC ⟨N,A⟩)),(25,.B false)],[],400⟩ rfl ?_ ?_
 ·simp
  refine zap hvld (by simp) ?_
  simp
  exact LeH [] []
 refine zac _ rfl (fun h=>by cases h) fun _=>?_
 refine zad ?_
 refine zaa ⟨119,[(1,ints f),(2,.pv (nC ⟨N,A⟩)),(7,.rs 18 0 A.length)],[(18,some ⟨1,zaf f,0⟩)],500⟩ rfl ?_ ?_
 ·simp
  refine zaU hclone (by simp) ?_
  simp
  exact Le.go [(408,18)] [] rfl rfl (by simp [hfl]) (by simp [fcd])
 refine zaa ⟨119,[(1,ints f),(2,.pv (nC ⟨N,A⟩)),(7,.rs 18 0 A.length),(8,.nilS)],[(18,some ⟨1,zaf f,0⟩)],600⟩ rfl ?_ ?_
 ·simp
  exact LeI [(18,18)] []
 refine zab ?_
 refine zaa ⟨119,[(2,.pv (nC ⟨N,A⟩)),(7,.rs 18 0 A.length),(8,.nilS),(30,.I vl),(31,.I 0)],[(18,some ⟨1,zaf f,0⟩)],700⟩ rfl ?_ ?_
 ·simp
  refine zap hval (by simp) ?_
  simp
  exact LeI [(18,18)] []
 refine zag ?_
 refine zao (ι:=PwSt) (fun s=>⟨119,[(2,.pv (nC ⟨N,A⟩)),(7,.rs 18 0 A.length),(8,.rs 17 0 s.W.length),(30,.I vl),(31,.I s.W.length)],[(18,some ⟨1,zaf s.g,0⟩),(17,some ⟨1,s.W.map fun w=>[ints (natL w)],0⟩)],700⟩)
  (fun s=>zfY N A f s.g s.W ∧ s.W.length ≤ vl ∧ ∀ w ∈ s.W,w.length ≤ 130) (fun s=>vl - s.W.length) ⟨[],f⟩ ⟨zfY.nil hbal,Nat.zero_le _,by simp⟩
  (Le.lst [(18,18)] [] [(17,1)] rfl (by simp) (by simp) (by simp) (by simp) (by simp) (by simp) (by simp) (by simp [Up]) (by simp [fcd]; exact zaA.rfl' (by simp))) ?_
 rintro ⟨W,g0⟩ ⟨hT,hWv,hWl⟩
 simp only at hT hWv hWl
 have hg0l:=hT.bal.len
 have hg0b : ∀ i,g0.getD i 0 ≤ 1048576:=fun i=>by
  have h1:=hT.used i
  have h2:=hfb i
  omega
 have htW : ∀ h : List Nat → List AV,List.take W.length (List.map h W) = List.map h W:=fun h=>List.take_of_length_le (by simp)
 refine zaa ⟨119,[(2,.pv (nC ⟨N,A⟩)),(7,.rs 18 0 A.length),(8,.rs 17 0 W.length),(30,.I vl),(31,.I W.length),(32,.B (decide (W.length < vl)))],[(18,some ⟨1,zaf g0,0⟩),(17,some ⟨1,W.map fun w=>[ints (natL w)],0⟩)],800⟩ rfl ?_ ?_
 ·simp
  exact LeI [(18,18),(17,17)] []
 refine zab ?_
 refine zac _ rfl (fun h13=>?_) fun h13=>?_
 ·rw [decide_eq_true_eq] at h13
  have hpos : 0 < exF A g0 0:=by have:=hT.ex; omega
  refine zad ?_
  refine zab ?_
  refine zag ?_
  refine zaa ⟨119,[(2,.pv (nC ⟨N,A⟩)),(7,.rs 18 0 A.length),(8,.rs 17 0 W.length),(9,.nilS),(30,.I vl),(31,.I W.length)],[(18,some ⟨1,zaf g0,0⟩),(17,some ⟨1,W.map fun w=>[ints (natL w)],0⟩)],900⟩ rfl ?_ ?_
  ·simp
   exact LeI [(18,18),(17,17)] []
  refine zaa ⟨119,[(2,.pv (nC ⟨N,A⟩)),(7,.rs 18 0 A.length),(8,.rs 17 0 W.length),(9,.nilS),(10,.mp 20),(30,.I vl),(31,.I W.length)],[(18,some ⟨1,zaf g0,0⟩),(17,some ⟨1,W.map fun w=>[ints (natL w)],0⟩),(20,some ⟨0,[[.I 0,.I 0]],0⟩)],1000⟩ rfl ?_ ?_
  ·simp [mset]
   exact LeI [(18,18),(17,17),(900,20)] []
  refine zab ?_
  refine zaa ⟨119,[(2,.pv (nC ⟨N,A⟩)),(7,.rs 18 0 A.length),(8,.rs 17 0 W.length),(9,.nilS),(10,.mp 20),(11,.pt 21 0 0),(30,.I vl),(31,.I W.length)],[(18,some ⟨1,zaf g0,0⟩),(17,some ⟨1,W.map fun w=>[ints (natL w)],0⟩),(20,some ⟨0,[[.I 0,.I 0]],0⟩),(21,some ⟨1,[[.I 0]],0⟩)],1100⟩ rfl ?_ ?_
  ·simp
   exact LeI [(18,18),(17,17),(20,20),(1000,21)] []
  refine zag ?_
  refine zao (ι:=PiSt) (fun s=>⟨119,[(2,.pv (nC ⟨N,A⟩)),(7,.rs 18 0 A.length),(8,.rs 17 0 W.length),(9,.rs 19 0 s.l.length),(10,.mp 20),(11,.pt 21 0 0),(30,.I vl),(31,.I W.length)],[(18,some ⟨1,zaf s.g,0⟩),(17,some ⟨1,W.map fun w=>[ints (natL w)],0⟩),(19,some ⟨1,zaf s.V,0⟩),(20,some ⟨0,s.R,0⟩),(21,some ⟨1,[[.I s.w]],0⟩)],1100⟩)
   (fun s=>zvl A g0 s) (fun s=>totN s.g) ⟨[],0,g0,[],[[.I 0,.I 0]]⟩ ⟨zgf.start hg0l hT.bal.nonneg,rfl,Nat.le_refl _,zp1 A⟩
   (Le.lst [(18,18),(17,17),(20,20),(21,21)] [] [(19,1)] rfl (by simp) (by simp) (by simp) (by simp) (by simp) (by simp) (by simp) (by simp [Up]) (by simp [fcd]; exact ⟨zaA.rfl' (by simp),zaA.rfl' (by simp),zaA.rfl' (by simp),zaA.rfl' (by simp)⟩)) ?_
  rintro ⟨l,w,g,V,R⟩ ⟨hL,hV,hVl,hR⟩
  simp only at hL hV hVl hR
  have hfew:=hL.few hno
  have hgl:=hL.len
  have htV : ∀ h : Int → List AV,List.take l.length (List.map h V) = List.map h (natL l):=fun h=>by rw [← List.map_take,hV]
  have hRc:=fun ρ sn h=>hR.conv' ρ sn h
  refine zab ?_
  refine zaa ⟨119,[(2,.pv (nC ⟨N,A⟩)),(7,.rs 18 0 A.length),(8,.rs 17 0 W.length),(9,.rs 19 0 l.length),(10,.mp 20),(11,.pt 21 0 0),(30,.I vl),(31,.I W.length),(36,.B (decide (w ≠ 1)))],[(18,some ⟨1,zaf g,0⟩),(17,some ⟨1,W.map fun w=>[ints (natL w)],0⟩),(19,some ⟨1,zaf V,0⟩),(20,some ⟨0,R,0⟩),(21,some ⟨1,[[.I w]],0⟩)],1200⟩ rfl ?_ ?_
  ·simp
   exact Le.go [(18,18),(17,17),(19,19),(20,20),(21,21)] [] rfl rfl (by simp <;> exact wkB (by rw [Bool.eq_iff_iff]; simp)) (by simp [fcd,hRc])
  refine zac _ rfl (fun h18=>?_) fun h18=>?_
  ·rw [decide_eq_true_eq] at h18
   obtain ⟨j,hj,hjf,hjg⟩:=hL.go_on hno hT.bal h18 fun _=>hpos
   have hjq : decide (A[j].f = w) = true:=by rw [decide_eq_true_eq,← hjf,zdn hj]
   obtain ⟨i0,hi0,hi0j⟩:=ztl (q:=fun e : Ed=>decide (e.f = w)) hj hjq
   have hidx:=zgw zc9 [.pv [.I w]] (fun e=>decide (e.f = w)) A (by omega) (fun ρ sn h k=>by simp [conv]) fun e _=>zie e w
   rw [hi0] at hidx
   refine zad ?_
   refine zab ?_
   refine zag ?_
   refine zaa ⟨119,[(2,.pv (nC ⟨N,A⟩)),(7,.rs 18 0 A.length),(8,.rs 17 0 W.length),(9,.rs 19 0 l.length),(10,.mp 20),(11,.pt 21 0 0),(12,.I i0),(30,.I vl),(31,.I W.length)],[(18,some ⟨1,zaf g,0⟩),(17,some ⟨1,W.map fun w=>[ints (natL w)],0⟩),(19,some ⟨1,zaf V,0⟩),(20,some ⟨0,R,0⟩),(21,some ⟨1,[[.I w]],0⟩)],1300⟩ rfl ?_ ?_
   ·simp
    refine zg5 [21] hidx (by simp) (.sc _) ?_
    simp
    exact Le.go [(18,18),(17,17),(19,19),(20,20),(21,21)] [] rfl rfl (by simp) (by simp [fcd,hRc])
   refine zab ?_
   refine zag ?_
   refine zao (ι:=Nat) (fun i=>⟨119,[(2,.pv (nC ⟨N,A⟩)),(7,.rs 18 0 A.length),(8,.rs 17 0 W.length),(9,.rs 19 0 l.length),(10,.mp 20),(11,.pt 21 0 0),(12,.I i),(30,.I vl),(31,.I W.length)],[(18,some ⟨1,zaf g,0⟩),(17,some ⟨1,W.map fun w=>[ints (natL w)],0⟩),(19,some ⟨1,zaf V,0⟩),(20,some ⟨0,R,0⟩),(21,some ⟨1,[[.I w]],0⟩)],1300⟩) (fun i=>i ≤ j) (fun i=>j - i) i0 hi0j (Le.go [(18,18),(17,17),(19,19),(20,20),(21,21)] [] rfl rfl (by simp) (by simp [fcd,hRc])) ?_
   intro i hij
   have hi : i < A.length:=by omega
   have hig : i < g.length:=by omega
   have hi1 : (0 : Int) ≤ i ∧ (i : Int) < A.length:=by omega
   have hgA : A[i]? = some A[i]:=List.getElem?_eq_getElem hi
   have hgg : g[i]? = some g[i]:=List.getElem?_eq_getElem hig
   have hwi : IntKind.i64.wrap ((i : Int) + 1) = ((i + 1 : Nat) : Int):=by rw [w64 (by omega) (by omega)]; omega
   obtain ⟨b,hb⟩ : ∃ b,b = decide (A[i].f ≠ w ∨ g[i] = 0):=⟨_,rfl⟩
   refine zab ?_
   refine zaw ⟨119,[(2,.pv (nC ⟨N,A⟩)),(7,.rs 18 0 A.length),(8,.rs 17 0 W.length),(9,.rs 19 0 l.length),(10,.mp 20),(11,.pt 21 0 0),(12,.I i),(30,.I vl),(31,.I W.length),(62,.B b)],[(18,some ⟨1,zaf g,0⟩),(17,some ⟨1,W.map fun w=>[ints (natL w)],0⟩),(19,some ⟨1,zaf V,0⟩),(20,some ⟨0,R,0⟩),(21,some ⟨1,[[.I w]],0⟩)],1600⟩ rfl ?_ ?_
   ·by_cases c1 : A[i].f = w
    ·have hb' : b = decide (g[i] = 0):=by rw [hb,decide_eq_decide]; simp [c1]
     simp [hi,hi1,hgA,c1,hig,hgg]
     exact ⟨rfl,Le.go [(18,18),(17,17),(19,19),(20,20),(21,21)] [] rfl rfl (by simp <;> exact wkB (by rw [hb',Bool.eq_iff_iff]; simp)) (by simp [fcd,hRc])⟩
    ·have hb' : b = true:=by rw [hb,decide_eq_true_eq]; exact .inl c1
     have c1' : (A[i].f != w) = true:=by simp [c1]
     simp [hi,hi1,hgA,c1']
     exact ⟨rfl,Le.go [(18,18),(17,17),(19,19),(20,20),(21,21)] [] rfl rfl (by simp [hb']) (by simp [fcd,hRc])⟩
   refine zac _ rfl (fun h21=>?_) fun h21=>?_
   ·rw [h21] at hb
    have hne : i ≠ j:=fun e=>by
     subst e
     have:=of_decide_eq_true hb.symm
     rw [zdn hi] at hjf
     rcases this with h | h
     ·exact h hjf
     ·rw [zgN hig,h] at hjg
      exact absurd hjg (by omega)
    refine zad ?_
    refine zag ?_
    refine zaq rfl ?_
    simp
    exact ⟨i + 1,by omega,by omega,Le.go [(18,18),(17,17),(19,19),(20,20),(21,21)] [] rfl rfl (by simp [hwi]) (by simp [fcd,hRc])⟩
   rw [h21] at hb
   have hbn:=of_decide_eq_false hb.symm
   have hif : (arcD A i).f = w:=by rw [zdn hi]; exact Decidable.byContradiction fun h=>hbn (.inl h)
   have hgi0:=hL.nonneg i
   have hgn : g[i] ≠ 0:=fun h=>hbn (.inr h)
   have hgp : 0 < g.getD i 0:=by rw [zgN hig] at hgi0 ⊢; omega
   obtain ⟨x,hx⟩ : ∃ x,x = g.getD i 0:=⟨_,rfl⟩
   have hgi : g[i] = x:=by rw [hx,zgN hig]
   have hus:=hL.used i
   have hg0i:=hg0b i
   obtain ⟨g2,hg2⟩ : ∃ g2,g2 = g.set i (x - 1):=⟨_,rfl⟩
   have hmore:=hL.more hi hif hgp
   have htot:=zoC hig hgp
   rw [← hx] at hgp hus hmore htot
   rw [← hg2] at hmore htot
   obtain ⟨t,ht⟩ : ∃ t,t = (arcD A i).t:=⟨_,rfl⟩
   rw [← ht] at hmore
   have hAt : A[i].t = t:=by rw [ht,zdn hi]
   have hwx : IntKind.i64.wrap (x - 1) = x - 1:=w64 (by omega) (by omega)
   refine zan ?_
   refine hit ?_
   refine zaa ⟨119,[(2,.pv (nC ⟨N,A⟩)),(7,.rs 18 0 A.length),(8,.rs 17 0 W.length),(9,.rs 19 0 l.length),(10,.mp 20),(11,.pt 21 0 0),(12,.I i),(30,.I vl),(31,.I W.length)],[(18,some ⟨1,zaf g2,0⟩),(17,some ⟨1,W.map fun w=>[ints (natL w)],0⟩),(19,some ⟨1,zaf V,0⟩),(20,some ⟨0,R,0⟩),(21,some ⟨1,[[.I w]],0⟩)],1700⟩ rfl ?_ ?_
   ·simp [hi1,hi,hgi,hig,hwx,zaJ]
    exact Le.go [(18,18),(17,17),(19,19),(20,20),(21,21)] [] rfl rfl (by simp) (by simp [fcd,hg2,hRc])
   obtain ⟨V2,hV2⟩ : ∃ V2,V2 = natL l ++ [(i : Int)]:=⟨_,rfl⟩
   have hV2l : V2.length = l.length + 1:=by rw [hV2]; simp [natL]
   obtain ⟨L1,hL1⟩ : ∃ L1,L1 = l.length + 1:=⟨_,rfl⟩
   refine zaw ⟨119,[(2,.pv (nC ⟨N,A⟩)),(7,.rs 18 0 A.length),(8,.rs 17 0 W.length),(9,.rs 19 0 L1),(10,.mp 20),(11,.pt 21 0 0),(30,.I vl),(31,.I W.length)],[(18,some ⟨1,zaf g2,0⟩),(17,some ⟨1,W.map fun w=>[ints (natL w)],0⟩),(19,some ⟨1,zaf V2,0⟩),(20,some ⟨0,R,0⟩),(21,some ⟨1,[[.I t]],0⟩)],1900⟩ rfl ?_ ?_
   ·simp [hi1,hi,htV,hAt,zaJ]
    refine ⟨by omega,by omega,by omega,rfl,Le.go [(18,18),(17,17),(1724,19),(20,20),(21,21)] [] rfl rfl (by simp [hL1]) (by simp [fcd,hRc,hV2])⟩
   cases hpk : posN ((0 : Int) :: metA A l) t with
   | none =>
     have hmn:=zrX hpk
     have htn : t ∉ (0 : Int) :: metA A l:=zjG.1 hpk
     have hl2:=hmore.1 htn
     have hR2 : MapI (mset t (.I (L1 : Int)) R) (metF A (l ++ [i])):=hR.set t _ (by rw [zr3 (by rw [← ht]; exact htn),ht,hL1])
     obtain ⟨R2,hR2d⟩ : ∃ R2,R2 = mset t (.I (L1 : Int)) R:=⟨_,rfl⟩
     have hfind:=hR.is.find t
     rw [hmn] at hfind
     have hR2c:=fun ρ sn h=>hR2.conv' ρ sn h
     rw [← hR2d] at hR2
     refine zab ?_
     refine zaa ⟨119,[(2,.pv (nC ⟨N,A⟩)),(7,.rs 18 0 A.length),(8,.rs 17 0 W.length),(9,.rs 19 0 L1),(10,.mp 20),(11,.pt 21 0 0),(14,.B false),(30,.I vl),(31,.I W.length)],[(18,some ⟨1,zaf g2,0⟩),(17,some ⟨1,W.map fun w=>[ints (natL w)],0⟩),(19,some ⟨1,zaf V2,0⟩),(20,some ⟨0,R,0⟩),(21,some ⟨1,[[.I t]],0⟩)],2000⟩ rfl ?_ ?_
     ·simp [hfind]
      exact Le.go [(18,18),(17,17),(19,19),(20,20),(21,21)] [] rfl rfl (by simp) (by simp [fcd,hRc])
     refine zaa ⟨119,[(2,.pv (nC ⟨N,A⟩)),(7,.rs 18 0 A.length),(8,.rs 17 0 W.length),(9,.rs 19 0 L1),(10,.mp 20),(11,.pt 21 0 0),(30,.I vl),(31,.I W.length),(87,.B false)],[(18,some ⟨1,zaf g2,0⟩),(17,some ⟨1,W.map fun w=>[ints (natL w)],0⟩),(19,some ⟨1,zaf V2,0⟩),(20,some ⟨0,R,0⟩),(21,some ⟨1,[[.I t]],0⟩)],2100⟩ rfl ?_ ?_
     ·simp
      exact Le.go [(18,18),(17,17),(19,19),(20,20),(21,21)] [] rfl rfl (by simp) (by simp [fcd,hRc])
     refine zac _ rfl (fun h=>by cases h) fun _=>?_
     refine zad ?_
     refine zaq rfl ?_
     simp
     refine rk (s:=?s32) [2,7,8,9,10,30,31,111] [18,17,19,20] rfl ?o32 ?q32
     case o32=>simp; rfl
     refine zaq rfl ?_
     simp
     refine ⟨⟨l ++ [i],t,g2,V2,R2⟩,⟨hl2,?_,by simp only [List.length_append,List.length_singleton]; omega,hR2⟩,htot,Le.go [(18,18),(17,17),(19,19),(20,20),(2148,21)] [] rfl rfl (by simp [hL1]) (by simp [fcd,hR2c,hR2d])⟩
     simp only
     rw [List.take_of_length_le (by simp; omega),hV2]
     simp [natL]
   | some k =>
     have hms:=zq2 hpk
     have hpg:=zlL hpk
     have hl2:=hmore.2 k hpg
     have hkl : k ≤ l.length:=by
      have:=(List.getElem?_eq_some_iff.1 hpg).1
      simp [metA] at this
      omega
     have hback:=zrS hL.met (i:=i) (by rw [← ht]; exact hpk)
     have hfind:=hR.is.find t
     rw [hms] at hfind
     refine zab ?_
     refine zaa ⟨119,[(2,.pv (nC ⟨N,A⟩)),(7,.rs 18 0 A.length),(8,.rs 17 0 W.length),(9,.rs 19 0 L1),(10,.mp 20),(11,.pt 21 0 0),(13,.I k),(14,.B true),(30,.I vl),(31,.I W.length)],[(18,some ⟨1,zaf g2,0⟩),(17,some ⟨1,W.map fun w=>[ints (natL w)],0⟩),(19,some ⟨1,zaf V2,0⟩),(20,some ⟨0,R,0⟩),(21,some ⟨1,[[.I t]],0⟩)],2000⟩ rfl ?_ ?_
     ·simp [hfind]
      exact Le.go [(18,18),(17,17),(19,19),(20,20),(21,21)] [] rfl rfl (by simp) (by simp [fcd,hRc])
     refine zaa ⟨119,[(2,.pv (nC ⟨N,A⟩)),(7,.rs 18 0 A.length),(8,.rs 17 0 W.length),(9,.rs 19 0 L1),(10,.mp 20),(11,.pt 21 0 0),(13,.I k),(30,.I vl),(31,.I W.length),(87,.B true)],[(18,some ⟨1,zaf g2,0⟩),(17,some ⟨1,W.map fun w=>[ints (natL w)],0⟩),(19,some ⟨1,zaf V2,0⟩),(20,some ⟨0,R,0⟩),(21,some ⟨1,[[.I t]],0⟩)],2100⟩ rfl ?_ ?_
     ·simp
      exact Le.go [(18,18),(17,17),(19,19),(20,20),(21,21)] [] rfl rfl (by simp) (by simp [fcd,hRc])
     refine zac _ rfl (fun _=>?_) fun h=>by cases h
     refine zab ?_
     obtain ⟨m,hm⟩ : ∃ m,m = l.length + 1 - k:=⟨_,rfl⟩
     have hL1m : m = L1 - k:=by omega
     obtain ⟨d,hd⟩ : ∃ d,d = (l ++ [i]).drop k:=⟨_,rfl⟩
     have hdl : d.length = m:=by rw [hd,hm]; simp
     have hVd : ∀ (q : Nat) (h : q < d.length),V2[k + q]? = some ((d[q] : Nat) : Int):=fun q h=>by
      have e : V2 = natL (l ++ [i]):=by rw [hV2]; simp [natL]
      subst hd
      rw [e]
      unfold natL
      rw [List.getElem?_map,List.getElem_drop,List.getElem?_eq_getElem (by simp at h ⊢; omega)]
      rfl
     have hdm : ∀ (q : Nat) (h : q < d.length),d[q] < A.length:=fun q h=>by
      have : d[q] ∈ l ++ [i]:=by
       subst hd
       exact List.mem_of_mem_drop (List.getElem_mem h)
      rcases List.mem_append.1 this with h2 | h2
      ·exact hL.way.mem _ h2
      ·rw [List.mem_singleton.1 h2]; exact hi
     rw [← hd] at hback
     refine zaa ⟨119,[(2,.pv (nC ⟨N,A⟩)),(7,.rs 18 0 A.length),(8,.rs 17 0 W.length),(9,.rs 19 0 L1),(10,.mp 20),(11,.pt 21 0 0),(13,.I k),(30,.I vl),(31,.I W.length),(90,.rs 19 k m),(91,.I m),(92,.I 0)],[(18,some ⟨1,zaf g2,0⟩),(17,some ⟨1,W.map fun w=>[ints (natL w)],0⟩),(19,some ⟨1,zaf V2,0⟩),(20,some ⟨0,R,0⟩),(21,some ⟨1,[[.I t]],0⟩)],2300⟩ rfl ?_ ?_
     ·simp
      refine ⟨by omega,?_⟩
      rw [← hL1m]
      exact Le.go [(18,18),(17,17),(19,19),(20,20),(21,21)] [] rfl rfl (by simp) (by simp [fcd,hRc])
     refine zag ?_
     refine zao (ι:=Nat × List (List AV)) (fun s=>⟨119,[(2,.pv (nC ⟨N,A⟩)),(7,.rs 18 0 A.length),(8,.rs 17 0 W.length),(9,.rs 19 0 L1),(10,.mp 20),(11,.pt 21 0 0),(13,.I k),(30,.I vl),(31,.I W.length),(90,.rs 19 k m),(91,.I m),(92,.I s.1)],[(18,some ⟨1,zaf g2,0⟩),(17,some ⟨1,W.map fun w=>[ints (natL w)],0⟩),(19,some ⟨1,zaf V2,0⟩),(20,some ⟨0,s.2,0⟩),(21,some ⟨1,[[.I t]],0⟩)],2300⟩)
      (fun s=>s.1 ≤ m ∧ MapI s.2 (delF A l (d.take s.1))) (fun s=>m - s.1) (0,R) ⟨Nat.zero_le _,by rw [List.take_zero,zsP]; exact hR⟩ (Le.go [(18,18),(17,17),(19,19),(20,20),(21,21)] [] rfl rfl (by simp) (by simp [fcd,hRc])) ?_
     clear hRc hfind
     rintro ⟨q,R⟩ ⟨hq,hR⟩
     simp only at hq hR
     have hRc:=fun ρ sn h=>hR.conv' ρ sn h
     refine zaa ⟨119,[(2,.pv (nC ⟨N,A⟩)),(7,.rs 18 0 A.length),(8,.rs 17 0 W.length),(9,.rs 19 0 L1),(10,.mp 20),(11,.pt 21 0 0),(13,.I k),(30,.I vl),(31,.I W.length),(90,.rs 19 k m),(91,.I m),(92,.I q),(93,.B (decide (q < m)))],[(18,some ⟨1,zaf g2,0⟩),(17,some ⟨1,W.map fun w=>[ints (natL w)],0⟩),(19,some ⟨1,zaf V2,0⟩),(20,some ⟨0,R,0⟩),(21,some ⟨1,[[.I t]],0⟩)],2400⟩ rfl ?_ ?_
     ·simp
      exact Le.go [(18,18),(17,17),(19,19),(20,20),(21,21)] [] rfl rfl (by simp) (by simp [fcd,hRc])
     refine zab ?_
     refine zac _ rfl (fun h29=>?_) fun h29=>?_
     ·rw [decide_eq_true_eq] at h29
      have hqd : q < d.length:=by omega
      have hVq:=hVd q hqd
      have hdq:=hdm q hqd
      obtain ⟨a,ha⟩ : ∃ a,a = d[q]:=⟨_,rfl⟩
      rw [← ha] at hVq hdq
      have hdt : d.take (q + 1) = d.take q ++ [a]:=by rw [ha]; exact List.take_succ_eq_append_getElem hqd
      have hwq : IntKind.i64.wrap ((q : Int) + 1) = ((q + 1 : Nat) : Int):=by rw [w64 (by omega) (by omega)]; omega
      have hA1 : A[a]? = some A[a]:=List.getElem?_eq_getElem hdq
      have ha1 : (0 : Int) ≤ a ∧ (a : Int) < A.length:=by omega
      have hR3 : MapI (mdel A[a].t R) (delF A l (d.take (q + 1))):=hR.del A[a].t (by rw [hdt,zrF,zdn hdq])
      obtain ⟨R3,hR3d⟩ : ∃ R3,R3 = mdel A[a].t R:=⟨_,rfl⟩
      rw [← hR3d] at hR3
      have hR3c:=fun ρ sn h=>hR3.conv' ρ sn h
      refine zad ?_
      refine zab ?_
      refine zag ?_
      refine zaa ⟨119,[(2,.pv (nC ⟨N,A⟩)),(7,.rs 18 0 A.length),(8,.rs 17 0 W.length),(9,.rs 19 0 L1),(10,.mp 20),(11,.pt 21 0 0),(13,.I k),(16,.I a),(30,.I vl),(31,.I W.length),(90,.rs 19 k m),(91,.I m),(92,.I q)],[(18,some ⟨1,zaf g2,0⟩),(17,some ⟨1,W.map fun w=>[ints (natL w)],0⟩),(19,some ⟨1,zaf V2,0⟩),(20,some ⟨0,R,0⟩),(21,some ⟨1,[[.I t]],0⟩)],2500⟩ rfl ?_ ?_
      ·simp [h29,hVq]
       exact Le.go [(18,18),(17,17),(19,19),(20,20),(21,21)] [] rfl rfl (by simp) (by simp [fcd,hRc])
      refine zaq rfl ?_
      simp [ha1,hA1,hdq]
      rw [← hR3d]
      refine zaq rfl ?_
      simp
      exact ⟨q + 1,R3,⟨by omega,hR3⟩,by omega,Le.go [(18,18),(17,17),(19,19),(20,20),(21,21)] [] rfl rfl (by simp [hwq]) (by simp [fcd,hR3c])⟩
     rw [decide_eq_false_iff_not] at h29
     obtain rfl : q = m:=by omega
     rw [List.take_of_length_le (by omega)] at hR
     have hR4 : MapI (mset t (.I (k : Int)) R) (metF A (l.take k)):=hR.set t k (by
      rw [hback]
      funext x
      unfold delF
      rw [hd,ht])
     obtain ⟨R4,hR4d⟩ : ∃ R4,R4 = mset t (.I (k : Int)) R:=⟨_,rfl⟩
     have hR4c:=fun ρ sn h=>hR4.conv' ρ sn h
     rw [← hR4d] at hR4
     refine zan ?_
     refine hit ?_
     refine zaq rfl ?_
     simp
     refine ⟨by omega,?_⟩
     refine zaq rfl ?_
     simp
     refine rk (s:=?s33) [2,7,8,9,10,30,31,111] [18,17,19,20] rfl ?o33 ?q33
     case o33=>simp; rfl
     refine zaq rfl ?_
     simp
     have hlk : (l.take k).length = k:=by rw [List.length_take]; omega
     refine ⟨⟨l.take k,t,g2,V2,R4⟩,⟨hl2,?_,by simp only [hlk]; omega,hR4⟩,htot,Le.go [(18,18),(17,17),(19,19),(20,20),(2480,21)] [] rfl rfl (by simp [hlk]) (by simp [fcd,hR4c,hR4d])⟩
     simp only [hlk]
     rw [hV2,List.take_append_of_le_length (by rw [zeV]; exact hkl)]
     unfold natL
     rw [List.map_take]
  rw [decide_eq_false_iff_not,Decidable.not_not] at h18
  subst h18
  have hT2:=hT.more hL
  have hcl2:=zet (natL l) (by rw [zeV]; omega)
  have hwW : IntKind.i64.wrap ((W.length : Int) + 1) = ((W.length + 1 : Nat) : Int):=by rw [w64 (by omega) (by omega)]; omega
  refine zan ?_
  refine hit ?_
  refine zaq rfl ?_
  simp
  refine zge [19] hcl2 (by simp [fcd,htV,hVl,zeV]) (.rs _ _ _) zmZ ?_
  simp [htW]
  refine ⟨by omega,by omega,?_⟩
  refine zaq rfl ?_
  simp
  refine ⟨⟨W ++ [l],g⟩,⟨hT2,by simp only [List.length_append,List.length_singleton]; omega,fun w hw=>?_⟩,by simp only [List.length_append,List.length_singleton]; omega,Le.go [(18,18),(1232,17)] [1216] rfl rfl (by simp [hwW]) (by simp [fcd,zak])⟩
  rcases List.mem_append.1 hw with h | h
  ·exact hWl w h
  ·rw [List.mem_singleton] at h
   subst h
   omega
 rw [decide_eq_false_iff_not] at h13
 refine zan ?_
 refine hit ?_
 refine zaa ⟨119,[(4,.vs 1 false (W.map fun w=>[ints (natL w)])),(5,.I 0)],[],1500⟩ rfl ?_ ?_
 ·simp
  exact Le.go [] [17] rfl rfl (by simp [htW,fcd]) (by simp)
 refine zah ?_
 exact zhc.mk (.inr rfl) W ⟨⟨g0,hT⟩,by omega,hWl⟩ (zal.out [] [] rfl (by simp) (by simp) (by simp) (by simp))
structure SSt where
 s : BSt
 R : List (List AV)
 m : Nat
 i : Nat
def zjO (A : List Ed) (f D : List Int) (l : List Stp) : Prop:=∀ s ∈ l,0 < za9 A f s → stT A s ∈ D
theorem zjO.nil {A : List Ed} {f D : List Int} : zjO A f D []:=fun s h=>by simp at h
set_option maxRecDepth 100000 in
set_option maxHeartbeats 4000000 in
theorem zoN (N : Nat) (A : List Ed) (f : List Int) (hn : za4 ⟨N,A⟩) (hf : Fit2 A f) :
  ∃ x : List Int × List Int × List (List AV),(Bfs N A f x.1 x.2.1 ∧ zeg A f x.1 ∧ MapF x.2.2 (camF x.1 x.2.1)) ∧ zaj Tryz.prog zbp [eR N A (ints f)] [] (.mp 0) [some ⟨0,x.2.2,0⟩]:=by
 refine zfr.acallsX (args:=[eR N A (ints f)]) (hs:=[]) (fun x=>.mp 0) (fun x=>[some ⟨0,x.2.2,0⟩]) (fun x : List Int × List Int × List (List AV)=>Bfs N A f x.1 x.2.1 ∧ zeg A f x.1 ∧ MapF x.2.2 (camF x.1 x.2.1)) (nbz rfl) (nbz rfl) (fun _=>by simp) ?_
 show awp _ 0 _ _ ⟨59,[(0,eR N A (ints f))],[],16⟩
 have hroom:=fun s hs=>zqH N A f s hn hf hs
 have hrng:=fun (s : Stp) (hs : s.1 < A.length)=>zjX hn hs
 obtain ⟨hn0,hn1,hal,hav⟩:=hn
 simp only at hn0 hn1 hal hav
 have hR0 : MapF ([[.I 0,.agg [.I (-1),.B false]]]) (camF [0] (List.replicate N 0)):=⟨by rw [zp2]; exact MapR.nil.set 0 (.agg [.I (-1),.B false]),zfq _ _⟩
 refine zaa ⟨59,[(1,.pv (rC N A (ints f)))],[],32⟩ rfl ?_ ?_
 ·simp
  exact LeH [] [16]
 refine zaa ⟨59,[(1,.pv (rC N A (ints f))),(3,.mp 32)],[(32,some ⟨0,[[.I 0,.agg [.I (-1),.B false]]],0⟩)],72⟩ rfl ?_ ?_
 ·simp [mset]
  exact LeH [(32,32)] []
 obtain ⟨R0,hR0d⟩ : ∃ R0 : List (List AV),R0 = [[.I 0,.agg [.I (-1),.B false]]]:=⟨_,rfl⟩
 rw [← hR0d] at hR0 ⊢
 refine zab ?_
 refine zaa ⟨59,[(1,.pv (rC N A (ints f))),(3,.mp 32),(4,.rs 72 0 1)],[(32,some ⟨0,R0,0⟩),(72,some ⟨1,zaf [0],0⟩)],88⟩ rfl ?_ ?_
 ·simp
  exact Le.go [(32,32),(72,72)] [] rfl rfl (by simp) (by simp [hR0.conv'])
 refine zag ?_
 refine zao (ι:=SSt) (fun t=>⟨59,[(1,.pv (rC N A (ints f))),(3,.mp 32),(4,.rs 72 t.s.off t.s.q)],[(32,some ⟨0,t.R,0⟩),(72,some ⟨1,zaf t.s.Z,0⟩)],88⟩)
  (fun t=>BInv N A f t.s t.m ∧ zeY A f t.s.D t.m ∧ MapF t.R (camF t.s.D t.s.b)) (fun t=>N - t.m) ⟨⟨[0],List.replicate N 0,[0],0,1⟩,R0,0,0⟩
  ⟨⟨Bfs.start (by omega),rfl,rfl,rfl⟩,fun s _ h=>by simp at h,hR0⟩ (Le.go [(32,32),(72,72)] [] rfl rfl (by simp) (by simp [hR0.conv'])) ?_
 rintro ⟨s,R,m,_⟩ ⟨hb,hcl,hR⟩
 simp only at hb hcl hR
 have hfew:=hb.bfs.few
 have hbd:=hb.d
 have hbz:=hb.z
 refine zab ?_
 refine zaa ⟨59,[(1,.pv (rC N A (ints f))),(3,.mp 32),(4,.rs 72 s.off s.q),(17,.B (decide (0 < s.q)))],[(32,some ⟨0,R,0⟩),(72,some ⟨1,zaf s.Z,0⟩)],112⟩ rfl ?_ ?_
 ·simp
  exact Le.go [(32,32),(72,72)] [] rfl rfl (by simp) (by simp [hR.conv',fcd])
 refine zac _ rfl (fun h5=>?_) fun h5=>?_
 ·simp at h5
  obtain ⟨hmD,hk⟩:=hb.head h5
  have hoff : s.off < s.Z.length:=by omega
  obtain ⟨k,hkd⟩ : ∃ k,k = s.D[m]:=⟨_,rfl⟩
  rw [← hkd] at hk
  have hkD : k ∈ s.D:=hkd ▸ List.getElem_mem hmD
  have hkr:=hb.bfs.rng k hkD
  obtain ⟨kn,hkn,hknN⟩ : ∃ kn : Nat,k = kn ∧ kn < N:=⟨k.toNat,by omega,by omega⟩
  obtain ⟨L,hL⟩ : ∃ L,L = zgP A A.length kn:=⟨_,rfl⟩
  have hLm : ∀ st : Stp,st ∈ L ↔ st.1 < A.length ∧ stF A st = k:=fun st=>by rw [hL,hkn]; exact zkv
  have hLl : L.length ≤ 2 * A.length:=by rw [hL]; exact zhz A kn A.length
  have hfe : famE A A.length kn = L.map zbq:=by rw [hL]; rfl
  refine zad ?_
  refine zab ?_
  refine zag ?_
  refine zaw ⟨59,[(1,.pv (rC N A (ints f))),(3,.mp 32),(4,.rs 72 s.off s.q),(26,.vs 2 false (L.map zbq)),(27,.I L.length),(28,.I 0)],[(32,some ⟨0,R,0⟩),(72,some ⟨1,zaf s.Z,0⟩)],184⟩ rfl ?_ ?_
  ·simp [hk,h5,hkn,hknN,hfe]
   exact ⟨rfl,Le.go [(32,32),(72,72)] [] rfl rfl (by simp [hfe]) (by simp [hR.conv',fcd])⟩
  refine zag ?_
  refine zao (ι:=SSt) (fun t=>⟨59,[(1,.pv (rC N A (ints f))),(3,.mp 32),(4,.rs 72 t.s.off t.s.q),(26,.vs 2 false (L.map zbq)),(27,.I L.length),(28,.I t.i)],[(32,some ⟨0,t.R,0⟩),(72,some ⟨1,zaf t.s.Z,0⟩)],184⟩)
   (fun t=>BInv N A f t.s m ∧ MapF t.R (camF t.s.D t.s.b) ∧ t.i ≤ L.length ∧ zjO A f t.s.D (L.take t.i) ∧ ∃ l,t.s.D = s.D ++ l) (fun t=>L.length - t.i) ⟨s,R,m,0⟩
   ⟨hb,hR,Nat.zero_le _,by rw [List.take_zero]; exact zjO.nil,[],by simp⟩ (Le.go [(32,32),(72,72)] [] rfl rfl (by simp) (by simp [hR.conv',fcd])) ?_
  rintro ⟨t,R,_,i⟩ ⟨ht,hR,hi,htc,l,htl⟩
  simp only at ht hR hi htc htl
  have htz:=ht.z
  have htd:=ht.d
  have htf:=ht.bfs.few
  refine zaa ⟨59,[(1,.pv (rC N A (ints f))),(3,.mp 32),(4,.rs 72 t.off t.q),(26,.vs 2 false (L.map zbq)),(27,.I L.length),(28,.I i),(29,.B (decide (i < L.length)))],[(32,some ⟨0,R,0⟩),(72,some ⟨1,zaf t.Z,0⟩)],192⟩ rfl ?_ ?_
  ·simp
   exact Le.go [(32,32),(72,72)] [] rfl rfl (by simp) (by simp [hR.conv',fcd])
  refine zab ?_
  refine zac _ rfl (fun h8=>?_) fun h8=>?_
  ·simp at h8
   have hw : IntKind.i64.wrap ((i : Int) + 1) = (i : Int) + 1:=w64 (by omega) (by omega)
   obtain ⟨st,hst⟩ : ∃ st,st = L[i]:=⟨_,rfl⟩
   obtain ⟨hs1,hs2⟩:=(hLm st).1 (hst ▸ List.getElem_mem h8)
   have hrm:=hroom st hs1
   obtain ⟨hr1,hr2⟩:=hrng st hs1
   have hpush:=fun (h1 : 0 < za9 A f st) (h2 : stT A st ∉ t.D)=>ht.bfs.push (s:=st) hs1 (by rw [hs2,htl]; exact List.mem_append_left _ hkD) h1 h2 hr1 hr2
   have hcam:=fun (h2 : stT A st ∉ t.D)=>zqx ht.bfs h2 hr1 hr2
   have hsome:=zga t.D t.b (stT A st)
   have hfind:=hR.is.find (stT A st)
   have htake : ∀ D',(∃ l,D' = t.D ++ l) → stT A st ∈ D' ∨ ¬ 0 < za9 A f st → zjO A f D' (L.take (i + 1)):=fun D' hD' h s' hs' hr=>by
    rw [List.take_succ_eq_append_getElem h8,← hst] at hs'
    obtain ⟨l',rfl⟩:=hD'
    rcases List.mem_append.1 hs' with h' | h'
    ·exact List.mem_append_left _ (htc s' h' hr)
    ·rw [List.mem_singleton] at h'
     subst h'
     exact h.resolve_right fun hn=>hn hr
   obtain ⟨T,hT⟩ : ∃ T,T = stT A st:=⟨_,rfl⟩
   obtain ⟨rm,hrmd⟩ : ∃ rm,rm = za9 A f st:=⟨_,rfl⟩
   rw [← hT,← hrmd] at hrm hpush htake
   rw [← hT] at hcam hsome hfind
   refine zad ?_
   refine zab ?_
   refine zag ?_
   refine zaa ⟨59,[(1,.pv (rC N A (ints f))),(3,.mp 32),(4,.rs 72 t.off t.q),(6,.pv (zbq st)),(26,.vs 2 false (L.map zbq)),(27,.I L.length),(28,.I i)],[(32,some ⟨0,R,0⟩),(72,some ⟨1,zaf t.Z,0⟩)],232⟩ rfl ?_ ?_
   ·simp [h8,← hst]
    exact Le.go [(32,32),(72,72)] [208] rfl rfl (by simp) (by simp [hR.conv',fcd])
   refine zaa ⟨59,[(1,.pv (rC N A (ints f))),(3,.mp 32),(4,.rs 72 t.off t.q),(6,.pv (zbq st)),(7,.I rm),(8,.I T),(26,.vs 2 false (L.map zbq)),(27,.I L.length),(28,.I i)],[(32,some ⟨0,R,0⟩),(72,some ⟨1,zaf t.Z,0⟩)],300⟩ rfl ?_ ?_
   ·simp
    refine zap hrm (by simp) ?_
    simp
    exact Le.go [(32,32),(72,72)] [] rfl rfl (by simp) (by simp [hR.conv',fcd])
   refine zaa ⟨59,[(1,.pv (rC N A (ints f))),(3,.mp 32),(4,.rs 72 t.off t.q),(6,.pv (zbq st)),(7,.I rm),(8,.I T),(10,.B (decide (T ∈ t.D))),(26,.vs 2 false (L.map zbq)),(27,.I L.length),(28,.I i)],[(32,some ⟨0,R,0⟩),(72,some ⟨1,zaf t.Z,0⟩)],400⟩ rfl ?_ ?_
   ·have hgd : ∃ u v,(camF t.D t.b T).getD (toAV (Value.agg #[Value.int IntKind.i64 0,Value.bool false])) = .agg [.sc u,.sc v]:=by
     cases hc : camF t.D t.b T with
     | none=>exact ⟨.int .i64 0,.bool false,by simp [toAV,Value.oneCell']⟩
     | some x =>
       obtain ⟨u,v,rfl⟩:=zfq _ _ _ _ hc
       exact ⟨u,v,rfl⟩
    obtain ⟨u,v,huv⟩:=hgd
    simp [hfind,hsome,huv]
    exact Le.go [(32,32),(72,72)] [] rfl rfl (by simp) (by simp [hR.conv',fcd])
   refine zaa ⟨59,[(1,.pv (rC N A (ints f))),(3,.mp 32),(4,.rs 72 t.off t.q),(6,.pv (zbq st)),(8,.I T),(26,.vs 2 false (L.map zbq)),(27,.I L.length),(28,.I i),(49,.B (decide (0 < rm ∧ T ∉ t.D)))],[(32,some ⟨0,R,0⟩),(72,some ⟨1,zaf t.Z,0⟩)],500⟩ rfl ?_ ?_
   ·simp
    refine zcc (fun hb=>?_) (fun hb=>?_) <;> (try rw [hb]) <;> (try simp at hb) <;> simp [hb]
    ·exact Le.go [(32,32),(72,72)] [] rfl rfl (by simp [hb]) (by simp [hR.conv',fcd])
    ·exact Le.go [(32,32),(72,72)] [] rfl rfl (by simp [hb]) (by simp [hR.conv',fcd])
   refine zac _ rfl (fun h13=>?_) fun h13=>?_
   ·rw [decide_eq_true_eq] at h13
    have hbu:=hpush h13.1 h13.2
    have hRu:=hR.set T (zqf st) (hcam h13.2)
    have hmore:=ht.more hbu
    have hfw:=hbu.few
    rw [List.length_append,List.length_singleton] at hfw
    have hbt : ∀ g : Int → List AV,List.take t.q (List.drop t.off (List.map g t.Z)) = List.map g (t.Z.drop t.off):=fun g=>by rw [← List.map_drop,List.take_of_length_le (by simp; omega)]
    obtain ⟨R',hR'⟩ : ∃ R',R' = mset T (zqf st) R:=⟨_,rfl⟩
    rw [← hR'] at hRu
    refine zaa ⟨59,[(1,.pv (rC N A (ints f))),(3,.mp 32),(4,.rs 72 t.off t.q),(8,.I T),(26,.vs 2 false (L.map zbq)),(27,.I L.length),(28,.I i)],[(32,some ⟨0,R',0⟩),(72,some ⟨1,zaf t.Z,0⟩)],600⟩ rfl ?_ ?_
    ·simp
     rw [show mset T (.agg [.I st.1,.B st.2]) R = R' from hR'.symm]
     exact Le.go [(32,32),(72,72)] [] rfl rfl (by simp) (by simp [hRu.conv',fcd])
    refine zaq rfl ?_
    simp [hbt]
    refine ⟨by omega,by omega,by omega,?_⟩
    refine zaq rfl ?_
    simp
    refine ⟨⟨⟨t.D ++ [T],t.b.set T.toNat (encS st),t.Z.drop t.off ++ [T],0,t.q + 1⟩,R',m,i + 1⟩,⟨hmore,hRu,h8,htake _ ⟨[T],rfl⟩ (.inl (by simp)),l ++ [T],by simp only [htl,List.append_assoc]⟩,by simp only; omega,?_⟩
    exact Le.go [(32,32),(624,72)] [] rfl rfl (by simp [hw]) (by simp [hRu.conv',fcd])
   ·rw [decide_eq_false_iff_not] at h13
    refine zad ?_
    refine zaq rfl ?_
    simp
    refine ⟨⟨t,R,m,i + 1⟩,⟨ht,hR,h8,htake _ ⟨[],by simp⟩ ?_,l,htl⟩,by simp only; omega,Le.go [(32,32),(72,72)] [] rfl rfl (by simp [hw]) (by simp [hR.conv',fcd])⟩
    by_cases h : 0 < rm
    ·exact .inl (Decidable.byContradiction fun hn=>h13 ⟨h,hn⟩)
    ·exact .inr h
  simp at h8
  obtain rfl : i = L.length:=by omega
  refine zan ?_
  refine hit ?_
  have hlen : t.D.length = s.D.length + l.length:=by rw [htl,List.length_append]
  have hq : 0 < t.q:=by omega
  have htc' : zeZ A f t.D s.D[m] A.length:=fun st h1 h2 h3=>by
   refine htc st ?_ h3
   rw [List.take_length]
   exact (hLm st).2 ⟨h1,by rw [hkd]; exact h2⟩
  refine zaq rfl ?_
  simp
  refine zta 1 (i:=72) rfl rfl hq ?_
  simp
  exact ⟨⟨{ t with off:=t.off + 1,q:=t.q - 1 },R,m + 1,0⟩,⟨ht.pop hq,zeY.next hmD hcl htc' htl,hR⟩,by simp only; omega,Le.go [(32,32),(72,72)] [] rfl rfl (by simp) (by simp [hR.conv',fcd])⟩
 simp at h5
 have hmD : m = s.D.length:=by omega
 refine zan ?_
 refine hit ?_
 refine zaa ⟨59,[(2,.mp 32)],[(32,some ⟨0,R,0⟩)],200⟩ rfl ?_ ?_
 ·simp
  exact Le.go [(32,32)] [] rfl rfl (by simp) (by simp [hR.conv'])
 refine zah ?_
 exact zhc.mk (.inr rfl) (s.D,s.b,R) ⟨hb.bfs,by rw [hmD] at hcl; exact hcl.all,hR⟩ (zal.out [32] [] rfl (by simp) (by simp) (by simp) (by simp [hR.conv']))
theorem zoJ : toAV (Value.agg #[Value.int IntKind.i64 0,Value.bool false]) = .agg [.sc (.int .i64 0),.sc (.bool false)]:=by simp [toAV,Value.oneCell']
theorem zt1 {a b : Int} : Plain (.tup [.I a,.I b]):=.tup _ fun i=>match i with
 | 0=>.sc _
 | 1=>.sc _
 | _ + 2=>.dead
structure zut where
 j : Nat
 v : Int
def wayB (l : List Stp) (j : Nat) : List Stp:=(l.drop j).reverse
theorem zoK (l : List Stp) (j : Nat) : (wayB l j).length = l.length - j:=by simp [wayB]
theorem zq7 {l : List Stp} {j : Nat} (h : j < l.length) : wayB l j = wayB l (j + 1) ++ [l[j]]:=by
 unfold wayB
 rw [List.drop_eq_getElem_cons h,List.reverse_cons]
theorem zsQ (l : List Stp) : wayB l l.length = []:=by simp [wayB]
theorem zqq {N : Nat} {A : List Ed} {f D b : List Int} {l : List Stp} (hb : Bfs N A f D b) (hl : zkE N A f b l) {j : Nat} (hj : j < l.length) : camF D b (stT A l[j]) = some (zqf l[j]):=by
 obtain ⟨q1,q2,q3,q4,q5,q6⟩:=hl.at_ j hj
 have hD : stT A l[j] ∈ D:=Decidable.byContradiction fun h=>zs6 l[j] (by rw [← q6]; exact hb.out _ q4 h)
 unfold camF
 rw [if_pos hD,if_neg q3,q6,zn4]
set_option maxRecDepth 100000 in
set_option maxHeartbeats 8000000 in
theorem zuo (N : Nat) (A : List Ed) (f : List Int) (hn : za4 ⟨N,A⟩) (hf : zaD N A f) :
  ∃ x : Bool × List Int,(if x.1 then zaD N A x.2 ∧ valF A f + 1 ≤ valF A x.2 else x.2 = f ∧ ∀ f',zaD N A f' → valF A f' ≤ valF A f) ∧ zaj Tryz.prog zcn [eR N A (.rs 0 0 A.length)] [⟨1,zaf f,0⟩] (.B x.1) [some ⟨1,zaf x.2,0⟩]:=by
 refine zgk.acallsX (args:=[eR N A (.rs 0 0 A.length)]) (hs:=[⟨1,zaf f,0⟩]) (fun x=>.B x.1) (fun x=>[some ⟨1,zaf x.2,0⟩]) (fun x : Bool × List Int=>if x.1 then zaD N A x.2 ∧ valF A f + 1 ≤ valF A x.2 else x.2 = f ∧ ∀ f',zaD N A f' → valF A f' ≤ valF A f) (nbz rfl) (nbz rfl) (fun _=>by simp) ?_
 show awp _ 1 _ _ ⟨86,[(0,eR N A (.rs 0 0 A.length))],[(0,some ⟨1,zaf f,0⟩)],16⟩
 have hno:=zd4 hn
 have hfl:=hf.fit.len
 have hfit:=zcl.1 hf.fit
 obtain ⟨⟨D,b,R⟩,⟨hb,hcl,hR⟩,hcall⟩:=zoN N A f hn hf.fit
 simp only at hb hcl hR hcall
 have hroom:=fun s hs=>zqH N A f s hn hf.fit hs
 obtain ⟨hn0,hn1,hal,hav⟩:=hn
 simp only at hn0 hn1 hal hav
 have htake : ∀ g : Int → List AV,List.take A.length (List.map g f) = List.map g f:=fun g=>List.take_of_length_le (by simp; omega)
 have hfind:=hR.is.find
 have hsome:=zga D b 1
 refine zaa ⟨86,[(1,.pt 16 0 0)],[(0,some ⟨1,zaf f,0⟩),(16,some ⟨4,[rC N A (.rs 0 0 A.length)],0⟩)],32⟩ rfl ?_ ?_
 ·simp
  exact LeI [(0,0),(16,16)] []
 refine zaa ⟨86,[(1,.pt 16 0 0),(3,.mp 60)],[(0,some ⟨1,zaf f,0⟩),(16,some ⟨4,[rC N A (.rs 0 0 A.length)],0⟩),(60,some ⟨0,R,0⟩)],100⟩ rfl ?_ ?_
 ·simp
  refine zge [0] hcall (by simp [fcd,htake,hfl]) (.mp _) (hR.plain _ _) ?_
  simp
  exact Le.go [(0,0),(16,16),(40,60)] [] rfl rfl (by simp) (by simp [fcd,hR.conv'])
 refine zab ?_
 have hgd : ∃ u v,(camF D b 1).getD (toAV (Value.agg #[Value.int IntKind.i64 0,Value.bool false])) = .agg [.sc u,.sc v]:=by
  cases hc : camF D b 1 with
  | none=>exact ⟨_,_,zoJ⟩
  | some x =>
    obtain ⟨u,v,rfl⟩:=zfq _ _ _ _ hc
    exact ⟨u,v,rfl⟩
 refine zaa ⟨86,[(1,.pt 16 0 0),(3,.mp 60),(5,.B (decide ((1 : Int) ∈ D)))],[(0,some ⟨1,zaf f,0⟩),(16,some ⟨4,[rC N A (.rs 0 0 A.length)],0⟩),(60,some ⟨0,R,0⟩)],200⟩ rfl ?_ ?_
 ·obtain ⟨u,v,huv⟩:=hgd
  simp [hfind,hsome,huv]
  exact Le.go [(0,0),(16,16),(60,60)] [] rfl rfl (by simp) (by simp [fcd,hR.conv'])
 refine zaa ⟨86,[(1,.pt 16 0 0),(3,.mp 60),(22,.B (!decide ((1 : Int) ∈ D)))],[(0,some ⟨1,zaf f,0⟩),(16,some ⟨4,[rC N A (.rs 0 0 A.length)],0⟩),(60,some ⟨0,R,0⟩)],300⟩ rfl ?_ ?_
 ·simp
  exact Le.go [(0,0),(16,16),(60,60)] [] rfl rfl (by simp) (by simp [fcd,hR.conv'])
 refine zac _ rfl (fun h5=>?_) fun h5=>?_
 ·have h1D : (1 : Int) ∉ D:=by simpa using h5
  refine zaa ⟨86,[(2,.B false)],[(0,some ⟨1,zaf f,0⟩)],400⟩ rfl ?_ ?_
  ·simp
   exact LeI [(0,0)] []
  refine zah ?_
  exact zhc.mk (.inr rfl) (false,f) ⟨rfl,(zg9 hno hf hb.mem0 h1D hcl).2⟩ (zal.k1 rfl (by simp) (by simp [fcd]))
 have h1D : (1 : Int) ∈ D:=by simpa using h5
 obtain ⟨l,hl⟩:=hb.chain h1D
 have hle:=zon hl.way
 have hlr : ∀ s ∈ l,s.1 < f.length:=fun s hs=>by
  obtain ⟨i,hi,rfl⟩:=List.mem_iff_getElem.1 hs
  have:=(hl.at_ i hi).1
  omega
 have hl0 : 0 < l.length:=by
  cases hll : l with
  | nil=>rw [hll] at hle; cases hle
  | cons=>simp
 have hlA : l.length ≤ A.length:=by
  have:=za1 (a:=l.map fun s=>(s.1 : Int)) (b:=(List.range A.length).map fun i : Nat=>(i : Int)) (by
   have:=hl.nodup
   have e : (l.map fun s=>(s.1 : Int)) = (l.map (·.1)).map fun i : Nat=>(i : Int):=by simp
   rw [e]
   exact zdy (fun i j h=>by have h2 : (i : Int) = j:=h; omega) this) fun x hx=>by
   obtain ⟨s,hs,rfl⟩:=List.mem_map.1 hx
   exact List.mem_map.2 ⟨s.1,List.mem_range.2 (by have:=hlr s hs; omega),rfl⟩
  rw [List.length_map,List.length_map,List.length_range] at this
  exact this
 have hcam:=fun j (hj : j < l.length)=>zqq hb hl hj
 refine zad ?_
 refine zaa ⟨86,[(1,.pt 16 0 0),(3,.mp 60),(6,.rs 61 0 0)],[(0,some ⟨1,zaf f,0⟩),(16,some ⟨4,[rC N A (.rs 0 0 A.length)],0⟩),(60,some ⟨0,R,0⟩),(61,some ⟨2,[],0⟩)],400⟩ rfl ?_ ?_
 ·simp
  refine Le.lst [(0,0),(16,16),(60,60)] [] [(61,2)] rfl (by simp) (by simp) (by simp) (by simp) (by simp) (by simp) (by simp) (by simp [Up]) ?_
  simp [fcd,hR.conv']
  exact ⟨zaA.rfl' (Nat.zero_le _),zaA.rfl' (Nat.zero_le _),zaA.rfl' (Nat.zero_le _)⟩
 refine zaa ⟨86,[(1,.pt 16 0 0),(3,.mp 60),(6,.rs 61 0 0),(7,.I 1048576)],[(0,some ⟨1,zaf f,0⟩),(16,some ⟨4,[rC N A (.rs 0 0 A.length)],0⟩),(60,some ⟨0,R,0⟩),(61,some ⟨2,[],0⟩)],500⟩ rfl ?_ ?_
 ·simp
  exact Le.go [(0,0),(16,16),(60,60),(61,61)] [] rfl rfl (by simp) (by simp [fcd,hR.conv'])
 refine zaI (ι:=Int) (fun v=>⟨86,[(1,.pt 16 0 0),(6,.rs 61 0 l.length),(7,.I v)],[(0,some ⟨1,zaf f,0⟩),(16,some ⟨4,[rC N A (.rs 0 0 A.length)],0⟩),(61,some ⟨2,(wayB l 0).map zbq,0⟩)],600⟩) (fun v=>1 ≤ v ∧ v ≤ 1048576 ∧ zlF A f l 0 v) ?_ fun v hv=>?_
 ·refine zaa ⟨86,[(1,.pt 16 0 0),(3,.mp 60),(6,.rs 61 0 0),(7,.I 1048576),(8,.I 1)],[(0,some ⟨1,zaf f,0⟩),(16,some ⟨4,[rC N A (.rs 0 0 A.length)],0⟩),(60,some ⟨0,R,0⟩),(61,some ⟨2,[],0⟩)],600⟩ rfl ?_ ?_
  ·simp
   exact Le.go [(0,0),(16,16),(60,60),(61,61)] [] rfl rfl (by simp) (by simp [fcd,hR.conv'])
  refine zag ?_
  refine zao (ι:=zut) (fun s=>⟨86,[(1,.pt 16 0 0),(3,.mp 60),(6,.rs 61 0 (l.length - s.j)),(7,.I s.v),(8,.I (endW A 0 l s.j))],[(0,some ⟨1,zaf f,0⟩),(16,some ⟨4,[rC N A (.rs 0 0 A.length)],0⟩),(60,some ⟨0,R,0⟩),(61,some ⟨2,(wayB l s.j).map zbq,0⟩)],600⟩)
   (fun s=>s.j ≤ l.length ∧ 1 ≤ s.v ∧ s.v ≤ 1048576 ∧ zlF A f l s.j s.v) (fun s=>s.j) ⟨l.length,1048576⟩ ⟨Nat.le_refl _,by simp,by simp,by simp [zlF]⟩ (Le.go [(0,0),(16,16),(60,60),(61,61)] [] rfl rfl (by simp [hle]) (by simp [fcd,hR.conv',zsQ])) ?_
  rintro ⟨j,v⟩ ⟨hj,hv1,hv2,hv3⟩
  simp only at hj hv1 hv2 hv3
  refine zab ?_
  refine zaa ⟨86,[(1,.pt 16 0 0),(3,.mp 60),(6,.rs 61 0 (l.length - j)),(7,.I v),(8,.I (endW A 0 l j)),(24,.B (!decide (endW A 0 l j = 0)))],[(0,some ⟨1,zaf f,0⟩),(16,some ⟨4,[rC N A (.rs 0 0 A.length)],0⟩),(60,some ⟨0,R,0⟩),(61,some ⟨2,(wayB l j).map zbq,0⟩)],700⟩ rfl ?_ ?_
  ·simp
   exact Le.go [(0,0),(16,16),(60,60),(61,61)] [] rfl rfl (by simp <;> exact wkB (by rw [Bool.eq_iff_iff]; simp)) (by simp [fcd,hR.conv'])
  refine zac _ rfl (fun h13=>?_) fun h13=>?_
  ·simp at h13
   obtain ⟨i,rfl⟩ : ∃ i,j = i + 1:=by
    cases j with
    | zero=>exact absurd rfl h13
    | succ i=>exact ⟨i,rfl⟩
   have hi : i < l.length:=by omega
   obtain ⟨q1,q2,q3,q4,q5,q6⟩:=hl.at_ i hi
   have hfr:=hl.from_ i hi
   have hca:=hcam i hi
   have hws:=zq7 hi
   have hwl:=zoK l (i + 1)
   obtain ⟨s,hs⟩ : ∃ s,s = l[i]:=⟨_,rfl⟩
   have hk : endW A 0 l (i + 1) = stT A s:=by
    show stT A (l.getD i (0,false)) = _
    rw [List.getD_eq_getElem?_getD,List.getElem?_eq_getElem hi,hs]
    rfl
   have hvn : ∀ v' : Int,v' ≤ v → v' ≤ za9 A f s → zlF A f l i v':=fun v' h1 h2 t ht=>by
    rw [List.drop_eq_getElem_cons hi,← hs] at ht
    rcases List.mem_cons.1 ht with rfl | ht
    ·exact h2
    ·exact Int.le_trans h1 (hv3 t ht)
   rw [← hs] at q1 q2 q3 q4 q5 q6 hfr hca hws
   have hrm:=hroom s q1
   have hrmb : za9 A f s ≤ 1048576:=by
    have h1:=hfit.2 s.1 q1
    have h2:=(hav _ (zb0 q1)).2.2.2.2.2.2.2.2
    unfold za9
    split <;> omega
   rw [hk]
   obtain ⟨k,hkd⟩ : ∃ k,k = stT A s:=⟨_,rfl⟩
   obtain ⟨rm,hrd⟩ : ∃ rm,rm = za9 A f s:=⟨_,rfl⟩
   obtain ⟨W,hW⟩ : ∃ W,W = wayB l (i + 1):=⟨_,rfl⟩
   rw [← hkd] at q3 q4 q5 q6 hca hrm ⊢
   rw [← hrd] at q2 hrm hrmb hvn
   rw [← hW] at hws hwl
   have hAe:=zm9 q1
   have hlen : l.length - (i + 1) = W.length:=by omega
   rw [hlen,← hW]
   refine zad ?_
   refine zag ?_
   refine zaa ⟨86,[(1,.pt 16 0 0),(3,.mp 60),(6,.rs 61 0 W.length),(7,.I v),(9,.pv (zbq s))],[(0,some ⟨1,zaf f,0⟩),(16,some ⟨4,[rC N A (.rs 0 0 A.length)],0⟩),(60,some ⟨0,R,0⟩),(61,some ⟨2,W.map zbq,0⟩)],800⟩ rfl ?_ ?_
   ·simp [hfind,hca,zqf]
    exact Le.go [(0,0),(16,16),(60,60),(61,61)] [724] rfl rfl (by simp) (by simp [fcd,hR.conv'])
   refine zaa ⟨86,[(1,.pt 16 0 0),(3,.mp 60),(6,.rs 61 0 W.length),(7,.I v),(9,.pv (zbq s)),(10,.I rm)],[(0,some ⟨1,zaf f,0⟩),(16,some ⟨4,[rC N A (.rs 0 0 A.length)],0⟩),(60,some ⟨0,R,0⟩),(61,some ⟨2,W.map zbq,0⟩)],900⟩ rfl ?_ ?_
   ·simp
    refine zg5 [0] hrm (by simp [fcd,htake,hfl]) zt1 ?_
    simp
    exact Le.go [(0,0),(16,16),(60,60),(61,61)] [] rfl rfl (by simp) (by simp [fcd,hR.conv'])
   refine zaa ⟨86,[(1,.pt 16 0 0),(3,.mp 60),(6,.rs 62 0 (W.length + 1)),(7,.I (if rm < v then rm else v)),(9,.pv (zbq s))],[(0,some ⟨1,zaf f,0⟩),(16,some ⟨4,[rC N A (.rs 0 0 A.length)],0⟩),(60,some ⟨0,R,0⟩),(62,some ⟨2,(W ++ [s]).map zbq,0⟩)],1000⟩ rfl ?_ ?_
   ·have hmw : ∀ g : Stp → List AV,List.take W.length (List.map g W) = List.map g W:=fun g=>List.take_of_length_le (by simp)
    simp [hmw]
    exact ⟨by omega,by omega,Le.go [(0,0),(16,16),(60,60),(924,62)] [] rfl rfl (by simp) (by simp [fcd,hR.conv'])⟩
   have hst : stF A s = if s.2 then (arcD A s.1).t else (arcD A s.1).f:=rfl
   have hqi : (s.1 : Int) < A.length:=by omega
   refine zaa ⟨86,[(1,.pt 16 0 0),(3,.mp 60),(6,.rs 62 0 (W.length + 1)),(7,.I (if rm < v then rm else v)),(8,.I (arcD A s.1).f),(9,.pv (zbq s))],[(0,some ⟨1,zaf f,0⟩),(16,some ⟨4,[rC N A (.rs 0 0 A.length)],0⟩),(60,some ⟨0,R,0⟩),(62,some ⟨2,(W ++ [s]).map zbq,0⟩)],1100⟩ rfl ?_ ?_
   ·have hAe' : A[s.1] = arcD A s.1:=by rw [List.getElem?_eq_getElem q1] at hAe; exact Option.some.inj hAe
    simp [q1,hAe']
    exact Le.go [(0,0),(16,16),(60,60),(62,62)] [] rfl rfl (by simp) (by simp [fcd,hR.conv'])
   refine zaa ⟨86,[(1,.pt 16 0 0),(3,.mp 60),(6,.rs 62 0 (W.length + 1)),(7,.I (if rm < v then rm else v)),(8,.I (arcD A s.1).f),(9,.pv (zbq s)),(50,.B s.2)],[(0,some ⟨1,zaf f,0⟩),(16,some ⟨4,[rC N A (.rs 0 0 A.length)],0⟩),(60,some ⟨0,R,0⟩),(62,some ⟨2,(W ++ [s]).map zbq,0⟩)],1200⟩ rfl ?_ ?_
   ·simp
    exact Le.go [(0,0),(16,16),(60,60),(62,62)] [] rfl rfl (by simp) (by simp [fcd,hR.conv'])
   have hwl2 : l.length - i = W.length + 1:=by omega
   have hinv : i ≤ l.length ∧ 1 ≤ (if rm < v then rm else v) ∧ (if rm < v then rm else v) ≤ 1048576 ∧ zlF A f l i (if rm < v then rm else v):=⟨by omega,by split <;> omega,by split <;> omega,hvn _ (by split <;> omega) (by split <;> omega)⟩
   refine zac _ rfl (fun h16=>?_) fun h16=>?_
   ·have hAe' : A[s.1] = arcD A s.1:=by rw [List.getElem?_eq_getElem q1] at hAe; exact Option.some.inj hAe
    rw [if_pos h16] at hst
    refine zaq rfl ?_
    simp [q1,hAe']
    exact ⟨⟨i,if rm < v then rm else v⟩,hinv,Nat.lt_succ_self i,Le.go [(0,0),(16,16),(60,60),(62,61)] [] rfl rfl (by simp [hwl2,← hfr,hst]) (by simp [fcd,hR.conv',hws])⟩
   ·rw [if_neg (by simp [h16])] at hst
    refine zad ?_
    exact ⟨⟨i,if rm < v then rm else v⟩,hinv,Nat.lt_succ_self i,Le.go [(0,0),(16,16),(60,60),(62,61)] [] rfl rfl (by simp [hwl2,← hfr,hst]) (by simp [fcd,hR.conv',hws])⟩
  simp at h13
  obtain rfl : j = 0:=by
   cases j with
   | zero=>rfl
   | succ i =>
     have h2:=(hl.at_ i (by omega)).2.2.1
     refine absurd ?_ h2
     have h3 : endW A 0 l (i + 1) = stT A (l.getD i (0,false)):=rfl
     rw [h3,List.getD_eq_getElem?_getD,List.getElem?_eq_getElem (by omega)] at h13
     exact h13
  refine zan ?_
  refine hit ?_
  exact ⟨v,⟨hv1,hv2,hv3⟩,LeI [(0,0),(16,16),(61,61)] []⟩
 obtain ⟨hv1,hv2,hv3⟩:=hv
 have hv3' : ∀ s ∈ l,v ≤ za9 A f s:=fun s hs=>hv3 s (by simpa using hs)
 obtain ⟨hf2,hval⟩:=hl.push hno hf (by omega) hv3'
 have hWl:=zoK l 0
 obtain ⟨W,hW⟩ : ∃ W,W = wayB l 0:=⟨_,rfl⟩
 rw [← hW] at hWl ⊢
 have hWl : l.length = W.length:=by omega
 refine zab ?_
 refine zaa ⟨86,[(1,.pt 16 0 0),(7,.I v),(59,.vs 2 false (W.map zbq)),(60,.I W.length),(61,.I 0)],[(0,some ⟨1,zaf f,0⟩),(16,some ⟨4,[rC N A (.rs 0 0 A.length)],0⟩)],700⟩ rfl ?_ ?_
 ·have hmw : ∀ g : Stp → List AV,List.take W.length (List.map g W) = List.map g W:=fun g=>List.take_of_length_le (by simp)
  simp
  exact Le.go [(0,0),(16,16)] [61] rfl rfl (by simp [hWl,hmw,fcd]) (by simp [fcd])
 refine zag ?_
 refine zao (ι:=Nat) (fun i=>⟨86,[(1,.pt 16 0 0),(7,.I v),(59,.vs 2 false (W.map zbq)),(60,.I W.length),(61,.I i)],[(0,some ⟨1,zaf (zdv v f l (l.length - i)),0⟩),(16,some ⟨4,[rC N A (.rs 0 0 A.length)],0⟩)],700⟩) (fun i=>i ≤ W.length) (fun i=>W.length - i) 0 (Nat.zero_le _) (Le.go [(0,0),(16,16)] [] rfl rfl (by simp) (by simp [fcd,zng])) ?_
 intro i hi
 have hFl0 : (zdv v f l (l.length - i)).length = A.length:=by rw [zm8,hfl]
 refine zaa ⟨86,[(1,.pt 16 0 0),(7,.I v),(59,.vs 2 false (W.map zbq)),(60,.I W.length),(61,.I i),(62,.B (decide (i < W.length)))],[(0,some ⟨1,zaf (zdv v f l (l.length - i)),0⟩),(16,some ⟨4,[rC N A (.rs 0 0 A.length)],0⟩)],800⟩ rfl ?_ ?_
 ·simp
  exact LeI [(0,0),(16,16)] []
 refine zab ?_
 refine zac _ rfl (fun h20=>?_) fun h20=>?_
 ·simp at h20
  have hw1 : IntKind.i64.wrap ((i : Int) + 1) = (i : Int) + 1:=w64 (by omega) (by omega)
  obtain ⟨j,hj⟩ : ∃ j,l.length - i = j + 1:=⟨l.length - i - 1,by omega⟩
  have hjl : j < l.length:=by omega
  have hj2 : l.length - (i + 1) = j:=by omega
  have hWi : W[i] = l[j]:=by
   have : W[i]? = some l[j]:=by
    rw [hW]
    unfold wayB
    rw [List.drop_zero,List.getElem?_reverse (by omega),List.getElem?_eq_getElem (by omega)]
    congr 1
    congr 1
    omega
   rw [List.getElem?_eq_getElem h20] at this
   exact Option.some.inj this
  rw [hj] at hFl0 ⊢
  obtain ⟨q1,q2,q3,q4,q5,q6⟩:=hl.at_ j hjl
  have hstep:=zkH (v:=v) (f:=f) j hjl
  have hget:=zmi (v:=v) hl.nodup hlr j hjl
  have hroomj:=hv3' _ (List.getElem_mem hjl)
  obtain ⟨s,hs⟩ : ∃ s,s = l[j]:=⟨_,rfl⟩
  rw [← hs] at q1 hstep hget hroomj hWi
  obtain ⟨F,hF⟩ : ∃ F,F = zdv v f l (j + 1):=⟨_,rfl⟩
  rw [← hF] at hFl0 hget hstep ⊢
  have hfa:=hfit.2 s.1 q1
  have heo:=(hav _ (zb0 q1)).2.2.2.2.2.2.2.2
  obtain ⟨w,hw⟩ : ∃ w,w = f.getD s.1 0:=⟨_,rfl⟩
  have haf : s.1 < F.length:=by omega
  have hg2 : F[s.1] = w:=by
   have : F[s.1]? = some w:=by rw [hw,← hget,List.getD_eq_getElem?_getD,List.getElem?_eq_getElem haf,Option.getD_some]
   rw [List.getElem?_eq_getElem haf] at this
   exact Option.some.inj this
  rw [← hw] at hfa
  have hset : zdv v f l j = F.set s.1 (w + if s.2 then -v else v):=by rw [hstep]; unfold zf8; rw [hget,← hw]
  have hro : za9 A f s = if s.2 then w else (arcD A s.1).v - w:=by unfold za9; rw [← hw]
  refine zad ?_
  refine zab ?_
  refine zag ?_
  refine zaa ⟨86,[(1,.pt 16 0 0),(7,.I v),(13,.pv (zbq s)),(59,.vs 2 false (W.map zbq)),(60,.I W.length),(61,.I i)],[(0,some ⟨1,zaf F,0⟩),(16,some ⟨4,[rC N A (.rs 0 0 A.length)],0⟩)],900⟩ rfl ?_ ?_
  ·simp [h20,hWi]
   exact LeI [(0,0),(16,16)] [816]
  refine zaa ⟨86,[(1,.pt 16 0 0),(7,.I v),(13,.pv (zbq s)),(59,.vs 2 false (W.map zbq)),(60,.I W.length),(61,.I i),(66,.B s.2)],[(0,some ⟨1,zaf F,0⟩),(16,some ⟨4,[rC N A (.rs 0 0 A.length)],0⟩)],1000⟩ rfl ?_ ?_
  ·simp
   exact LeI [(0,0),(16,16)] []
  have hsA : (s.1 : Int) < A.length:=by omega
  refine zac _ rfl (fun h16=>?_) fun h16=>?_
  ·rw [if_pos h16] at hset hro
   have hw2 : IntKind.i64.wrap (w - v) = w + -v:=by rw [w64 (by omega) (by omega)]; omega
   refine zaq rfl ?_
   simp [q1,haf,hg2,hw2,zaJ]
   refine zaq rfl ?_
   simp
   exact ⟨i + 1,by omega,by omega,Le.go [(0,0),(16,16)] [] rfl rfl (by simp [hw1]) (by simp [fcd,hj2,hset])⟩
  ·rw [if_neg (by simp [h16])] at hset hro
   have hw2 : IntKind.i64.wrap (w + v) = w + v:=w64 (by omega) (by omega)
   refine zaq rfl ?_
   simp [q1,haf,hg2,hw2,zaJ]
   refine zaq rfl ?_
   simp
   exact ⟨i + 1,by omega,by omega,Le.go [(0,0),(16,16)] [] rfl rfl (by simp [hw1]) (by simp [fcd,hj2,hset])⟩
 simp at h20
 obtain rfl : i = W.length:=by omega
 rw [show l.length - W.length = 0 by omega]
 refine zan ?_
 refine hit ?_
 refine zaa ⟨86,[(2,.B true)],[(0,some ⟨1,zaf (zdv v f l 0),0⟩)],900⟩ rfl ?_ ?_
 ·simp
  exact LeI [(0,0)] []
 refine zah ?_
 exact zhc.mk (.inr rfl) (true,zdv v f l 0) ⟨hf2,by rw [hval]; omega⟩ (zal.k1 rfl (by simp) (by simp [fcd]))
theorem zal.k2n {rs : List (Nat × Option (Bool × Nat))} {st : St} {vs : List AV} {res : AV} {e0 e1 e : Ent} (i : Nat) (hi : 2 ≤ i) (h1 : ze2 st rs = some vs) (hw : Wk (conv [(0,0),(1,1),(i,2)] [] st.hp 4 (resV vs)) res)
  (h0 : (st.hp 0).map (zay [(0,0),(1,1),(i,2)] [] st.hp 4) = some e0) (h2 : (st.hp 1).map (zay [(0,0),(1,1),(i,2)] [] st.hp 4) = some e1) (he : (st.hp i).map (zay [(0,0),(1,1),(i,2)] [] st.hp 4) = some e) : zal rs 2 st res [some e0,some e1,some e]:=by
 have e2 : List.range 2 ++ [i] = [0,1,i]:=rfl
 refine ⟨vs,h1,[i],[],?_,by simpa using hi,by simp,?_,?_⟩
 ·rw [e2]
  simp
  omega
 ·rw [e2]
  exact hw
 ·rw [e2]
  show [_,_,_] = _
  have h0' : Option.map (zay (([0,1,i] : List Nat).zipIdx) [] st.hp 4) (st.hp 0) = some e0:=h0
  have h2' : Option.map (zay (([0,1,i] : List Nat).zipIdx) [] st.hp 4) (st.hp 1) = some e1:=h2
  have he' : Option.map (zay (([0,1,i] : List Nat).zipIdx) [] st.hp 4) (st.hp i) = some e:=he
  simp only [List.map_cons,List.map_nil,h0',h2',he']
theorem zal.k2 {rs : List (Nat × Option (Bool × Nat))} {st : St} {vs : List AV} {res : AV} {e0 e1 : Ent} (h1 : ze2 st rs = some vs) (hw : Wk (conv [(0,0),(1,1)] [] st.hp 4 (resV vs)) res)
  (h0 : (st.hp 0).map (zay [(0,0),(1,1)] [] st.hp 4) = some e0) (h2 : (st.hp 1).map (zay [(0,0),(1,1)] [] st.hp 4) = some e1) : zal rs 2 st res [some e0,some e1] :=
 ⟨vs,h1,[],[],by decide,by simp,by simp,hw,by
  show [_,_] = _
  have h0' : Option.map (zay ((List.range 2 ++ [] : List Nat).zipIdx) [] st.hp 4) (st.hp 0) = some e0:=h0
  have h2' : Option.map (zay ((List.range 2 ++ [] : List Nat).zipIdx) [] st.hp 4) (st.hp 1) = some e1:=h2
  simp only [h0',h2']⟩
set_option maxRecDepth 100000 in
theorem zlO {N : Nat} {D b : List Int} {R : List (List AV)} (hR : MapF R (camF D b)) (k : Int) : zaj Tryz.prog zaH [.I k,.pt 0 0 0] [⟨1,[[.mp 1]],0⟩,⟨0,R,0⟩] (.B (decide (k ∈ D))) [some ⟨1,[[.mp 1]],0⟩,some ⟨0,R,0⟩]:=by
 refine zih.acalls (nbz rfl) (nbz rfl) (Nat.le_refl _) ?_
 show awp _ 2 _ _ ⟨13,[(0,.I k),(1,.pt 0 0 0)],[(0,some ⟨1,[[.mp 1]],0⟩),(1,some ⟨0,R,0⟩)],16⟩
 have hfind:=hR.is.find
 have hsome:=zga D b k
 have hgd : ∃ u v,(camF D b k).getD (toAV (Value.agg #[Value.int IntKind.i64 0,Value.bool false])) = .agg [.sc u,.sc v]:=by
  cases hc : camF D b k with
  | none=>exact ⟨_,_,zoJ⟩
  | some x =>
    obtain ⟨u,v,rfl⟩:=zfq _ _ _ _ hc
    exact ⟨u,v,rfl⟩
 obtain ⟨u,v,huv⟩:=hgd
 refine rk (s:=?s1) [0,1] [0,1] rfl ?o1 ?q1
 case o1=>simp; rfl
 refine zaa ⟨13,[(5,.B (decide (k ∈ D)))],[(0,some ⟨1,[[.mp 1]],0⟩),(1,some ⟨0,R,0⟩)],200⟩ rfl ?_ ?_
 ·simp [hfind,hsome,huv]
  exact Le.go [(0,0),(1,1)] [] rfl rfl (by simp) (by simp [hR.conv'])
 refine zaa ⟨13,[(3,.B (decide (k ∈ D)))],[(0,some ⟨1,[[.mp 1]],0⟩),(1,some ⟨0,R,0⟩)],300⟩ rfl ?_ ?_
 ·simp
  exact Le.go [(0,0),(1,1)] [] rfl rfl (by simp) (by simp [hR.conv'])
 refine zah ?_
 exact ⟨.inr rfl,zal.k2 rfl (by simp) (by simp) (by simp [hR.conv'])⟩
set_option maxRecDepth 100000 in
set_option maxHeartbeats 1000000 in
theorem zrM {D b : List Int} {R : List (List AV)} (hR : MapF R (camF D b)) (N : Nat) (hN : N ≤ 1000000) :
  zaj Tryz.prog zbT [.I N,.fn (.func zaH) [] [.pt 0 0 0]] [⟨1,[[.mp 1]],0⟩,⟨0,R,0⟩] (.rs 2 0 (inD D N).length) [some ⟨1,[[.mp 1]],0⟩,some ⟨0,R,0⟩,some ⟨1,zaf (inD D N),0⟩]:=by
 refine zh0.acalls (nbz rfl) (nbz rfl) (by simp) ?_
 show awp _ 2 _ _ ⟨20,[(0,.I N),(1,.fn (.func zaH) [] [.pt 0 0 0])],[(0,some ⟨1,[[.mp 1]],0⟩),(1,some ⟨0,R,0⟩)],16⟩
 refine zaa ⟨20,[(0,.I N),(1,.fn (.func zaH) [] [.pt 0 0 0])],[(0,some ⟨1,[[.mp 1]],0⟩),(1,some ⟨0,R,0⟩)],24⟩ rfl ?_ ?_
 ·simp
  exact Le.go [(0,0),(1,1)] [] rfl rfl (by simp) (by simp [hR.conv'])
 refine zaa ⟨20,[(0,.I N),(1,.fn (.func zaH) [] [.pt 0 0 0]),(5,.rs 50 0 0)],[(0,some ⟨1,[[.mp 1]],0⟩),(1,some ⟨0,R,0⟩),(50,some ⟨1,[],0⟩)],100⟩ rfl ?_ ?_
 ·simp
  refine Le.lst [(0,0),(1,1)] [] [(50,1)] rfl (by simp) (by simp) (by simp) (by simp) (by simp) (by simp) (by simp) (by simp [Up,conv]) ?_
  simp [hR.conv']
  exact ⟨zaA.rfl' (Nat.zero_le _),zaA.rfl' (Nat.zero_le _)⟩
 refine zab ?_
 refine zaa ⟨20,[(1,.fn (.func zaH) [] [.pt 0 0 0]),(5,.rs 50 0 0),(7,.I N),(8,.I 0)],[(0,some ⟨1,[[.mp 1]],0⟩),(1,some ⟨0,R,0⟩),(50,some ⟨1,[],0⟩)],200⟩ rfl ?_ ?_
 ·simp
  exact Le.go [(0,0),(1,1),(50,50)] [] rfl rfl (by simp [conv]) (by simp [hR.conv'])
 refine zag ?_
 refine zao (ι:=Nat) (fun k=>⟨20,[(1,.fn (.func zaH) [] [.pt 0 0 0]),(5,.rs 50 0 (inD D k).length),(7,.I N),(8,.I k)],[(0,some ⟨1,[[.mp 1]],0⟩),(1,some ⟨0,R,0⟩),(50,some ⟨1,zaf (inD D k),0⟩)],200⟩) (fun k=>k ≤ N) (fun k=>N - k) 0 (Nat.zero_le _) (Le.go [(0,0),(1,1),(50,50)] [] rfl rfl (by simp [conv,inD]) (by simp [hR.conv',inD])) ?_
 intro k hk
 have hwl:=znT D k
 refine zaa ⟨20,[(1,.fn (.func zaH) [] [.pt 0 0 0]),(5,.rs 50 0 (inD D k).length),(7,.I N),(8,.I k),(9,.B (decide (k < N)))],[(0,some ⟨1,[[.mp 1]],0⟩),(1,some ⟨0,R,0⟩),(50,some ⟨1,zaf (inD D k),0⟩)],300⟩ rfl ?_ ?_
 ·simp
  exact Le.go [(0,0),(1,1),(50,50)] [] rfl rfl (by simp [conv]) (by simp [hR.conv',fcd])
 refine zab ?_
 refine zac _ rfl (fun h=>?_) fun h=>?_
 ·simp at h
  have hw2 : IntKind.i64.wrap ((k : Int) + 1) = (k : Int) + 1:=w64 (by omega) (by omega)
  have hnext:=zk3 D k
  refine zad ?_
  refine zaI (ι:=Unit) (fun _=>⟨20,[(1,.fn (.func zaH) [] [.pt 0 0 0]),(5,.rs 50 0 (inD D (k + 1)).length),(7,.I N),(8,.I k)],[(0,some ⟨1,[[.mp 1]],0⟩),(1,some ⟨0,R,0⟩),(50,some ⟨1,zaf (inD D (k + 1)),0⟩)],1000⟩) (fun _=>True) ?_ fun _ _=>?_
  ·rw [hnext]
   obtain ⟨W,hW⟩ : ∃ W,W = inD D k:=⟨_,rfl⟩
   rw [← hW] at hwl ⊢
   refine zag ?_
   refine zaa ⟨20,[(1,.fn (.func zaH) [] [.pt 0 0 0]),(5,.rs 50 0 W.length),(6,.I k),(7,.I N),(8,.I k)],[(0,some ⟨1,[[.mp 1]],0⟩),(1,some ⟨0,R,0⟩),(50,some ⟨1,zaf W,0⟩)],400⟩ rfl ?_ ?_
   ·simp
    exact Le.go [(0,0),(1,1),(50,50)] [] rfl rfl (by simp [conv]) (by simp [hR.conv',fcd])
   refine zaa ⟨20,[(1,.fn (.func zaH) [] [.pt 0 0 0]),(5,.rs 50 0 W.length),(6,.I k),(7,.I N),(8,.I k),(13,.B (decide ((k : Int) ∈ D)))],[(0,some ⟨1,[[.mp 1]],0⟩),(1,some ⟨0,R,0⟩),(50,some ⟨1,zaf W,0⟩)],500⟩ rfl ?_ ?_
   ·simp
    refine zkU (i:=0) (j:=1) (by decide) rfl rfl (by simp) (by simp [hR.conv']) (zlO (N:=N) hR k) (by simp) (by simp) ?_
    simp [hR.conv']
    exact Le.go [(0,0),(1,1),(50,50)] [] rfl rfl (by simp [conv]) (by simp [hR.conv',fcd])
   refine zac _ rfl (fun h5=>?_) fun h5=>?_
   ·rw [decide_eq_true_eq] at h5
    rw [if_pos h5]
    have hmw : ∀ g : Int → List AV,List.take W.length (List.map g W) = List.map g W:=fun g=>List.take_of_length_le (by simp)
    refine zaq rfl ?_
    simp [hmw]
    exact ⟨by omega,by omega,Le.go [(0,0),(1,1),(524,50)] [] rfl rfl (by simp [conv]) (by simp [hR.conv',fcd])⟩
   ·rw [decide_eq_false_iff_not] at h5
    rw [if_neg h5,List.append_nil]
    refine zad ?_
    exact ⟨(),trivial,Le.go [(0,0),(1,1),(50,50)] [] rfl rfl (by simp [conv]) (by simp [hR.conv',fcd])⟩
  refine zaq rfl ?_
  simp [hw2]
  exact ⟨k + 1,by omega,by omega,Le.go [(0,0),(1,1),(50,50)] [] rfl rfl (by simp [conv,hw2]) (by simp [hR.conv',fcd])⟩
 simp at h
 obtain rfl : k = N:=by omega
 refine zan ?_
 refine hit ?_
 refine zaa ⟨20,[(4,.rs 50 0 (inD D k).length)],[(0,some ⟨1,[[.mp 1]],0⟩),(1,some ⟨0,R,0⟩),(50,some ⟨1,zaf (inD D k),0⟩)],400⟩ rfl ?_ ?_
 ·simp
  exact Le.go [(0,0),(1,1),(50,50)] [] rfl rfl (by simp) (by simp [hR.conv',fcd])
 refine zah ?_
 exact ⟨.inr rfl,zal.k2n 50 (by omega) rfl (by simp) (by simp) (by simp [hR.conv']) (by simp [fcd])⟩
section
variable {N : Nat} {A : List Ed} {f : List Int}
theorem zqZ (hn : zde N A) {s : Stp} (hs : s.1 < A.length) : 0 ≤ stT A s ∧ stT A s < N:=by
 have:=hn.arc _ (zb0 hs)
 unfold stT
 split <;> omega
theorem Bfs.grow (hn : zde N A) : ∀ (n : Nat) (D b : List Int),Bfs N A f D b → N - D.length ≤ n → ∃ D' b',Bfs N A f D' b' ∧ zeg A f D'
 | n,D,b,h,hl=>by
   by_cases hc : zeg A f D
   ·exact ⟨D,b,h,hc⟩
   ·unfold zeg at hc
    obtain ⟨s,hs⟩:=Classical.not_forall.1 hc
    obtain ⟨h1,hs⟩:=Classical.not_imp.1 hs
    obtain ⟨h2,hs⟩:=Classical.not_imp.1 hs
    obtain ⟨h3,h4⟩:=Classical.not_imp.1 hs
    have hr:=zqZ hn h1
    have hp:=h.push h1 h2 h3 h4 hr.1 hr.2
    have hf:=hp.few
    rw [List.length_append,List.length_singleton] at hf
    match n,hl with
    | 0,hl=>omega
    | n + 1,hl=>exact Bfs.grow hn n _ _ hp (by rw [List.length_append,List.length_singleton]; omega)
theorem zry (hn : zde N A) {D b : List Int} (hf1 : zaD N A f) (hf2 : ∀ f',zaD N A f' → valF A f' ≤ valF A f) (hb : Bfs N A f D b) : (1 : Int) ∉ D:=fun hm=>by
 obtain ⟨l,hl⟩:=hb.chain hm
 have h1:=hl.push hn hf1 (v:=1) (by omega) fun s hs=>by
  obtain ⟨i,hi,rfl⟩:=List.mem_iff_getElem.1 hs
  have:=(hl.at_ i hi).2.1
  omega
 have h2:=hf2 _ h1.1
 omega
theorem ztG (hn : zde N A) {S : Int → Bool} (h0 : S 0 = true) (h1 : S 1 = false) : maxF N A ≤ capS S A:=by
 obtain ⟨f,hf,hv⟩:=zpm hn
 rw [← hv]
 exact zdx hn hf h0 h1
theorem zsv (hn : zde N A) : ∃ X : Int → Bool,X 0 = true ∧ X 1 = false ∧ capS X A = maxF N A ∧ ∀ S : Int → Bool,S 0 = true → S 1 = false → capS S A = maxF N A → ∀ x,X x = true → S x = true:=by
 obtain ⟨f,hf,hm⟩:=zf6 hn
 obtain ⟨D,b,hb,hc⟩:=Bfs.grow hn N [0] _ (Bfs.start (f:=f) (by have:=hn.two; omega)) (by omega)
 have h1:=zry hn hf hm hb
 have hmf:=zfA hf hm
 refine ⟨fun x=>decide (x ∈ D),by simpa using hb.mem0,by simpa using h1,?_,fun S s0 s1 hS x hx=>?_⟩
 ·rw [hmf]
  exact (zg9 hn hf hb.mem0 h1 hc).1.symm
 ·exact zkt hn hf hb.tree s0 s1 (hS.trans hmf) x (by simpa using hx)
end
def zqJ (g : Gr) (p : Pol) (S : Int → Bool) : Int:=capS S (netA g p [])
def zfa (S : Int → Bool) (ks : List Int) : Int:=(ks.map fun k=>if S (2 + 2 * k) = true then 1 else 0).sum
variable {g : Gr} {p : Pol}
def zrU (g : Gr) (p : Pol) (k : Int) : Prop:=0 < (zaG g p).getD k.toNat 0
theorem zks {S : Int → Bool} (h1 : S 1 = false) {ks : List Int} (hk : ∀ k ∈ ks,zrU g p k) : capS S (netA g p ks) = zqJ g p S + zfa S ks:=by
 have hf : ks.filter (fun x=>decide (0 < (zaG g p).getD x.toNat 0)) = ks:=List.filter_eq_self.2 fun x hx=>decide_eq_true (hk x hx)
 unfold zqJ zfa
 simp only [ziG,netA,zaT,List.map_append,List.sum_append,List.map_map,hf]
 have e : ((fun e : Ed=>if S e.f = true ∧ S e.t = false then e.v else 0) ∘ fun x : Int=>(⟨2 + 2 * x,1,1⟩ : Ed)) = fun k=>if S (2 + 2 * k) = true then 1 else 0:=by
  funext k
  simp only [Function.comp,h1,and_true]
 rw [e]
 simp only [List.filter_nil,List.map_nil,List.sum_nil]
 omega
theorem zoH (S : Int → Bool) : ∀ ks : List Int,zfa S ks ≤ ks.length
 | []=>Int.le_refl _
 | k :: ks=>by
   have ih:=zoH S ks
   unfold zfa at ih ⊢
   simp only [List.map_cons,List.sum_cons,List.length_cons]
   split <;> omega
theorem znb (S : Int → Bool) (a b : List Int) : zfa S (a ++ b) = zfa S a + zfa S b:=by simp [zfa]
theorem zpK (S : Int → Bool) {a b : List Int} (h : a.Perm b) : zfa S a = zfa S b:=by
 unfold zfa
 induction h with
 | nil=>rfl
 | cons x _ ih=>simp only [List.map_cons,List.sum_cons,ih]
 | swap x y l=>simp only [List.map_cons,List.sum_cons]; omega
 | trans _ _ ih1 ih2=>exact ih1.trans ih2
structure zbW (g : Gr) (p : Pol) (ks : List Int) : Prop where
 rng : ∀ x ∈ ks,0 ≤ x ∧ x < g.size
 reach : ∀ x ∈ ks,zrU g p x
theorem zbW.sub {a b : List Int} (h : zbW g p b) (hs : ∀ x ∈ a,x ∈ b) : zbW g p a:=⟨fun x hx=>h.rng x (hs x hx),fun x hx=>h.reach x (hs x hx)⟩
theorem zbW.nil : zbW g p []:=⟨fun _ h=>(List.not_mem_nil h).elim,fun _ h=>(List.not_mem_nil h).elim⟩
theorem zbW.append {a b : List Int} (h : zbW g p a) (h' : zbW g p b) : zbW g p (a ++ b) :=
 ⟨fun x hx=>(List.mem_append.1 hx).elim (h.rng x) (h'.rng x),fun x hx=>(List.mem_append.1 hx).elim (h.reach x) (h'.reach x)⟩
theorem zdb (hg : GrOk g) (hp : za8 g.size p) {ks : List Int} (hk : zbW g p ks) : zas g p ks ↔ ∀ S : Int → Bool,S 0 = true → S 1 = false → (ks.length : Int) ≤ zqJ g p S + zfa S ks:=by
 have hn:=zja hg hp hk.rng
 unfold zas
 constructor
 ·intro h S h0 h1
  rw [← zks h1 hk.reach,← h]
  exact ztG hn h0 h1
 ·intro h
  obtain ⟨X,h0,h1,hc,_⟩:=zsv hn
  have h2:=h X h0 h1
  rw [← zks h1 hk.reach,hc] at h2
  have h3:=ziI (p:=p) hg hp hk.rng
  omega
theorem zas.perm (hg : GrOk g) (hp : za8 g.size p) {a b : List Int} (ha : zbW g p a) (h : zas g p a) (hp' : a.Perm b) : zas g p b:=by
 have hb : zbW g p b:=ha.sub fun x hx=>hp'.mem_iff.2 hx
 rw [zdb hg hp hb]
 rw [zdb hg hp ha] at h
 intro S h0 h1
 rw [← zpK S hp',← hp'.length_eq]
 exact h S h0 h1
theorem zas.left (hg : GrOk g) (hp : za8 g.size p) {a b : List Int} (hk : zbW g p (a ++ b)) (h : zas g p (a ++ b)) : zas g p a:=by
 have ha : zbW g p a:=hk.sub fun x hx=>List.mem_append_left _ hx
 rw [zdb hg hp ha]
 rw [zdb hg hp hk] at h
 intro S h0 h1
 have:=h S h0 h1
 rw [znb,List.length_append] at this
 have:=zoH S b
 omega
theorem zas.sublist (hg : GrOk g) (hp : za8 g.size p) {a b : List Int} (hk : zbW g p b) (h : zas g p b) (hs : a.Sublist b) : zas g p a:=by
 obtain ⟨c,hc⟩ : ∃ c,(a ++ c).Perm b:=by
  induction hs with
  | slnil=>exact ⟨[],.refl _⟩
  | cons x hs ih =>
    obtain ⟨c,hc⟩:=ih (hk.sub fun y hy=>List.mem_cons_of_mem _ hy) (by
     have h2 : zas g p (_ ++ [x]):=h.perm hg hp hk (List.perm_append_comm (l₁:=[x]))
     exact h2.left hg hp (hk.sub fun y hy=>by simpa [or_comm] using hy))
    exact ⟨x :: c,List.perm_middle.trans (hc.cons x)⟩
  | cons_cons x hs ih =>
    obtain ⟨c,hc⟩:=ih (hk.sub fun y hy=>List.mem_cons_of_mem _ hy) (by
     have h2 : zas g p (_ ++ [x]):=h.perm hg hp hk (List.perm_append_comm (l₁:=[x]))
     exact h2.left hg hp (hk.sub fun y hy=>by simpa [or_comm] using hy))
    exact ⟨c,hc.cons x⟩
 exact (h.perm hg hp hk hc.symm).left hg hp (hk.sub fun x hx=>hc.mem_iff.1 hx)
theorem zas.nil (hg : GrOk g) (hp : za8 g.size p) : zas g p []:=by
 have h1:=ziI (p:=p) (ks:=[]) hg hp (by simp)
 have hn:=zja (p:=p) (ks:=[]) hg hp (by simp)
 have h2:=ztn hn (zhj hn)
 have h3 : valF (netA g p []) ((netA g p []).map fun _=>0) = 0:=by
  unfold valF outF
  have : ∀ A : List Ed,sumF (fun e v=>if e.f = 0 then v else 0) A (A.map fun _=>0) = 0:=by
   intro A
   induction A with
   | nil=>rfl
   | cons e A ih=>simp only [List.map_cons,sumF,ih]; split <;> rfl
  exact this _
 unfold zas
 simp at h1 ⊢
 omega
theorem zal.k1n {rs : List (Nat × Option (Bool × Nat))} {st : St} {vs : List AV} {res : AV} {e0 e : Ent} (i : Nat) (hi : 1 ≤ i) (h1 : ze2 st rs = some vs) (hw : Wk (conv [(0,0),(i,1)] [] st.hp 4 (resV vs)) res) (h0 : (st.hp 0).map (zay [(0,0),(i,1)] [] st.hp 4) = some e0) (he : (st.hp i).map (zay [(0,0),(i,1)] [] st.hp 4) = some e) : zal rs 1 st res [some e0,some e] :=
 ⟨vs,h1,[i],[],by simp [List.range,List.range.loop]; omega,by simpa using hi,by simp,by simpa [List.range,List.range.loop] using hw,by simpa [List.range,List.range.loop] using ⟨by simpa using h0,by simpa using he⟩⟩
@[simp] theorem ztV {i : Nat} : cellsOf (.mp i) = some [.mp i]:=(rfl)
set_option maxRecDepth 100000 in
set_option maxHeartbeats 2000000 in
theorem zub (N : Nat) (A : List Ed) (f0 : List Int) (hn : za4 ⟨N,A⟩) (hf0 : zaD N A f0) :
  ∃ f : List Int,(zaD N A f ∧ ∀ f',zaD N A f' → valF A f' ≤ valF A f) ∧ zaj Tryz.prog zhU [eN ⟨N,A⟩,ints f0] [] (.rs 0 0 A.length) [some ⟨1,zaf f,0⟩]:=by
 refine zpz.acallsX (args:=[eN ⟨N,A⟩,ints f0]) (hs:=[]) (fun f=>.rs 0 0 A.length) (fun f=>[some ⟨1,zaf f,0⟩]) (fun f : List Int=>zaD N A f ∧ ∀ f',zaD N A f' → valF A f' ≤ valF A f) (nbz rfl) (nbz rfl) (fun _=>by simp) ?_
 show awp _ 0 _ _ ⟨14,[(0,eN ⟨N,A⟩),(1,ints f0)],[],16⟩
 have hno:=zd4 hn
 have hfl:=hf0.fit.len
 have hopen:=fun (f : List Int)=>zqF N A f A.length hn
 have hpush:=fun (f : List Int) (hf : zaD N A f)=>zuo N A f hn hf
 have hal:=hn.2.2.1
 simp only at hal
 have hcl:=zet f0 (by omega)
 rw [hfl] at hcl
 have htake : ∀ g : Int → List AV,List.take A.length (List.map g f0) = List.map g f0:=fun g=>List.take_of_length_le (by simp; omega)
 refine rx (s:=?s1) [1,2] [] [16] rfl ?o1 ?q1
 case o1=>simp; rfl
 refine zaw ⟨14,[(5,.pt 64 0 0)],[(48,some ⟨1,zaf f0,0⟩),(64,some ⟨4,[rC N A (.rs 48 0 A.length)],0⟩)],80⟩ rfl ?_ ?_
 ·simp
  refine zaU hcl (by simp) ?_
  simp
  refine zbd (i:=48) rfl (by simp [fcd]) (hopen f0) (by simp) (by simp) ?_
  simp
  exact ⟨rfl,LeI [(48,48),(64,64)] []⟩
 refine zab ?_
 refine zag ?_
 refine zao (ι:=List Int) (fun f=>⟨14,[(5,.pt 64 0 0)],[(48,some ⟨1,zaf f,0⟩),(64,some ⟨4,[rC N A (.rs 48 0 A.length)],0⟩)],80⟩) (fun f=>zaD N A f) (fun f=>(capS (fun x=>decide (x = 0)) A - valF A f).toNat) f0 hf0 (LeI [(48,48),(64,64)] []) ?_
 intro f hf
 obtain ⟨⟨c,f'⟩,hx,hcall⟩:=hpush f hf
 simp only at hx hcall
 refine zab ?_
 refine zaa ⟨14,[(5,.pt 64 0 0),(11,.B c)],[(48,some ⟨1,zaf f',0⟩),(64,some ⟨4,[rC N A (.rs 48 0 A.length)],0⟩)],100⟩ rfl ?_ ?_
 ·simp
  refine zbd (i:=48) rfl (by simp [fcd]) hcall (by simp) (by simp) ?_
  simp
  exact LeI [(48,48),(64,64)] []
 refine zac _ rfl (fun h4=>?_) fun h4=>?_
 ·have hc : c = true:=h4
  subst hc
  simp only [if_true] at hx
  have hbnd:=zdx (S:=fun x=>decide (x = 0)) hno hx.1 (by simp) (by simp)
  refine zad ?_
  refine zag ?_
  refine zad ?_
  exact ⟨f',hx.1,by have:=hx.2; omega,LeI [(48,48),(64,64)] []⟩
 have hc : c = false:=h4
 subst hc
 simp only [Bool.false_eq_true,if_false] at hx
 obtain ⟨rfl,hm⟩:=hx
 refine zan ?_
 refine hit ?_
 refine zaa ⟨14,[(4,.rs 48 0 A.length)],[(48,some ⟨1,zaf f',0⟩)],200⟩ rfl ?_ ?_
 ·simp
  exact LeI [(48,48)] []
 refine zah ?_
 exact zhc.mk (.inr rfl) f' ⟨hf,hm⟩ (zal.out [48] [] rfl (by simp) (by simp) (by simp) (by simp [fcd]))
set_option maxRecDepth 100000 in
set_option maxHeartbeats 2000000 in
theorem zkw (N : Nat) (A : List Ed) (hn : za4 ⟨N,A⟩) :
  ∃ f : List Int,(zaD N A f ∧ ∀ f',zaD N A f' → valF A f' ≤ valF A f) ∧ zaj Tryz.prog zgX [eN ⟨N,A⟩] [] (.tup [.rs 0 0 A.length,.I 0]) [some ⟨1,zaf f,0⟩]:=by
 have hno:=zd4 hn
 obtain ⟨f,hf,hg⟩:=zub N A _ hn (zhj hno)
 refine ⟨f,hf,?_⟩
 have hchk:=zeM ⟨N,A⟩ (by have:=hn.2.2.1; simp only at this ⊢; omega)
 rw [if_pos hn] at hchk
 have hal:=hn.2.2.1
 simp only at hal
 have hfl:=hf.1.fit.len
 refine zqt.acalls (nbz rfl) (nbz rfl) (Nat.zero_le _) ?_
 show awp _ 0 _ _ ⟨16,[(0,eN ⟨N,A⟩)],[],16⟩
 refine rx (s:=?s1) [1] [] [16] rfl ?o1 ?q1
 case o1=>simp; rfl
 refine zab ?_
 refine rx (s:=?s2) [1,4] [] [] rfl ?o2 ?q2
 case o2=>simp; refine zap hchk (by simp) ?_; simp; rfl
 refine rx (s:=?s3) [1,4,8] [] [] rfl ?o3 ?q3
 case o3=>simp; rfl
 refine zac _ rfl (fun h4=>by cases h4) fun h4=>?_
 refine zad ?_
 refine zaw ⟨16,[(2,.rs 48 0 A.length),(3,.I 0)],[(48,some ⟨1,zaf f,0⟩)],300⟩ rfl ?_ ?_
 ·simp
  refine ⟨by omega,by omega,?_⟩
  refine zge [112] hg (by simp [List.map_const']) (.rs _ _ _) zmZ ?_
  simp
  exact ⟨rfl,LeI [(120,48)] []⟩
 refine zah ?_
 exact ⟨.inr rfl,zal.out [48] [] rfl (by simp) (by simp) (by simp) (by simp [fcd])⟩
set_option maxRecDepth 100000 in
set_option maxHeartbeats 2000000 in
theorem zjm (N : Nat) (A : List Ed) (f : List Int) (hn : za4 ⟨N,A⟩) (hf : zaD N A f) (hm : ∀ f',zaD N A f' → valF A f' ≤ valF A f) :
  zaj Tryz.prog zeU [eN ⟨N,A⟩,.rs 0 0 A.length] [⟨1,zaf f,0⟩] (.rs 1 0 (zgi N A).length) [some ⟨1,zaf f,0⟩,some ⟨1,zaf (zgi N A),0⟩]:=by
 have hno:=zd4 hn
 obtain ⟨⟨D,b,R⟩,⟨hb,hcl,hR⟩,hcall⟩:=zoN N A f hn hf.fit
 simp only at hb hcl hR hcall
 have hopen:=zqF N A f A.length hn
 have hnear : inD D N = zgi N A:=zoS hno hf hm hb.tree hb.mem0 (zry hno hf hm hb) hcl
 have hwh:=zrM hR N (by have:=hn.2.1; simp only at this; omega)
 rw [hnear] at hwh
 have hfl:=hf.fit.len
 have htake : ∀ g : Int → List AV,List.take A.length (List.map g f) = List.map g f:=fun g=>List.take_of_length_le (by simp; omega)
 refine zly.acalls (nbz rfl) (nbz rfl) (by simp) ?_
 show awp _ 1 _ _ ⟨14,[(0,eN ⟨N,A⟩),(1,.rs 0 0 A.length)],[(0,some ⟨1,zaf f,0⟩)],16⟩
 refine zaa ⟨14,[(1,.rs 0 0 A.length),(2,.pv (nC ⟨N,A⟩))],[(0,some ⟨1,zaf f,0⟩)],32⟩ rfl ?_ ?_
 ·simp
  exact LeI [(0,0)] [16]
 refine zaa ⟨14,[(2,.pv (nC ⟨N,A⟩)),(5,.pt 64 0 0)],[(0,some ⟨1,zaf f,0⟩),(64,some ⟨1,[[.mp 56]],0⟩),(56,some ⟨0,R,0⟩)],100⟩ rfl ?_ ?_
 ·simp
  refine zbd (i:=0) rfl (by simp [fcd]) hopen (by simp) (by simp) ?_
  simp
  refine zge [0] hcall (by simp [fcd,htake,hfl]) (.mp _) (hR.plain _ _) ?_
  simp
  exact Le.go [(0,0),(64,64),(56,56)] [] rfl rfl (by simp) (by simp [fcd,hR.conv'])
 refine zaa ⟨14,[(4,.rs 57 0 (zgi N A).length)],[(0,some ⟨1,zaf f,0⟩),(57,some ⟨1,zaf (zgi N A),0⟩)],200⟩ rfl ?_ ?_
 ·simp
  refine zkU (i:=64) (j:=56) (by decide) rfl rfl (by simp) (by simp [hR.conv']) hwh (by simp) (by simp [conv]) ?_
  simp
  exact LeI [(0,0),(124,57)] []
 refine zah ?_
 exact ⟨.inr rfl,zal.k1n 57 (by omega) rfl (by simp) (by simp [fcd]) (by simp [fcd])⟩
set_option maxRecDepth 100000 in
theorem zcY (a b : List Int) (ha : a.length ≤ 140737488355328) (hb : b.length ≤ 140737488355328) : zaj Tryz.prog zbQ [ints a,ints b] [] (.B (decide (a = b))) []:=by
 refine zjC.acalls (nbz rfl) (nbz rfl) (Nat.le_refl _) ?_
 show awp _ 0 _ _ ⟨26,[(0,ints a),(1,ints b)],[],16⟩
 refine zaa ⟨26,[(0,ints a),(1,ints b)],[],100⟩ rfl ?_ ?_
 ·simp
  exact LeH [] []
 refine zab ?_
 refine zaa ⟨26,[(0,ints a),(1,ints b),(10,.B (!decide (a.length = b.length)))],[],200⟩ rfl ?_ ?_
 ·simp
  exact Le.go [] [] rfl rfl (by simp <;> exact wkB (by rw [Bool.eq_iff_iff]; simp; omega)) (by simp)
 refine zac _ rfl (fun h=>?_) fun h=>?_
 ·simp at h
  have hn : ¬ a = b:=fun e=>h (by rw [e])
  refine zaa ⟨26,[(4,.B false)],[],300⟩ rfl ?_ ?_
  ·simp
   exact LeH [] []
  refine zah ?_
  exact ⟨.inr rfl,zal.one (by simp [hn])⟩
 simp at h
 refine zad ?_
 refine zab ?_
 refine zaa ⟨26,[(0,ints a),(1,ints b),(5,.I 0)],[],300⟩ rfl ?_ ?_
 ·simp
  exact LeH [] []
 refine zag ?_
 refine zao (ι:=Nat) (fun i=>⟨26,[(0,ints a),(1,ints b),(5,.I i)],[],300⟩) (fun i=>i ≤ a.length ∧ a.take i = b.take i) (fun i=>a.length - i) 0 (by simp) (LeH [] []) ?_
 rintro i ⟨hi,hp⟩
 refine zab ?_
 refine zaa ⟨26,[(0,ints a),(1,ints b),(5,.I i),(14,.B (decide (i < a.length)))],[],400⟩ rfl ?_ ?_
 ·simp
  exact LeH [] []
 refine zac _ rfl (fun h7=>?_) fun h7=>?_
 ·simp at h7
  have hib : i < b.length:=by omega
  have hw : IntKind.i64.wrap ((i : Int) + 1) = (i : Int) + 1:=w64 (by omega) (by omega)
  refine zad ?_
  refine zab ?_
  refine zag ?_
  refine zaw ⟨26,[(0,ints a),(1,ints b),(5,.I i),(25,.B (!decide (a[i] = b[i])))],[],600⟩ rfl ?_ ?_
  ·simp [h7,hib]
   exact ⟨rfl,Le.go [] [] rfl rfl (by simp <;> exact wkB (by rw [Bool.eq_iff_iff]; simp)) (by simp)⟩
  refine zac _ rfl (fun h9=>?_) fun h9=>?_
  ·simp at h9
   have hn : ¬ a = b:=fun e=>by subst e; exact h9 rfl
   refine zaa ⟨26,[(4,.B false)],[],700⟩ rfl ?_ ?_
   ·simp
    exact LeH [] []
   refine zah ?_
   exact ⟨.inr rfl,zal.one (by simp [hn])⟩
  simp at h9
  refine zad ?_
  refine zae (s:=?s11) rfl ?o11 ?q11
  case o11=>simp; rfl
  refine ⟨i + 1,⟨h7,?_⟩,by omega,Le.go [] [] rfl rfl (by simp [hw]) (by simp)⟩
  rw [List.take_succ_eq_append_getElem h7,List.take_succ_eq_append_getElem hib,hp,h9]
 simp at h7
 have he : a = b:=by
  have h1 : i = a.length:=by omega
  rw [h1,List.take_length,h,List.take_length] at hp
  exact hp
 refine zan ?_
 refine hit ?_
 refine zaa ⟨26,[(4,.B true)],[],700⟩ rfl ?_ ?_
 ·simp
  exact LeH [] []
 refine zah ?_
 exact ⟨.inr rfl,zal.one (by simp [he])⟩
variable {g : Gr} {p : Pol}
theorem zla : ∀ (b a : List Int),∃ l,accR g p (a ++ b) = accR g p a ++ l ∧ ∀ x ∈ l,x ∈ b
 | [],a=>⟨[],by simp,by simp⟩
 | x :: b,a=>by
   obtain ⟨l,hl,hm⟩:=zla b (a ++ [x])
   have e : a ++ x :: b = a ++ [x] ++ b:=by simp
   rw [e,hl]
   rcases ziM (g:=g) (p:=p) a x with h | h
   ·exact ⟨l,by rw [h],fun y hy=>List.mem_cons_of_mem _ (hm y hy)⟩
   ·refine ⟨[x] ++ l,by rw [h,List.append_assoc],fun y hy=>?_⟩
    rcases List.mem_append.1 hy with h | h
    ·rw [List.mem_singleton.1 h]; exact List.mem_cons_self
    ·exact List.mem_cons_of_mem _ (hm y h)
theorem ziE {o : List Int} (hn : o.Nodup) {i : Nat} (h : i < o.length) : o[i] ∈ accR g p o ↔ zas g p (zax (accR g p (o.take i) ++ [o[i]])):=by
 have hs : o.take (i + 1) = o.take i ++ [o[i]]:=List.take_succ_eq_append_getElem h
 obtain ⟨l,hl,hm⟩:=zla (g:=g) (p:=p) (o.drop (i + 1)) (o.take (i + 1))
 rw [List.take_append_drop] at hl
 have hni : o[i] ∉ o.take i:=fun hx=>by
  obtain ⟨j,hj,e⟩:=List.mem_take_iff_getElem.1 hx
  have:=(List.getElem_inj hn).1 e
  omega
 have hnd : o[i] ∉ o.drop (i + 1):=fun hx=>by
  obtain ⟨j,hj,e⟩:=List.mem_drop_iff_getElem.1 hx
  have:=(List.getElem_inj hn).1 e
  omega
 constructor
 ·intro hx
  by_cases hc : zas g p (zax (accR g p (o.take i) ++ [o[i]]))
  ·exact hc
  ·rw [hl,hs,zgd hc] at hx
   rcases List.mem_append.1 hx with h1 | h1
   ·exact absurd (zg0 h1) hni
   ·exact absurd (hm _ h1) hnd
 ·intro hc
  rw [hl,hs,zdw hc]
  exact List.mem_append_left _ (List.mem_append_right _ (List.mem_singleton.2 rfl))
theorem zpl {o : List Int} (hn : o.Nodup) : ∀ i,i ≤ o.length → befL o (accR g p o) i = accR g p (o.take i)
 | 0,_=>by simp [befL,ziH]
 | i + 1,h=>by
   have hi : i < o.length:=h
   rw [znp hi,zpl hn i (by omega),List.take_succ_eq_append_getElem hi]
   by_cases hc : zas g p (zax (accR g p (o.take i) ++ [o[i]]))
   ·rw [if_pos ((ziE hn hi).2 hc),zdw hc]
   ·rw [if_neg (fun h=>hc ((ziE hn hi).1 h)),zgd hc,List.append_nil]
theorem zj4 {l : List Int} (h : l.Pairwise (· < ·)) : l.Nodup:=h.imp fun h=>by omega
theorem ziK {a : List Int} (hn : a.Nodup) (hr : ∀ k ∈ a,0 ≤ k ∧ k < 64) : a.Perm (zax a):=by
 rw [← ziF hn hr]
 exact (zfE a).symm
theorem zlk {a : List Int} (hn : a.Nodup) (hr : ∀ k ∈ a,0 ≤ k ∧ k < 64) : (zax a).length = a.length:=(ziK hn hr).length_eq.symm
structure AtO (g : Gr) (p : Pol) (key : Int) (before : List Int) : Prop where
 mem : key ∈ ordL (zai g p.lv) p.seeds
 bef : zff (ordL (zai g p.lv) p.seeds) before key
 nodup : (before ++ [key]).Nodup
 range : ∀ k ∈ before ++ [key],0 ≤ k ∧ k < g.size
 serve : key ∈ accR g p (ordL (zai g p.lv) p.seeds) ↔ zas g p (zax (before ++ [key]))
theorem znL {o : List Int} (hn : o.Nodup) {i : Nat} (h : i < o.length) : zhk o o[i] = o.take i:=by
 unfold zhk
 rw [List.takeWhile_eq_take_findIdx_not]
 congr 1
 rw [List.findIdx_eq h]
 refine ⟨by simp,fun j hj=>?_⟩
 have : o[j] ≠ o[i]:=fun e=>by have:=(List.getElem_inj hn).1 e; omega
 simp [this]
theorem ForR.at_ {key : Int} {x : Expl} (h : ForR g p (ordL (zai g p.lv) p.seeds) key x) (hg : GrOk g) : x.key = key ∧ AtO g p key x.before ∧ ∃ i,∃ hi : i < (ordL (zai g p.lv) p.seeds).length,(ordL (zai g p.lv) p.seeds)[i] = key ∧ x.before = accR g p ((ordL (zai g p.lv) p.seeds).take i):=by
 have hn:=zbi (zai g p.lv) p.seeds
 have hr : ∀ k ∈ ordL (zai g p.lv) p.seeds,0 ≤ k ∧ k < g.size:=fun k hk=>by have h:=zbN hk; exact h
 obtain ⟨o,ho⟩ : ∃ o,o = ordL (zai g p.lv) p.seeds:=⟨_,rfl⟩
 rw [← ho] at h hn hr ⊢
 obtain ⟨i,hi,hk,hb⟩:=h.bef
 rw [zpl hn i (by omega)] at hb
 refine ⟨h.key_,?_,i,hi,hk,hb⟩
 have hsub : x.before.Sublist (zhk o key):=by
  rw [hb,← hk,znL hn hi]
  exact zha _ _ rfl
 refine ⟨by rw [← ho,← hk]; exact List.getElem_mem hi,by rw [← ho]; exact hsub,zff.nodup (order:=o) hsub hn,fun k hkm=>?_,?_⟩
 ·rcases List.mem_append.1 hkm with h1 | h1
  ·refine hr k ?_
   rw [hb] at h1
   exact List.mem_of_mem_take (zg0 h1)
  ·rw [List.mem_singleton.1 h1,← hk]; exact hr _ (List.getElem_mem hi)
 ·rw [← ho,hb,← hk]
  exact ziE hn hi
theorem AtO.joined {key : Int} {before : List Int} (h : AtO g p key before) (hg : GrOk g) : (zax (before ++ [key])).Nodup ∧ (before ++ [key]).Perm (zax (before ++ [key])) ∧ (∀ x ∈ zax (before ++ [key]),0 ≤ x ∧ x < g.size):=by
 have h64:=hg.1.2.1
 have hr : ∀ k ∈ before ++ [key],0 ≤ k ∧ k < 64:=fun k hk=>⟨(h.range k hk).1,by have:=(h.range k hk).2; omega⟩
 exact ⟨zj4 (zdt _),ziK h.nodup hr,fun x hx=>h.range x (zca.1 hx).1⟩
theorem znM {key : Int} {before : List Int} {W : List (List Nat)} (hg : GrOk g) (hp : za8 g.size p) (ha : AtO g p key before) (hc : zas g p (zax (before ++ [key]))) (hW : zo1 g p (before ++ [key]) W) :
  zf4 g p.lv p.seeds (ordL (zai g p.lv) p.seeds) (zaG g p) (W.map (zbG (netA g p (zax (before ++ [key]))))) (before ++ [key]):=by
 obtain ⟨f,g',hgf,ht,hl,_⟩:=hW
 obtain ⟨j1,j2,j3⟩:=ha.joined hg
 refine zmz hg hp j1 (fun x hx=>(j3 x hx).1) j2 hgf.ok.fit ht.ways (fun i _=>?_) ?_
 ·have h1:=ht.used i
  have h2:=ht.bal.nonneg i
  omega
 ·have : maxF (netN g) (netA g p (zax (before ++ [key]))) = (zax (before ++ [key])).length:=hc
  omega
theorem ForR.yes_serves {key : Int} {x : Expl} (h : ForR g p (ordL (zai g p.lv) p.seeds) key x) (hg : GrOk g) (hp : za8 g.size p) (hk : key ∈ accR g p (ordL (zai g p.lv) p.seeds)) :
  zf4 g p.lv p.seeds (ordL (zai g p.lv) p.seeds) (zaG g p) x.paths (x.before ++ [key]):=by
 obtain ⟨_,ha,_⟩:=h.at_ hg
 obtain ⟨_,_,W,hW,hpa⟩:=h.yes hk
 rw [hpa]
 exact znM hg hp ha (ha.serve.1 hk) hW
theorem ForR.no_proves {key : Int} {x : Expl} (h : ForR g p (ordL (zai g p.lv) p.seeds) key x) (hg : GrOk g) (hp : za8 g.size p) (hk : key ∉ accR g p (ordL (zai g p.lv) p.seeds)) :
  znR ⟨2 + 2 * g.size,zaT g p (zaG g p) (zax (x.before ++ [key]))⟩ x.side x.before.length:=by
 obtain ⟨_,ha,i,hi,hik,hib⟩:=h.at_ hg
 obtain ⟨_,_,R,hR,hs⟩:=h.no hk
 obtain ⟨i',hi',hik',hn⟩:=hR.right _ hs
 simp only at hik' hn
 have hii : i' = i:=(List.getElem_inj (zbi (zai g p.lv) p.seeds)).1 (hik'.trans hik.symm)
 subst hii
 rw [← hib] at hn
 obtain ⟨j1,j2,j3⟩:=ha.joined hg
 have hfew:=ziI hg hp j3
 have hno : maxF (netN g) (netA g p (zax (x.before ++ [key]))) ≠ (zax (x.before ++ [key])).length:=hn.no
 have hlen:=j2.length_eq
 rw [List.length_append,List.length_singleton] at hlen
 have hcut:=hn.cut
 have hok:=hn.ok
 rw [zg2 hg] at hok
 exact ⟨hok,by rw [hcut]; omega⟩
theorem ForR.checked {key : Int} {x : Expl} (h : ForR g p (ordL (zai g p.lv) p.seeds) key x) (hg : GrOk g) (hp : za8 g.size p) : zrC g p x = 0:=by
 rw [zqg hg.1.2.1]
 obtain ⟨hk,ha,_⟩:=h.at_ hg
 unfold zrH
 simp only
 rw [hk,if_neg (by simpa using ha.mem)]
 by_cases hacc : key ∈ accR g p (ordL (zai g p.lv) p.seeds)
 ·obtain ⟨h1,h2,_⟩:=h.yes hacc
  rw [if_neg (by rw [h1,h2]; simpa using ha.bef),if_pos h1,if_pos (h.yes_serves hg hp hacc)]
 ·obtain ⟨h1,h2,_⟩:=h.no hacc
  rw [if_neg (by rw [h1,h2]; simpa using ha.bef),if_neg (by rw [h1]; simp),if_pos (h.no_proves hg hp hacc)]
theorem zjL (l : List Int) (hl : l.length ≤ 1099511627776) : zaj Tryz.prog zeC [ints l] [] (.rs 0 0 l.length) [some ⟨1,zaf (srt l),0⟩]:=by
 refine zl1.acalls (nbz rfl) (nbz rfl) (Nat.zero_le _) ?_
 show awp _ 0 _ _ ⟨6,[(0,ints l)],[],16⟩
 have hs : zaj Tryz.prog za5 [seqF l] [] (.rs 0 0 l.length) [some ⟨1,zaf (srt l),0⟩]:=zm4 l hl
 refine rx (s:=?s1) [0] [] [] rfl ?o1 ?q1
 case o1=>simp; rfl
 refine zaa ⟨6,[(2,.rs 50 0 l.length)],[(50,some ⟨1,zaf (srt l),0⟩)],100⟩ rfl ?_ ?_
 ·simp
  refine zap (znk l) (by simp) ?_
  simp
  refine zaU hs (by simp [conv]) ?_
  simp
  exact LeI [(40,50)] []
 refine zah ?_
 exact ⟨.inr rfl,zal.out [50] [] rfl (by simp) (by simp) (by simp) (by simp [fcd])⟩
theorem zi7 (g : Gr) (p : Pol) (hg : GrOk g) (hN : g.size < 20) (hs : p.seeds.length ≤ 1099511627776) : zaj Tryz.prog zeP [eG g,eP p] [] (.rs 0 0 (ordL (zai g p.lv) p.seeds).length) [some ⟨1,zaf (ordL (zai g p.lv) p.seeds),0⟩]:=by
 refine zll.acalls (nbz rfl) (nbz rfl) (Nat.zero_le _) ?_
 show awp _ 0 _ _ ⟨12,[(0,eG g),(1,eP p)],[],16⟩
 have hel:=hg.edges_le
 have hgl:=hg.gone_le
 have hsz:=hg.1.2.1
 have hlev:=zc1 g p.lv (by omega) (by omega)
 have hord:=zeq (g:=zai g p.lv) (S:=p.seeds) (hg.level p.lv) hN hs
 obtain ⟨o,ho⟩ : ∃ o,o = ordL (zai g p.lv) p.seeds:=⟨_,rfl⟩
 rw [← ho] at hord ⊢
 refine rx (s:=?s1) [2,3] [] [16,24] rfl ?o1 ?q1
 case o1=>simp; rfl
 refine zaw ⟨12,[(4,.rs 50 0 o.length)],[(50,some ⟨1,zaf o,0⟩)],200⟩ rfl ?_ ?_
 ·simp
  refine zap hlev (by simp) ?_
  simp
  refine zaU hord (by simp) ?_
  simp
  exact ⟨rfl,LeI [(88,50)] []⟩
 refine zah ?_
 exact ⟨.inr rfl,zal.out [50] [] rfl (by simp) (by simp) (by simp) (by simp [fcd])⟩
theorem zj5 (l : List Int) (x : Int) (hl : l.length ≤ 1000000) : zaj Tryz.prog zfy [ints l,.I x] [] (.rs 0 0 (l.length + 1)) [some ⟨1,zaf (l ++ [x]),0⟩]:=by
 refine zmD.acalls (nbz rfl) (nbz rfl) (Nat.zero_le _) ?_
 show awp _ 0 _ _ ⟨14,[(0,ints l),(1,.I x)],[],16⟩
 refine rx (s:=?s1) [0,1] [] [] rfl ?o1 ?q1
 case o1=>simp; rfl
 refine zaa ⟨14,[(4,.rs 50 0 (l.length + 1))],[(50,some ⟨1,zaf (l ++ [x]),0⟩)],200⟩ rfl ?_ ?_
 ·have hsl : ∀ {id : Nat} {h : Nat → Option Ent} {K : AV → List Nat → List (Nat × Option Ent) → Prop},K (.vs 1 true (l.map fun n=>[AV.I n])) [] [] → aK Tryz.prog 0 id (.slc 1 false true true) [ints l,.I (l.length : Nat),.I (l.length : Nat)] h K:=fun hK=>by
   rw [zjJ]
   refine ⟨0,l.length,l.length,l.length,by simp,Nat.zero_le _,rfl,by simp,by simp,by simp,Nat.le_refl _,fun _=>rfl,rfl,?_⟩
   rw [List.drop_zero,Nat.sub_zero,List.take_of_length_le (by simp)]
   exact hK
  simp
  refine hsl ?_
  simp
  exact ⟨by omega,by omega,LeI [(88,50)] []⟩
 refine zah ?_
 exact ⟨.inr rfl,zal.out [50] [] rfl (by simp) (by simp) (by simp) (by simp [fcd])⟩
theorem zes (g : Gr) (p : Pol) (ks : List Int) (hg : GrOk g) (hp : za8 g.size p) (hk : ks.Nodup) (hr : ∀ k ∈ ks,0 ≤ k ∧ k < g.size) (hs : p.seeds.length ≤ 64) : zaj Tryz.prog zcA [eG g,eP p,ints ks] [] (eN ⟨netN g,netA g p (zax ks)⟩) []:=by
 refine zjF.acalls (nbz rfl) (nbz rfl) (Nat.zero_le _) ?_
 show awp _ 0 _ _ ⟨18,[(0,eG g),(1,eP p),(2,ints ks)],[],16⟩
 have hsz:=hg.1.2.1
 have hr64 : ∀ k ∈ ks,0 ≤ k ∧ k < 64:=fun k h=>by have:=hr k h; omega
 have hlen:=zlk hk hr64
 have hJl:=zdN ks
 have hsort:=zjL ks (by omega)
 rw [ziF hk hr64,← hlen] at hsort
 have hnet:=ze4 g p (zax ks) hg hp (zdP hr) hs hJl
 rw [← zg2 hg,show zaT g p (zaG g p) (zax ks) = netA g p (zax ks) from rfl] at hnet
 obtain ⟨J,hJ⟩ : ∃ J,J = zax ks:=⟨_,rfl⟩
 obtain ⟨A,hA⟩ : ∃ A,A = netA g p (zax ks):=⟨_,rfl⟩
 rw [← hA] at hnet ⊢
 rw [← hJ] at hnet hsort
 refine rx (s:=?s1) [2,3,4,6] [32] [16,24] rfl ?o1 ?q1
 case o1=>simp; rfl
 refine zaw ⟨18,[(6,.pt 32 0 0),(7,.pv (nC ⟨netN g,A⟩))],[(32,some ⟨2,[[.I 0,.nilS]],0⟩)],300⟩ rfl ?_ ?_
 ·simp
  refine zaU hsort (by simp) ?_
  simp
  refine zkS [64] (by simp) hnet (by simp [fcd,zak]) ?_
  simp
  exact ⟨rfl,LeH [(32,32)] [104]⟩
 refine zaa ⟨18,[(6,.pt 32 0 0)],[(32,some ⟨2,[nC ⟨netN g,A⟩],0⟩)],400⟩ rfl ?_ ?_
 ·simp [zaJ]
  exact LeH [(32,32)] []
 refine zah ?_
 exact ⟨.inr rfl,zal.out [] [32] rfl (by simp) (by simp) (by simp) (by simp)⟩
def zup (N : Nat) (A : List Ed) (f : List Int) : Prop:=zaD N A f ∧ ∀ f',zaD N A f' → valF A f' ≤ valF A f
theorem zj8 (N : Nat) (A : List Ed) (k : Int) (hn : za4 ⟨N,A⟩) :
  ∃ f : List Int,zup N A f ∧ zaj Tryz.prog zcz [eN ⟨N,A⟩,.I k] [] (.tup [.rs 0 0 A.length,.B (decide (valF A f = k))]) [some ⟨1,zaf f,0⟩]:=by
 obtain ⟨f,hf,hmax⟩:=zkw N A hn
 refine ⟨f,hf,?_⟩
 have hfl:=hf.1.fit.len
 have hal:=hn.2.2.1
 simp only at hal
 have hval:=zg4 (f:=f) hn (by omega)
 rw [if_pos hf.1] at hval
 have htake : ∀ g : Int → List AV,List.take A.length (List.map g f) = List.map g f:=fun g=>List.take_of_length_le (by simp; omega)
 refine zlM.acalls (nbz rfl) (nbz rfl) (Nat.zero_le _) ?_
 show awp _ 0 _ _ ⟨19,[(0,eN ⟨N,A⟩),(1,.I k)],[],16⟩
 refine rx (s:=?s1) [1,2] [] [16] rfl ?o1 ?q1
 case o1=>simp; rfl
 refine zaa ⟨19,[(1,.I k),(2,.pv (nC ⟨N,A⟩)),(6,.rs 50 0 A.length)],[(50,some ⟨1,zaf f,0⟩)],100⟩ rfl ?_ ?_
 ·simp
  refine zaU hmax (by simp) ?_
  simp
  exact LeI [(48,50)] []
 refine zaa ⟨19,[(4,.rs 50 0 A.length),(5,.B (decide (valF A f = k)))],[(50,some ⟨1,zaf f,0⟩)],200⟩ rfl ?_ ?_
 ·simp
  refine zg5 [50] hval (by simp [fcd,htake,hfl]) (.sc _) ?_
  simp
  exact Le.go [(50,50)] [] rfl rfl (by simp <;> exact wkB (by rw [Bool.eq_iff_iff]; simp)) (by simp [fcd])
 refine zah ?_
 exact ⟨.inr rfl,zal.out [50] [] rfl (by simp) (by simp) (by simp) (by simp [fcd])⟩
end Go.Proofs.YteiabadhhhckfaaGreat
