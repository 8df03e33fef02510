/- Texts of this claim,merged. -/
import Derived.Test.YteiabadhhhckfaaGreatRi13
import Derived.Test.YteiabadhhhckfaaGreatRi12
import Derived.Test.YteiabadhhhckfaaGreatRi9
import Derived.Test.YteiabadhhhckfaaGreatRi10
import Derived.Test.YteiabadhhhckfaaGreatRi11
set_option linter.unusedSimpArgs false
set_option linter.unusedVariables false
set_option linter.unusedSectionVars false
namespace Go.Proofs.YteiabadhhhckfaaGreat
open Go
theorem ziy (n t : Int) (hn0 : 0 ≤ n) (hn : n ≤ 64) (ht : t = 1 ∨ 2 ≤ t ∧ t < 2 + 2 * n) : zaj Tryz.prog zei [.I t,.I n] [] (.I ((keyT t).getD (-1))) []:=by
 refine zkg.acalls (nbz rfl) (nbz rfl) (Nat.le_refl _) ?_
 show awp _ 0 _ _ ⟨23,[(0,.I t),(1,.I n)],[],16⟩
 have hk:=zqv (t:=t) (by omega)
 rw [← hk]
 have hw3 : IntKind.i64.wrap (t - 2) = t - 2:=w64 (by omega) (by omega)
 obtain ⟨k,hkd⟩ : ∃ k,k = Int.tdiv (t - 2) 2:=⟨_,rfl⟩
 have hkb : -1 ≤ k ∧ k ≤ 64 ∧ (2 ≤ t → k = (t - 2) / 2):=by
  rcases ht with rfl | ht
  ·rw [hkd]; decide
  ·have hd : Int.tdiv (t - 2) 2 = (t - 2) / 2:=Int.tdiv_eq_ediv_of_nonneg (by omega)
   rw [hkd,hd]
   omega
 have hw4 : IntKind.i64.wrap k = k:=w64 (by omega) (by omega)
 refine zaa ⟨23,[(0,.I t),(1,.I n)],[],100⟩ rfl ?_ ?_
 ·simp
  exact LeH [] []
 refine zab ?_
 refine zaa ⟨23,[(0,.I t),(1,.I n),(5,.I k)],[],200⟩ rfl ?_ ?_
 ·simp [hw3,← hkd,hw4]
  exact LeH [] []
 refine zaa ⟨23,[(5,.I k),(21,.B (decide (2 ≤ t ∧ t % 2 = 0)))],[],300⟩ rfl ?_ ?_
 ·rcases ht with rfl | ht
  ·simp
   exact LeH [] []
  ·have hk2:=hkb.2.2 ht.1
   have he:=zbs k (by omega) (by omega)
   have h1 : k < n:=by omega
   simp [ht.1,h1]
   refine zap he (by simp) ?_
   simp
   exact Le.go [] [] rfl rfl (by simp <;> exact wkB (by rw [Bool.eq_iff_iff]; simp; omega)) (by simp)
 refine zac _ rfl (fun h=>?_) fun h=>?_
 ·rw [decide_eq_true_eq] at h
  rw [if_pos h.2,← hkb.2.2 h.1]
  refine zaa ⟨23,[(4,.I k)],[],400⟩ rfl ?_ ?_
  ·simp
   exact LeH [] []
  refine zah ?_
  exact ⟨.inr rfl,zal.one (by simp)⟩
 rw [decide_eq_false_iff_not] at h
 rw [if_neg (by omega)]
 refine zad ?_
 refine zaa ⟨23,[(4,.I (-1))],[],400⟩ rfl ?_ ?_
 ·simp
  exact LeH [] []
 refine zah ?_
 exact ⟨.inr rfl,zal.one (by simp)⟩
theorem zhE (n t : Int) (hn0 : 0 ≤ n) (hn : n ≤ 64) : zaj Tryz.prog zdO [.I t,.I n] [] (.B (decide (2 ≤ t ∧ t < 2 + 2 * n))) []:=by
 refine zjq.acalls (nbz rfl) (nbz rfl) (Nat.le_refl _) ?_
 show awp _ 0 _ _ ⟨14,[(0,.I t),(1,.I n)],[],16⟩
 have hw1 : IntKind.i64.wrap (2 * n) = 2 * n:=w64 (by omega) (by omega)
 have hw2 : IntKind.i64.wrap (2 + 2 * n) = 2 + 2 * n:=w64 (by omega) (by omega)
 refine zaa ⟨14,[(0,.I t),(1,.I n)],[],100⟩ rfl ?_ ?_
 ·simp
  exact LeH [] []
 refine zaa ⟨14,[(4,.B (decide (2 ≤ t ∧ t < 2 + 2 * n)))],[],200⟩ rfl ?_ ?_
 ·simp
  refine zcc (fun hb=>?_) (fun hb=>?_) <;> (try rw [hb]) <;> (try simp at hb) <;> simp [hb,hw1,hw2]
  ·exact Le.go [] [] rfl rfl (by simp [hb]) (by simp)
  ·exact Le.go [] [] rfl rfl (by simp [hb]) (by simp)
 refine zah ?_
 exact ⟨.inr rfl,zal.one (by simp)⟩
set_option maxRecDepth 100000 in
set_option maxHeartbeats 4000000 in
theorem zdC (n : Int) (A : List Ed) (w : List Int) (hA : A.length ≤ 1000000) (hw : w.length ≤ 1000000) : zaj Tryz.prog zcF [.I n,eEs A,ints w] [] (.tup [ints (zdi n A w),.I (zem n A w)]) []:=by
 refine zk6.acalls (nbz rfl) (nbz rfl) (Nat.le_refl _) ?_
 show awp _ 0 _ _ ⟨82,[(0,.I n),(1,eEs A),(2,ints w)],[],16⟩
 refine zaa ⟨82,[(0,.I n),(1,eEs A),(2,ints w)],[],100⟩ rfl ?_ ?_
 ·simp
  exact LeH [] []
 refine zab ?_
 refine zaa ⟨82,[(0,.I n),(1,eEs A),(2,ints w),(19,.B (decide (n < 0 ∨ 64 < n)))],[],200⟩ rfl ?_ ?_
 ·simp
  refine zcc (fun hb=>?_) (fun hb=>?_) <;> (try rw [hb]) <;> (try simp at hb) <;> simp [hb]
  ·exact Le.go [] [] rfl rfl (by simp [hb]) (by simp)
  ·exact Le.go [] [] rfl rfl (by simp <;> exact wkB (by rw [Bool.eq_iff_iff]; simp; omega)) (by simp)
 refine zac _ rfl (fun h1=>?_) fun h1=>?_
 ·rw [decide_eq_true_eq] at h1
  rw [show zdi n A w = [] by unfold zdi; rw [if_pos h1],show zem n A w = 16 by unfold zem; rw [if_pos h1]]
  refine zaa ⟨82,[(6,.nilS),(7,.I 16)],[],300⟩ rfl ?_ ?_
  ·simp
   exact LeH [] []
  refine zah ?_
  exact ⟨.inr rfl,zal.out [] [] rfl (by simp) (by simp) (by simp; exact wkT2 (.nil _ _) (.refl _)) (by simp)⟩
 rw [decide_eq_false_iff_not] at h1
 have hno : ¬ zof n A w → zdi n A w = [] ∧ zem n A w = 17:=fun h=>⟨by unfold zdi; rw [if_neg h1,if_neg h],by unfold zem; rw [if_neg h1,if_neg h]⟩
 have hyes : zof n A w → zdi n A w = zeR A w w.length ∧ zem n A w = 0:=fun h=>⟨by unfold zdi; rw [if_neg h1,if_pos h],by unfold zem; rw [if_neg h1,if_pos h]⟩
 have hn0 : 0 ≤ n:=by omega
 have hn : n ≤ 64:=by omega
 refine zad ?_
 refine zaa ⟨82,[(0,.I n),(1,eEs A),(2,ints w),(8,.nilS)],[],400⟩ rfl ?_ ?_
 ·simp
  exact LeH [] []
 refine zaa ⟨82,[(0,.I n),(1,eEs A),(2,ints w),(8,.nilS),(9,.I 0)],[],500⟩ rfl ?_ ?_
 ·simp
  exact LeH [] []
 refine zab ?_
 refine zaa ⟨82,[(0,.I n),(1,eEs A),(2,ints w),(8,.nilS),(9,.I 0),(20,ints w),(21,.I w.length),(22,.I 0)],[],600⟩ rfl ?_ ?_
 ·simp
  exact LeH [] []
 refine zag ?_
 refine zao (ι:=Nat) (fun i=>⟨82,[(0,.I n),(1,eEs A),(2,ints w),(8,.rs 17 0 (zeR A w i).length),(9,.I (atK A w i)),(20,ints w),(21,.I w.length),(22,.I i)],[(17,some ⟨1,zaf (zeR A w i),0⟩)],600⟩)
  (fun i=>i ≤ w.length ∧ ∀ j,j < i → OnK A w j ∧ EndK n A w j) (fun i=>w.length - i) 0 ⟨Nat.zero_le _,fun j h=>absurd h (Nat.not_lt_zero _)⟩ (Le.lst [] [] [(17,1)] rfl (by simp) (by simp) (by simp) (by simp) (by simp) (by simp) (by simp) (by simp [Up,zeR,atK]) (by simp [zeR])) ?_
 rintro i ⟨hi,hij⟩
 have hks:=zho A w i
 have hkl:=zjI A w i
 obtain ⟨K,hK⟩ : ∃ K,K = zeR A w i:=⟨_,rfl⟩
 have hat1 : atK A w (i + 1) = (arcD A (w.getD i 0).toNat).t:=rfl
 obtain ⟨nd,hnd⟩ : ∃ nd,nd = atK A w i:=⟨_,rfl⟩
 rw [← hK] at hks hkl ⊢
 rw [← hnd]
 refine zaa ⟨82,[(0,.I n),(1,eEs A),(2,ints w),(8,.rs 17 0 K.length),(9,.I nd),(20,ints w),(21,.I w.length),(22,.I i),(23,.B (decide (i < w.length)))],[(17,some ⟨1,zaf K,0⟩)],700⟩ rfl ?_ ?_
 ·simp
  exact LeI [(17,17)] []
 refine zab ?_
 refine zac _ rfl (fun h2=>?_) fun h2=>?_
 ·rw [decide_eq_true_eq] at h2
  obtain ⟨v,hv⟩ : ∃ v,v = w[i]:=⟨_,rfl⟩
  have hwi : w[i]? = some v:=by rw [List.getElem?_eq_getElem h2,hv]
  have hvD : w.getD i 0 = v:=by rw [List.getD_eq_getElem?_getD,hwi]; rfl
  have hwn : IntKind.i64.wrap ((i : Int) + 1) = ((i + 1 : Nat) : Int):=by rw [w64 (by omega) (by omega)]; omega
  have hwl : IntKind.i64.wrap ((w.length : Int) - 1) = ((w.length - 1 : Nat) : Int):=by rw [w64 (by omega) (by omega)]; omega
  obtain ⟨b,hb⟩ : ∃ b,b = decide (¬ OnK A w i):=⟨_,rfl⟩
  refine zad ?_
  refine zab ?_
  refine zag ?_
  refine zaa ⟨82,[(0,.I n),(1,eEs A),(2,ints w),(8,.rs 17 0 K.length),(9,.I nd),(10,.I i),(11,.I v),(20,ints w),(21,.I w.length),(22,.I i)],[(17,some ⟨1,zaf K,0⟩)],800⟩ rfl ?_ ?_
  ·simp [hwi,h2,← hv]
   exact LeI [(17,17)] []
  refine zab ?_
  refine zaa ⟨82,[(0,.I n),(1,eEs A),(2,ints w),(8,.rs 17 0 K.length),(9,.I nd),(10,.I i),(11,.I v),(20,ints w),(21,.I w.length),(22,.I i),(43,.B b)],[(17,some ⟨1,zaf K,0⟩)],1200⟩ rfl ?_ ?_
  ·by_cases c1 : v < 0
   ·have hb' : b = true:=by rw [hb,decide_eq_true_eq]; intro h; have:=h.1; omega
    simp [c1]
    exact Le.go [(17,17)] [] rfl rfl (by simp [hb']) (by simp [fcd])
   by_cases c2 : (A.length : Int) ≤ v
   ·have hb' : b = true:=by rw [hb,decide_eq_true_eq]; intro h; have:=h.2.1; omega
    simp [c1,c2]
    exact Le.go [(17,17)] [] rfl rfl (by simp [hb',c2]) (by simp [fcd])
   have hva : v.toNat < A.length:=by omega
   have c3 : (0 : Int) ≤ v ∧ v < A.length:=by omega
   have hgA : A[v.toNat]? = some A[v.toNat]:=List.getElem?_eq_getElem hva
   have hf : (arcD A (w.getD i 0).toNat).f = A[v.toNat].f:=by rw [hvD,zdn hva]
   have hb' : b = decide (A[v.toNat].f ≠ nd):=by
    rw [hb,decide_eq_decide]
    unfold OnK
    rw [hf,hvD,← hnd]
    constructor
    ·intro h he; exact h ⟨c3.1,c3.2,he⟩
    ·intro h he; exact h he.2.2
   simp [c1,c2,c3,hgA,hva]
   exact Le.go [(17,17)] [] rfl rfl (by simp [c2] <;> exact wkB (by rw [hb',Bool.eq_iff_iff]; simp)) (by simp [fcd])
  refine zac _ rfl (fun h3=>?_) fun h3=>?_
  ·rw [h3] at hb
   have hbad:=hno fun h=>(of_decide_eq_true hb.symm) (h.2 i h2).1
   rw [hbad.1,hbad.2]
   refine zaa ⟨82,[(6,.nilS),(7,.I 17)],[],1500⟩ rfl ?_ ?_
   ·simp
    exact LeH [] []
   refine zah ?_
   exact ⟨.inr rfl,zal.out [] [] rfl (by simp) (by simp) (by simp; exact wkT2 (.nil _ _) (.refl _)) (by simp)⟩
  rw [h3] at hb
  have hon : OnK A w i:=Decidable.not_not.1 (of_decide_eq_false hb.symm)
  have c3 : (0 : Int) ≤ v ∧ v < A.length:=by rw [← hvD]; exact ⟨hon.1,hon.2.1⟩
  have hva : v.toNat < A.length:=by omega
  have hgA : A[v.toNat]? = some A[v.toNat]:=List.getElem?_eq_getElem hva
  have htA : atK A w (i + 1) = A[v.toNat].t:=by rw [hat1,hvD,zdn hva]
  obtain ⟨t,ht⟩ : ∃ t,t = atK A w (i + 1):=⟨_,rfl⟩
  rw [← ht] at htA hks
  obtain ⟨b2,hb2⟩ : ∃ b2,b2 = decide (¬ EndK n A w i):=⟨_,rfl⟩
  obtain ⟨b1,hb1⟩ : ∃ b1,b1 = decide (i + 1 = w.length):=⟨_,rfl⟩
  refine zad ?_
  refine zaa ⟨82,[(0,.I n),(1,eEs A),(2,ints w),(8,.rs 17 0 K.length),(9,.I t),(10,.I i),(20,ints w),(21,.I w.length),(22,.I i)],[(17,some ⟨1,zaf K,0⟩)],1600⟩ rfl ?_ ?_
  ·simp [c3,hgA,hva,← htA]
   exact LeI [(17,17)] []
  refine zab ?_
  refine zaa ⟨82,[(0,.I n),(1,eEs A),(2,ints w),(8,.rs 17 0 K.length),(9,.I t),(12,.B b1),(20,ints w),(21,.I w.length),(22,.I i)],[(17,some ⟨1,zaf K,0⟩)],1700⟩ rfl ?_ ?_
  ·simp [hwl]
   exact Le.go [(17,17)] [] rfl rfl (by simp <;> exact wkB (by rw [hb1,Bool.eq_iff_iff]; simp; omega)) (by simp [fcd])
  refine zaa ⟨82,[(0,.I n),(1,eEs A),(2,ints w),(8,.rs 17 0 K.length),(9,.I t),(20,ints w),(21,.I w.length),(22,.I i),(67,.B b2)],[(17,some ⟨1,zaf K,0⟩)],1900⟩ rfl ?_ ?_
  ·by_cases c4 : i + 1 = w.length
   ·have hE : EndK n A w i ↔ t = 1:=by unfold EndK; rw [if_pos c4,← ht]
    rw [decide_eq_true c4] at hb1
    by_cases c5 : t = 1
    ·have hb' : b2 = false:=by rw [hb2]; simp [hE,c5]
     simp [hb1,c5]
     exact Le.go [(17,17)] [] rfl rfl (by simp [hb',c5]) (by simp [fcd])
    ·have hb' : b2 = true:=by rw [hb2]; simp [hE,c5]
     have c6 : (t == 1) = false:=by simp [c5]
     simp [hb1,c6]
     exact Le.go [(17,17)] [] rfl rfl (by simp [hb']) (by simp [fcd])
   ·have hE : EndK n A w i ↔ 2 ≤ t ∧ t < 2 + 2 * n:=by unfold EndK; rw [if_neg c4,← ht]
    rw [decide_eq_false c4] at hb1
    by_cases c5 : t = 1
    ·have hb' : b2 = true:=by rw [hb2,decide_eq_true_eq,hE]; omega
     simp [hb1,c5]
     exact Le.go [(17,17)] [] rfl rfl (by simp [hb',c5]) (by simp [fcd])
    ·have hins:=zhE n t hn0 hn
     obtain ⟨b3,hb3⟩ : ∃ b3,b3 = decide (2 ≤ t ∧ t < 2 + 2 * n):=⟨_,rfl⟩
     rw [← hb3] at hins
     have hb' : b2 = !b3:=by rw [hb2,hb3,Bool.eq_iff_iff]; simp [hE]
     have c6 : (t == 1) = false:=by simp [c5]
     simp [hb1,c6]
     refine zap hins (by simp) ?_
     simp
     exact Le.go [(17,17)] [] rfl rfl (by simp [hb']) (by simp [fcd])
  refine zac _ rfl (fun h4=>?_) fun h4=>?_
  ·rw [h4] at hb2
   have hbad:=hno fun h=>(of_decide_eq_true hb2.symm) (h.2 i h2).2
   rw [hbad.1,hbad.2]
   refine zaa ⟨82,[(6,.nilS),(7,.I 17)],[],2500⟩ rfl ?_ ?_
   ·simp
    exact LeH [] []
   refine zah ?_
   exact ⟨.inr rfl,zal.out [] [] rfl (by simp) (by simp) (by simp; exact wkT2 (.nil _ _) (.refl _)) (by simp)⟩
  rw [h4] at hb2
  have hend : EndK n A w i:=Decidable.not_not.1 (of_decide_eq_false hb2.symm)
  have hmore : ∀ j,j < i + 1 → OnK A w j ∧ EndK n A w j:=fun j hj=>by
   rcases Nat.lt_succ_iff_lt_or_eq.1 hj with h | rfl
   ·exact hij j h
   ·exact ⟨hon,hend⟩
  have htr : t = 1 ∨ 2 ≤ t ∧ t < 2 + 2 * n:=by
   unfold EndK at hend
   rw [← ht] at hend
   split at hend
   ·exact .inl hend
   ·exact .inr hend
  have hent:=ziy n t hn0 hn htr
  refine zad ?_
  refine zaa ⟨82,[(0,.I n),(1,eEs A),(2,ints w),(8,.rs 17 0 K.length),(9,.I t),(13,.I ((keyT t).getD (-1))),(20,ints w),(21,.I w.length),(22,.I i)],[(17,some ⟨1,zaf K,0⟩)],2600⟩ rfl ?_ ?_
  ·simp
   refine zap hent (by simp) ?_
   simp
   exact LeI [(17,17)] []
  cases hkt : keyT t with
  | none =>
    rw [hkt] at hks
    simp only [Option.toList,List.append_nil] at hks
    refine zaa ⟨82,[(0,.I n),(1,eEs A),(2,ints w),(8,.rs 17 0 K.length),(9,.I t),(20,ints w),(21,.I w.length),(22,.I i),(72,.B false)],[(17,some ⟨1,zaf K,0⟩)],2700⟩ rfl ?_ ?_
    ·simp [hkt]
     exact LeI [(17,17)] []
    refine zac _ rfl (fun h=>by cases h) fun _=>?_
    refine zad ?_
    refine zae (s:=?s42) rfl ?o42 ?q42
    case o42=>simp; rfl
    exact ⟨i + 1,⟨h2,hmore⟩,by omega,Le.go [(17,17)] [] rfl rfl (by simp [hks,hwn,← ht]) (by simp [hks,fcd])⟩
  | some k =>
    have hk0:=zjl hkt
    rw [hkt] at hks
    simp only [Option.toList] at hks
    refine zaa ⟨82,[(0,.I n),(1,eEs A),(2,ints w),(8,.rs 17 0 K.length),(9,.I t),(13,.I k),(20,ints w),(21,.I w.length),(22,.I i),(72,.B true)],[(17,some ⟨1,zaf K,0⟩)],2700⟩ rfl ?_ ?_
    ·simp [hkt]
     exact Le.go [(17,17)] [] rfl rfl (by simp [hk0]) (by simp [fcd])
    refine zac _ rfl (fun _=>?_) fun h=>by cases h
    refine zae (s:=?s40) rfl ?o40 ?q40
    case o40=>simp [zak]; refine ⟨by omega,by omega,?_⟩; rfl
    refine zae (s:=?s41) rfl ?o41 ?q41
    case o41=>simp; rfl
    exact ⟨i + 1,⟨h2,hmore⟩,by omega,Le.go [(2724,17)] [] rfl rfl (by simp [hks,hwn,← ht]) (by simp [hks,fcd])⟩
 rw [decide_eq_false_iff_not] at h2
 obtain rfl : i = w.length:=by omega
 refine zan ?_
 refine hit ?_
 refine zab ?_
 refine zaa ⟨82,[(8,.rs 17 0 K.length),(80,.B (decide (w = [])))],[(17,some ⟨1,zaf K,0⟩)],800⟩ rfl ?_ ?_
 ·simp
  exact Le.go [(17,17)] [] rfl rfl (by simp <;> exact wkB (by rw [Bool.eq_iff_iff]; simp)) (by simp [fcd])
 refine zac _ rfl (fun h4=>?_) fun h4=>?_
 ·rw [decide_eq_true_eq] at h4
  have hbad:=hno fun h=>h.1 h4
  rw [hbad.1,hbad.2]
  refine zaa ⟨82,[(6,.nilS),(7,.I 17)],[],1500⟩ rfl ?_ ?_
  ·simp
   exact LeH [] []
  refine zah ?_
  exact ⟨.inr rfl,zal.out [] [] rfl (by simp) (by simp) (by simp; exact wkT2 (.nil _ _) (.refl _)) (by simp)⟩
 rw [decide_eq_false_iff_not] at h4
 have hok:=hyes ⟨h4,fun j hj=>hij j hj⟩
 rw [hok.1,hok.2,← hK]
 refine zad ?_
 refine zaa ⟨82,[(6,ints K),(7,.I 0)],[],1500⟩ rfl ?_ ?_
 ·simp
  exact Le.go [] [17] rfl rfl (by simp [zak,fcd]) (by simp)
 refine zah ?_
 exact ⟨.inr rfl,zal.out [] [] rfl (by simp) (by simp) (by simp) (by simp)⟩
set_option maxRecDepth 100000 in
set_option maxHeartbeats 4000000 in
theorem zgz (n : Int) (A : List Ed) (w : List Int) (hA : A.length ≤ 1000000) (hw : w.length ≤ 1000000) : zaj Tryz.prog zeF [.I n,eEs A,ints w] [] (.tup [ints (zdi n A w),.I (zem n A w)]) []:=by
 refine znU.acalls (nbz rfl) (nbz rfl) (Nat.le_refl _) ?_
 show awp _ 0 _ _ ⟨87,[(0,.I n),(1,eEs A),(2,ints w)],[],16⟩
 refine zaa ⟨87,[(0,.I n),(1,eEs A),(2,ints w)],[],100⟩ rfl ?_ ?_
 ·simp
  exact LeH [] []
 refine zab ?_
 refine zaa ⟨87,[(0,.I n),(1,eEs A),(2,ints w),(17,.B (decide (n < 0 ∨ 64 < n)))],[],200⟩ rfl ?_ ?_
 ·simp
  refine zcc (fun hb=>?_) (fun hb=>?_) <;> (try rw [hb]) <;> (try simp at hb) <;> simp [hb]
  ·exact Le.go [] [] rfl rfl (by simp [hb]) (by simp)
  ·exact Le.go [] [] rfl rfl (by simp <;> exact wkB (by rw [Bool.eq_iff_iff]; simp; omega)) (by simp)
 refine zac _ rfl (fun h1=>?_) fun h1=>?_
 ·rw [decide_eq_true_eq] at h1
  rw [show zdi n A w = [] by unfold zdi; rw [if_pos h1],show zem n A w = 16 by unfold zem; rw [if_pos h1]]
  refine zaa ⟨87,[(6,.nilS),(7,.I 16)],[],300⟩ rfl ?_ ?_
  ·simp
   exact LeH [] []
  refine zah ?_
  exact ⟨.inr rfl,zal.out [] [] rfl (by simp) (by simp) (by simp; exact wkT2 (.nil _ _) (.refl _)) (by simp)⟩
 rw [decide_eq_false_iff_not] at h1
 have hno : ¬ zof n A w → zdi n A w = [] ∧ zem n A w = 17:=fun h=>⟨by unfold zdi; rw [if_neg h1,if_neg h],by unfold zem; rw [if_neg h1,if_neg h]⟩
 have hyes : zof n A w → zdi n A w = zeR A w w.length ∧ zem n A w = 0:=fun h=>⟨by unfold zdi; rw [if_neg h1,if_pos h],by unfold zem; rw [if_neg h1,if_pos h]⟩
 have hn0 : 0 ≤ n:=by omega
 have hn : n ≤ 64:=by omega
 refine zad ?_
 refine zab ?_
 refine zaa ⟨87,[(0,.I n),(1,eEs A),(2,ints w),(20,.B (decide (w = [])))],[],300⟩ rfl ?_ ?_
 ·simp
  exact Le.go [] [] rfl rfl (by simp <;> exact wkB (by rw [Bool.eq_iff_iff]; simp)) (by simp)
 refine zac _ rfl (fun h4=>?_) fun h4=>?_
 ·rw [decide_eq_true_eq] at h4
  have hbad:=hno fun h=>h.1 h4
  rw [hbad.1,hbad.2]
  refine zaa ⟨87,[(6,.nilS),(7,.I 17)],[],1500⟩ rfl ?_ ?_
  ·simp
   exact LeH [] []
  refine zah ?_
  exact ⟨.inr rfl,zal.out [] [] rfl (by simp) (by simp) (by simp; exact wkT2 (.nil _ _) (.refl _)) (by simp)⟩
 rw [decide_eq_false_iff_not] at h4
 have hl0 : 0 < w.length:=List.length_pos_iff.2 h4
 refine zad ?_
 refine zaa ⟨87,[(0,.I n),(1,eEs A),(2,ints w),(8,.nilS)],[],400⟩ rfl ?_ ?_
 ·simp
  exact LeH [] []
 refine zaa ⟨87,[(0,.I n),(1,eEs A),(2,ints w),(8,.nilS),(9,.I 0)],[],500⟩ rfl ?_ ?_
 ·simp
  exact LeH [] []
 refine zab ?_
 refine zaa ⟨87,[(0,.I n),(1,eEs A),(2,ints w),(8,.nilS),(9,.I 0),(10,.I 0)],[],600⟩ rfl ?_ ?_
 ·simp
  exact LeH [] []
 refine zag ?_
 refine zao (ι:=Nat) (fun i=>⟨87,[(0,.I n),(1,eEs A),(2,ints w),(8,.rs 17 0 (zeR A w i).length),(9,.I (atK A w i)),(10,.I i)],[(17,some ⟨1,zaf (zeR A w i),0⟩)],600⟩)
  (fun i=>i < w.length ∧ ∀ j,j < i → OnK A w j ∧ EndK n A w j) (fun i=>w.length - i) 0 ⟨hl0,fun j h=>absurd h (Nat.not_lt_zero _)⟩ (Le.lst [] [] [(17,1)] rfl (by simp) (by simp) (by simp) (by simp) (by simp) (by simp) (by simp) (by simp [Up,zeR,atK]) (by simp [zeR])) ?_
 rintro i ⟨h2,hij⟩
 have hks:=zho A w i
 have hkl:=zjI A w i
 obtain ⟨K,hK⟩ : ∃ K,K = zeR A w i:=⟨_,rfl⟩
 have hat1 : atK A w (i + 1) = (arcD A (w.getD i 0).toNat).t:=rfl
 obtain ⟨nd,hnd⟩ : ∃ nd,nd = atK A w i:=⟨_,rfl⟩
 rw [← hK] at hks hkl ⊢
 rw [← hnd]
 refine zab ?_
 refine zaa ⟨87,[(0,.I n),(1,eEs A),(2,ints w),(8,.rs 17 0 K.length),(9,.I nd),(10,.I i),(24,.B true)],[(17,some ⟨1,zaf K,0⟩)],700⟩ rfl ?_ ?_
 ·simp
  exact Le.go [(17,17)] [] rfl rfl (by simp [h2]) (by simp [fcd])
 refine zac _ rfl (fun _=>?_) fun h=>by cases h
 obtain ⟨v,hv⟩ : ∃ v,v = w[i]:=⟨_,rfl⟩
 have hwi : w[i]? = some v:=by rw [List.getElem?_eq_getElem h2,hv]
 have hvD : w.getD i 0 = v:=by rw [List.getD_eq_getElem?_getD,hwi]; rfl
 have hwn : IntKind.i64.wrap ((i : Int) + 1) = ((i + 1 : Nat) : Int):=by rw [w64 (by omega) (by omega)]; omega
 have hwl : IntKind.i64.wrap ((w.length : Int) - 1) = ((w.length - 1 : Nat) : Int):=by rw [w64 (by omega) (by omega)]; omega
 obtain ⟨b,hb⟩ : ∃ b,b = decide (¬ OnK A w i):=⟨_,rfl⟩
 refine zad ?_
 refine zab ?_
 refine zag ?_
 refine zab ?_
 refine zaa ⟨87,[(0,.I n),(1,eEs A),(2,ints w),(8,.rs 17 0 K.length),(9,.I nd),(10,.I i),(52,.B b)],[(17,some ⟨1,zaf K,0⟩)],1200⟩ rfl ?_ ?_
 ·by_cases c1 : v < 0
  ·have hb' : b = true:=by rw [hb,decide_eq_true_eq]; intro h; have:=h.1; omega
   simp [hwi,h2,← hv,c1]
   exact Le.go [(17,17)] [] rfl rfl (by simp [hb']) (by simp [fcd])
  by_cases c2 : (A.length : Int) ≤ v
  ·have hb' : b = true:=by rw [hb,decide_eq_true_eq]; intro h; have:=h.2.1; omega
   simp [hwi,h2,← hv,c1,c2]
   exact Le.go [(17,17)] [] rfl rfl (by simp [hb',c2]) (by simp [fcd])
  have hva : v.toNat < A.length:=by omega
  have c3 : (0 : Int) ≤ v ∧ v < A.length:=by omega
  have hgA : A[v.toNat]? = some A[v.toNat]:=List.getElem?_eq_getElem hva
  have hf : (arcD A (w.getD i 0).toNat).f = A[v.toNat].f:=by rw [hvD,zdn hva]
  have hb' : b = decide (A[v.toNat].f ≠ nd):=by
   rw [hb,decide_eq_decide]
   unfold OnK
   rw [hf,hvD,← hnd]
   constructor
   ·intro h he; exact h ⟨c3.1,c3.2,he⟩
   ·intro h he; exact h he.2.2
  simp [hwi,h2,← hv,c1,c2,c3,hgA,hva]
  exact Le.go [(17,17)] [] rfl rfl (by simp [c2] <;> exact wkB (by rw [hb',Bool.eq_iff_iff]; simp)) (by simp [fcd])
 refine zac _ rfl (fun h3=>?_) fun h3=>?_
 ·rw [h3] at hb
  have hbad:=hno fun h=>(of_decide_eq_true hb.symm) (h.2 i h2).1
  rw [hbad.1,hbad.2]
  refine zaa ⟨87,[(6,.nilS),(7,.I 17)],[],1500⟩ rfl ?_ ?_
  ·simp
   exact LeH [] []
  refine zah ?_
  exact ⟨.inr rfl,zal.out [] [] rfl (by simp) (by simp) (by simp; exact wkT2 (.nil _ _) (.refl _)) (by simp)⟩
 rw [h3] at hb
 have hon : OnK A w i:=Decidable.not_not.1 (of_decide_eq_false hb.symm)
 have c3 : (0 : Int) ≤ v ∧ v < A.length:=by rw [← hvD]; exact ⟨hon.1,hon.2.1⟩
 have hva : v.toNat < A.length:=by omega
 have hgA : A[v.toNat]? = some A[v.toNat]:=List.getElem?_eq_getElem hva
 have htA : atK A w (i + 1) = A[v.toNat].t:=by rw [hat1,hvD,zdn hva]
 obtain ⟨t,ht⟩ : ∃ t,t = atK A w (i + 1):=⟨_,rfl⟩
 rw [← ht] at htA hks
 refine zad ?_
 refine zaa ⟨87,[(0,.I n),(1,eEs A),(2,ints w),(8,.rs 17 0 K.length),(9,.I t),(10,.I i)],[(17,some ⟨1,zaf K,0⟩)],1600⟩ rfl ?_ ?_
 ·simp [hwi,h2,← hv,c3,hgA,hva,← htA]
  exact LeI [(17,17)] []
 refine zab ?_
 refine zaa ⟨87,[(0,.I n),(1,eEs A),(2,ints w),(8,.rs 17 0 K.length),(9,.I t),(10,.I i),(65,.B (decide (i + 1 = w.length)))],[(17,some ⟨1,zaf K,0⟩)],1700⟩ rfl ?_ ?_
 ·simp [hwl]
  exact Le.go [(17,17)] [] rfl rfl (by simp <;> exact wkB (by rw [Bool.eq_iff_iff]; simp; omega)) (by simp [fcd])
 refine zac _ rfl (fun h6=>?_) fun h6=>?_
 ·rw [decide_eq_true_eq] at h6
  refine zan ?_
  refine miss (by decide) ?_
  refine hit ?_
  refine zab ?_
  refine zaa ⟨87,[(8,.rs 17 0 K.length),(85,.B (!decide (t = 1)))],[(17,some ⟨1,zaf K,0⟩)],1800⟩ rfl ?_ ?_
  ·simp
   exact Le.go [(17,17)] [] rfl rfl (by simp <;> exact wkB (by rw [Bool.eq_iff_iff]; simp)) (by simp [fcd])
  by_cases ht1 : t = 1
  ·have hok:=hyes ⟨h4,fun j hj=>by
    by_cases hji : j < i
    ·exact hij j hji
    ·obtain rfl : j = i:=by omega
     exact ⟨hon,by unfold EndK; rw [if_pos h6,← ht]; exact ht1⟩⟩
   rw [hok.1,hok.2,← h6,hks,ht1,zmF]
   refine zac _ rfl (fun h=>by simp [ht1] at h) fun _=>?_
   refine zad ?_
   refine zaa ⟨87,[(6,ints K),(7,.I 0)],[],2500⟩ rfl ?_ ?_
   ·simp
    exact Le.go [] [17] rfl rfl (by simp [zak,fcd]) (by simp)
   refine zah ?_
   exact ⟨.inr rfl,zal.out [] [] rfl (by simp) (by simp) (by simp) (by simp)⟩
  ·have hbad:=hno fun h=>by
    have:=(h.2 i h2).2
    unfold EndK at this
    rw [if_pos h6,← ht] at this
    exact ht1 this
   rw [hbad.1,hbad.2]
   refine zac _ rfl (fun _=>?_) fun h=>by simp [ht1] at h
   refine zaa ⟨87,[(6,.nilS),(7,.I 17)],[],2500⟩ rfl ?_ ?_
   ·simp
    exact LeH [] []
   refine zah ?_
   exact ⟨.inr rfl,zal.out [] [] rfl (by simp) (by simp) (by simp; exact wkT2 (.nil _ _) (.refl _)) (by simp)⟩
 rw [decide_eq_false_iff_not] at h6
 have hwa : IntKind.i64.wrap (2 * n) = 2 * n:=w64 (by omega) (by omega)
 have hwb : IntKind.i64.wrap (2 + 2 * n) = 2 + 2 * n:=w64 (by omega) (by omega)
 refine zad ?_
 refine zab ?_
 refine zaa ⟨87,[(0,.I n),(1,eEs A),(2,ints w),(8,.rs 17 0 K.length),(9,.I t),(10,.I i),(74,.B (decide (¬ (2 ≤ t ∧ t < 2 + 2 * n))))],[(17,some ⟨1,zaf K,0⟩)],1900⟩ rfl ?_ ?_
 ·by_cases c4 : t < 2
  ·simp [c4]
   exact Le.go [(17,17)] [] rfl rfl (by simp <;> exact wkB (by rw [Bool.eq_iff_iff]; simp; omega)) (by simp [fcd])
  ·simp [c4,hwa,hwb]
   exact Le.go [(17,17)] [] rfl rfl (by simp <;> exact wkB (by rw [Bool.eq_iff_iff]; simp; omega)) (by simp [fcd])
 refine zac _ rfl (fun h7=>?_) fun h7=>?_
 ·rw [decide_eq_true_eq] at h7
  have hbad:=hno fun h=>by
   have:=(h.2 i h2).2
   unfold EndK at this
   rw [if_neg h6,← ht] at this
   exact h7 this
  rw [hbad.1,hbad.2]
  refine zaa ⟨87,[(6,.nilS),(7,.I 17)],[],2500⟩ rfl ?_ ?_
  ·simp
   exact LeH [] []
  refine zah ?_
  exact ⟨.inr rfl,zal.out [] [] rfl (by simp) (by simp) (by simp; exact wkT2 (.nil _ _) (.refl _)) (by simp)⟩
 rw [decide_eq_false_iff_not,Decidable.not_not] at h7
 have hmore : ∀ j,j < i + 1 → OnK A w j ∧ EndK n A w j:=fun j hj=>by
  rcases Nat.lt_succ_iff_lt_or_eq.1 hj with h | rfl
  ·exact hij j h
  ·exact ⟨hon,by unfold EndK; rw [if_neg h6,← ht]; exact h7⟩
 have hent:=zsA n t hn0 hn h7.1 h7.2
 rw [zqv (by omega)] at hent
 refine zad ?_
 refine zaa ⟨87,[(0,.I n),(1,eEs A),(2,ints w),(8,.rs 17 0 K.length),(9,.I t),(10,.I i),(11,.I ((keyT t).getD (-1)))],[(17,some ⟨1,zaf K,0⟩)],2600⟩ rfl ?_ ?_
 ·simp
  refine zap hent (by simp) ?_
  simp
  exact LeI [(17,17)] []
 cases hkt : keyT t with
 | none =>
   rw [hkt] at hks
   simp only [Option.toList,List.append_nil] at hks
   refine zaa ⟨87,[(0,.I n),(1,eEs A),(2,ints w),(8,.rs 17 0 K.length),(9,.I t),(10,.I i),(79,.B false)],[(17,some ⟨1,zaf K,0⟩)],2700⟩ rfl ?_ ?_
   ·simp [hkt]
    exact LeI [(17,17)] []
   refine zac _ rfl (fun h=>by cases h) fun _=>?_
   refine zad ?_
   refine zae (s:=?s42) rfl ?o42 ?q42
   case o42=>simp; rfl
   exact ⟨i + 1,⟨by omega,hmore⟩,by omega,Le.go [(17,17)] [] rfl rfl (by simp [hks,hwn,← ht]) (by simp [hks,fcd])⟩
 | some k =>
   have hk0:=zjl hkt
   rw [hkt] at hks
   simp only [Option.toList] at hks
   refine zaa ⟨87,[(0,.I n),(1,eEs A),(2,ints w),(8,.rs 17 0 K.length),(9,.I t),(10,.I i),(11,.I k),(79,.B true)],[(17,some ⟨1,zaf K,0⟩)],2700⟩ rfl ?_ ?_
   ·simp [hkt]
    exact Le.go [(17,17)] [] rfl rfl (by simp [hk0]) (by simp [fcd])
   refine zac _ rfl (fun _=>?_) fun h=>by cases h
   refine zae (s:=?s40) rfl ?o40 ?q40
   case o40=>simp [zak]; refine ⟨by omega,by omega,?_⟩; rfl
   refine zae (s:=?s41) rfl ?o41 ?q41
   case o41=>simp; rfl
   exact ⟨i + 1,⟨by omega,hmore⟩,by omega,Le.go [(2724,17)] [] rfl rfl (by simp [hks,hwn,← ht]) (by simp [hks,fcd])⟩
def zcI (l : List (Int × AV)) : List (List AV):=l.map fun p=>[.sc (.int .i64 p.1),p.2]
theorem zeK (n : Int) : ∀ l : List (Int × AV),zcK n (zcI l) = (l.find? (fun p=>p.1 = n)).map (·.2)
 | []=>rfl
 | (k,x) :: l=>by
   have ih:=zeK n l
   simp only [zcI] at ih
   simp only [zcI,List.map_cons,zcK,List.find?_cons]
   by_cases h : n = k
   ·simp [h]
   ·have h' : ¬ k = n:=fun e=>h e.symm
    simp [h,h',ih]
def MapR (rows : List (List AV)) (φ : Int → Option AV) : Prop:=∃ l : List (Int × AV),rows = zcI l ∧ (l.map (·.1)).Nodup ∧ ∀ n,zcK n rows = φ n
theorem MapR.find {rows : List (List AV)} {φ : Int → Option AV} (h : MapR rows φ) (n : Int) : zcK n rows = φ n:=by
 obtain ⟨_,_,_,h⟩:=h
 exact h n
theorem MapR.nil : MapR [] fun _=>none:=⟨[],rfl,by simp,fun _=>rfl⟩
theorem zkD (n : Int) (y : AV) : ∀ l : List (Int × AV),∃ l',mset n y (zcI l) = zcI l' ∧ (∀ k,k ∈ l'.map (·.1) ↔ k = n ∨ k ∈ l.map (·.1)) ∧ ((l.map (·.1)).Nodup → (l'.map (·.1)).Nodup) ∧ ∀ k,zcK k (zcI l') = if k = n then some y else zcK k (zcI l)
 | []=>⟨[(n,y)],rfl,by simp,by simp,fun k=>by simp [zcI,zcK]⟩
 | (i,x) :: l=>by
   by_cases h : n = i
   ·subst h
    refine ⟨(n,y) :: l,by simp [zcI,mset],by simp,by simp,fun k=>?_⟩
    simp only [zcI,List.map_cons,zcK]
    split <;> rfl
   ·obtain ⟨l',h1,h2,h3,h4⟩:=zkD n y l
    refine ⟨(i,x) :: l',?_,fun k=>?_,fun hn=>?_,fun k=>?_⟩
    ·simp only [zcI] at h1
     simp [zcI,mset,h,h1]
    ·simp only [List.map_cons,List.mem_cons,h2]
     constructor
     ·rintro (h | h | h) <;> simp [h]
     ·rintro (h | h | h) <;> simp [h]
    ·rw [List.map_cons,List.nodup_cons] at hn ⊢
     exact ⟨fun hm=>((h2 i).1 hm).elim (fun e=>h e.symm) hn.1,h3 hn.2⟩
    ·have h4:=h4 k
     simp only [zcI] at h4
     simp only [zcI,List.map_cons,zcK,h4]
     by_cases hk : k = i
     ·subst hk
      simp [show ¬ k = n from fun e=>h e.symm]
     ·simp [hk]
theorem MapR.set {rows : List (List AV)} {φ : Int → Option AV} (h : MapR rows φ) (n : Int) (y : AV) : MapR (mset n y rows) fun k=>if k = n then some y else φ k:=by
 obtain ⟨l,rfl,hn,hf⟩:=h
 obtain ⟨l',h1,_,h3,h4⟩:=zkD n y l
 exact ⟨l',h1,h3 hn,fun k=>by rw [h1,h4,hf]⟩
theorem zkK (n : Int) : ∀ l : List (Int × AV),(l.map (·.1)).Nodup → ∃ l',mdel n (zcI l) = zcI l' ∧ (∀ k,k ∈ l'.map (·.1) → k ∈ l.map (·.1)) ∧ (l'.map (·.1)).Nodup ∧ ∀ k,zcK k (zcI l') = if k = n then none else zcK k (zcI l)
 | [],_=>⟨[],rfl,by simp,by simp,fun k=>by simp [zcI,zcK]⟩
 | (i,x) :: l,hn=>by
   rw [List.map_cons,List.nodup_cons] at hn
   by_cases h : n = i
   ·subst h
    refine ⟨l,by simp [zcI,mdel],fun k hk=>by simp only [List.map_cons,List.mem_cons]; exact .inr hk,hn.2,fun k=>?_⟩
    simp only [zcI,List.map_cons,zcK]
    by_cases hk : k = n
    ·subst hk
     rw [if_pos rfl,show List.map (fun p : Int × AV=>[AV.sc (.int .i64 p.1),p.2]) l = zcI l from rfl,zeK]
     rw [List.find?_eq_none.2]
     ·rfl
     ·intro p hp
      simp only [decide_eq_true_eq]
      exact fun e=>hn.1 (List.mem_map.2 ⟨p,hp,e⟩)
    ·simp [hk]
   ·obtain ⟨l',h1,h2,h3,h4⟩:=zkK n l hn.2
    refine ⟨(i,x) :: l',?_,fun k=>?_,?_,fun k=>?_⟩
    ·simp only [zcI] at h1
     simp [zcI,mdel,h,h1]
    ·simp only [List.map_cons,List.mem_cons]
     rintro (e | e)
     ·exact .inl e
     ·exact .inr (h2 k e)
    ·rw [List.map_cons,List.nodup_cons]
     exact ⟨fun hm=>hn.1 (h2 i hm),h3⟩
    ·have h4:=h4 k
     simp only [zcI] at h4
     simp only [zcI,List.map_cons,zcK,h4]
     by_cases hk : k = i
     ·subst hk
      simp [show ¬ k = n from fun e=>h e.symm]
     ·simp [hk]
theorem MapR.del {rows : List (List AV)} {φ : Int → Option AV} (h : MapR rows φ) (n : Int) : MapR (mdel n rows) fun k=>if k = n then none else φ k:=by
 obtain ⟨l,rfl,hn,hf⟩:=h
 obtain ⟨l',h1,_,h3,h4⟩:=zkK n l hn
 exact ⟨l',h1,h3,fun k=>by rw [h1,h4,hf]⟩
def posN : List Int → Int → Option Nat
 | [],_=>none
 | x :: l,y=>if x = y then some 0 else (posN l y).map (· + 1)
theorem zjG : ∀ {l : List Int} {y : Int},posN l y = none ↔ y ∉ l
 | [],y=>by simp [posN]
 | x :: l,y=>by
   simp only [posN,List.mem_cons]
   by_cases h : x = y
   ·simp [h]
   ·rw [if_neg h,Option.map_eq_none_iff,zjG]
    simp [show ¬ y = x from fun e=>h e.symm]
theorem zlL : ∀ {l : List Int} {y : Int} {k : Nat},posN l y = some k → l[k]? = some y
 | [],y,k,h=>by simp [posN] at h
 | x :: l,y,k,h=>by
   simp only [posN] at h
   split at h
   ·rename_i e
    cases h
    simp [e]
   ·obtain ⟨j,hj,rfl⟩:=Option.map_eq_some_iff.1 h
    simpa using zlL hj
theorem zmk : ∀ {l : List Int} {y z : Int},z ∉ l → posN (l ++ [z]) y = if y = z then some l.length else posN l y
 | [],y,z,_=>by
   simp only [List.nil_append,posN,Option.map_none,List.length_nil]
   by_cases h : z = y
   ·simp [h]
   ·simp [h,show ¬ y = z from fun e=>h e.symm]
 | x :: l,y,z,hz=>by
   have hz' : z ∉ l:=fun h=>hz (by simp [h])
   have hx : x ≠ z:=fun e=>hz (by simp [e])
   simp only [List.cons_append,posN,zmk hz']
   by_cases h : y = z
   ·subst h
    simp [hx]
   ·simp [h]
theorem zm6 : ∀ {l : List Int} {x y : Int} {k : Nat},l.Nodup → l[k]? = some x → posN (l.take (k + 1)) y = if y = x then some k else if y ∈ l.drop (k + 1) then none else posN l y
 | [],x,y,k,_,h=>by simp at h
 | a :: l,x,y,0,hn,h=>by
   have : a = x:=by simpa using h
   subst this
   rw [List.nodup_cons] at hn
   simp only [Nat.zero_add,List.take_succ_cons,List.take_zero,posN,Option.map_none,List.drop_succ_cons,List.drop_zero]
   by_cases h1 : a = y
   ·simp [h1]
   ·rw [if_neg h1,if_neg fun e=>h1 e.symm]
    split
    ·rfl
    ·rename_i h2
     rw [zjG.2 h2]
     rfl
 | a :: l,x,y,k + 1,hn,h=>by
   rw [List.nodup_cons] at hn
   have h : l[k]? = some x:=by simpa using h
   have ih:=zm6 (y:=y) hn.2 h
   have hax : a ≠ x:=fun e=>hn.1 (e ▸ List.mem_of_getElem? h)
   simp only [List.take_succ_cons,posN,List.drop_succ_cons,ih]
   by_cases h1 : a = y
   ·subst h1
    rw [if_pos rfl,if_neg hax,if_neg fun h=>hn.1 (List.mem_of_mem_drop h),if_pos rfl]
   ·rw [if_neg h1,if_neg h1]
    split
    ·rfl
    ·split <;> rfl
def metF (A : List Ed) (l : List Nat) : Int → Option AV:=fun x=>(posN ((0 : Int) :: metA A l) x).map fun (k : Nat)=>AV.I (k : Int)
theorem zr3 {A : List Ed} {l : List Nat} {i : Nat} (h : (arcD A i).t ∉ (0 : Int) :: metA A l) : metF A (l ++ [i]) = fun x=>if x = (arcD A i).t then some (.I (l.length + 1 : Nat)) else metF A l x:=by
 funext x
 have e : (0 : Int) :: metA A (l ++ [i]) = ((0 : Int) :: metA A l) ++ [(arcD A i).t]:=by rw [ziR]; rfl
 rw [metF,e,zmk h]
 split
 ·simp [metA]
 ·rfl
theorem zrS {A : List Ed} {l : List Nat} {i k : Nat} (hn : ((0 : Int) :: metA A l).Nodup) (h : posN ((0 : Int) :: metA A l) (arcD A i).t = some k) :
  metF A (l.take k) = fun x=>if x = (arcD A i).t then some (.I k) else if x ∈ metA A ((l ++ [i]).drop k) then none else metF A l x:=by
 funext x
 have hk:=zlL h
 have hkl : k ≤ l.length:=by
  have:=(List.getElem?_eq_some_iff.1 hk).1
  simp [metA] at this
  omega
 have e : (0 : Int) :: metA A (l.take k) = ((0 : Int) :: metA A l).take (k + 1):=by simp [metA,List.map_take]
 have e2 : metA A ((l ++ [i]).drop k) = ((0 : Int) :: metA A l).drop (k + 1) ++ [(arcD A i).t]:=by
  rw [List.drop_append_of_le_length hkl]
  simp [metA,List.map_drop]
 simp only [metF,e,e2,zm6 hn hk,List.mem_append,List.mem_singleton]
 by_cases h1 : x = (arcD A i).t
 ·simp [h1]
 ·simp only [if_neg h1,h1,or_false]
  by_cases h2 : x ∈ List.drop k (metA A l)
  ·simp [h2]
  ·simp [h2]
def famH (s N : Nat) (E : Nat → List (List AV)) : List (Nat × Option Ent):=(List.range N).map fun k=>(k + 1000,some ⟨s,E k,0⟩)
def famV (E : Nat → List (List AV)) (k : Nat) : AV:=.rs (k + 1000) 0 (E k).length
def famO (N : Nat) (E : Nat → List (List AV)) : List (List AV):=(List.range N).map fun k=>[famV E k]
theorem zhf (N : Nat) (E : Nat → List (List AV)) : (famO N E).length = N:=by simp [famO]
theorem zhe {N k : Nat} {E : Nat → List (List AV)} (h : k < N) : (famO N E)[k]? = some [famV E k]:=by simp [famO,h]
@[simp] theorem zvd {N k : Nat} {E : Nat → List (List AV)} (h : k < (famO N E).length) : (famO N E)[k] = [famV E k]:=by simp [famO]
theorem zdy {α β : Type} {f : α → β} (hf : ∀ i j,f i = f j → i = j) : ∀ {l : List α},l.Nodup → (l.map f).Nodup
 | [],_=>List.nodup_nil
 | x :: l,h=>by
   rw [List.nodup_cons] at h
   rw [List.map_cons,List.nodup_cons]
   refine ⟨fun hx=>?_,zdy hf h.2⟩
   obtain ⟨y,hy,e⟩:=List.mem_map.1 hx
   exact h.1 (hf _ _ e ▸ hy)
theorem zlU {α : Type} (f : Nat → Nat) (hf : ∀ i j,f i = f j → i = j) (g : Nat → α) (l : List Nat) (k : Nat) : lkp (l.map fun k=>(f k,g k)) (f k) = if k ∈ l then some (g k) else none:=by
 induction l with
 | nil=>simp [lkp]
 | cons i l ih =>
   simp only [List.map_cons,lkp]
   by_cases h : i = k
   ·subst h; simp
   ·have h1 : f i ≠ f k:=fun e=>h (hf _ _ e)
    have h2 : ¬ k = i:=fun e=>h e.symm
    simp [h1,ih,h2]
theorem zma {α : Type} (f : Nat → Nat) (g : Nat → α) (l : List Nat) (j : Nat) (h : ∀ k ∈ l,f k ≠ j) : lkp (l.map fun k=>(f k,g k)) j = none:=by
 induction l with
 | nil=>simp [lkp]
 | cons i l ih =>
   simp only [List.map_cons,lkp]
   rw [if_neg (h i (by simp)),ih fun k hk=>h k (by simp [hk])]
theorem ztA {s N : Nat} {E : Nat → List (List AV)} {r : List (Nat × Option Ent)} {k : Nat} (h : k < N) : lkp (famH s N E ++ r) (k + 1000) = some (some ⟨s,E k,0⟩):=by
 rw [zeu,famH,zlU (fun k=>k + 1000) (fun i j h=>by simpa using h)]
 simp [h]
theorem zoQ {s N : Nat} {E : Nat → List (List AV)} {r : List (Nat × Option Ent)} {j : Nat} (h : j < 1000 ∨ 1000 + N ≤ j) : lkp (famH s N E ++ r) j = lkp r j:=by
 rw [zeu,famH,zma (fun k=>k + 1000) _ _ _ (fun k hk e=>by have:=List.mem_range.1 hk; omega)]
 simp
section
variable {sz n s N : Nat} {t : List (Nat × AV)} {E : Nat → List (List AV)} {r : List (Nat × Option Ent)}
theorem zur {k : Nat} (h : k < N) : (⟨sz,t,famH s N E ++ r,n⟩ : St).hp (k + 1000) = some ⟨s,E k,0⟩:=by
 show (lkp _ _).getD none = _
 rw [ztA h]
 rfl
theorem zjd {j : Nat} (h : j < 1000) : (⟨sz,t,famH s N E ++ r,n⟩ : St).hp j = (⟨sz,t,r,n⟩ : St).hp j:=by
 show (lkp _ _).getD none = (lkp _ _).getD none
 rw [zoQ (.inl h)]
theorem ztI {j : Nat} (h : 1000 + N ≤ j) : (⟨sz,t,famH s N E ++ r,n⟩ : St).hp j = (⟨sz,t,r,n⟩ : St).hp j:=by
 show (lkp _ _).getD none = (lkp _ _).getD none
 rw [zoQ (.inr h)]
end
def famR (m a N : Nat) (L : List Nat) : List (Nat × Nat):=(m,a + 1000) :: (L ++ ((List.range N).filter (· ≠ a)).map (· + 1000)).map fun j=>(j,j)
theorem zsy {m a N : Nat} {L : List Nat} (hL : L.Nodup) (h1 : ∀ j ∈ L,j < 1000) (hm : m ∉ L) (hm1 : m < 1000 ∨ 1000 + N ≤ m) : ((famR m a N L).map (·.1)).Nodup:=by
 simp only [famR,List.map_cons,List.map_map,fcd,List.map_id',List.nodup_cons,List.mem_append,List.mem_map,List.mem_filter,List.mem_range]
 refine ⟨?_,?_⟩
 ·rintro (h | ⟨k,⟨h,_⟩,e⟩)
  ·exact hm h
  ·omega
 ·refine List.nodup_append.2 ⟨hL,?_,?_⟩
  ·exact zdy (fun i j h=>by simpa using h) (List.nodup_range.filter _)
  ·intro x hx y hy e
   simp only [List.mem_map] at hy
   obtain ⟨k,_,e2⟩:=hy
   have:=h1 x hx
   omega
theorem zsh {m a N : Nat} {L : List Nat} (hL : L.Nodup) (h1 : ∀ j ∈ L,j < 1000) : ((famR m a N L).map (·.2)).Nodup:=by
 simp only [famR,List.map_cons,List.map_map,fcd,List.map_id',List.nodup_cons,List.mem_append,List.mem_map,List.mem_filter,List.mem_range]
 refine ⟨?_,?_⟩
 ·rintro (h | ⟨k,⟨_,h⟩,e⟩)
  ·have:=h1 _ h; omega
  ·simp at h; omega
 ·refine List.nodup_append.2 ⟨hL,?_,?_⟩
  ·exact zdy (fun i j h=>by simpa using h) (List.nodup_range.filter _)
  ·intro x hx y hy e
   simp only [List.mem_map] at hy
   obtain ⟨k,_,e2⟩:=hy
   have:=h1 x hx
   omega
theorem zm2 {m a N : Nat} {L : List Nat} : lkp (famR m a N L) m = some (a + 1000):=by simp [famR,lkp]
theorem zeD {m a N j : Nat} {L : List Nat} (hm : m ≠ j) (h : j ∈ L ∨ ∃ k < N,k ≠ a ∧ j = k + 1000) : lkp (famR m a N L) j = some j:=by
 rw [famR,lkp,if_neg hm,zlU (fun j=>j) (fun i j h=>h) (fun j=>j),if_pos]
 rcases h with h | ⟨k,h1,h2,rfl⟩
 ·simp [h]
 ·simp [h1,h2]
def grow {α : Type} (E : Nat → List α) (a : Nat) (r : α) : Nat → List α:=fun k=>if k = a then E a ++ [r] else E k
theorem zfj (f : AV → AV) (hf : ∀ v,f (.sc v) = .sc v) (rows : List (List AV)) (hr : ∀ r ∈ rows,∀ x ∈ r,∃ v,x = .sc v) : rows.map (·.map f) = rows:=by
 conv=>rhs; rw [← List.map_id rows]
 refine List.map_congr_left fun r hr'=>?_
 conv=>rhs; rw [id,← List.map_id r]
 refine List.map_congr_left fun x hx=>?_
 obtain ⟨v,rfl⟩:=hr r hr' x hx
 exact hf v
theorem zrN {m a N : Nat} {L : List Nat} {E : Nat → List (List AV)} {row : List AV} {h : Nat → Option Ent} {len : Nat} (ha : a < N) (hm : m < 1000 ∨ 1000 + N ≤ m) (hlen : len = (E a).length + 1) :
  ((famO N E).set a [.rs m 0 len]).map (·.map (conv (famR m a N L) [] h 4)) = famO N (grow E a row):=by
 apply List.ext_getElem?
 intro j
 rw [List.getElem?_map,List.getElem?_set,zhf]
 by_cases hj : a = j
 ·subst hj
  rw [if_pos rfl,if_pos ha,zhe ha]
  simp [zm2,famV,grow,hlen]
 ·rw [if_neg hj]
  by_cases hjN : j < N
  ·rw [zhe hjN,zhe hjN]
   have h1 : lkp (famR m a N L) (j + 1000) = some (j + 1000):=zeD (by omega) (.inr ⟨j,hjN,fun e=>hj e.symm,rfl⟩)
   have h2 : j ≠ a:=fun e=>hj e.symm
   simp [famV,h1,grow,h2]
  ·simp [famO,hjN]
theorem Le.fam {np s N a m : Nat} {E : Nat → List (List AV)} {row : List AV} (L : List Nat) {st st' : St} (hsz : st'.sz = st.sz)
  (ha : a < N) (hL : L.Nodup) (h1 : ∀ j ∈ L,j < 1000) (hm1 : 1000 + N ≤ m) (hn : 1000 + N ≤ st'.n) (hnp : np ≤ 1000)
  (hE : ∀ k < N,∀ r ∈ E k,∀ x ∈ r,∃ v,x = .sc v) (hrow : ∀ x ∈ row,∃ v,x = .sc v)
  (hst : ∀ k < N,k ≠ a → st.hp (k + 1000) = some ⟨s,E k,0⟩) (hsm : st.hp m = some ⟨s,E a ++ [row],0⟩)
  (hst' : ∀ k < N,st'.hp (k + 1000) = some ⟨s,grow E a row k,0⟩)
  (hout : ∀ j,j ∉ L → (j < 1000 ∨ 1000 + N ≤ j) → st'.hp j = none)
  (ht : ∀ p ∈ st'.t,Wk (conv (famR m a N L) [] st.hp 4 (st.get p.1)) p.2)
  (hb : ∀ j ∈ L,∀ e',st'.hp j = some e' → ∃ e,st.hp j = some e ∧ zaA [] (zay (famR m a N L) [] st.hp 4 e) e') : Le np st st':=by
 have hm : m ∉ L:=fun h=>by have:=h1 m h; omega
 refine Le.mk (famR m a N L) [] [] hsz (zsy hL h1 hm (.inr hm1)) (zsh hL h1) ?_ (by simp) (by simp) (by omega) (by simp) (fun i=>?_) ?_
 ·intro p hp
  simp only [famR,List.mem_cons,List.mem_map,List.mem_append,List.mem_filter,List.mem_range] at hp
  rcases hp with rfl | ⟨j,h | ⟨k,⟨h2,_⟩,rfl⟩,rfl⟩
  ·exact ⟨by simp only; omega,fun h=>by simp only at h; omega⟩
  ·have:=h1 j h
   exact ⟨by simp only; omega,fun _=>rfl⟩
  ·exact ⟨by simp only; omega,fun _=>rfl⟩
 ·unfold St.get at *
  cases hl : lkp st'.t i with
  | none=>exact .inl (.dead _)
  | some v=>exact .inl (ht _ (zbc hl))
 ·intro j e' he
  left
  by_cases hj : j ∈ L
  ·obtain ⟨e,h2,h3⟩:=hb j hj e' he
   refine ⟨j,e,?_,h2,h3⟩
   simp only [famR,List.mem_cons,List.mem_map,List.mem_append]
   exact .inr ⟨j,.inl hj,rfl⟩
  ·by_cases hr : j < 1000 ∨ 1000 + N ≤ j
   ·rw [hout j hj hr] at he; cases he
   ·obtain ⟨k,rfl⟩ : ∃ k,j = k + 1000:=⟨j - 1000,by omega⟩
    have hk : k < N:=by omega
    rw [hst' k hk] at he
    cases he
    by_cases hka : k = a
    ·subst hka
     rw [show grow E k row k = E k ++ [row] from if_pos rfl]
     refine ⟨m,_,by simp [famR],hsm,?_⟩
     have : zay (famR m k N L) [] st.hp 4 ⟨s,E k ++ [row],0⟩ = ⟨s,E k ++ [row],0⟩:=by
      simp only [zay]
      rw [zfj _ fun v=>by simp [conv]]
      intro r hr x hx
      rcases List.mem_append.1 hr with h | h
      ·exact hE k hk r h x hx
      ·rw [List.mem_singleton.1 h] at hx; exact hrow x hx
     rw [this]
     exact zaA.rfl' (Nat.zero_le _)
    ·simp only [grow,if_neg hka]
     refine ⟨k + 1000,_,?_,hst k hk hka,?_⟩
     ·simp only [famR,List.mem_cons,List.mem_map,List.mem_append,List.mem_filter,List.mem_range]
      exact .inr ⟨k + 1000,.inr ⟨k,⟨hk,by simpa using hka⟩,rfl⟩,rfl⟩
     ·have : zay (famR m a N L) [] st.hp 4 ⟨s,E k,0⟩ = ⟨s,E k,0⟩:=by
       simp only [zay]
       rw [zfj _ (fun v=>by simp [conv]) _ (hE k hk)]
      rw [this]
      exact zaA.rfl' (Nat.zero_le _)
theorem Le.fam0 {np s N o : Nat} (L : List Nat) {st st' : St} (hsz : st'.sz = st.sz) (hs : s ≠ 0) (hL : (o :: L).Nodup) (h1 : ∀ j ∈ o :: L,j < 1000 ∧ np ≤ 1000) (hn : 1000 + N ≤ st'.n)
  (ho : st.hp o = some ⟨1,(List.range N).map fun _=>[.nilS],0⟩) (ho' : st'.hp o = some ⟨1,famO N fun _=>[],0⟩)
  (hst' : ∀ k < N,st'.hp (k + 1000) = some ⟨s,[],0⟩)
  (hout : ∀ j,j ∉ o :: L → (j < 1000 ∨ 1000 + N ≤ j) → st'.hp j = none)
  (ht : ∀ p ∈ st'.t,Wk (conv ((o :: L).map fun j=>(j,j)) [] st.hp 4 (st.get p.1)) p.2)
  (hb : ∀ j ∈ L,∀ e',st'.hp j = some e' → ∃ e,st.hp j = some e ∧ zaA [] (zay ((o :: L).map fun j=>(j,j)) [] st.hp 4 e) e') : Le np st st':=by
 have hnl : ∀ p,p ∈ (List.range N).map (fun k=>(k + 1000,s)) ↔ ∃ k < N,p = (k + 1000,s):=fun p=>by
  rw [List.mem_map]
  exact ⟨fun ⟨k,h,e⟩=>⟨k,List.mem_range.1 h,e.symm⟩,fun ⟨k,h,e⟩=>⟨k,List.mem_range.2 h,e.symm⟩⟩
 have hid : ((o :: L).map fun j=>(j,j)).map (·.1) = o :: L:=by simp [fcd]
 have hid2 : ((o :: L).map fun j=>(j,j)).map (·.2) = o :: L:=by simp [fcd]
 refine Le.mk ((o :: L).map fun j=>(j,j)) [] ((List.range N).map fun k=>(k + 1000,s)) hsz (by rw [hid]; exact hL) (by rw [hid2]; exact hL) ?_ ?_ (by simp) (by have:=h1 o (by simp); omega) ?_ (fun i=>?_) ?_
 ·intro p hp
  obtain ⟨j,hj,rfl⟩:=List.mem_map.1 hp
  have:=h1 j hj
  exact ⟨by simp only; omega,fun _=>rfl⟩
 ·intro p hp
  obtain ⟨k,hk,rfl⟩:=(hnl p).1 hp
  have:=h1 o (by simp)
  refine ⟨by simp only; omega,by simp only; omega,?_,hs⟩
  rw [hid2]
  intro h
  have:=h1 _ h
  omega
 ·rw [List.map_map]
  exact zdy (fun i j h=>by simpa using h) List.nodup_range
 ·unfold St.get at *
  cases hl : lkp st'.t i with
  | none=>exact .inl (.dead _)
  | some v=>exact .inl (ht _ (zbc hl))
 ·intro j e' he
  by_cases hjo : j = o
  ·subst hjo
   left
   rw [ho'] at he
   cases he
   refine ⟨j,_,by simp,ho,rfl,Nat.le_refl _,Nat.zero_le _,.inr ⟨by simp [zay],by simp [zay,famO],fun i=>?_⟩⟩
   by_cases hi : i < N
   ·simp only [zay,List.map_map,fcd,List.map_cons,List.map_nil,List.getD_eq_getElem?_getD,List.getElem?_map,List.getElem?_range hi,Option.map_some,Option.getD_some,famO,famV,List.length_nil]
    exact ⟨.inr ⟨by simp [conv],i + 1000,s,rfl,(hnl _).2 ⟨i,hi,rfl⟩⟩,trivial⟩
   ·simp [zay,famO,List.getD_eq_getElem?_getD,hi,UpL]
  ·by_cases hj : j ∈ L
   ·left
    obtain ⟨e,h2,h3⟩:=hb j hj e' he
    refine ⟨j,e,by simp [hj],h2,h3.1,h3.2.1,h3.2.2.1,?_⟩
    rcases h3.2.2.2 with h | ⟨q1,q2,q3⟩
    ·exact .inl h
    ·refine .inr ⟨q1,q2,fun i=>?_⟩
     have key : ∀ {xs ys : List AV},UpL [] xs ys → UpL ((List.range N).map fun k=>(k + 1000,s)) xs ys:=by
      intro xs
      induction xs with
      | nil=>intro ys h; cases ys <;> exact h
      | cons x xs ih =>
        intro ys h
        cases ys with
        | nil=>exact h
        | cons y ys =>
          refine ⟨?_,ih h.2⟩
          rcases h.1 with h | ⟨_,_,_,_,h⟩
          ·exact .inl h
          ·simp at h
     exact key (q3 i)
   ·by_cases hr : j < 1000 ∨ 1000 + N ≤ j
    ·rw [hout j (by simp [hjo,hj]) hr] at he; cases he
    ·obtain ⟨k,rfl⟩ : ∃ k,j = k + 1000:=⟨j - 1000,by omega⟩
     have hk : k < N:=by omega
     rw [hst' k hk] at he
     cases he
     exact .inr ⟨(hnl _).2 ⟨k,hk,rfl⟩,rfl,rfl⟩
def famI (N : Nat) : List Nat:=(List.range N).map (· + 1000)
theorem zd8 {N j : Nat} : j ∈ famI N ↔ 1000 ≤ j ∧ j < 1000 + N:=by
 simp only [famI,List.mem_map,List.mem_range]
 exact ⟨fun ⟨k,h,e⟩=>by omega,fun h=>⟨j - 1000,by omega,by omega⟩⟩
theorem zsR {s N o : Nat} {ρ : List (Nat × Nat)} {sn : List Nat} {hp : Nat → Option Ent} {E : Nat → List (List AV)} (hE : ∀ k < N,∀ r ∈ E k,∀ x ∈ r,∃ v,x = .sc v)
  (hρ : lkp ρ o = none) (hsn : o ∈ sn) (hf : ∀ k < N,k + 1000 ∈ sn) (ho : hp o = some ⟨1,famO N E,0⟩) (hh : ∀ k < N,hp (k + 1000) = some ⟨s,E k,0⟩) :
  conv ρ sn hp 4 (.rs o 0 N) = .vs 1 false ((List.range N).map fun k=>[.vs s false (E k)]):=by
 simp only [conv,hρ,hsn,if_true,ho,zhf,Nat.zero_add,Nat.le_refl,List.drop_zero]
 rw [List.take_of_length_le (by rw [zhf]; exact Nat.le_refl _),famO,List.map_map]
 congr 1
 refine List.map_congr_left fun k hk=>?_
 have hk:=List.mem_range.1 hk
 simp only [fcd,List.map_cons,List.map_nil,famV,conv,lkp,hf k hk,if_true,hh k hk,Nat.zero_add,Nat.le_refl,List.drop_zero,List.take_length]
 rw [zfj _ (fun v=>by simp [conv]) _ (hE k hk)]
theorem Le.famOut {np N o : Nat} {L : List Nat} {st st' : St} (hsz : st'.sz = st.sz) (hL : L.Nodup) (h1 : ∀ j ∈ L,j < 1000) (hoL : o ∉ L) (hn : 1000 ≤ st'.n) (hnp : np ≤ o) (hnp2 : np ≤ 1000)
  (hout : ∀ j,j ∉ L → st'.hp j = none)
  (ht : ∀ p ∈ st'.t,Wk (conv (L.map fun j=>(j,j)) (o :: famI N) st.hp 4 (st.get p.1)) p.2)
  (hb : ∀ j ∈ L,∀ e',st'.hp j = some e' → ∃ e,st.hp j = some e ∧ zaA [] (zay (L.map fun j=>(j,j)) (o :: famI N) st.hp 4 e) e') : Le np st st':=by
 have hid : (L.map fun j=>(j,j)).map (·.1) = L:=by simp [fcd]
 have hid2 : (L.map fun j=>(j,j)).map (·.2) = L:=by simp [fcd]
 refine Le.mk (L.map fun j=>(j,j)) (o :: famI N) [] hsz (by rw [hid]; exact hL) (by rw [hid2]; exact hL) ?_ (by simp) ?_ (by omega) (by simp) (fun i=>?_) ?_
 ·intro p hp
  obtain ⟨j,hj,rfl⟩:=List.mem_map.1 hp
  have:=h1 j hj
  exact ⟨by simp only; omega,fun _=>rfl⟩
 ·intro i hi
  rw [hid]
  rcases List.mem_cons.1 hi with rfl | hi
  ·exact ⟨hnp,hoL⟩
  ·have:=zd8.1 hi
   exact ⟨by omega,fun h=>by have:=h1 i h; omega⟩
 ·unfold St.get at *
  cases hl : lkp st'.t i with
  | none=>exact .inl (.dead _)
  | some v=>exact .inl (ht _ (zbc hl))
 ·intro j e' he
  left
  by_cases hj : j ∈ L
  ·obtain ⟨e,h2,h3⟩:=hb j hj e' he
   exact ⟨j,e,by simp [hj],h2,h3⟩
  ·rw [hout j hj] at he; cases he
def zqf (s : Stp) : AV:=.agg [.I s.1,.sc (.bool s.2)]
open Classical in
noncomputable def camF (D b : List Int) : Int → Option AV:=fun x=>if x ∈ D then some (if x = 0 then .agg [.I (-1),.sc (.bool false)] else zqf (decS (b.getD x.toNat 0))) else none
theorem zp2 (b : List Int) : camF [0] b = fun x=>if x = 0 then some (.agg [.I (-1),.sc (.bool false)]) else none:=by
 funext x
 by_cases h : x = 0 <;> simp [camF,h]
theorem zqx {N : Nat} {A : List Ed} {f D b : List Int} (h : Bfs N A f D b) {s : Stp} (hT : stT A s ∉ D) (h0 : 0 ≤ stT A s) (h1 : stT A s < N) :
  camF (D ++ [stT A s]) (b.set (stT A s).toNat (encS s)) = fun x=>if x = stT A s then some (zqf s) else camF D b x:=by
 have hb : (stT A s).toNat < b.length:=by rw [h.len]; omega
 have hn0 : stT A s ≠ 0:=fun e=>hT (e ▸ h.mem0)
 funext x
 by_cases hx : x = stT A s
 ·subst hx
  simp only [camF,List.mem_append,List.mem_singleton,or_true,if_true,if_neg hn0]
  rw [List.getD_eq_getElem?_getD,List.getElem?_set_self hb,Option.getD_some,zn4]
 ·simp only [camF,List.mem_append,List.mem_singleton,hx,or_false,if_false]
  by_cases hD : x ∈ D
  ·have hr:=h.rng x hD
   rw [if_pos hD,if_pos hD,List.getD_eq_getElem?_getD,List.getElem?_set_ne (by omega),List.getD_eq_getElem?_getD]
  ·rw [if_neg hD,if_neg hD]
theorem zga (D b : List Int) (x : Int) : (camF D b x).isSome = decide (x ∈ D):=by
 by_cases h : x ∈ D <;> simp [camF,h]
abbrev zbq (s : Stp) : List AV:=[.I s.1,.B s.2]
def zgP (A : List Ed) : Nat → Nat → List Stp
 | 0,_=>[]
 | i + 1,k=>zgP A i k ++ (if (arcD A i).f = k then [(i,false)] else []) ++ (if (arcD A i).t = k then [(i,true)] else [])
theorem zkv {A : List Ed} {s : Stp} {k : Nat} : ∀ {i : Nat},s ∈ zgP A i k ↔ s.1 < i ∧ stF A s = k
 | 0=>by simp [zgP]
 | i + 1=>by
   obtain ⟨j,c⟩:=s
   have ih:=zkv (A:=A) (s:=(j,c)) (k:=k) (i:=i)
   simp only [zgP,List.mem_append,ih]
   unfold stF
   simp only
   constructor
   ·rintro ((h | h) | h)
    ·exact ⟨by omega,h.2⟩
    ·split at h
     ·rename_i e
      simp at h
      obtain ⟨rfl,rfl⟩:=h
      exact ⟨by omega,by simpa using e⟩
     ·simp at h
    ·split at h
     ·rename_i e
      simp at h
      obtain ⟨rfl,rfl⟩:=h
      exact ⟨by omega,by simpa using e⟩
     ·simp at h
   ·rintro ⟨h1,h2⟩
    rcases Nat.lt_succ_iff_lt_or_eq.1 h1 with h | h
    ·exact .inl (.inl ⟨h,h2⟩)
    ·subst h
     cases c
     ·have : (arcD A j).f = k:=by simpa using h2
      rw [if_pos this]
      exact .inl (.inr (by simp))
     ·have : (arcD A j).t = k:=by simpa using h2
      rw [if_pos this]
      exact .inr (by simp)
theorem zhz (A : List Ed) (k : Nat) : ∀ i,(zgP A i k).length ≤ 2 * i
 | 0=>Nat.le_refl _
 | i + 1=>by
   have ih:=zhz A k i
   simp only [zgP,List.length_append]
   split <;> split <;> simp <;> omega
def famE (A : List Ed) (i : Nat) : Nat → List (List AV):=fun k=>(zgP A i k).map zbq
theorem zpg (A : List Ed) (i k : Nat) : ∀ r ∈ famE A i k,∀ x ∈ r,∃ v,x = .sc v:=by
 intro r hr x hx
 obtain ⟨s,_,rfl⟩:=List.mem_map.1 hr
 simp only [zbq,List.mem_cons,List.not_mem_nil,or_false] at hx
 rcases hx with rfl | rfl
 ·exact ⟨_,rfl⟩
 ·exact ⟨_,rfl⟩
theorem zsq (A : List Ed) (i k : Nat) : (famE A i k).length ≤ 2 * i:=by unfold famE; rw [List.length_map]; exact zhz A k i
theorem zsg {E : Nat → List (List AV)} {a : Nat} {row : List AV} (hE : ∀ k,∀ r ∈ E k,∀ x ∈ r,∃ v,x = AV.sc v) (hr : ∀ x ∈ row,∃ v,x = AV.sc v) (k : Nat) : ∀ r ∈ grow E a row k,∀ x ∈ r,∃ v,x = AV.sc v:=by
 unfold grow
 intro r h
 split at h
 ·rcases List.mem_append.1 h with h | h
  ·exact hE a r h
  ·rw [List.mem_singleton.1 h]; exact hr
 ·exact hE k r h
theorem zra {A : List Ed} {i a b : Nat} (ha : (arcD A i).f = a) (hb : (arcD A i).t = b) (hab : a ≠ b) : famE A (i + 1) = grow (grow (famE A i) a (zbq (i,false))) b (zbq (i,true)):=by
 funext k
 simp only [famE,zgP,grow,ha,hb,List.map_append,Int.natCast_inj]
 by_cases h1 : k = a
 ·subst h1
  simp [hab,hab.symm]
 ·by_cases h2 : k = b
  ·subst h2
   simp [hab,h1]
  ·have h3 : ¬ a = k:=fun e=>h1 e.symm
   have h4 : ¬ b = k:=fun e=>h2 e.symm
   simp [h1,h2,h3,h4]
theorem ziY (s : Stp) : ∀ x ∈ zbq s,∃ v,x = AV.sc v:=by
 intro x hx
 simp only [zbq,List.mem_cons,List.not_mem_nil,or_false] at hx
 rcases hx with rfl | rfl
 ·exact ⟨_,rfl⟩
 ·exact ⟨_,rfl⟩
abbrev atV (N : Nat) (A : List Ed) : AV:=.vs 1 false ((List.range N).map fun k=>[.vs 2 false (famE A A.length k)])
theorem Le.slot {np sz n n' : Nat} {t t' : List (Nat × AV)} {h : List (Nat × Option Ent)} (hn : n ≤ n') (ht : ∀ p ∈ t',(⟨sz,t,h,n⟩ : St).get p.1 = p.2) : Le np ⟨sz,t,h,n⟩ ⟨sz,t',h,n'⟩:=by
 intro T0 M0 w0 T M a w ok hnp
 refine ⟨T,M,⟨ok.sz,ok.df,fun i=>?_,ok.hs,fun id g hg=>Nat.lt_of_lt_of_le (ok.dom id g hg) hn,ok.after⟩,Nat.le_trans hnp hn⟩
 show Rep T w M ((lkp t' i).getD .dead) _
 cases hl : lkp t' i with
 | none=>exact .dead _ _
 | some v =>
   have:=ht _ (zbc hl)
   simp only at this
   show Rep T w M v _
   rw [← this]
   exact ok.tm i
def famS (N : Nat) (L : List Nat) : List (Nat × Nat):=(L ++ famI N).map fun j=>(j,j)
theorem zgr {N j : Nat} {L : List Nat} (h : j ∈ L ∨ ∃ k < N,j = k + 1000) : lkp (famS N L) j = some j:=by
 rw [famS,zlU (fun j=>j) (fun i j h=>h) (fun j=>j),if_pos]
 rcases h with h | ⟨k,h1,rfl⟩
 ·simp [h]
 ·exact List.mem_append_right _ (zd8.2 (by omega))
theorem znE {N j : Nat} {L : List Nat} (h : j ∉ L) (h2 : 1000 + N ≤ j) : lkp (famS N L) j = none:=by
 rw [famS,zlU (fun j=>j) (fun i j h=>h) (fun j=>j),if_neg]
 rw [List.mem_append,not_or]
 exact ⟨h,fun hm=>by have:=zd8.1 hm; omega⟩
theorem zrp {N : Nat} {L sn : List Nat} {E : Nat → List (List AV)} {h : Nat → Option Ent} : (famO N E).map (·.map (conv (famS N L) sn h 4)) = famO N E:=by
 conv=>rhs; rw [← List.map_id (famO N E)]
 refine List.map_congr_left fun r hr=>?_
 obtain ⟨k,hk,rfl⟩:=List.mem_map.1 hr
 have:=zgr (N:=N) (L:=L) (j:=k + 1000) (.inr ⟨k,List.mem_range.1 hk,rfl⟩)
 simp [famV,this]
theorem Le.famS {np s N : Nat} {E : Nat → List (List AV)} (L sn : List Nat) {st st' : St} (hsz : st'.sz = st.sz)
  (hL : L.Nodup) (h1 : ∀ j ∈ L,j < 1000) (hn : 1000 + N ≤ st'.n) (hnp : np ≤ 1000) (hsn : ∀ j ∈ sn,1000 + N ≤ j)
  (hE : ∀ k < N,∀ r ∈ E k,∀ x ∈ r,∃ v,x = .sc v)
  (hst : ∀ k < N,st.hp (k + 1000) = some ⟨s,E k,0⟩) (hst' : ∀ k < N,st'.hp (k + 1000) = some ⟨s,E k,0⟩)
  (hout : ∀ j,j ∉ L → (j < 1000 ∨ 1000 + N ≤ j) → st'.hp j = none)
  (ht : ∀ p ∈ st'.t,Wk (conv (famS N L) sn st.hp 4 (st.get p.1)) p.2)
  (hb : ∀ j ∈ L,∀ e',st'.hp j = some e' → ∃ e,st.hp j = some e ∧ zaA [] (zay (famS N L) sn st.hp 4 e) e') : Le np st st':=by
 have hid : (Go.Proofs.YteiabadhhhckfaaGreat.famS N L).map (·.1) = L ++ famI N:=by simp [Go.Proofs.YteiabadhhhckfaaGreat.famS,fcd]
 have hid2 : (Go.Proofs.YteiabadhhhckfaaGreat.famS N L).map (·.2) = L ++ famI N:=by simp [Go.Proofs.YteiabadhhhckfaaGreat.famS,fcd]
 have hnd : (L ++ famI N).Nodup:=List.nodup_append.2 ⟨hL,zdy (fun i j h=>by simpa using h) List.nodup_range,fun x hx y hy e=>by
  have:=h1 x hx
  have:=zd8.1 hy
  omega⟩
 have hmem : ∀ j,(j,j) ∈ Go.Proofs.YteiabadhhhckfaaGreat.famS N L ↔ j ∈ L ∨ j ∈ famI N:=fun j=>by simp [Go.Proofs.YteiabadhhhckfaaGreat.famS]
 refine Le.mk (Go.Proofs.YteiabadhhhckfaaGreat.famS N L) sn [] hsz (by rw [hid]; exact hnd) (by rw [hid2]; exact hnd) ?_ (by simp) ?_ (by omega) (by simp) (fun i=>?_) ?_
 ·intro p hp
  obtain ⟨j,hj,rfl⟩:=List.mem_map.1 hp
  rcases List.mem_append.1 hj with h | h
  ·have:=h1 j h
   exact ⟨by simp only; omega,fun _=>rfl⟩
  ·have:=zd8.1 h
   exact ⟨by simp only; omega,fun _=>rfl⟩
 ·intro j hj
  have:=hsn j hj
  refine ⟨by omega,?_⟩
  rw [hid,List.mem_append,not_or]
  exact ⟨fun h=>by have:=h1 j h; omega,fun h=>by have:=zd8.1 h; omega⟩
 ·unfold St.get at *
  cases hl : lkp st'.t i with
  | none=>exact .inl (.dead _)
  | some v=>exact .inl (ht _ (zbc hl))
 ·intro j e' he
  left
  by_cases hj : j ∈ L
  ·obtain ⟨e,h2,h3⟩:=hb j hj e' he
   exact ⟨j,e,(hmem j).2 (.inl hj),h2,h3⟩
  ·by_cases hr : j < 1000 ∨ 1000 + N ≤ j
   ·rw [hout j hj hr] at he; cases he
   ·obtain ⟨k,rfl⟩ : ∃ k,j = k + 1000:=⟨j - 1000,by omega⟩
    have hk : k < N:=by omega
    rw [hst' k hk] at he
    cases he
    refine ⟨k + 1000,_,(hmem _).2 (.inr (zd8.2 (by omega))),hst k hk,?_⟩
    have : zay (Go.Proofs.YteiabadhhhckfaaGreat.famS N L) sn st.hp 4 ⟨s,E k,0⟩ = ⟨s,E k,0⟩:=by
     simp only [zay]
     rw [zfj _ (fun v=>by simp [conv]) _ (hE k hk)]
    rw [this]
    exact zaA.rfl' (Nat.zero_le _)
abbrev oH (N : Nat) (A : List Ed) (m : Nat) (f : List Int) (E : Nat → List (List AV)) : List (Nat × Option Ent) :=
 famH 2 N E ++ [(0,some ⟨1,zaf f,0⟩),(24,some ⟨4,[[.I 0,.nilS,.nilS,.nilS]],0⟩),(64,some ⟨1,famO N E,0⟩),(80,some ⟨4,[[.I N,eEs A,.rs 0 0 m,.rs 64 0 N]],0⟩)]
theorem zcx {sz n i j : Nat} {t : List (Nat × AV)} {h : List (Nat × Option Ent)} {v : Option Ent} (hij : i ≠ j) : (⟨sz,t,(i,v) :: h,n⟩ : St).hp j = (⟨sz,t,h,n⟩ : St).hp j:=by
 rw [zoA,if_neg hij]
theorem zh4 {sz n N m : Nat} {t : List (Nat × AV)} {A : List Ed} {f : List Int} {E : Nat → List (List AV)} {k : Nat} (h : k < N) : (⟨sz,t,oH N A m f E,n⟩ : St).hp (k + 1000) = some ⟨2,E k,0⟩:=zur h
theorem zn2 {sz n N m j : Nat} {t : List (Nat × AV)} {A : List Ed} {f : List Int} {E : Nat → List (List AV)} (hj : j ∉ [0,24,64,80]) (hr : j < 1000 ∨ 1000 + N ≤ j) : (⟨sz,t,oH N A m f E,n⟩ : St).hp j = none:=by
 have hj' : j ≠ 0 ∧ j ≠ 24 ∧ j ≠ 64 ∧ j ≠ 80:=by simpa using hj
 rcases hr with hr | hr
 ·rw [zjd hr]
  simp [hj'.1.symm,hj'.2.1.symm,hj'.2.2.1.symm,hj'.2.2.2.symm]
 ·rw [ztI hr]
  simp [hj'.1.symm,hj'.2.1.symm,hj'.2.2.1.symm,hj'.2.2.2.symm]
section
variable {sz n N m : Nat} {t : List (Nat × AV)} {A : List Ed} {f : List Int} {E : Nat → List (List AV)}
theorem oH_0 : (⟨sz,t,oH N A m f E,n⟩ : St).hp 0 = some ⟨1,zaf f,0⟩:=by rw [zjd (by omega)]; simp
theorem zqj : (⟨sz,t,oH N A m f E,n⟩ : St).hp 24 = some ⟨4,[[.I 0,.nilS,.nilS,.nilS]],0⟩:=by rw [zjd (by omega)]; simp
theorem znH : (⟨sz,t,oH N A m f E,n⟩ : St).hp 64 = some ⟨1,famO N E,0⟩:=by rw [zjd (by omega)]; simp
theorem znu : (⟨sz,t,oH N A m f E,n⟩ : St).hp 80 = some ⟨4,[[.I N,eEs A,.rs 0 0 m,.rs 64 0 N]],0⟩:=by rw [zjd (by omega)]; simp
end
theorem Le.oStep {N a m x y n n' : Nat} {A : List Ed} {f : List Int} {E : Nat → List (List AV)} {row : List AV} {t t' : List (Nat × AV)} {h : List (Nat × Option Ent)} (ha : a < N) (hx : 1000 + N ≤ x) (hy : 1000 + N ≤ y) (hxy : x ≠ y) (hN : N ≤ 900) (hn' : 1000 + N ≤ n')
  (hE : ∀ k,∀ r ∈ E k,∀ z ∈ r,∃ v,z = .sc v) (hrow : ∀ z ∈ row,∃ v,z = .sc v)
  (hh : h = (64,some ⟨1,(famO N E).set a [.rs x 0 ((E a).length + 1)],0⟩) :: (x,some ⟨2,E a ++ [row],0⟩) :: (a + 1000,none) :: (y,some ⟨2,[row],0⟩) :: oH N A m f E)
  (ht : ∀ p ∈ t',Wk (conv (famR x a N [0,24,64,80]) [] (⟨54,t,h,n⟩ : St).hp 4 ((⟨54,t,h,n⟩ : St).get p.1)) p.2) : Le 1 ⟨54,t,h,n⟩ ⟨54,t',oH N A m f (grow E a row),n'⟩:=by
 have e64 : (⟨54,t,h,n⟩ : St).hp 64 = some ⟨1,(famO N E).set a [.rs x 0 ((E a).length + 1)],0⟩:=by rw [hh,zoA,if_pos rfl]
 have e0 : (⟨54,t,h,n⟩ : St).hp 0 = some ⟨1,zaf f,0⟩:=by rw [hh,zcx (by omega),zcx (by omega),zcx (by omega),zcx (by omega),oH_0]
 have e24 : (⟨54,t,h,n⟩ : St).hp 24 = some ⟨4,[[.I 0,.nilS,.nilS,.nilS]],0⟩:=by rw [hh,zcx (by omega),zcx (by omega),zcx (by omega),zcx (by omega),zqj]
 have e80 : (⟨54,t,h,n⟩ : St).hp 80 = some ⟨4,[[.I N,eEs A,.rs 0 0 m,.rs 64 0 N]],0⟩:=by rw [hh,zcx (by omega),zcx (by omega),zcx (by omega),zcx (by omega),znu]
 have l0 : lkp (famR x a N [0,24,64,80]) 0 = some 0:=zeD (by omega) (.inl (by simp))
 have l64 : lkp (famR x a N [0,24,64,80]) 64 = some 64:=zeD (by omega) (.inl (by simp))
 refine Le.fam (s:=2) (N:=N) (a:=a) (m:=x) (E:=E) (row:=row) [0,24,64,80] rfl ha (by decide) (by simp) hx hn' (by omega) (fun k _=>hE k) hrow ?_ ?_ (fun k hk=>zh4 hk) (fun j hj hr=>zn2 hj hr) ht ?_
 ·intro k hk hka
  rw [hh,zcx (by omega),zcx (by omega),zcx (by omega),zcx (by omega),zh4 hk]
 ·rw [hh,zcx (by omega),zoA,if_pos rfl]
 ·intro j hj e' he
  simp only [List.mem_cons,List.not_mem_nil,or_false] at hj
  rcases hj with rfl | rfl | rfl | rfl
  ·rw [oH_0] at he
   cases he
   exact ⟨_,e0,by simp only [zay]; rw [zfj _ (fun v=>by simp [conv]) _ (by simp)]; exact zaA.rfl' (Nat.zero_le _)⟩
  ·rw [zqj] at he
   cases he
   exact ⟨_,e24,by simp [zay]; exact zaA.rfl' (Nat.zero_le _)⟩
  ·rw [znH] at he
   cases he
   refine ⟨_,e64,?_⟩
   simp only [zay]
   rw [zrN ha (.inr hx) rfl]
   exact zaA.rfl' (Nat.zero_le _)
  ·rw [znu] at he
   cases he
   refine ⟨_,e80,?_⟩
   simp [zay,l0,l64]
   exact zaA.rfl' (Nat.zero_le _)
set_option maxRecDepth 100000 in
set_option maxHeartbeats 4000000 in
theorem zqF (N : Nat) (A : List Ed) (f : List Int) (m : Nat) (hn : za4 ⟨N,A⟩) : zaj Tryz.prog zfL [eN ⟨N,A⟩,.rs 0 0 m] [⟨1,zaf f,0⟩] (.agg [.I N,eEs A,.rs 0 0 m,atV N A]) [some ⟨1,zaf f,0⟩]:=by
 refine zp6.acalls (nbz rfl) (nbz rfl) (Nat.le_refl _) ?_
 show awp _ 1 _ _ ⟨54,[(0,eN ⟨N,A⟩),(1,.rs 0 0 m)],[(0,some ⟨1,zaf f,0⟩)],16⟩
 obtain ⟨hn0,hn1,hal,hav⟩:=hn
 simp only at hn0 hn1 hal hav
 refine zaa ⟨54,[(1,.rs 0 0 m),(2,.pv (nC ⟨N,A⟩)),(4,.pt 24 0 0)],[(0,some ⟨1,zaf f,0⟩),(24,some ⟨4,[[.I 0,.nilS,.nilS,.nilS]],0⟩)],32⟩ rfl ?_ ?_
 ·simp
  exact LeI [(0,0),(24,24)] [16]
 refine zaw ⟨54,[(2,.pv (nC ⟨N,A⟩)),(4,.pt 24 0 0),(5,.pt 80 0 0)],[(0,some ⟨1,zaf f,0⟩),(24,some ⟨4,[[.I 0,.nilS,.nilS,.nilS]],0⟩),(64,some ⟨1,(List.range N).map fun _=>[.nilS],0⟩),(80,some ⟨4,[[.I N,eEs A,.rs 0 0 m,.rs 64 0 N]],0⟩)],96⟩ rfl ?_ ?_
 ·simp [List.map_const']
  refine ⟨by omega,by omega,rfl,?_⟩
  exact LeI [(0,0),(24,24),(64,64),(80,80)] []
 refine zab ?_
 refine zaa ⟨54,[(4,.pt 24 0 0),(5,.pt 80 0 0),(15,eEs A),(16,.I A.length),(17,.I 0)],[(0,some ⟨1,zaf f,0⟩),(24,some ⟨4,[[.I 0,.nilS,.nilS,.nilS]],0⟩),(64,some ⟨1,(List.range N).map fun _=>[.nilS],0⟩),(80,some ⟨4,[[.I N,eEs A,.rs 0 0 m,.rs 64 0 N]],0⟩)],128⟩ rfl ?_ ?_
 ·simp
  exact Le.go [(0,0),(24,24),(64,64),(80,80)] [] rfl rfl (by simp) (by simp [fcd,List.map_const'])
 refine zag ?_
 refine zao (ι:=Nat) (fun i=>⟨54,[(4,.pt 24 0 0),(5,.pt 80 0 0),(15,eEs A),(16,.I A.length),(17,.I i)],oH N A m f (famE A i),2000⟩) (fun i=>i ≤ A.length) (fun i=>A.length - i) 0 (Nat.zero_le _) ?_ ?_
 ·refine Le.fam0 (s:=2) (N:=N) (o:=64) [0,24,80] rfl (by omega) (by decide) (by simp) (by simp only; omega) (by simp) znH (fun k hk=>zh4 hk) (fun j hj hr=>zn2 (by simpa [and_comm,and_left_comm,and_assoc,or_comm,or_left_comm] using hj) hr) (by simp) ?_
  intro j hj e' he
  simp only [List.mem_cons,List.not_mem_nil,or_false] at hj
  rcases hj with rfl | rfl | rfl
  ·rw [oH_0] at he
   cases he
   exact ⟨⟨1,zaf f,0⟩,by simp,by simp only [zay]; rw [zfj _ (fun v=>by simp [conv]) _ (by simp)]; exact zaA.rfl' (Nat.zero_le _)⟩
  ·rw [zqj] at he
   cases he
   exact ⟨⟨4,[[.I 0,.nilS,.nilS,.nilS]],0⟩,by simp,by simp [zay]; exact zaA.rfl' (Nat.zero_le _)⟩
  ·rw [znu] at he
   cases he
   exact ⟨⟨4,[[.I N,eEs A,.rs 0 0 m,.rs 64 0 N]],0⟩,by simp,by simp [zay]; exact zaA.rfl' (Nat.zero_le _)⟩
 intro i hi
 refine zaa ⟨54,[(4,.pt 24 0 0),(5,.pt 80 0 0),(15,eEs A),(16,.I A.length),(17,.I i),(18,.B (decide (i < A.length)))],oH N A m f (famE A i),2008⟩ rfl ?_ ?_
 ·simp
  exact Le.slot (by omega) (by simp)
 refine zab ?_
 refine zac _ rfl (fun h5=>?_) fun h5=>?_
 ·simp at h5
  have hw1 : IntKind.i64.wrap ((i : Int) + 1) = (i : Int) + 1:=w64 (by omega) (by omega)
  have heo:=hav _ (List.getElem_mem h5)
  have harc : arcD A i = A[i]:=by unfold arcD; rw [List.getD_eq_getElem?_getD,List.getElem?_eq_getElem h5,Option.getD_some]
  obtain ⟨e,he⟩ : ∃ e,e = A[i]:=⟨_,rfl⟩
  rw [← he] at heo harc
  obtain ⟨q1,q2,q3,q4,q5,_⟩:=heo
  obtain ⟨a,haf,haN⟩ : ∃ a : Nat,e.f = a ∧ a < N:=⟨e.f.toNat,by omega,by omega⟩
  obtain ⟨b,hbt,hbN⟩ : ∃ b : Nat,e.t = b ∧ b < N:=⟨e.t.toNat,by omega,by omega⟩
  have hab : a ≠ b:=fun h=>q5 (by omega)
  have hsucc:=zra (A:=A) (i:=i) (a:=a) (b:=b) (by rw [harc]; exact haf) (by rw [harc]; exact hbt) hab
  have hEs:=zpg A i
  have hEl:=fun k=>zsq A i k
  obtain ⟨E,hE⟩ : ∃ E,E = famE A i:=⟨_,rfl⟩
  rw [← hE] at hsucc hEs hEl ⊢
  refine zad ?_
  refine zab ?_
  refine zag ?_
  refine zaa ⟨54,[(4,.pt 24 0 0),(5,.pt 80 0 0),(6,.I i),(7,.pv [.I a,.I b,.I e.v]),(15,eEs A),(16,.I A.length),(17,.I i)],oH N A m f E,3000⟩ rfl ?_ ?_
  ·simp [h5,← he,haf,hbt]
   have l24 : lkp (famS N [0,24,64,80]) 24 = some 24:=zgr (.inl (by simp))
   have l80 : lkp (famS N [0,24,64,80]) 80 = some 80:=zgr (.inl (by simp))
   have l0 : lkp (famS N [0,24,64,80]) 0 = some 0:=zgr (.inl (by simp))
   have l64 : lkp (famS N [0,24,64,80]) 64 = some 64:=zgr (.inl (by simp))
   have lno : lkp (famS N [0,24,64,80]) 2032 = none:=znE (by simp) (by omega)
   refine Le.famS (s:=2) (N:=N) (E:=E) [0,24,64,80] [2032] rfl (by decide) (by simp) (by simp only; omega) (by omega) (by simp; omega) (fun k _=>hEs k) ?_ (fun k hk=>zh4 hk) (fun j hj hr=>zn2 hj hr) ?_ ?_
   ·intro k hk
    rw [zcx (by omega),zcx (by omega),zh4 hk]
   ·simp [l24,l80,lno]
   ·intro j hj e' he'
    simp only [List.mem_cons,List.not_mem_nil,or_false] at hj
    rcases hj with rfl | rfl | rfl | rfl
    ·rw [oH_0] at he'
     cases he'
     exact ⟨_,by rw [zcx (by omega),zcx (by omega),oH_0],by simp only [zay]; rw [zfj _ (fun v=>by simp [conv]) _ (by simp)]; exact zaA.rfl' (Nat.zero_le _)⟩
    ·rw [zqj] at he'
     cases he'
     exact ⟨_,by rw [zcx (by omega),zcx (by omega),zqj],by simp [zay]; exact zaA.rfl' (Nat.zero_le _)⟩
    ·rw [znH] at he'
     cases he'
     refine ⟨_,by rw [zcx (by omega),zcx (by omega),znH],?_⟩
     simp only [zay]
     rw [zrp]
     exact zaA.rfl' (Nat.zero_le _)
    ·rw [znu] at he'
     cases he'
     exact ⟨_,by rw [zcx (by omega),zcx (by omega),znu],by simp [zay,l0,l64]; exact zaA.rfl' (Nat.zero_le _)⟩
  refine zaw ⟨54,[(4,.pt 24 0 0),(5,.pt 80 0 0),(6,.I i),(7,.pv [.I a,.I b,.I e.v]),(15,eEs A),(16,.I A.length),(17,.I i)],oH N A m f (grow E a (zbq (i,false))),4000⟩ rfl ?_ ?_
  ·have hl:=hEl a
   have hne : ¬ a = 2096:=by omega
   simp [znu,znH,zh4 haN,haN,zhe haN,zhf,famV,hne]
   refine ⟨by omega,by omega,rfl,?_⟩
   have l24 : lkp (famR 3104 a N [0,24,64,80]) 24 = some 24:=zeD (by omega) (.inl (by simp))
   have l80 : lkp (famR 3104 a N [0,24,64,80]) 80 = some 80:=zeD (by omega) (.inl (by simp))
   refine Le.oStep (x:=3104) (y:=3096) haN (by omega) (by omega) (by omega) (by omega) (by omega) hEs (ziY _) ?_ ?_
   ·simp
   ·simp [l24,l80]
  have hEs1:=zsg (a:=a) hEs (ziY (i,false))
  have hEl1 : (grow E a (zbq (i,false)) b).length ≤ 2 * i:=by
   have:=hEl b
   simp only [grow,if_neg hab.symm]
   exact this
  obtain ⟨E1,hE1⟩ : ∃ E1,E1 = grow E a (zbq (i,false)):=⟨_,rfl⟩
  rw [← hE1] at hEs1 hEl1 hsucc ⊢
  refine zbf rfl ?_
  have hne : ¬ b = 3096:=by omega
  simp [znu,znH,zh4 hbN,hbN,zhe hbN,zhf,famV,hne]
  refine ⟨by omega,by omega,rfl,?_⟩
  refine zaq rfl ?_
  simp
  have l24 : lkp (famR 4104 b N [0,24,64,80]) 24 = some 24:=zeD (by omega) (.inl (by simp))
  have l80 : lkp (famR 4104 b N [0,24,64,80]) 80 = some 80:=zeD (by omega) (.inl (by simp))
  refine ⟨i + 1,by omega,by omega,?_⟩
  rw [hsucc]
  refine Le.oStep (x:=4104) (y:=4096) hbN (by omega) (by omega) (by omega) (by omega) (by omega) hEs1 (ziY _) ?_ ?_
  ·simp
  ·simp [l24,l80,hw1]
 simp at h5
 obtain rfl : i = A.length:=by omega
 refine zan ?_
 refine hit ?_
 refine zaa ⟨54,[(4,.pt 24 0 0)],[(0,some ⟨1,zaf f,0⟩),(24,some ⟨4,[[.I N,eEs A,.rs 0 0 m,atV N A]],0⟩)],5000⟩ rfl ?_ ?_
 ·simp [znu,zqj]
  have hcv : ∀ {h : Nat → Option Ent},h 64 = some ⟨1,famO N (famE A A.length),0⟩ → (∀ k < N,h (k + 1000) = some ⟨2,famE A A.length k,0⟩) → conv [(0,0),(24,24)] (64 :: famI N) h 4 (.rs 64 0 N) = atV N A:=fun h1 h2 =>
   zsR (fun k _=>zpg A A.length k) (by simp) (by simp) (fun k hk=>by simp [zd8]; omega) h1 h2
  refine Le.famOut (N:=N) (o:=64) (L:=[0,24]) rfl (by decide) (by simp) (by simp) (by simp) (by omega) (by omega) ?_ ?_ ?_
  ·intro j hj
   have hj' : j ≠ 0 ∧ j ≠ 24:=by simpa using hj
   simp [hj'.1.symm,hj'.2.symm]
  ·simp
  ·intro j hj e' he'
   simp only [List.mem_cons,List.not_mem_nil,or_false] at hj
   rcases hj with rfl | rfl
   ·simp at he'
    subst he'
    refine ⟨_,by rw [zcx (by omega),oH_0],?_⟩
    simp only [zay]
    rw [zfj _ (fun v=>by simp [conv]) _ (by simp)]
    exact zaA.rfl' (Nat.zero_le _)
   ·simp at he'
    subst he'
    refine ⟨_,by rw [zoA,if_pos rfl],?_⟩
    refine zaA.eq ?_ (Nat.zero_le _)
    simp only [zay,List.map_cons,List.map_nil]
    rw [hcv (by rw [zcx (by omega),znH]) (fun k hk=>by rw [zcx (by omega),zh4 hk])]
    simp
 refine zah ?_
 exact ⟨.inr rfl,zal.k1 rfl (by simp) (by simp [fcd])⟩
abbrev rC (N : Nat) (A : List Ed) (f : AV) : List AV:=[.I N,eEs A,f,atV N A]
abbrev eR (N : Nat) (A : List Ed) (f : AV) : AV:=.agg (rC N A f)
theorem zm9 {A : List Ed} {i : Nat} (h : i < A.length) : A[i]? = some (arcD A i):=by
 unfold arcD
 rw [List.getD_eq_getElem?_getD,List.getElem?_eq_getElem h,Option.getD_some]
set_option maxRecDepth 100000 in
theorem zqH (N : Nat) (A : List Ed) (f : List Int) (s : Stp) (hn : za4 ⟨N,A⟩) (hf : Fit2 A f) (hs : s.1 < A.length) : zaj Tryz.prog zbF [eR N A (ints f),.agg (zbq s)] [] (.tup [.I (za9 A f s),.I (stT A s)]) []:=by
 refine zgp.acalls (nbz rfl) (nbz rfl) (Nat.le_refl _) ?_
 show awp _ 0 _ _ ⟨35,[(0,eR N A (ints f)),(1,.agg (zbq s))],[],16⟩
 obtain ⟨i,c⟩:=s
 simp only at hs
 obtain ⟨hfl,hfa⟩:=zcl.1 hf
 have hA:=zm9 hs
 have hi:=hfa i hs
 have hav:=hn.2.2.2 _ (zb0 hs)
 have hif : i < f.length:=by omega
 obtain ⟨e,he⟩ : ∃ e,e = arcD A i:=⟨_,rfl⟩
 obtain ⟨w,hw⟩ : ∃ w,w = f.getD i 0:=⟨_,rfl⟩
 have hg : f[i]? = some w:=by rw [hw,List.getD_eq_getElem?_getD,List.getElem?_eq_getElem hif,Option.getD_some]
 have hge : A[i] = e:=by rw [List.getElem?_eq_getElem hs,← he] at hA; exact Option.some.inj hA
 have hgf : f[i] = w:=by rw [List.getElem?_eq_getElem hif] at hg; exact Option.some.inj hg
 rw [← he] at hav
 rw [← hw,← he] at hi
 obtain ⟨_,_,_,_,_,_,_,h8,h9⟩:=hav
 have hwr : IntKind.i64.wrap (e.v - w) = e.v - w:=w64 (by omega) (by omega)
 refine zaa ⟨35,[(2,.pv (rC N A (ints f))),(3,.pv [.I i,.B c])],[],48⟩ rfl ?_ ?_
 ·simp
  exact LeH [] [16,24]
 refine zaa ⟨35,[(2,.pv (rC N A (ints f))),(3,.pv [.I i,.B c]),(6,.pv (eC e))],[],200⟩ rfl ?_ ?_
 ·simp [hs,hge]
  exact LeH [] [104]
 refine zab ?_
 refine rx (s:=?s3) [2,3,6,15] [] [] rfl ?o3 ?q3
 case o3=>simp; rfl
 refine zac _ rfl (fun h4=>?_) fun h4=>?_
 ·have hc : c = true:=h4
  subst hc
  have h1 : za9 A f (i,true) = w:=by unfold za9; simp [hw]
  have h2 : stT A (i,true) = e.f:=by unfold stT; simp [he]
  rw [h1,h2]
  refine zaw ⟨35,[(4,.I w),(5,.I e.f)],[],400⟩ rfl ?_ ?_
  ·simp [hif,hgf]
   exact ⟨rfl,LeH [] []⟩
  refine zah ?_
  exact ⟨.inr rfl,zal.out [] [] rfl (by simp) (by simp) (by simp) (by simp)⟩
 have hc : c = false:=h4
 subst hc
 have h1 : za9 A f (i,false) = e.v - w:=by unfold za9; simp [hw,he]
 have h2 : stT A (i,false) = e.t:=by unfold stT; simp [he]
 rw [h1,h2]
 refine zad ?_
 refine zaw ⟨35,[(4,.I (e.v - w)),(5,.I e.t)],[],400⟩ rfl ?_ ?_
 ·simp [hif,hgf,hwr]
  exact ⟨rfl,LeH [] []⟩
 refine zah ?_
 exact ⟨.inr rfl,zal.out [] [] rfl (by simp) (by simp) (by simp) (by simp)⟩
theorem zjz : ∀ {l : List (Int × AV)} {q : Int × AV},(l.map (·.1)).Nodup → q ∈ l → zcK q.1 (zcI l) = some q.2
 | (k,x) :: l,q,hn,h=>by
   rw [List.map_cons,List.nodup_cons] at hn
   rw [zeK,List.find?_cons]
   rcases List.mem_cons.1 h with rfl | h
   ·simp
   ·have hne : ¬ k = q.1:=fun e=>hn.1 (e ▸ List.mem_map.2 ⟨q,h,rfl⟩)
    have ih:=zjz hn.2 h
    rw [zeK] at ih
    simpa [hne] using ih
structure MapF (rows : List (List AV)) (φ : Int → Option AV) : Prop where
 is : MapR rows φ
 flat : ∀ n x,φ n = some x → ∃ u v,x = .agg [.sc u,.sc v]
theorem MapF.mem {rows : List (List AV)} {φ : Int → Option AV} (h : MapF rows φ) {r : List AV} (hr : r ∈ rows) : ∃ k u v,r = [.sc k,.agg [.sc u,.sc v]]:=by
 obtain ⟨⟨l,rfl,hn,hf⟩,hfl⟩:=h
 obtain ⟨q,hq,rfl⟩:=List.mem_map.1 hr
 obtain ⟨u,v,e⟩:=hfl q.1 q.2 (by rw [← hf]; exact zjz hn hq)
 exact ⟨_,u,v,by rw [e]⟩
theorem MapF.conv {rows : List (List AV)} {φ : Int → Option AV} (h : MapF rows φ) (ρ : List (Nat × Nat)) (sn : List Nat) (g : Nat → Option Ent) : rows.map (·.map (conv ρ sn g 4)) = rows:=by
 conv=>rhs; rw [← List.map_id rows]
 refine List.map_congr_left fun r hr=>?_
 obtain ⟨k,u,v,rfl⟩:=h.mem hr
 simp
theorem MapF.conv' {rows : List (List AV)} {φ : Int → Option AV} (h : MapF rows φ) (ρ : List (Nat × Nat)) (sn : List Nat) (g : Nat → Option Ent) : rows.map (List.map (Go.Proofs.YteiabadhhhckfaaGreat.conv ρ sn g 4)) = rows:=h.conv ρ sn g
theorem MapF.plain {rows : List (List AV)} {φ : Int → Option AV} (h : MapF rows φ) (s ro : Nat) : zkJ ⟨s,rows,ro⟩:=by
 intro r hr x hx
 obtain ⟨k,u,v,rfl⟩:=h.mem hr
 simp only [List.mem_cons,List.not_mem_nil,or_false] at hx
 rcases hx with rfl | rfl
 ·exact .sc _
 ·refine .agg _ fun i=>?_
  match i with
  | 0=>exact .sc _
  | 1=>exact .sc _
  | i + 2=>exact .dead
theorem zfq (D b : List Int) (n : Int) (x : AV) (h : camF D b n = some x) : ∃ u v,x = .agg [.sc u,.sc v]:=by
 unfold camF at h
 split at h
 ·split at h
  ·cases h; exact ⟨_,_,rfl⟩
  ·cases h; exact ⟨_,_,rfl⟩
 ·cases h
theorem MapF.set {rows : List (List AV)} {D b D' b' : List Int} (h : MapF rows (camF D b)) (n : Int) (y : AV) (he : camF D' b' = fun k=>if k = n then some y else camF D b k) : MapF (mset n y rows) (camF D' b') :=
 ⟨by rw [he]; exact h.is.set n y,zfq D' b'⟩
theorem zjX {N : Nat} {A : List Ed} (hn : za4 ⟨N,A⟩) {s : Stp} (hs : s.1 < A.length) : 0 ≤ stT A s ∧ stT A s < N:=by
 have : zi8 N (arcD A s.1):=hn.2.2.2 _ (zb0 hs)
 obtain ⟨q1,q2,q3,q4,_⟩:=this
 unfold stT
 split <;> omega
theorem ztl {α : Type} {l : List α} {q : α → Bool} {j : Nat} (hj : j < l.length) (h : q l[j] = true) : ∃ i : Nat,idxQ l q = i ∧ i ≤ j:=by
 have h1 : l.findIdx q ≤ j:=Nat.le_of_not_lt fun hlt=>by
  have:=List.not_of_lt_findIdx hlt
  rw [h] at this
  cases this
 exact ⟨l.findIdx q,by unfold idxQ; rw [if_pos (by omega)],h1⟩
theorem zie (e : Ed) (w : Int) : zaj Tryz.prog zc9 [eE e,.pv [.I w]] [] (.B (decide (e.f = w))) []:=by
 refine zkp.acalls (nbz rfl) (nbz rfl) (Nat.zero_le _) ?_
 show awp _ 0 _ _ ⟨8,[(0,eE e),(1,.pv [.I w])],[],16⟩
 refine zaa ⟨8,[(1,.pv [.I w]),(2,.pv (eC e))],[],100⟩ rfl ?_ ?_
 ·simp
  exact LeH [] [16]
 refine zaa ⟨8,[(3,.B (decide (e.f = w)))],[],200⟩ rfl ?_ ?_
 ·simp
  exact Le.go [] [] rfl rfl (by simp <;> exact wkB (by rw [Bool.eq_iff_iff]; simp)) (by simp)
 refine zah ?_
 exact ⟨.inr rfl,zal.one (by simp)⟩
structure MapI (rows : List (List AV)) (φ : Int → Option AV) : Prop where
 is : MapR rows φ
 flat : ∀ n x,φ n = some x → ∃ v,x = .sc v
theorem MapI.mem {rows : List (List AV)} {φ : Int → Option AV} (h : MapI rows φ) {r : List AV} (hr : r ∈ rows) : ∃ k v,r = [.sc k,.sc v]:=by
 obtain ⟨⟨l,rfl,hn,hf⟩,hfl⟩:=h
 obtain ⟨q,hq,rfl⟩:=List.mem_map.1 hr
 obtain ⟨v,e⟩:=hfl q.1 q.2 (by rw [← hf]; exact zjz hn hq)
 exact ⟨_,v,by rw [e]⟩
theorem MapI.conv' {rows : List (List AV)} {φ : Int → Option AV} (h : MapI rows φ) (ρ : List (Nat × Nat)) (sn : List Nat) (g : Nat → Option Ent) : rows.map (List.map (Go.Proofs.YteiabadhhhckfaaGreat.conv ρ sn g 4)) = rows:=by
 conv=>rhs; rw [← List.map_id rows]
 refine List.map_congr_left fun r hr=>?_
 obtain ⟨k,v,rfl⟩:=h.mem hr
 simp
theorem MapI.set {rows : List (List AV)} {φ ψ : Int → Option AV} (h : MapI rows φ) (n v : Int) (he : ψ = fun k=>if k = n then some (.I v) else φ k) : MapI (mset n (.I v) rows) ψ:=by
 subst he
 refine ⟨h.is.set n (.I v),fun k x hx=>?_⟩
 split at hx
 ·cases hx; exact ⟨_,rfl⟩
 ·exact h.flat k x hx
theorem MapI.del {rows : List (List AV)} {φ ψ : Int → Option AV} (h : MapI rows φ) (n : Int) (he : ψ = fun k=>if k = n then none else φ k) : MapI (mdel n rows) ψ:=by
 subst he
 refine ⟨h.is.del n,fun k x hx=>?_⟩
 split at hx
 ·cases hx
 ·exact h.flat k x hx
theorem zrZ (A : List Ed) (l : List Nat) : ∀ n x,metF A l n = some x → ∃ v,x = .sc v:=fun n x h=>by
 unfold metF at h
 obtain ⟨k,_,rfl⟩:=Option.map_eq_some_iff.1 h
 exact ⟨_,rfl⟩
theorem zp1 (A : List Ed) : MapI [[.I 0,.I 0]] (metF A []):=by
 have h : metF A [] = fun k=>if k = 0 then some (.I 0) else (fun _=>none) k:=by
  funext k
  unfold metF metA
  simp only [List.map_nil,posN]
  by_cases hk : k = 0
  ·subst hk
   simp
  ·simp [hk,show ¬ 0 = k from fun e=>hk e.symm]
 exact ⟨by rw [h]; exact MapR.nil.set 0 (.I 0),zrZ A []⟩
def delF (A : List Ed) (l : List Nat) (d : List Nat) : Int → Option AV:=fun x=>if x ∈ metA A d then none else metF A l x
theorem zsP (A : List Ed) (l : List Nat) : delF A l [] = metF A l:=by
 funext x
 unfold delF metA
 simp
theorem zrF (A : List Ed) (l d : List Nat) (i : Nat) : delF A l (d ++ [i]) = fun x=>if x = (arcD A i).t then none else delF A l d x:=by
 funext x
 unfold delF
 rw [ziR]
 by_cases h : x = (arcD A i).t
 ·simp [h]
 ·simp [h]
theorem zq2 {A : List Ed} {l : List Nat} {x : Int} {k : Nat} (h : posN ((0 : Int) :: metA A l) x = some k) : metF A l x = some (.I k):=by unfold metF; rw [h]; rfl
theorem zrX {A : List Ed} {l : List Nat} {x : Int} (h : posN ((0 : Int) :: metA A l) x = none) : metF A l x = none:=by unfold metF; rw [h]; rfl
theorem ziG (S : Int → Bool) : ∀ A : List Ed,capS S A = (A.map fun e=>if S e.f = true ∧ S e.t = false then e.v else 0).sum
 | []=>rfl
 | e :: A=>by
   have ih:=ziG S A
   unfold capS at ih ⊢
   simp only [List.map_cons,sumF,List.sum_cons]
   rw [ih]
theorem ziD {α : Type} {h : α → Int} : ∀ {l : List α},(∀ x ∈ l,h x = 0) → (l.map h).sum = 0
 | [],_=>rfl
 | x :: l,hx=>by
   rw [List.map_cons,List.sum_cons,hx x (List.mem_cons_self ..),ziD fun y hy=>hx y (List.mem_cons_of_mem _ hy)]
   rfl
theorem zq8 {α : Type} {h : α → Int} : ∀ {l : List α},(∀ x ∈ l,h x ≤ 1) → (l.map h).sum ≤ l.length
 | [],_=>Int.le_refl _
 | x :: l,hx=>by
   have ih:=zq8 (l:=l) fun y hy=>hx y (List.mem_cons_of_mem _ hy)
   have h1:=hx x (List.mem_cons_self ..)
   rw [List.map_cons,List.sum_cons,List.length_cons]
   omega
theorem ziI {g : Gr} {p : Pol} {ks : List Int} (hg : GrOk g) (hp : za8 g.size p) (hk : ∀ x ∈ ks,0 ≤ x ∧ x < g.size) : maxF (netN g) (netA g p ks) ≤ ks.length:=by
 have hno:=zja hg hp hk
 obtain ⟨f,hf,hv⟩:=zpm hno
 rw [← hv]
 refine Int.le_trans (zdx (S:=fun x=>decide (x ≠ 1)) hno hf (by simp) (by simp)) ?_
 rw [ziG]
 simp only [netA,zaT,List.map_append,List.sum_append,List.map_map]
 have hle:=zhr hg p.lv
 rw [ziD,ziD,ziD (l:=(zai g p.lv).edges.filter _)]
 ·have h1:=zq8 (h:=(fun e : Ed=>if (decide (e.f ≠ 1)) = true ∧ (decide (e.t ≠ 1)) = false then e.v else 0) ∘ fun x : Int=>(⟨2 + 2 * x,1,1⟩ : Ed)) (l:=ks.filter fun x=>decide (0 < (zaG g p).getD x.toNat 0)) fun x _=>by
   simp only [Function.comp]
   split <;> omega
  have h2:=List.length_filter_le (fun x=>decide (0 < (zaG g p).getD x.toNat 0)) ks
  omega
 ·intro e he
  have:=hle.2 e (List.mem_filter.1 he).1
  simp only [Function.comp]
  rw [if_neg]
  simp
  omega
 ·intro i _
  simp only [Function.comp]
  rw [if_neg]
  simp
  omega
 ·intro x _
  simp only [Function.comp]
  rw [if_neg]
  simp
  omega
theorem zrk {N : Nat} {A : List Ed} {f : List Int} (hn : zde N A) : exF A f 0 = valF A f:=by
 unfold exF valF
 rw [zfh hn]
 omega
section
variable {P : Program} {np id : Nat} {h : Nat → Option Ent} {K : AV → List Nat → List (Nat × Option Ent) → Prop} {f : FuncId} {first capt args args' : List AV} {res : AV}
end
def zo1 (g : Gr) (p : Pol) (ks : List Int) (W : List (List Nat)) : Prop :=
 ∃ f g',zjH g p (zax ks) f ∧ zfY (netN g) (netA g p (zax ks)) f g' W ∧ (W.length : Int) = maxF (netN g) (netA g p (zax ks)) ∧ ∀ w ∈ W,w.length ≤ 130
def befL (o acc : List Int) (i : Nat) : List Int:=(o.take i).filter fun k=>decide (k ∈ acc)
theorem znp {o acc : List Int} {i : Nat} (h : i < o.length) : befL o acc (i + 1) = befL o acc i ++ if o[i] ∈ acc then [o[i]] else []:=by
 unfold befL
 rw [List.take_succ_eq_append_getElem h,List.filter_append]
 simp only [List.filter_cons,List.filter_nil,decide_eq_true_eq]
theorem zsu (o acc : List Int) (i : Nat) : (befL o acc i).length ≤ o.length:=by
 unfold befL
 exact Nat.le_trans (List.length_filter_le ..) (List.length_take_le' ..)
theorem zsY {o acc : List Int} {i : Nat} {x : Int} (h : x ∈ befL o acc i) : x ∈ o:=List.mem_of_mem_take (List.mem_filter.1 h).1
structure ForR (g : Gr) (p : Pol) (o : List Int) (key : Int) (x : Expl) : Prop where
 key_ : x.key = key
 bef : ∃ i,∃ h : i < o.length,o[i] = key ∧ x.before = befL o (accR g p o) i
 yes : key ∈ accR g p o → x.acc = true ∧ x.side = [] ∧ ∃ W,zo1 g p (x.before ++ [key]) W ∧ x.paths = W.map (zbG (netA g p (zax (x.before ++ [key]))))
 no : key ∉ accR g p o → x.acc = false ∧ x.paths = [] ∧ ∃ R,zg8 g p o R ∧ (key,x.side) ∈ R
theorem zoU {g : Gr} {p : Pol} : ∀ (b a : List Int),∃ l,accR g p (a ++ b) = accR g p a ++ l
 | [],a=>⟨[],by simp⟩
 | x :: b,a=>by
   obtain ⟨l,hl⟩:=zoU b (a ++ [x])
   rw [List.append_assoc] at hl
   have e : a ++ x :: b = a ++ ([x] ++ b):=rfl
   rw [e,hl]
   rcases ziM (g:=g) (p:=p) a x with h | h
   ·exact ⟨l,by rw [h]⟩
   ·exact ⟨[x] ++ l,by rw [h,List.append_assoc]⟩
theorem zrs {g : Gr} {p : Pol} {o : List Int} {n : Nat} {x : Int} (h : x ∈ accR g p (o.take n)) : x ∈ accR g p o:=by
 obtain ⟨l,hl⟩:=zoU (g:=g) (p:=p) (o.drop n) (o.take n)
 rw [List.take_append_drop] at hl
 rw [hl]
 exact List.mem_append_left _ h
theorem wkX {k a b p s p' s' c : AV} (hp : Wk p p') (hs : Wk s s') : Wk (.tup [.agg [k,a,b,p,s],c]) (.tup [.agg [k,a,b,p',s'],c]):=by
 refine .tup _ _ rfl fun i=>?_
 match i with
 | 0 =>
   refine .agg _ _ rfl fun j=>?_
   match j with
   | 0=>exact .refl _
   | 1=>exact .refl _
   | 2=>exact .refl _
   | 3=>exact hp
   | 4=>exact hs
   | _ + 5=>exact .refl _
 | 1=>exact .refl _
 | _ + 2=>exact .refl _
def surG (A : List Ed) (f : List Int) (i : Nat) (x : Int) : Int:=- netG A f i x
variable {N : Nat} {A : List Ed} {f : List Int}
theorem zsV (hl : f.length = A.length) (x : Int) : surG A f A.length x = exF A f x:=by
 unfold surG
 rw [zo3 hl]
 omega
set_option maxRecDepth 100000 in
set_option maxHeartbeats 4000000 in
theorem zkI (hn : za4 ⟨N,A⟩) (hfl : f.length = A.length) (hfb : ∀ j (h : j < f.length),0 ≤ f[j] ∧ f[j] ≤ 1048576) : zaj Tryz.prog zds [eN ⟨N,A⟩,ints f] [] (.rs 0 0 N) [some ⟨1,zaf (rowR N (exF A f)),0⟩]:=by
 refine zlG.acalls (nbz rfl) (nbz rfl) (Nat.zero_le _) ?_
 show awp _ 0 _ _ ⟨43,[(0,eN ⟨N,A⟩),(1,ints f)],[],16⟩
 obtain ⟨hn0,hn1,hal,hav⟩:=hn
 simp only at hn0 hn1 hal hav
 have hbd:=zhB hfl hfb
 refine rx (s:=?s1) [1,2] [] [16] rfl ?o1 ?q1
 case o1=>simp; rfl
 refine zaa ⟨43,[(1,ints f),(2,.pv (nC ⟨N,A⟩)),(5,.rs 48 0 N)],[(48,some ⟨1,zaf (rowR N (surG A f 0)),0⟩)],64⟩ rfl ?_ ?_
 ·simp
  refine ⟨by omega,by omega,?_⟩
  have : rowR N (surG A f 0) = List.replicate N 0:=by
   unfold rowR surG
   simp only [zjo]
   simp [List.map_const']
  rw [this]
  exact LeH [(48,48)] []
 refine zab ?_
 refine zaa ⟨43,[(1,ints f),(5,.rs 48 0 N),(12,eEs A),(13,.I A.length),(14,.I 0)],[(48,some ⟨1,zaf (rowR N (surG A f 0)),0⟩)],96⟩ rfl ?_ ?_
 ·simp
  exact LeI [(48,48)] []
 refine zag ?_
 refine zao (ι:=Nat) (fun i=>⟨43,[(1,ints f),(5,.rs 48 0 N),(12,eEs A),(13,.I A.length),(14,.I i)],[(48,some ⟨1,zaf (rowR N (surG A f i)),0⟩)],96⟩) (fun i=>i ≤ A.length) (fun i=>A.length - i) 0 (Nat.zero_le _) (LeI [(48,48)] []) ?_
 intro i hi
 refine zaa ⟨43,[(1,ints f),(5,.rs 48 0 N),(12,eEs A),(13,.I A.length),(14,.I i),(15,.B (decide (i < A.length)))],[(48,some ⟨1,zaf (rowR N (surG A f i)),0⟩)],104⟩ rfl ?_ ?_
 ·simp
  exact LeI [(48,48)] []
 refine zab ?_
 refine zac _ rfl (fun h5=>?_) fun h5=>?_
 ·simp at h5
  have h8 : i < f.length:=by omega
  have hw1 : IntKind.i64.wrap ((i : Int) + 1) = (i : Int) + 1:=w64 (by omega) (by omega)
  obtain ⟨b1,b3⟩:=hfb i h8
  have heo:=hav _ (List.getElem_mem h5)
  have hsucc:=zje h5 h8
  have hbe:=fun x=>hbd x i (by omega)
  obtain ⟨e,he⟩ : ∃ e,e = A[i]:=⟨_,rfl⟩
  obtain ⟨w,hw⟩ : ∃ w,w = f[i]:=⟨_,rfl⟩
  rw [← he,← hw] at hsucc
  rw [← hw] at b1 b3
  rw [← he] at heo
  obtain ⟨e1,e2,e3,e4,e5,_⟩:=heo
  have hg1 : A[i]? = some e:=by rw [List.getElem?_eq_getElem h5,he]
  have hg2 : f[i]? = some w:=by rw [List.getElem?_eq_getElem h8,hw]
  have h2N : e.f < (N : Int) ∧ e.t < (N : Int):=by omega
  have h1:=hbe e.f
  have h2:=hbe e.t
  have hwx : IntKind.i64.wrap (surG A f i e.f + w) = surG A f i e.f + w:=w64 (by unfold surG; omega) (by unfold surG; omega)
  have hwy : IntKind.i64.wrap (surG A f i e.t - w) = surG A f i e.t - w:=w64 (by unfold surG; omega) (by unfold surG; omega)
  have hr1:=zd5 (N:=N) (g:=surG A f i) (x:=e.f) e1 (by omega)
  have hs1:=ziA (N:=N) (g:=surG A f i) (x:=e.f) (v:=surG A f i e.f + w) e1 (by omega)
  obtain ⟨g1,hg1d⟩ : ∃ g1 : Int → Int,g1 = fun y=>if y = e.f then surG A f i e.f + w else surG A f i y:=⟨_,rfl⟩
  rw [← hg1d] at hs1
  have hg1t : g1 e.t = surG A f i e.t:=by rw [hg1d]; exact if_neg fun h=>e5 h.symm
  have hr2:=zd5 (N:=N) (g:=g1) (x:=e.t) e3 (by omega)
  rw [hg1t] at hr2
  have hs2:=ziA (N:=N) (g:=g1) (x:=e.t) (v:=surG A f i e.t - w) e3 (by omega)
  have hend : (rowR N fun y=>if y = e.t then surG A f i e.t - w else g1 y) = rowR N (surG A f (i + 1)):=zhJ fun x=>by
   unfold surG at hg1d ⊢
   rw [hsucc,hg1d]
   simp only
   by_cases h3 : x = e.t
   ·rw [h3,if_pos rfl,if_pos rfl,if_neg e5]
    omega
   ·by_cases h4 : x = e.f
    ·rw [if_neg h3,if_pos h4,if_neg fun h=>h3 h.symm,if_pos h4.symm,h4]
     omega
    ·rw [if_neg h3,if_neg h4,if_neg fun h=>h3 h.symm,if_neg fun h=>h4 h.symm]
     omega
  rw [hend] at hs2
  refine zad ?_
  refine zab ?_
  refine zag ?_
  refine zaa ⟨43,[(1,ints f),(5,.rs 48 0 N),(6,.I i),(7,.pv (eC e)),(12,eEs A),(13,.I A.length),(14,.I i)],[(48,some ⟨1,zaf (rowR N (surG A f i)),0⟩)],152⟩ rfl ?_ ?_
  ·simp [h5,← he]
   exact LeI [(48,48)] [128]
  refine zaw ⟨43,[(1,ints f),(5,.rs 48 0 N),(6,.I i),(7,.pv (eC e)),(12,eEs A),(13,.I A.length),(14,.I i)],[(48,some ⟨1,zaf (rowR N g1),0⟩)],400⟩ rfl ?_ ?_
  ·simp [hg2,h8,← hw,hr1,e1,h2N,hwx,zaJ]
   exact ⟨rfl,Le.go [(48,48)] [] rfl rfl (by simp) (by simp [fcd,← hs1])⟩
  refine zbf rfl ?_
  simp [hg2,h8,← hw,hr2,e3,h2N,hwy,zaJ]
  refine ⟨rfl,?_⟩
  refine zaq rfl ?_
  simp
  exact ⟨i + 1,by omega,by omega,Le.go [(48,48)] [] rfl rfl (by simp [hw1]) (by simp [fcd,← hs2])⟩
 simp at h5
 obtain rfl : i = A.length:=by omega
 refine zan ?_
 refine hit ?_
 have hfin : rowR N (surG A f A.length) = rowR N (exF A f):=zhJ fun x=>zsV hfl x
 rw [hfin]
 refine zaa ⟨43,[(4,.rs 48 0 N)],[(48,some ⟨1,zaf (rowR N (exF A f)),0⟩)],200⟩ rfl ?_ ?_
 ·simp
  exact LeI [(48,48)] []
 refine zah ?_
 exact ⟨.inr rfl,zal.out [48] [] rfl (by simp) (by simp) (by simp) (by simp [fcd])⟩
def zqz (A : List Ed) (f : List Int) (i : Nat) : Prop:=0 ≤ f.getD i 0 ∧ f.getD i 0 ≤ (arcD A i).v
theorem zhD : zaD N A f ↔ f.length = A.length ∧ (∀ i,i < A.length → zqz A f i) ∧ ∀ x : Nat,2 ≤ x → x < N → exF A f x = 0:=by
 constructor
 ·intro h
  have h1:=zcl.1 h.fit
  exact ⟨h1.1,h1.2,fun x h2 h3=>by have:=h.bal x h2 h3; unfold exF; omega⟩
 ·rintro ⟨h1,h2,h3⟩
  exact ⟨zcl.2 ⟨h1,h2⟩,fun x h4 h5=>by have:=h3 x h4 h5; unfold exF at this; omega⟩
theorem zts (g : Int → Int) (N : Nat) : ((rowR N g).drop 2).any (fun x=>!decide (x = 0)) = true ↔ ¬ ∀ x : Nat,2 ≤ x → x < N → g x = 0:=by
 rw [List.any_eq_true]
 constructor
 ·rintro ⟨y,hy,h⟩ hall
  obtain ⟨j,hj,rfl⟩:=List.mem_iff_getElem.1 hy
  rw [List.length_drop,zeX] at hj
  have:=hall (2 + j) (by omega) (by omega)
  simp [rowR] at h
  exact h (by simpa using this)
 ·intro h
  obtain ⟨x,hx⟩:=Classical.not_forall.1 h
  obtain ⟨h1,hx⟩:=Classical.not_imp.1 hx
  obtain ⟨h2,hx⟩:=Classical.not_imp.1 hx
  refine ⟨g x,List.mem_iff_getElem.2 ⟨x - 2,by rw [List.length_drop,zeX]; omega,?_⟩,by simpa using hx⟩
  simp [rowR,show 2 + (x - 2) = x by omega]
theorem zij (x : Int) : zaj Tryz.prog zc2 [.I x] [] (.B (!decide (x = 0))) []:=by
 refine zjY.acalls (nbz rfl) (nbz rfl) (Nat.le_refl _) ?_
 show awp _ 0 _ _ ⟨5,[(0,.I x)],[],16⟩
 refine rx (s:=?s1) [0] [] [] rfl ?o1 ?q1
 case o1=>simp; rfl
 refine zaa ⟨5,[(2,.B (!decide (x = 0)))],[],100⟩ rfl ?_ ?_
 ·simp
  exact Le.go [] [] rfl rfl (by simp <;> exact wkB (by rw [Bool.eq_iff_iff]; simp)) (by simp)
 refine zah ?_
 exact ⟨.inr rfl,zal.one (by simp)⟩
set_option maxRecDepth 100000 in
set_option maxHeartbeats 4000000 in
open Classical in
theorem zgF (hn : za4 ⟨N,A⟩) (hl : f.length ≤ 1099511627776) : zaj Tryz.prog zeT [eN ⟨N,A⟩,ints f] [] (.B (decide (zaD N A f))) []:=by
 refine znY.acalls (nbz rfl) (nbz rfl) (Nat.le_refl _) ?_
 show awp _ 0 _ _ ⟨41,[(0,eN ⟨N,A⟩),(1,ints f)],[],16⟩
 have hchk:=zeM ⟨N,A⟩ (by have:=hn.2.2.1; simp only at this ⊢; omega)
 rw [if_pos hn] at hchk
 have hn':=hn
 obtain ⟨hn0,hn1,hal,hav⟩:=hn
 simp only at hn0 hn1 hal hav
 refine rx (s:=?s1) [1,2] [] [16] rfl ?o1 ?q1
 case o1=>simp; rfl
 refine zab ?_
 refine zaa ⟨41,[(1,ints f),(2,.pv (nC ⟨N,A⟩)),(17,.B (!decide (f.length = A.length)))],[],120⟩ rfl ?_ ?_
 ·simp
  refine zap hchk (by simp) ?_
  simp
  exact Le.go [] [] rfl rfl (by simp <;> exact wkB (by rw [Bool.eq_iff_iff]; simp <;> omega)) (by simp)
 refine zac _ rfl (fun h3=>?_) fun h3=>?_
 ·simp at h3
  refine rx (s:=?s4) [4] [] [] rfl ?o4 ?q4
  case o4=>simp; rfl
  refine zah ?_
  have hno : ¬ zaD N A f:=fun h=>h3 (zhD.1 h).1
  exact ⟨.inr rfl,zal.one (by simp [hno])⟩
 simp at h3
 refine zad ?_
 refine zab ?_
 refine rx (s:=?s5) [1,2,19,20,21] [] [] rfl ?o5 ?q5
 case o5=>simp; rfl
 refine zag ?_
 refine zao (ι:=Nat) (fun i=>⟨41,[(1,ints f),(2,.pv (nC ⟨N,A⟩)),(19,eEs A),(20,.I A.length),(21,.I i)],[],152⟩) (fun i=>i ≤ A.length ∧ ∀ k,k < i → zqz A f k) (fun i=>A.length - i) 0 (by simp) (LeH [] []) ?_
 rintro i ⟨hi,hp⟩
 refine rx (s:=?s6) [1,2,19,20,21,22] [] [] rfl ?o6 ?q6
 case o6=>simp; rfl
 refine zab ?_
 refine zac _ rfl (fun h7=>?_) fun h7=>?_
 ·simp at h7
  have hw1 : IntKind.i64.wrap ((i : Int) + 1) = (i : Int) + 1:=w64 (by omega) (by omega)
  have hif : i < f.length:=by omega
  obtain ⟨e,he⟩ : ∃ e,e = A[i]:=⟨_,rfl⟩
  obtain ⟨w,hw⟩ : ∃ w,w = f[i]:=⟨_,rfl⟩
  have hfa : zqz A f i ↔ 0 ≤ w ∧ w ≤ e.v:=by
   unfold zqz arcD
   rw [List.getD_eq_getElem?_getD,List.getElem?_eq_getElem hif,Option.getD_some,List.getD_eq_getElem?_getD,List.getElem?_eq_getElem h7,Option.getD_some,he,hw]
  refine zad ?_
  refine zab ?_
  refine zag ?_
  refine zaa ⟨41,[(1,ints f),(2,.pv (nC ⟨N,A⟩)),(5,.I i),(6,.pv (eC e)),(19,eEs A),(20,.I A.length),(21,.I i)],[],300⟩ rfl ?_ ?_
  ·simp [h7,← he]
   exact LeH [] [184]
  refine zaw ⟨41,[(1,ints f),(2,.pv (nC ⟨N,A⟩)),(19,eEs A),(20,.I A.length),(21,.I i),(33,.B (!decide (0 ≤ w ∧ w ≤ e.v)))],[],400⟩ rfl ?_ ?_
  ·simp [hif,← hw]
   refine zap (zbt w 0 e.v) (by simp) ?_
   simp
   exact ⟨rfl,Le.go [] [] rfl rfl (by simp <;> exact wkB (by rw [Bool.eq_iff_iff]; simp)) (by simp)⟩
  refine zac _ rfl (fun h10=>?_) fun h10=>?_
  ·have h10' : ¬ (0 ≤ w ∧ w ≤ e.v):=by simp at h10; omega
   refine rx (s:=?s11) [4] [] [] rfl ?o11 ?q11
   case o11=>simp; rfl
   refine zah ?_
   have hno : ¬ zaD N A f:=fun h=>h10' (hfa.1 ((zhD.1 h).2.1 i h7))
   exact ⟨.inr rfl,zal.one (by simp [hno])⟩
  have h10' : 0 ≤ w ∧ w ≤ e.v:=by simpa using h10
  refine zad ?_
  refine zaq rfl ?_
  simp
  refine ⟨i + 1,⟨by omega,fun k hk=>?_⟩,by omega,Le.go [] [] rfl rfl (by simp [hw1]) (by simp)⟩
  rcases Nat.lt_succ_iff_lt_or_eq.1 hk with h | h
  ·exact hp k h
  ·rw [h]; exact hfa.2 h10'
 simp at h7
 obtain rfl : i = A.length:=by omega
 have hfb : ∀ j (h : j < f.length),0 ≤ f[j] ∧ f[j] ≤ 1048576:=fun j hj=>by
  have h1:=hp j (by omega)
  unfold zqz at h1
  have e1 : f.getD j 0 = f[j]:=by rw [List.getD_eq_getElem?_getD,List.getElem?_eq_getElem hj,Option.getD_some]
  have e2 : arcD A j = A[j]'(by omega):=by unfold arcD; rw [List.getD_eq_getElem?_getD,List.getElem?_eq_getElem (by omega),Option.getD_some]
  rw [e1,e2] at h1
  have h2:=(hav _ (List.getElem_mem (show j < A.length by omega))).2.2.2.2.2.2.2.2
  omega
 refine zan ?_
 refine hit ?_
 have hsur:=zkI hn' h3 hfb
 have hcf:=ziw zc2 [] (fun x=>!decide (x = 0)) ((rowR N (exF A f)).drop 2) (by rw [List.length_drop,zeX]; omega) (fun ρ sn h k=>by simp) (fun e _=>zij e)
 have hiff : zaD N A f ↔ ((rowR N (exF A f)).drop 2).any (fun x=>!decide (x = 0)) = false:=by
  rw [← Bool.not_eq_true,zts,Classical.not_not,zhD]
  exact ⟨fun h=>h.2.2,fun h=>⟨h3,hp,h⟩⟩
 obtain ⟨l,hld⟩ : ∃ l,l = rowR N (exF A f):=⟨_,rfl⟩
 have hll : l.length = N:=by rw [hld,zeX]
 rw [← hld] at hsur hcf hiff
 obtain ⟨b,hb⟩ : ∃ b,b = (l.drop 2).any (fun x=>!decide (x = 0)):=⟨_,rfl⟩
 rw [← hb] at hcf hiff
 refine zaa ⟨41,[(4,.B (!b))],[],300⟩ rfl ?_ ?_
 ·simp
  refine zaU hsur (by simp) ?_
  simp
  refine zta 2 (i:=176) rfl rfl (by omega) ?_
  simp
  have h2N : 2 + (N - 2) ≤ N:=by omega
  refine zg5 [176] hcf (by simp [fcd,hll,h2N]; exact List.take_of_length_le (by simp; omega)) (.sc _) ?_
  simp
  exact LeH [] []
 refine zah ?_
 exact ⟨.inr rfl,zal.one (by simp [hiff])⟩
set_option maxRecDepth 100000 in
open Classical in
theorem zg4 (hn : za4 ⟨N,A⟩) (hl : f.length ≤ 1099511627776) : zaj Tryz.prog ze0 [eN ⟨N,A⟩,ints f] [] (.I (if zaD N A f then valF A f else 0)) []:=by
 refine znF.acalls (nbz rfl) (nbz rfl) (Nat.le_refl _) ?_
 show awp _ 0 _ _ ⟨14,[(0,eN ⟨N,A⟩),(1,ints f)],[],16⟩
 have hvl:=zgF hn hl
 refine rx (s:=?s1) [1,2] [] [16] rfl ?o1 ?q1
 case o1=>simp; rfl
 refine zab ?_
 refine rx (s:=?s2) [1,2,8] [] [] rfl ?o2 ?q2
 case o2=>simp; refine zap hvl (by simp) ?_; simp; rfl
 refine zac _ rfl (fun h3=>?_) fun h3=>?_
 ·simp at h3
  refine rx (s:=?s4) [4] [] [] rfl ?o4 ?q4
  case o4=>simp; rfl
  refine zah ?_
  exact ⟨.inr rfl,zal.one (by simp [h3])⟩
 simp at h3
 have h31:=zcl.1 h3.fit
 have hav:=hn.2.2.2
 simp only at hav
 have hfb : ∀ j (h : j < f.length),0 ≤ f[j] ∧ f[j] ≤ 1048576:=fun j hj=>by
  have h1:=h31.2 j (by omega)
  have e1 : f.getD j 0 = f[j]:=by rw [List.getD_eq_getElem?_getD,List.getElem?_eq_getElem hj,Option.getD_some]
  have e2 : arcD A j = A[j]'(by omega):=by unfold arcD; rw [List.getD_eq_getElem?_getD,List.getElem?_eq_getElem (by omega),Option.getD_some]
  rw [e1,e2] at h1
  have h2:=(hav _ (List.getElem_mem (show j < A.length by omega))).2.2.2.2.2.2.2.2
  omega
 have hsur:=zkI hn h31.1 hfb
 have hv:=zrk (f:=f) (zd4 hn)
 have hn0:=hn.1
 simp only at hn0
 have hr:=zd5 (N:=N) (g:=exF A f) (x:=0) (Int.le_refl _) (by omega)
 rw [hv] at hr
 obtain ⟨l,hld⟩ : ∃ l,l = rowR N (exF A f):=⟨_,rfl⟩
 rw [← hld] at hsur hr
 simp only [Int.toNat_zero] at hr
 refine zad ?_
 refine zaa ⟨14,[(4,.I (valF A f))],[],300⟩ rfl ?_ ?_
 ·simp
  refine zaU hsur (by simp) ?_
  have h0N : 0 < (N : Int):=by omega
  simp [hr,h0N]
  exact ⟨by omega,LeH [] []⟩
 refine zah ?_
 exact ⟨.inr rfl,zal.one (by simp [h3])⟩
end Go.Proofs.YteiabadhhhckfaaGreat
