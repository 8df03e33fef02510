/- Texts of this claim,merged. -/
import Derived.Test.YteiabadhhhckfaaGreatRg13
import Derived.Test.YteiabadhhhckfaaGreatRg9
import Derived.Test.YteiabadhhhckfaaGreatRg12
import Derived.Test.YteiabadhhhckfaaGreatRg10
import Derived.Test.YteiabadhhhckfaaGreatRg11
set_option linter.unusedSimpArgs false
set_option linter.unusedVariables false
set_option linter.unusedSectionVars false
namespace Go.Proofs.YteiabadhhhckfaaGreat
open Go
theorem zth (n t : Int) (hn0 : 0 ≤ n) (hn : n ≤ 64) (ht : 2 ≤ t) (ht2 : t < 2 + 2 * n) : zak Tryz.prog zfU [.I n,.I t] [] (.I (if t % 2 = 0 then (t - 2) / 2 else -1)) []:=by
 refine znG.acalls (nbz rfl) (nbz rfl) (Nat.le_refl _) ?_
 show awp _ 0 _ _ ⟨22,[(0,.I n),(1,.I t)],[],16⟩
 have hw1 : IntKind.i64.wrap (2 * n) = 2 * n:=w64 (by omega) (by omega)
 have hw2 : IntKind.i64.wrap (2 + 2 * n) = 2 + 2 * n:=w64 (by omega) (by omega)
 have hw3 : IntKind.i64.wrap (t - 2) = t - 2:=w64 (by omega) (by omega)
 have hd : Int.tdiv (t - 2) 2 = (t - 2) / 2:=Int.tdiv_eq_ediv_of_nonneg (by omega)
 have hw4 : IntKind.i64.wrap ((t - 2) / 2) = (t - 2) / 2:=w64 (by omega) (by omega)
 have hm : Int.tmod t 2 = t % 2:=Int.tmod_eq_emod_of_nonneg (by omega)
 have hw5 : IntKind.i64.wrap (t % 2) = t % 2:=w64 (by omega) (by omega)
 refine zaa ⟨22,[(0,.I n),(1,.I t)],[],100⟩ rfl ?_ ?_
 ·simp
  exact LeH [] []
 refine zab ?_
 refine zaa ⟨22,[(1,.I t),(18,.B (decide (t % 2 = 0)))],[],300⟩ rfl ?_ ?_
 ·simp [ht,hm,hw5]
  refine zb2 (fun hb=>?_) (fun hb=>?_) <;> (try rw [hb]) <;> (try simp at hb) <;> simp [hb,hw1,hw2,ht2]
  ·exact LeH [] []
  ·exact Le.go [] [] rfl rfl (by simp [hb]) (by simp)
 refine zac _ rfl (fun h=>?_) fun h=>?_
 ·rw [decide_eq_true_eq] at h
  rw [if_pos h]
  refine zaa ⟨22,[(4,.I ((t - 2) / 2))],[],400⟩ rfl ?_ ?_
  ·simp [hw3,hd,hw4]
   exact LeH [] []
  refine zah ?_
  exact ⟨.inr rfl,zan.one (by simp)⟩
 rw [decide_eq_false_iff_not] at h
 rw [if_neg h]
 refine zad ?_
 refine zaa ⟨22,[(4,.I (-1))],[],400⟩ rfl ?_ ?_
 ·simp
  exact LeH [] []
 refine zah ?_
 exact ⟨.inr rfl,zan.one (by simp)⟩
theorem zjK {A : List Ed} : ∀ {l : List Nat} {u w : Int},WayA A u l w → ∀ i (h : i < l.length),(arcD A l[i]).f = (u :: metA A l).getD i 0
 | i :: l,u,w,hw,0,_=>hw.2.1
 | i :: l,u,w,hw,j + 1,h=>by
   have:=zjK hw.2.2 j (by simpa using h)
   simpa [metA] using this
theorem zmq {A : List Ed} {u : Int} {l : List Nat} {i : Nat} (h : i < l.length) : (u :: metA A l).getD (i + 1) 0 = (arcD A l[i]).t:=by
 rw [List.getD_cons_succ,List.getD_eq_getElem?_getD]
 unfold metA
 rw [List.getElem?_map,List.getElem?_eq_getElem h]
 rfl
theorem zlz {A : List Ed} {l : List Nat} {i : Nat} (h : i < l.length) : zaY A (l.take (i + 1)) = zaY A (l.take i) ++ (keyT (arcD A l[i]).t).toList:=by
 unfold zaY metA
 rw [List.take_succ_eq_append_getElem h,List.map_append,List.filterMap_append]
 simp only [List.map_cons,List.map_nil,List.filterMap_cons,List.filterMap_nil]
 cases keyT (arcD A l[i]).t <;> rfl
theorem znR (A : List Ed) (l : List Nat) : (zaY A l).length ≤ l.length:=by
 unfold zaY
 exact Nat.le_trans (List.length_filterMap_le ..) (by simp [metA])
set_option maxRecDepth 100000 in
set_option maxHeartbeats 4000000 in
theorem zuu (n : Int) (A : List Ed) (l : List Nat) (hn0 : 0 ≤ n) (hn : n ≤ 64) (hA : zc5 (2 + 2 * n).toNat A) (hal : A.length ≤ 1200) (hw : WayA A 0 l 1) (hll : l.length ≤ 130) : zak Tryz.prog zgx [.I n,eEs A,ints (natL l)] [] (.tup [ints (zaY A l),.I 0]) []:=by
 refine zoW.acalls (nbz rfl) (nbz rfl) (Nat.le_refl _) ?_
 show awp _ 0 _ _ ⟨87,[(0,.I n),(1,eEs A),(2,ints (natL l))],[],16⟩
 have hl0 : 0 < l.length:=by
  cases l with
  | nil=>have : (0 : Int) = 1:=hw; omega
  | cons=>simp
 have hnl:=zdo l
 have hlne : ¬ l = []:=fun e=>by rw [e] at hl0; exact absurd hl0 (Nat.lt_irrefl _)
 refine zaa ⟨87,[(0,.I n),(1,eEs A),(2,ints (natL l))],[],100⟩ rfl ?_ ?_
 ·simp
  exact LeH [] []
 refine zab ?_
 refine zaa ⟨87,[(0,.I n),(1,eEs A),(2,ints (natL l)),(17,.B false)],[],200⟩ rfl ?_ ?_
 ·have h1 : ¬ n < 0:=by omega
  have h2 : ¬ 64 < n:=by omega
  simp [h1,h2]
  exact Le.go [] [] rfl rfl (by simp [h2]) (by simp)
 refine zac _ rfl (fun h=>by cases h) fun _=>?_
 refine zad ?_
 refine zab ?_
 refine zaa ⟨87,[(0,.I n),(1,eEs A),(2,ints (natL l)),(20,.B false)],[],300⟩ rfl ?_ ?_
 ·simp
  exact Le.go [] [] rfl rfl (by simp <;> exact wkB (by simp [hnl,hlne])) (by simp)
 refine zac _ rfl (fun h=>by cases h) fun _=>?_
 refine zad ?_
 refine zaa ⟨87,[(0,.I n),(1,eEs A),(2,ints (natL l)),(8,.nilS)],[],400⟩ rfl ?_ ?_
 ·simp
  exact LeH [] []
 refine zaa ⟨87,[(0,.I n),(1,eEs A),(2,ints (natL l)),(8,.nilS),(9,.I 0)],[],500⟩ rfl ?_ ?_
 ·simp
  exact LeH [] []
 refine zab ?_
 refine zaa ⟨87,[(0,.I n),(1,eEs A),(2,ints (natL l)),(8,.nilS),(9,.I 0),(10,.I 0)],[],600⟩ rfl ?_ ?_
 ·simp
  exact LeH [] []
 refine zaf ?_
 refine zao (ι:=Nat) (fun i=>⟨87,[(0,.I n),(1,eEs A),(2,ints (natL l)),(8,.rs 17 0 (zaY A (l.take i)).length),(9,.I (((0 : Int) :: metA A l).getD i 0)),(10,.I i)],[(17,some ⟨1,zae (zaY A (l.take i)),0⟩)],600⟩)
  (fun i=>i < l.length) (fun i=>l.length - i) 0 hl0 (Le.lst [] [] [(17,1)] rfl (by simp) (by simp) (by simp) (by simp) (by simp) (by simp) (by simp) (by simp [Up,zaY,metA]) (by simp [zaY,metA])) ?_
 intro i hi
 have hfr:=zjK hw i hi
 have hmt:=zmq (A:=A) (u:=0) hi
 have hks:=zlz (A:=A) hi
 have hkl:=znR A (l.take i)
 have hkl2:=List.length_take_le' i l
 have hla:=hw.mem _ (List.getElem_mem hi)
 obtain ⟨a,ha⟩ : ∃ a,a = l[i]:=⟨_,rfl⟩
 rw [← ha] at hfr hmt hks hla
 have harc:=hA.arc _ (zbD hla)
 rw [zcQ hla] at hfr hmt hks harc
 obtain ⟨nd,hnd⟩ : ∃ nd,nd = ((0 : Int) :: metA A l).getD i 0:=⟨_,rfl⟩
 rw [← hnd] at hfr ⊢
 obtain ⟨t,ht⟩ : ∃ t,t = A[a].t:=⟨_,rfl⟩
 rw [← ht] at hmt hks harc
 have hli : (natL l)[i]? = some (a : Int):=by unfold natL; rw [List.getElem?_map,List.getElem?_eq_getElem hi,ha]; rfl
 have ha0 : ¬ (a : Int) < 0:=by omega
 have ha1 : ¬ (A.length : Int) ≤ a:=by omega
 obtain ⟨K,hK⟩ : ∃ K,K = zaY A (l.take i):=⟨_,rfl⟩
 rw [← hK] at hks hkl ⊢
 have hwi : IntKind.i64.wrap ((i : Int) + 1) = ((i + 1 : Nat) : Int):=by rw [w64 (by omega) (by omega)]; omega
 have hwl : IntKind.i64.wrap ((l.length : Int) - 1) = ((l.length - 1 : Nat) : Int):=by rw [w64 (by omega) (by omega)]; omega
 refine zab ?_
 refine zaa ⟨87,[(0,.I n),(1,eEs A),(2,ints (natL l)),(8,.rs 17 0 K.length),(9,.I nd),(10,.I i),(24,.B true)],[(17,some ⟨1,zae K,0⟩)],700⟩ rfl ?_ ?_
 ·simp
  exact Le.go [(17,17)] [] rfl rfl (by simp [hnl,hi]) (by simp [fcd])
 refine zac _ rfl (fun _=>?_) fun h=>by cases h
 refine zad ?_
 refine zab ?_
 refine zaf ?_
 refine zab ?_
 refine zaa ⟨87,[(0,.I n),(1,eEs A),(2,ints (natL l)),(8,.rs 17 0 K.length),(9,.I nd),(10,.I i),(52,.B false)],[(17,some ⟨1,zae K,0⟩)],1000⟩ rfl ?_ ?_
 ·simp [hli,ha0,ha1,hla,hfr]
  exact Le.go [(17,17)] [] rfl rfl (by simp [ha1,hfr]) (by simp [fcd])
 refine zac _ rfl (fun h=>by cases h) fun _=>?_
 refine zad ?_
 refine zaa ⟨87,[(0,.I n),(1,eEs A),(2,ints (natL l)),(8,.rs 17 0 K.length),(9,.I t),(10,.I i)],[(17,some ⟨1,zae K,0⟩)],1200⟩ rfl ?_ ?_
 ·simp [hli,hla,← ht]
  exact LeI [(17,17)] []
 refine zab ?_
 refine zaa ⟨87,[(0,.I n),(1,eEs A),(2,ints (natL l)),(8,.rs 17 0 K.length),(9,.I t),(10,.I i),(65,.B (decide (i = l.length - 1)))],[(17,some ⟨1,zae K,0⟩)],1300⟩ rfl ?_ ?_
 ·simp [hnl,hwl]
  exact Le.go [(17,17)] [] rfl rfl (by simp <;> exact wkB (by rw [Bool.eq_iff_iff]; simp; omega)) (by simp [fcd])
 refine zac _ rfl (fun h6=>?_) fun h6=>?_
 ·rw [decide_eq_true_eq] at h6
  have h1 : t = 1:=by
   have h2:=hw.last
   have h3 : ((0 : Int) :: metA A l).getD (i + 1) 0 = 1:=by rw [List.getD_eq_getElem?_getD,show i + 1 = l.length by omega,h2]; rfl
   rw [← hmt,h3]
  subst h1
  have hend : zaY A l = K:=by
   have h2 : l.take (i + 1) = l:=List.take_of_length_le (by omega)
   rw [h2] at hks
   rw [hks]
   simp [keyT]
  rw [hend]
  refine zam ?_
  refine miss (by decide) ?_
  refine hit ?_
  refine zab ?_
  refine zaa ⟨87,[(8,.rs 17 0 K.length),(85,.B false)],[(17,some ⟨1,zae K,0⟩)],1400⟩ rfl ?_ ?_
  ·simp
   exact LeI [(17,17)] []
  refine zac _ rfl (fun h=>by cases h) fun _=>?_
  refine zad ?_
  refine zaa ⟨87,[(6,ints K),(7,.I 0)],[],1500⟩ rfl ?_ ?_
  ·simp
   exact Le.go [] [17] rfl rfl (by simp [zaj,fcd]) (by simp)
  refine zah ?_
  exact ⟨.inr rfl,zan.out [] [] rfl (by simp) (by simp) (by simp) (by simp)⟩
 rw [decide_eq_false_iff_not] at h6
 have hi2 : i + 1 < l.length:=by omega
 have hfr2:=zjK hw (i + 1) hi2
 rw [hmt] at hfr2
 have harc2:=hA.arc _ (zbD (hw.mem _ (List.getElem_mem hi2)))
 rw [hfr2] at harc2
 have ht2 : 2 ≤ t ∧ t < 2 + 2 * n:=by omega
 have hent:=zth n t hn0 hn ht2.1 ht2.2
 obtain ⟨e,he⟩ : ∃ e,e = if t % 2 = 0 then (t - 2) / 2 else -1:=⟨_,rfl⟩
 rw [← he] at hent
 have hwa : IntKind.i64.wrap (2 * n) = 2 * n:=w64 (by omega) (by omega)
 have hwb : IntKind.i64.wrap (2 + 2 * n) = 2 + 2 * n:=w64 (by omega) (by omega)
 refine zad ?_
 refine zab ?_
 refine zaa ⟨87,[(0,.I n),(1,eEs A),(2,ints (natL l)),(8,.rs 17 0 K.length),(9,.I t),(10,.I i),(74,.B false)],[(17,some ⟨1,zae K,0⟩)],1500⟩ rfl ?_ ?_
 ·have h1 : ¬ t < 2:=by omega
  have h2 : ¬ 2 + 2 * n ≤ t:=by omega
  simp [h1,hwa,hwb]
  exact Le.go [(17,17)] [] rfl rfl (by simp [h2]) (by simp [fcd])
 refine zac _ rfl (fun h=>by cases h) fun _=>?_
 refine zad ?_
 refine zaa ⟨87,[(0,.I n),(1,eEs A),(2,ints (natL l)),(8,.rs 17 0 K.length),(9,.I t),(10,.I i),(11,.I e)],[(17,some ⟨1,zae K,0⟩)],1600⟩ rfl ?_ ?_
 ·simp
  refine zal hent (by simp) ?_
  simp
  exact LeI [(17,17)] []
 refine zaa ⟨87,[(0,.I n),(1,eEs A),(2,ints (natL l)),(8,.rs 17 0 K.length),(9,.I t),(10,.I i),(11,.I e),(79,.B (decide (0 ≤ e)))],[(17,some ⟨1,zae K,0⟩)],1700⟩ rfl ?_ ?_
 ·simp
  exact LeI [(17,17)] []
 refine zac _ rfl (fun h7=>?_) fun h7=>?_
 ·rw [decide_eq_true_eq] at h7
  have hev : t % 2 = 0:=Decidable.byContradiction fun h=>by rw [if_neg h] at he; omega
  rw [if_pos hev] at he
  have hkt : keyT t = some e:=by unfold keyT; rw [if_pos ⟨ht2.1,hev⟩,he]
  rw [hkt] at hks
  simp only [Option.toList] at hks
  refine zag (s:=?s40) rfl ?o40 ?q40
  case o40=>simp [zaj]; refine ⟨by omega,by omega,?_⟩; rfl
  refine zag (s:=?s41) rfl ?o41 ?q41
  case o41=>simp; rfl
  exact ⟨i + 1,hi2,by omega,Le.go [(1724,17)] [] rfl rfl (by simp [hks,hwi,← hmt]) (by simp [hks,fcd])⟩
 ·rw [decide_eq_false_iff_not] at h7
  have hod : ¬ t % 2 = 0:=fun h=>by rw [if_pos h] at he; omega
  have hkt : keyT t = none:=by unfold keyT; rw [if_neg fun h=>hod h.2]
  rw [hkt] at hks
  simp only [Option.toList,List.append_nil] at hks
  refine zad ?_
  refine zag (s:=?s42) rfl ?o42 ?q42
  case o42=>simp; rfl
  exact ⟨i + 1,hi2,by omega,Le.go [(17,17)] [] rfl rfl (by simp [hks,hwi,← hmt]) (by simp [hks,fcd])⟩
def atK (A : List Ed) (w : List Int) : Nat → Int
 | 0=>0
 | i + 1=>(arcD A (w.getD i 0).toNat).t
def OnK (A : List Ed) (w : List Int) (i : Nat) : Prop:=0 ≤ w.getD i 0 ∧ w.getD i 0 < A.length ∧ (arcD A (w.getD i 0).toNat).f = atK A w i
def EndK (n : Int) (A : List Ed) (w : List Int) (i : Nat) : Prop:=if i + 1 = w.length then atK A w (i + 1) = 1 else 2 ≤ atK A w (i + 1) ∧ atK A w (i + 1) < 2 + 2 * n
instance (A : List Ed) (w : List Int) (i : Nat) : Decidable (OnK A w i):=by unfold OnK; infer_instance
instance (n : Int) (A : List Ed) (w : List Int) (i : Nat) : Decidable (EndK n A w i):=by unfold EndK; infer_instance
def zrW (n : Int) (A : List Ed) (w : List Int) : Prop:=w ≠ [] ∧ ∀ i,i < w.length → OnK A w i ∧ EndK n A w i
def zhZ (A : List Ed) (w : List Int) (i : Nat) : List Int:=(List.range i).filterMap fun j=>keyT (atK A w (j + 1))
theorem zk6 (A : List Ed) (w : List Int) (i : Nat) : zhZ A w (i + 1) = zhZ A w i ++ (keyT (atK A w (i + 1))).toList:=by
 unfold zhZ
 rw [List.range_succ,List.filterMap_append,List.filterMap_cons,List.filterMap_nil]
 cases keyT (atK A w (i + 1)) <;> rfl
theorem zsx (A : List Ed) (w : List Int) (i : Nat) : (zhZ A w i).length ≤ i:=by
 unfold zhZ
 exact Nat.le_trans (List.length_filterMap_le ..) (by simp)
open Classical in
noncomputable def zjo (n : Int) (A : List Ed) (w : List Int) : Int:=if n < 0 ∨ 64 < n then 16 else if zrW n A w then 0 else 17
open Classical in
noncomputable def zhn (n : Int) (A : List Ed) (w : List Int) : List Int:=if n < 0 ∨ 64 < n then [] else if zrW n A w then zhZ A w w.length else []
theorem zud {t : Int} (h : 1 ≤ t) : (if t % 2 = 0 then (t - 2) / 2 else -1) = (keyT t).getD (-1):=by
 unfold keyT
 by_cases h2 : t % 2 = 0
 ·rw [if_pos h2,if_pos ⟨by omega,h2⟩]
  rfl
 ·rw [if_neg h2,if_neg fun h=>h2 h.2]
  rfl
theorem zpn {t k : Int} (h : keyT t = some k) : 0 ≤ k:=by
 unfold keyT at h
 split at h
 ·cases h
  omega
 ·cases h
theorem zoP {A : List Ed} : ∀ {l : List Nat} {i : Nat},i ≤ l.length → atK A (natL l) i = ((0 : Int) :: metA A l).getD i 0
 | l,0,_=>rfl
 | l,i + 1,h=>by
   have hi : i < l.length:=h
   rw [zmq hi]
   have : (natL l).getD i 0 = (l[i] : Int):=by unfold natL; rw [List.getD_eq_getElem?_getD,List.getElem?_map,List.getElem?_eq_getElem hi]; rfl
   show (arcD A ((natL l).getD i 0).toNat).t = _
   rw [this]
   rfl
theorem znU {n : Int} {A : List Ed} {l : List Nat} (hn0 : 0 ≤ n) (hn : n ≤ 64) (hA : zc5 (2 + 2 * n).toNat A) (hw : WayA A 0 l 1) : zjo n A (natL l) = 0 ∧ zhn n A (natL l) = zaY A l:=by
 have hne : ¬ (n < 0 ∨ 64 < n):=by omega
 have hl0 : l ≠ []:=fun e=>by
  subst e
  have : (0 : Int) = 1:=hw
  omega
 have hok : zrW n A (natL l):=by
  refine ⟨fun e=>hl0 (by unfold natL at e; simpa using e),fun i hi=>?_⟩
  rw [zdo] at hi
  have hg : (natL l).getD i 0 = (l[i] : Int):=by unfold natL; rw [List.getD_eq_getElem?_getD,List.getElem?_map,List.getElem?_eq_getElem hi]; rfl
  have hm:=hw.mem _ (List.getElem_mem hi)
  refine ⟨⟨by rw [hg]; omega,by rw [hg]; omega,?_⟩,?_⟩
  ·rw [hg,zoP (by omega)]
   exact zjK hw i hi
  ·unfold EndK
   rw [zdo,zoP hi]
   by_cases hl : i + 1 = l.length
   ·rw [if_pos hl]
    have:=hw.last
    rw [← hl] at this
    rw [List.getD_eq_getElem?_getD,this]
    rfl
   ·rw [if_neg hl]
    have hi2 : i + 1 < l.length:=by omega
    have h1:=zjK hw (i + 1) hi2
    have h2:=hA.arc _ (zbD (hw.mem _ (List.getElem_mem hi2)))
    have h3:=hA.arc _ (zbD hm)
    have h4:=zmq (A:=A) (u:=0) hi
    rw [← h1]
    rw [← h1] at h4
    omega
 refine ⟨by unfold zjo; rw [if_neg hne,if_pos hok],?_⟩
 unfold zhn
 rw [if_neg hne,if_pos hok,zdo]
 have : ∀ i,i ≤ l.length → zhZ A (natL l) i = zaY A (l.take i):=by
  intro i
  induction i with
  | zero=>intro _; rfl
  | succ i ih =>
    intro h
    have hi : i < l.length:=h
    rw [zk6,ih (by omega),zlz hi,zoP hi,zmq hi]
 rw [this _ (Nat.le_refl _),List.take_length]
theorem ziH (n t : Int) (hn0 : 0 ≤ n) (hn : n ≤ 64) (ht : t = 1 ∨ 2 ≤ t ∧ t < 2 + 2 * n) : zak Tryz.prog zen [.I t,.I n] [] (.I ((keyT t).getD (-1))) []:=by
 refine zkA.acalls (nbz rfl) (nbz rfl) (Nat.le_refl _) ?_
 show awp _ 0 _ _ ⟨23,[(0,.I t),(1,.I n)],[],16⟩
 have hk:=zud (t:=t) (by omega)
 rw [← hk]
 have hw3 : IntKind.i64.wrap (t - 2) = t - 2:=w64 (by omega) (by omega)
 obtain ⟨k,hkd⟩ : ∃ k,k = Int.tdiv (t - 2) 2:=⟨_,rfl⟩
 have hkb : -1 ≤ k ∧ k ≤ 64 ∧ (2 ≤ t → k = (t - 2) / 2):=by
  rcases ht with rfl | ht
  ·rw [hkd]; decide
  ·have hd : Int.tdiv (t - 2) 2 = (t - 2) / 2:=Int.tdiv_eq_ediv_of_nonneg (by omega)
   rw [hkd,hd]
   omega
 have hw4 : IntKind.i64.wrap k = k:=w64 (by omega) (by omega)
 refine zaa ⟨23,[(0,.I t),(1,.I n)],[],100⟩ rfl ?_ ?_
 ·simp
  exact LeH [] []
 refine zab ?_
 refine zaa ⟨23,[(0,.I t),(1,.I n),(5,.I k)],[],200⟩ rfl ?_ ?_
 ·simp [hw3,← hkd,hw4]
  exact LeH [] []
 refine zaa ⟨23,[(5,.I k),(21,.B (decide (2 ≤ t ∧ t % 2 = 0)))],[],300⟩ rfl ?_ ?_
 ·rcases ht with rfl | ht
  ·simp
   exact LeH [] []
  ·have hk2:=hkb.2.2 ht.1
   have he:=zbu k (by omega) (by omega)
   have h1 : k < n:=by omega
   simp [ht.1,h1]
   refine zal he (by simp) ?_
   simp
   exact Le.go [] [] rfl rfl (by simp <;> exact wkB (by rw [Bool.eq_iff_iff]; simp; omega)) (by simp)
 refine zac _ rfl (fun h=>?_) fun h=>?_
 ·rw [decide_eq_true_eq] at h
  rw [if_pos h.2,← hkb.2.2 h.1]
  refine zaa ⟨23,[(4,.I k)],[],400⟩ rfl ?_ ?_
  ·simp
   exact LeH [] []
  refine zah ?_
  exact ⟨.inr rfl,zan.one (by simp)⟩
 rw [decide_eq_false_iff_not] at h
 rw [if_neg (by omega)]
 refine zad ?_
 refine zaa ⟨23,[(4,.I (-1))],[],400⟩ rfl ?_ ?_
 ·simp
  exact LeH [] []
 refine zah ?_
 exact ⟨.inr rfl,zan.one (by simp)⟩
theorem zh5 (n t : Int) (hn0 : 0 ≤ n) (hn : n ≤ 64) : zak Tryz.prog zdS [.I t,.I n] [] (.B (decide (2 ≤ t ∧ t < 2 + 2 * n))) []:=by
 refine zjn.acalls (nbz rfl) (nbz rfl) (Nat.le_refl _) ?_
 show awp _ 0 _ _ ⟨14,[(0,.I t),(1,.I n)],[],16⟩
 have hw1 : IntKind.i64.wrap (2 * n) = 2 * n:=w64 (by omega) (by omega)
 have hw2 : IntKind.i64.wrap (2 + 2 * n) = 2 + 2 * n:=w64 (by omega) (by omega)
 refine zaa ⟨14,[(0,.I t),(1,.I n)],[],100⟩ rfl ?_ ?_
 ·simp
  exact LeH [] []
 refine zaa ⟨14,[(4,.B (decide (2 ≤ t ∧ t < 2 + 2 * n)))],[],200⟩ rfl ?_ ?_
 ·simp
  refine zb2 (fun hb=>?_) (fun hb=>?_) <;> (try rw [hb]) <;> (try simp at hb) <;> simp [hb,hw1,hw2]
  ·exact Le.go [] [] rfl rfl (by simp [hb]) (by simp)
  ·exact Le.go [] [] rfl rfl (by simp [hb]) (by simp)
 refine zah ?_
 exact ⟨.inr rfl,zan.one (by simp)⟩
set_option maxRecDepth 100000 in
set_option maxHeartbeats 4000000 in
theorem zkk (n : Int) (A : List Ed) (w : List Int) (hA : A.length ≤ 1000000) (hw : w.length ≤ 1000000) : zak Tryz.prog ze9 [.I n,eEs A,ints w] [] (.tup [ints (zhn n A w),.I (zjo n A w)]) []:=by
 refine zmp.acalls (nbz rfl) (nbz rfl) (Nat.le_refl _) ?_
 show awp _ 0 _ _ ⟨82,[(0,.I n),(1,eEs A),(2,ints w)],[],16⟩
 refine zaa ⟨82,[(0,.I n),(1,eEs A),(2,ints w)],[],100⟩ rfl ?_ ?_
 ·simp
  exact LeH [] []
 refine zab ?_
 refine zaa ⟨82,[(0,.I n),(1,eEs A),(2,ints w),(19,.B (decide (n < 0 ∨ 64 < n)))],[],200⟩ rfl ?_ ?_
 ·simp
  refine zb2 (fun hb=>?_) (fun hb=>?_) <;> (try rw [hb]) <;> (try simp at hb) <;> simp [hb]
  ·exact Le.go [] [] rfl rfl (by simp [hb]) (by simp)
  ·exact Le.go [] [] rfl rfl (by simp <;> exact wkB (by rw [Bool.eq_iff_iff]; simp; omega)) (by simp)
 refine zac _ rfl (fun h1=>?_) fun h1=>?_
 ·rw [decide_eq_true_eq] at h1
  rw [show zhn n A w = [] by unfold zhn; rw [if_pos h1],show zjo n A w = 16 by unfold zjo; rw [if_pos h1]]
  refine zaa ⟨82,[(6,.nilS),(7,.I 16)],[],300⟩ rfl ?_ ?_
  ·simp
   exact LeH [] []
  refine zah ?_
  exact ⟨.inr rfl,zan.out [] [] rfl (by simp) (by simp) (by simp; exact wkT2 (.nil _ _) (.refl _)) (by simp)⟩
 rw [decide_eq_false_iff_not] at h1
 have hno : ¬ zrW n A w → zhn n A w = [] ∧ zjo n A w = 17:=fun h=>⟨by unfold zhn; rw [if_neg h1,if_neg h],by unfold zjo; rw [if_neg h1,if_neg h]⟩
 have hyes : zrW n A w → zhn n A w = zhZ A w w.length ∧ zjo n A w = 0:=fun h=>⟨by unfold zhn; rw [if_neg h1,if_pos h],by unfold zjo; rw [if_neg h1,if_pos h]⟩
 have hn0 : 0 ≤ n:=by omega
 have hn : n ≤ 64:=by omega
 refine zad ?_
 refine zaa ⟨82,[(0,.I n),(1,eEs A),(2,ints w),(8,.nilS)],[],400⟩ rfl ?_ ?_
 ·simp
  exact LeH [] []
 refine zaa ⟨82,[(0,.I n),(1,eEs A),(2,ints w),(8,.nilS),(9,.I 0)],[],500⟩ rfl ?_ ?_
 ·simp
  exact LeH [] []
 refine zab ?_
 refine zaa ⟨82,[(0,.I n),(1,eEs A),(2,ints w),(8,.nilS),(9,.I 0),(20,ints w),(21,.I w.length),(22,.I 0)],[],600⟩ rfl ?_ ?_
 ·simp
  exact LeH [] []
 refine zaf ?_
 refine zao (ι:=Nat) (fun i=>⟨82,[(0,.I n),(1,eEs A),(2,ints w),(8,.rs 17 0 (zhZ A w i).length),(9,.I (atK A w i)),(20,ints w),(21,.I w.length),(22,.I i)],[(17,some ⟨1,zae (zhZ A w i),0⟩)],600⟩)
  (fun i=>i ≤ w.length ∧ ∀ j,j < i → OnK A w j ∧ EndK n A w j) (fun i=>w.length - i) 0 ⟨Nat.zero_le _,fun j h=>absurd h (Nat.not_lt_zero _)⟩ (Le.lst [] [] [(17,1)] rfl (by simp) (by simp) (by simp) (by simp) (by simp) (by simp) (by simp) (by simp [Up,zhZ,atK]) (by simp [zhZ])) ?_
 rintro i ⟨hi,hij⟩
 have hks:=zk6 A w i
 have hkl:=zsx A w i
 obtain ⟨K,hK⟩ : ∃ K,K = zhZ A w i:=⟨_,rfl⟩
 have hat1 : atK A w (i + 1) = (arcD A (w.getD i 0).toNat).t:=rfl
 obtain ⟨nd,hnd⟩ : ∃ nd,nd = atK A w i:=⟨_,rfl⟩
 rw [← hK] at hks hkl ⊢
 rw [← hnd]
 refine zaa ⟨82,[(0,.I n),(1,eEs A),(2,ints w),(8,.rs 17 0 K.length),(9,.I nd),(20,ints w),(21,.I w.length),(22,.I i),(23,.B (decide (i < w.length)))],[(17,some ⟨1,zae K,0⟩)],700⟩ rfl ?_ ?_
 ·simp
  exact LeI [(17,17)] []
 refine zab ?_
 refine zac _ rfl (fun h2=>?_) fun h2=>?_
 ·rw [decide_eq_true_eq] at h2
  obtain ⟨v,hv⟩ : ∃ v,v = w[i]:=⟨_,rfl⟩
  have hwi : w[i]? = some v:=by rw [List.getElem?_eq_getElem h2,hv]
  have hvD : w.getD i 0 = v:=by rw [List.getD_eq_getElem?_getD,hwi]; rfl
  have hwn : IntKind.i64.wrap ((i : Int) + 1) = ((i + 1 : Nat) : Int):=by rw [w64 (by omega) (by omega)]; omega
  have hwl : IntKind.i64.wrap ((w.length : Int) - 1) = ((w.length - 1 : Nat) : Int):=by rw [w64 (by omega) (by omega)]; omega
  obtain ⟨b,hb⟩ : ∃ b,b = decide (¬ OnK A w i):=⟨_,rfl⟩
  refine zad ?_
  refine zab ?_
  refine zaf ?_
  refine zaa ⟨82,[(0,.I n),(1,eEs A),(2,ints w),(8,.rs 17 0 K.length),(9,.I nd),(10,.I i),(11,.I v),(20,ints w),(21,.I w.length),(22,.I i)],[(17,some ⟨1,zae K,0⟩)],800⟩ rfl ?_ ?_
  ·simp [hwi,h2,← hv]
   exact LeI [(17,17)] []
  refine zab ?_
  refine zaa ⟨82,[(0,.I n),(1,eEs A),(2,ints w),(8,.rs 17 0 K.length),(9,.I nd),(10,.I i),(11,.I v),(20,ints w),(21,.I w.length),(22,.I i),(43,.B b)],[(17,some ⟨1,zae K,0⟩)],1200⟩ rfl ?_ ?_
  ·by_cases c1 : v < 0
   ·have hb' : b = true:=by rw [hb,decide_eq_true_eq]; intro h; have:=h.1; omega
    simp [c1]
    exact Le.go [(17,17)] [] rfl rfl (by simp [hb']) (by simp [fcd])
   by_cases c2 : (A.length : Int) ≤ v
   ·have hb' : b = true:=by rw [hb,decide_eq_true_eq]; intro h; have:=h.2.1; omega
    simp [c1,c2]
    exact Le.go [(17,17)] [] rfl rfl (by simp [hb',c2]) (by simp [fcd])
   have hva : v.toNat < A.length:=by omega
   have c3 : (0 : Int) ≤ v ∧ v < A.length:=by omega
   have hgA : A[v.toNat]? = some A[v.toNat]:=List.getElem?_eq_getElem hva
   have hf : (arcD A (w.getD i 0).toNat).f = A[v.toNat].f:=by rw [hvD,zcQ hva]
   have hb' : b = decide (A[v.toNat].f ≠ nd):=by
    rw [hb,decide_eq_decide]
    unfold OnK
    rw [hf,hvD,← hnd]
    constructor
    ·intro h he; exact h ⟨c3.1,c3.2,he⟩
    ·intro h he; exact h he.2.2
   simp [c1,c2,c3,hgA,hva]
   exact Le.go [(17,17)] [] rfl rfl (by simp [c2] <;> exact wkB (by rw [hb',Bool.eq_iff_iff]; simp)) (by simp [fcd])
  refine zac _ rfl (fun h3=>?_) fun h3=>?_
  ·rw [h3] at hb
   have hbad:=hno fun h=>(of_decide_eq_true hb.symm) (h.2 i h2).1
   rw [hbad.1,hbad.2]
   refine zaa ⟨82,[(6,.nilS),(7,.I 17)],[],1500⟩ rfl ?_ ?_
   ·simp
    exact LeH [] []
   refine zah ?_
   exact ⟨.inr rfl,zan.out [] [] rfl (by simp) (by simp) (by simp; exact wkT2 (.nil _ _) (.refl _)) (by simp)⟩
  rw [h3] at hb
  have hon : OnK A w i:=Decidable.not_not.1 (of_decide_eq_false hb.symm)
  have c3 : (0 : Int) ≤ v ∧ v < A.length:=by rw [← hvD]; exact ⟨hon.1,hon.2.1⟩
  have hva : v.toNat < A.length:=by omega
  have hgA : A[v.toNat]? = some A[v.toNat]:=List.getElem?_eq_getElem hva
  have htA : atK A w (i + 1) = A[v.toNat].t:=by rw [hat1,hvD,zcQ hva]
  obtain ⟨t,ht⟩ : ∃ t,t = atK A w (i + 1):=⟨_,rfl⟩
  rw [← ht] at htA hks
  obtain ⟨b2,hb2⟩ : ∃ b2,b2 = decide (¬ EndK n A w i):=⟨_,rfl⟩
  obtain ⟨b1,hb1⟩ : ∃ b1,b1 = decide (i + 1 = w.length):=⟨_,rfl⟩
  refine zad ?_
  refine zaa ⟨82,[(0,.I n),(1,eEs A),(2,ints w),(8,.rs 17 0 K.length),(9,.I t),(10,.I i),(20,ints w),(21,.I w.length),(22,.I i)],[(17,some ⟨1,zae K,0⟩)],1600⟩ rfl ?_ ?_
  ·simp [c3,hgA,hva,← htA]
   exact LeI [(17,17)] []
  refine zab ?_
  refine zaa ⟨82,[(0,.I n),(1,eEs A),(2,ints w),(8,.rs 17 0 K.length),(9,.I t),(12,.B b1),(20,ints w),(21,.I w.length),(22,.I i)],[(17,some ⟨1,zae K,0⟩)],1700⟩ rfl ?_ ?_
  ·simp [hwl]
   exact Le.go [(17,17)] [] rfl rfl (by simp <;> exact wkB (by rw [hb1,Bool.eq_iff_iff]; simp; omega)) (by simp [fcd])
  refine zaa ⟨82,[(0,.I n),(1,eEs A),(2,ints w),(8,.rs 17 0 K.length),(9,.I t),(20,ints w),(21,.I w.length),(22,.I i),(67,.B b2)],[(17,some ⟨1,zae K,0⟩)],1900⟩ rfl ?_ ?_
  ·by_cases c4 : i + 1 = w.length
   ·have hE : EndK n A w i ↔ t = 1:=by unfold EndK; rw [if_pos c4,← ht]
    rw [decide_eq_true c4] at hb1
    by_cases c5 : t = 1
    ·have hb' : b2 = false:=by rw [hb2]; simp [hE,c5]
     simp [hb1,c5]
     exact Le.go [(17,17)] [] rfl rfl (by simp [hb',c5]) (by simp [fcd])
    ·have hb' : b2 = true:=by rw [hb2]; simp [hE,c5]
     have c6 : (t == 1) = false:=by simp [c5]
     simp [hb1,c6]
     exact Le.go [(17,17)] [] rfl rfl (by simp [hb']) (by simp [fcd])
   ·have hE : EndK n A w i ↔ 2 ≤ t ∧ t < 2 + 2 * n:=by unfold EndK; rw [if_neg c4,← ht]
    rw [decide_eq_false c4] at hb1
    by_cases c5 : t = 1
    ·have hb' : b2 = true:=by rw [hb2,decide_eq_true_eq,hE]; omega
     simp [hb1,c5]
     exact Le.go [(17,17)] [] rfl rfl (by simp [hb',c5]) (by simp [fcd])
    ·have hins:=zh5 n t hn0 hn
     obtain ⟨b3,hb3⟩ : ∃ b3,b3 = decide (2 ≤ t ∧ t < 2 + 2 * n):=⟨_,rfl⟩
     rw [← hb3] at hins
     have hb' : b2 = !b3:=by rw [hb2,hb3,Bool.eq_iff_iff]; simp [hE]
     have c6 : (t == 1) = false:=by simp [c5]
     simp [hb1,c6]
     refine zal hins (by simp) ?_
     simp
     exact Le.go [(17,17)] [] rfl rfl (by simp [hb']) (by simp [fcd])
  refine zac _ rfl (fun h4=>?_) fun h4=>?_
  ·rw [h4] at hb2
   have hbad:=hno fun h=>(of_decide_eq_true hb2.symm) (h.2 i h2).2
   rw [hbad.1,hbad.2]
   refine zaa ⟨82,[(6,.nilS),(7,.I 17)],[],2500⟩ rfl ?_ ?_
   ·simp
    exact LeH [] []
   refine zah ?_
   exact ⟨.inr rfl,zan.out [] [] rfl (by simp) (by simp) (by simp; exact wkT2 (.nil _ _) (.refl _)) (by simp)⟩
  rw [h4] at hb2
  have hend : EndK n A w i:=Decidable.not_not.1 (of_decide_eq_false hb2.symm)
  have hmore : ∀ j,j < i + 1 → OnK A w j ∧ EndK n A w j:=fun j hj=>by
   rcases Nat.lt_succ_iff_lt_or_eq.1 hj with h | rfl
   ·exact hij j h
   ·exact ⟨hon,hend⟩
  have htr : t = 1 ∨ 2 ≤ t ∧ t < 2 + 2 * n:=by
   unfold EndK at hend
   rw [← ht] at hend
   split at hend
   ·exact .inl hend
   ·exact .inr hend
  have hent:=ziH n t hn0 hn htr
  refine zad ?_
  refine zaa ⟨82,[(0,.I n),(1,eEs A),(2,ints w),(8,.rs 17 0 K.length),(9,.I t),(13,.I ((keyT t).getD (-1))),(20,ints w),(21,.I w.length),(22,.I i)],[(17,some ⟨1,zae K,0⟩)],2600⟩ rfl ?_ ?_
  ·simp
   refine zal hent (by simp) ?_
   simp
   exact LeI [(17,17)] []
  cases hkt : keyT t with
  | none =>
    rw [hkt] at hks
    simp only [Option.toList,List.append_nil] at hks
    refine zaa ⟨82,[(0,.I n),(1,eEs A),(2,ints w),(8,.rs 17 0 K.length),(9,.I t),(20,ints w),(21,.I w.length),(22,.I i),(72,.B false)],[(17,some ⟨1,zae K,0⟩)],2700⟩ rfl ?_ ?_
    ·simp [hkt]
     exact LeI [(17,17)] []
    refine zac _ rfl (fun h=>by cases h) fun _=>?_
    refine zad ?_
    refine zag (s:=?s42) rfl ?o42 ?q42
    case o42=>simp; rfl
    exact ⟨i + 1,⟨h2,hmore⟩,by omega,Le.go [(17,17)] [] rfl rfl (by simp [hks,hwn,← ht]) (by simp [hks,fcd])⟩
  | some k =>
    have hk0:=zpn hkt
    rw [hkt] at hks
    simp only [Option.toList] at hks
    refine zaa ⟨82,[(0,.I n),(1,eEs A),(2,ints w),(8,.rs 17 0 K.length),(9,.I t),(13,.I k),(20,ints w),(21,.I w.length),(22,.I i),(72,.B true)],[(17,some ⟨1,zae K,0⟩)],2700⟩ rfl ?_ ?_
    ·simp [hkt]
     exact Le.go [(17,17)] [] rfl rfl (by simp [hk0]) (by simp [fcd])
    refine zac _ rfl (fun _=>?_) fun h=>by cases h
    refine zag (s:=?s40) rfl ?o40 ?q40
    case o40=>simp [zaj]; refine ⟨by omega,by omega,?_⟩; rfl
    refine zag (s:=?s41) rfl ?o41 ?q41
    case o41=>simp; rfl
    exact ⟨i + 1,⟨h2,hmore⟩,by omega,Le.go [(2724,17)] [] rfl rfl (by simp [hks,hwn,← ht]) (by simp [hks,fcd])⟩
 rw [decide_eq_false_iff_not] at h2
 obtain rfl : i = w.length:=by omega
 refine zam ?_
 refine hit ?_
 refine zab ?_
 refine zaa ⟨82,[(8,.rs 17 0 K.length),(80,.B (decide (w = [])))],[(17,some ⟨1,zae K,0⟩)],800⟩ rfl ?_ ?_
 ·simp
  exact Le.go [(17,17)] [] rfl rfl (by simp <;> exact wkB (by rw [Bool.eq_iff_iff]; simp)) (by simp [fcd])
 refine zac _ rfl (fun h4=>?_) fun h4=>?_
 ·rw [decide_eq_true_eq] at h4
  have hbad:=hno fun h=>h.1 h4
  rw [hbad.1,hbad.2]
  refine zaa ⟨82,[(6,.nilS),(7,.I 17)],[],1500⟩ rfl ?_ ?_
  ·simp
   exact LeH [] []
  refine zah ?_
  exact ⟨.inr rfl,zan.out [] [] rfl (by simp) (by simp) (by simp; exact wkT2 (.nil _ _) (.refl _)) (by simp)⟩
 rw [decide_eq_false_iff_not] at h4
 have hok:=hyes ⟨h4,fun j hj=>hij j hj⟩
 rw [hok.1,hok.2,← hK]
 refine zad ?_
 refine zaa ⟨82,[(6,ints K),(7,.I 0)],[],1500⟩ rfl ?_ ?_
 ·simp
  exact Le.go [] [17] rfl rfl (by simp [zaj,fcd]) (by simp)
 refine zah ?_
 exact ⟨.inr rfl,zan.out [] [] rfl (by simp) (by simp) (by simp) (by simp)⟩
def zcY (l : List (Int × AV)) : List (List AV):=l.map fun p=>[.sc (.int .i64 p.1),p.2]
theorem zff (n : Int) : ∀ l : List (Int × AV),zcW n (zcY l) = (l.find? (fun p=>p.1 = n)).map (·.2)
 | []=>rfl
 | (k,x) :: l=>by
   have ih:=zff n l
   simp only [zcY] at ih
   simp only [zcY,List.map_cons,zcW,List.find?_cons]
   by_cases h : n = k
   ·simp [h]
   ·have h' : ¬ k = n:=fun e=>h e.symm
    simp [h,h',ih]
def MapR (rows : List (List AV)) (φ : Int → Option AV) : Prop:=∃ l : List (Int × AV),rows = zcY l ∧ (l.map (·.1)).Nodup ∧ ∀ n,zcW n rows = φ n
theorem MapR.find {rows : List (List AV)} {φ : Int → Option AV} (h : MapR rows φ) (n : Int) : zcW n rows = φ n:=by
 obtain ⟨_,_,_,h⟩:=h
 exact h n
theorem MapR.nil : MapR [] fun _=>none:=⟨[],rfl,by simp,fun _=>rfl⟩
theorem zlj (n : Int) (y : AV) : ∀ l : List (Int × AV),∃ l',mset n y (zcY l) = zcY l' ∧ (∀ k,k ∈ l'.map (·.1) ↔ k = n ∨ k ∈ l.map (·.1)) ∧ ((l.map (·.1)).Nodup → (l'.map (·.1)).Nodup) ∧ ∀ k,zcW k (zcY l') = if k = n then some y else zcW k (zcY l)
 | []=>⟨[(n,y)],rfl,by simp,by simp,fun k=>by simp [zcY,zcW]⟩
 | (i,x) :: l=>by
   by_cases h : n = i
   ·subst h
    refine ⟨(n,y) :: l,by simp [zcY,mset],by simp,by simp,fun k=>?_⟩
    simp only [zcY,List.map_cons,zcW]
    split <;> rfl
   ·obtain ⟨l',h1,h2,h3,h4⟩:=zlj n y l
    refine ⟨(i,x) :: l',?_,fun k=>?_,fun hn=>?_,fun k=>?_⟩
    ·simp only [zcY] at h1
     simp [zcY,mset,h,h1]
    ·simp only [List.map_cons,List.mem_cons,h2]
     constructor
     ·rintro (h | h | h) <;> simp [h]
     ·rintro (h | h | h) <;> simp [h]
    ·rw [List.map_cons,List.nodup_cons] at hn ⊢
     exact ⟨fun hm=>((h2 i).1 hm).elim (fun e=>h e.symm) hn.1,h3 hn.2⟩
    ·have h4:=h4 k
     simp only [zcY] at h4
     simp only [zcY,List.map_cons,zcW,h4]
     by_cases hk : k = i
     ·subst hk
      simp [show ¬ k = n from fun e=>h e.symm]
     ·simp [hk]
theorem MapR.set {rows : List (List AV)} {φ : Int → Option AV} (h : MapR rows φ) (n : Int) (y : AV) : MapR (mset n y rows) fun k=>if k = n then some y else φ k:=by
 obtain ⟨l,rfl,hn,hf⟩:=h
 obtain ⟨l',h1,_,h3,h4⟩:=zlj n y l
 exact ⟨l',h1,h3 hn,fun k=>by rw [h1,h4,hf]⟩
theorem zlc (n : Int) : ∀ l : List (Int × AV),(l.map (·.1)).Nodup → ∃ l',mdel n (zcY l) = zcY l' ∧ (∀ k,k ∈ l'.map (·.1) → k ∈ l.map (·.1)) ∧ (l'.map (·.1)).Nodup ∧ ∀ k,zcW k (zcY l') = if k = n then none else zcW k (zcY l)
 | [],_=>⟨[],rfl,by simp,by simp,fun k=>by simp [zcY,zcW]⟩
 | (i,x) :: l,hn=>by
   rw [List.map_cons,List.nodup_cons] at hn
   by_cases h : n = i
   ·subst h
    refine ⟨l,by simp [zcY,mdel],fun k hk=>by simp only [List.map_cons,List.mem_cons]; exact .inr hk,hn.2,fun k=>?_⟩
    simp only [zcY,List.map_cons,zcW]
    by_cases hk : k = n
    ·subst hk
     rw [if_pos rfl,show List.map (fun p : Int × AV=>[AV.sc (.int .i64 p.1),p.2]) l = zcY l from rfl,zff]
     rw [List.find?_eq_none.2]
     ·rfl
     ·intro p hp
      simp only [decide_eq_true_eq]
      exact fun e=>hn.1 (List.mem_map.2 ⟨p,hp,e⟩)
    ·simp [hk]
   ·obtain ⟨l',h1,h2,h3,h4⟩:=zlc n l hn.2
    refine ⟨(i,x) :: l',?_,fun k=>?_,?_,fun k=>?_⟩
    ·simp only [zcY] at h1
     simp [zcY,mdel,h,h1]
    ·simp only [List.map_cons,List.mem_cons]
     rintro (e | e)
     ·exact .inl e
     ·exact .inr (h2 k e)
    ·rw [List.map_cons,List.nodup_cons]
     exact ⟨fun hm=>hn.1 (h2 i hm),h3⟩
    ·have h4:=h4 k
     simp only [zcY] at h4
     simp only [zcY,List.map_cons,zcW,h4]
     by_cases hk : k = i
     ·subst hk
      simp [show ¬ k = n from fun e=>h e.symm]
     ·simp [hk]
theorem MapR.del {rows : List (List AV)} {φ : Int → Option AV} (h : MapR rows φ) (n : Int) : MapR (mdel n rows) fun k=>if k = n then none else φ k:=by
 obtain ⟨l,rfl,hn,hf⟩:=h
 obtain ⟨l',h1,_,h3,h4⟩:=zlc n l hn
 exact ⟨l',h1,h3,fun k=>by rw [h1,h4,hf]⟩
def posN : List Int → Int → Option Nat
 | [],_=>none
 | x :: l,y=>if x = y then some 0 else (posN l y).map (· + 1)
theorem zjv : ∀ {l : List Int} {y : Int},posN l y = none ↔ y ∉ l
 | [],y=>by simp [posN]
 | x :: l,y=>by
   simp only [posN,List.mem_cons]
   by_cases h : x = y
   ·simp [h]
   ·rw [if_neg h,Option.map_eq_none_iff,zjv]
    simp [show ¬ y = x from fun e=>h e.symm]
theorem zl5 : ∀ {l : List Int} {y : Int} {k : Nat},posN l y = some k → l[k]? = some y
 | [],y,k,h=>by simp [posN] at h
 | x :: l,y,k,h=>by
   simp only [posN] at h
   split at h
   ·rename_i e
    cases h
    simp [e]
   ·obtain ⟨j,hj,rfl⟩:=Option.map_eq_some_iff.1 h
    simpa using zl5 hj
theorem zm7 : ∀ {l : List Int} {y z : Int},z ∉ l → posN (l ++ [z]) y = if y = z then some l.length else posN l y
 | [],y,z,_=>by
   simp only [List.nil_append,posN,Option.map_none,List.length_nil]
   by_cases h : z = y
   ·simp [h]
   ·simp [h,show ¬ y = z from fun e=>h e.symm]
 | x :: l,y,z,hz=>by
   have hz' : z ∉ l:=fun h=>hz (by simp [h])
   have hx : x ≠ z:=fun e=>hz (by simp [e])
   simp only [List.cons_append,posN,zm7 hz']
   by_cases h : y = z
   ·subst h
    simp [hx]
   ·simp [h]
theorem zmL : ∀ {l : List Int} {x y : Int} {k : Nat},l.Nodup → l[k]? = some x → posN (l.take (k + 1)) y = if y = x then some k else if y ∈ l.drop (k + 1) then none else posN l y
 | [],x,y,k,_,h=>by simp at h
 | a :: l,x,y,0,hn,h=>by
   have : a = x:=by simpa using h
   subst this
   rw [List.nodup_cons] at hn
   simp only [Nat.zero_add,List.take_succ_cons,List.take_zero,posN,Option.map_none,List.drop_succ_cons,List.drop_zero]
   by_cases h1 : a = y
   ·simp [h1]
   ·rw [if_neg h1,if_neg fun e=>h1 e.symm]
    split
    ·rfl
    ·rename_i h2
     rw [zjv.2 h2]
     rfl
 | a :: l,x,y,k + 1,hn,h=>by
   rw [List.nodup_cons] at hn
   have h : l[k]? = some x:=by simpa using h
   have ih:=zmL (y:=y) hn.2 h
   have hax : a ≠ x:=fun e=>hn.1 (e ▸ List.mem_of_getElem? h)
   simp only [List.take_succ_cons,posN,List.drop_succ_cons,ih]
   by_cases h1 : a = y
   ·subst h1
    rw [if_pos rfl,if_neg hax,if_neg fun h=>hn.1 (List.mem_of_mem_drop h),if_pos rfl]
   ·rw [if_neg h1,if_neg h1]
    split
    ·rfl
    ·split <;> rfl
def metF (A : List Ed) (l : List Nat) : Int → Option AV:=fun x=>(posN ((0 : Int) :: metA A l) x).map fun (k : Nat)=>AV.I (k : Int)
theorem zsd {A : List Ed} {l : List Nat} {i : Nat} (h : (arcD A i).t ∉ (0 : Int) :: metA A l) : metF A (l ++ [i]) = fun x=>if x = (arcD A i).t then some (.I (l.length + 1 : Nat)) else metF A l x:=by
 funext x
 have e : (0 : Int) :: metA A (l ++ [i]) = ((0 : Int) :: metA A l) ++ [(arcD A i).t]:=by rw [zg3]; rfl
 rw [metF,e,zm7 h]
 split
 ·simp [metA]
 ·rfl
theorem zrK {A : List Ed} {l : List Nat} {i k : Nat} (hn : ((0 : Int) :: metA A l).Nodup) (h : posN ((0 : Int) :: metA A l) (arcD A i).t = some k) :
  metF A (l.take k) = fun x=>if x = (arcD A i).t then some (.I k) else if x ∈ metA A ((l ++ [i]).drop k) then none else metF A l x:=by
 funext x
 have hk:=zl5 h
 have hkl : k ≤ l.length:=by
  have:=(List.getElem?_eq_some_iff.1 hk).1
  simp [metA] at this
  omega
 have e : (0 : Int) :: metA A (l.take k) = ((0 : Int) :: metA A l).take (k + 1):=by simp [metA,List.map_take]
 have e2 : metA A ((l ++ [i]).drop k) = ((0 : Int) :: metA A l).drop (k + 1) ++ [(arcD A i).t]:=by
  rw [List.drop_append_of_le_length hkl]
  simp [metA,List.map_drop]
 simp only [metF,e,e2,zmL hn hk,List.mem_append,List.mem_singleton]
 by_cases h1 : x = (arcD A i).t
 ·simp [h1]
 ·simp only [if_neg h1,h1,or_false]
  by_cases h2 : x ∈ List.drop k (metA A l)
  ·simp [h2]
  ·simp [h2]
def famH (s N : Nat) (E : Nat → List (List AV)) : List (Nat × Option Ent):=(List.range N).map fun k=>(k + 1000,some ⟨s,E k,0⟩)
def famV (E : Nat → List (List AV)) (k : Nat) : AV:=.rs (k + 1000) 0 (E k).length
def famO (N : Nat) (E : Nat → List (List AV)) : List (List AV):=(List.range N).map fun k=>[famV E k]
theorem zhy (N : Nat) (E : Nat → List (List AV)) : (famO N E).length = N:=by simp [famO]
theorem zhb {N k : Nat} {E : Nat → List (List AV)} (h : k < N) : (famO N E)[k]? = some [famV E k]:=by simp [famO,h]
@[simp] theorem zww {N k : Nat} {E : Nat → List (List AV)} (h : k < (famO N E).length) : (famO N E)[k] = [famV E k]:=by simp [famO]
theorem zdL {α β : Type} {f : α → β} (hf : ∀ i j,f i = f j → i = j) : ∀ {l : List α},l.Nodup → (l.map f).Nodup
 | [],_=>List.nodup_nil
 | x :: l,h=>by
   rw [List.nodup_cons] at h
   rw [List.map_cons,List.nodup_cons]
   refine ⟨fun hx=>?_,zdL hf h.2⟩
   obtain ⟨y,hy,e⟩:=List.mem_map.1 hx
   exact h.1 (hf _ _ e ▸ hy)
theorem zmo {α : Type} (f : Nat → Nat) (hf : ∀ i j,f i = f j → i = j) (g : Nat → α) (l : List Nat) (k : Nat) : lkp (l.map fun k=>(f k,g k)) (f k) = if k ∈ l then some (g k) else none:=by
 induction l with
 | nil=>simp [lkp]
 | cons i l ih =>
   simp only [List.map_cons,lkp]
   by_cases h : i = k
   ·subst h; simp
   ·have h1 : f i ≠ f k:=fun e=>h (hf _ _ e)
    have h2 : ¬ k = i:=fun e=>h e.symm
    simp [h1,ih,h2]
theorem zmU {α : Type} (f : Nat → Nat) (g : Nat → α) (l : List Nat) (j : Nat) (h : ∀ k ∈ l,f k ≠ j) : lkp (l.map fun k=>(f k,g k)) j = none:=by
 induction l with
 | nil=>simp [lkp]
 | cons i l ih =>
   simp only [List.map_cons,lkp]
   rw [if_neg (h i (by simp)),ih fun k hk=>h k (by simp [hk])]
theorem zuE {s N : Nat} {E : Nat → List (List AV)} {r : List (Nat × Option Ent)} {k : Nat} (h : k < N) : lkp (famH s N E ++ r) (k + 1000) = some (some ⟨s,E k,0⟩):=by
 rw [zeL,famH,zmo (fun k=>k + 1000) (fun i j h=>by simpa using h)]
 simp [h]
theorem zpp {s N : Nat} {E : Nat → List (List AV)} {r : List (Nat × Option Ent)} {j : Nat} (h : j < 1000 ∨ 1000 + N ≤ j) : lkp (famH s N E ++ r) j = lkp r j:=by
 rw [zeL,famH,zmU (fun k=>k + 1000) _ _ _ (fun k hk e=>by have:=List.mem_range.1 hk; omega)]
 simp
section
variable {sz n s N : Nat} {t : List (Nat × AV)} {E : Nat → List (List AV)} {r : List (Nat × Option Ent)}
theorem zvr {k : Nat} (h : k < N) : (⟨sz,t,famH s N E ++ r,n⟩ : St).hp (k + 1000) = some ⟨s,E k,0⟩:=by
 show (lkp _ _).getD none = _
 rw [zuE h]
 rfl
theorem zjL {j : Nat} (h : j < 1000) : (⟨sz,t,famH s N E ++ r,n⟩ : St).hp j = (⟨sz,t,r,n⟩ : St).hp j:=by
 show (lkp _ _).getD none = (lkp _ _).getD none
 rw [zpp (.inl h)]
theorem zuw {j : Nat} (h : 1000 + N ≤ j) : (⟨sz,t,famH s N E ++ r,n⟩ : St).hp j = (⟨sz,t,r,n⟩ : St).hp j:=by
 show (lkp _ _).getD none = (lkp _ _).getD none
 rw [zpp (.inr h)]
end
def famR (m a N : Nat) (L : List Nat) : List (Nat × Nat):=(m,a + 1000) :: (L ++ ((List.range N).filter (· ≠ a)).map (· + 1000)).map fun j=>(j,j)
theorem ztq {m a N : Nat} {L : List Nat} (hL : L.Nodup) (h1 : ∀ j ∈ L,j < 1000) (hm : m ∉ L) (hm1 : m < 1000 ∨ 1000 + N ≤ m) : ((famR m a N L).map (·.1)).Nodup:=by
 simp only [famR,List.map_cons,List.map_map,fcd,List.map_id',List.nodup_cons,List.mem_append,List.mem_map,List.mem_filter,List.mem_range]
 refine ⟨?_,?_⟩
 ·rintro (h | ⟨k,⟨h,_⟩,e⟩)
  ·exact hm h
  ·omega
 ·refine List.nodup_append.2 ⟨hL,?_,?_⟩
  ·exact zdL (fun i j h=>by simpa using h) (List.nodup_range.filter _)
  ·intro x hx y hy e
   simp only [List.mem_map] at hy
   obtain ⟨k,_,e2⟩:=hy
   have:=h1 x hx
   omega
theorem ztD {m a N : Nat} {L : List Nat} (hL : L.Nodup) (h1 : ∀ j ∈ L,j < 1000) : ((famR m a N L).map (·.2)).Nodup:=by
 simp only [famR,List.map_cons,List.map_map,fcd,List.map_id',List.nodup_cons,List.mem_append,List.mem_map,List.mem_filter,List.mem_range]
 refine ⟨?_,?_⟩
 ·rintro (h | ⟨k,⟨_,h⟩,e⟩)
  ·have:=h1 _ h; omega
  ·simp at h; omega
 ·refine List.nodup_append.2 ⟨hL,?_,?_⟩
  ·exact zdL (fun i j h=>by simpa using h) (List.nodup_range.filter _)
  ·intro x hx y hy e
   simp only [List.mem_map] at hy
   obtain ⟨k,_,e2⟩:=hy
   have:=h1 x hx
   omega
theorem zng {m a N : Nat} {L : List Nat} : lkp (famR m a N L) m = some (a + 1000):=by simp [famR,lkp]
theorem zfd {m a N j : Nat} {L : List Nat} (hm : m ≠ j) (h : j ∈ L ∨ ∃ k < N,k ≠ a ∧ j = k + 1000) : lkp (famR m a N L) j = some j:=by
 rw [famR,lkp,if_neg hm,zmo (fun j=>j) (fun i j h=>h) (fun j=>j),if_pos]
 rcases h with h | ⟨k,h1,h2,rfl⟩
 ·simp [h]
 ·simp [h1,h2]
def grow {α : Type} (E : Nat → List α) (a : Nat) (r : α) : Nat → List α:=fun k=>if k = a then E a ++ [r] else E k
theorem zfP (f : AV → AV) (hf : ∀ v,f (.sc v) = .sc v) (rows : List (List AV)) (hr : ∀ r ∈ rows,∀ x ∈ r,∃ v,x = .sc v) : rows.map (·.map f) = rows:=by
 conv=>rhs; rw [← List.map_id rows]
 refine List.map_congr_left fun r hr'=>?_
 conv=>rhs; rw [id,← List.map_id r]
 refine List.map_congr_left fun x hx=>?_
 obtain ⟨v,rfl⟩:=hr r hr' x hx
 exact hf v
theorem zsB {m a N : Nat} {L : List Nat} {E : Nat → List (List AV)} {row : List AV} {h : Nat → Option Ent} {len : Nat} (ha : a < N) (hm : m < 1000 ∨ 1000 + N ≤ m) (hlen : len = (E a).length + 1) :
  ((famO N E).set a [.rs m 0 len]).map (·.map (conv (famR m a N L) [] h 4)) = famO N (grow E a row):=by
 apply List.ext_getElem?
 intro j
 rw [List.getElem?_map,List.getElem?_set,zhy]
 by_cases hj : a = j
 ·subst hj
  rw [if_pos rfl,if_pos ha,zhb ha]
  simp [zng,famV,grow,hlen]
 ·rw [if_neg hj]
  by_cases hjN : j < N
  ·rw [zhb hjN,zhb hjN]
   have h1 : lkp (famR m a N L) (j + 1000) = some (j + 1000):=zfd (by omega) (.inr ⟨j,hjN,fun e=>hj e.symm,rfl⟩)
   have h2 : j ≠ a:=fun e=>hj e.symm
   simp [famV,h1,grow,h2]
  ·simp [famO,hjN]
theorem Le.fam {np s N a m : Nat} {E : Nat → List (List AV)} {row : List AV} (L : List Nat) {st st' : St} (hsz : st'.sz = st.sz)
  (ha : a < N) (hL : L.Nodup) (h1 : ∀ j ∈ L,j < 1000) (hm1 : 1000 + N ≤ m) (hn : 1000 + N ≤ st'.n) (hnp : np ≤ 1000)
  (hE : ∀ k < N,∀ r ∈ E k,∀ x ∈ r,∃ v,x = .sc v) (hrow : ∀ x ∈ row,∃ v,x = .sc v)
  (hst : ∀ k < N,k ≠ a → st.hp (k + 1000) = some ⟨s,E k,0⟩) (hsm : st.hp m = some ⟨s,E a ++ [row],0⟩)
  (hst' : ∀ k < N,st'.hp (k + 1000) = some ⟨s,grow E a row k,0⟩)
  (hout : ∀ j,j ∉ L → (j < 1000 ∨ 1000 + N ≤ j) → st'.hp j = none)
  (ht : ∀ p ∈ st'.t,Wk (conv (famR m a N L) [] st.hp 4 (st.get p.1)) p.2)
  (hb : ∀ j ∈ L,∀ e',st'.hp j = some e' → ∃ e,st.hp j = some e ∧ zay [] (zax (famR m a N L) [] st.hp 4 e) e') : Le np st st':=by
 have hm : m ∉ L:=fun h=>by have:=h1 m h; omega
 refine Le.mk (famR m a N L) [] [] hsz (ztq hL h1 hm (.inr hm1)) (ztD hL h1) ?_ (by simp) (by simp) (by omega) (by simp) (fun i=>?_) ?_
 ·intro p hp
  simp only [famR,List.mem_cons,List.mem_map,List.mem_append,List.mem_filter,List.mem_range] at hp
  rcases hp with rfl | ⟨j,h | ⟨k,⟨h2,_⟩,rfl⟩,rfl⟩
  ·exact ⟨by simp only; omega,fun h=>by simp only at h; omega⟩
  ·have:=h1 j h
   exact ⟨by simp only; omega,fun _=>rfl⟩
  ·exact ⟨by simp only; omega,fun _=>rfl⟩
 ·unfold St.get at *
  cases hl : lkp st'.t i with
  | none=>exact .inl (.dead _)
  | some v=>exact .inl (ht _ (zbh hl))
 ·intro j e' he
  left
  by_cases hj : j ∈ L
  ·obtain ⟨e,h2,h3⟩:=hb j hj e' he
   refine ⟨j,e,?_,h2,h3⟩
   simp only [famR,List.mem_cons,List.mem_map,List.mem_append]
   exact .inr ⟨j,.inl hj,rfl⟩
  ·by_cases hr : j < 1000 ∨ 1000 + N ≤ j
   ·rw [hout j hj hr] at he; cases he
   ·obtain ⟨k,rfl⟩ : ∃ k,j = k + 1000:=⟨j - 1000,by omega⟩
    have hk : k < N:=by omega
    rw [hst' k hk] at he
    cases he
    by_cases hka : k = a
    ·subst hka
     rw [show grow E k row k = E k ++ [row] from if_pos rfl]
     refine ⟨m,_,by simp [famR],hsm,?_⟩
     have : zax (famR m k N L) [] st.hp 4 ⟨s,E k ++ [row],0⟩ = ⟨s,E k ++ [row],0⟩:=by
      simp only [zax]
      rw [zfP _ fun v=>by simp [conv]]
      intro r hr x hx
      rcases List.mem_append.1 hr with h | h
      ·exact hE k hk r h x hx
      ·rw [List.mem_singleton.1 h] at hx; exact hrow x hx
     rw [this]
     exact zay.rfl' (Nat.zero_le _)
    ·simp only [grow,if_neg hka]
     refine ⟨k + 1000,_,?_,hst k hk hka,?_⟩
     ·simp only [famR,List.mem_cons,List.mem_map,List.mem_append,List.mem_filter,List.mem_range]
      exact .inr ⟨k + 1000,.inr ⟨k,⟨hk,by simpa using hka⟩,rfl⟩,rfl⟩
     ·have : zax (famR m a N L) [] st.hp 4 ⟨s,E k,0⟩ = ⟨s,E k,0⟩:=by
       simp only [zax]
       rw [zfP _ (fun v=>by simp [conv]) _ (hE k hk)]
      rw [this]
      exact zay.rfl' (Nat.zero_le _)
theorem Le.fam0 {np s N o : Nat} (L : List Nat) {st st' : St} (hsz : st'.sz = st.sz) (hs : s ≠ 0) (hL : (o :: L).Nodup) (h1 : ∀ j ∈ o :: L,j < 1000 ∧ np ≤ 1000) (hn : 1000 + N ≤ st'.n)
  (ho : st.hp o = some ⟨1,(List.range N).map fun _=>[.nilS],0⟩) (ho' : st'.hp o = some ⟨1,famO N fun _=>[],0⟩)
  (hst' : ∀ k < N,st'.hp (k + 1000) = some ⟨s,[],0⟩)
  (hout : ∀ j,j ∉ o :: L → (j < 1000 ∨ 1000 + N ≤ j) → st'.hp j = none)
  (ht : ∀ p ∈ st'.t,Wk (conv ((o :: L).map fun j=>(j,j)) [] st.hp 4 (st.get p.1)) p.2)
  (hb : ∀ j ∈ L,∀ e',st'.hp j = some e' → ∃ e,st.hp j = some e ∧ zay [] (zax ((o :: L).map fun j=>(j,j)) [] st.hp 4 e) e') : Le np st st':=by
 have hnl : ∀ p,p ∈ (List.range N).map (fun k=>(k + 1000,s)) ↔ ∃ k < N,p = (k + 1000,s):=fun p=>by
  rw [List.mem_map]
  exact ⟨fun ⟨k,h,e⟩=>⟨k,List.mem_range.1 h,e.symm⟩,fun ⟨k,h,e⟩=>⟨k,List.mem_range.2 h,e.symm⟩⟩
 have hid : ((o :: L).map fun j=>(j,j)).map (·.1) = o :: L:=by simp [fcd]
 have hid2 : ((o :: L).map fun j=>(j,j)).map (·.2) = o :: L:=by simp [fcd]
 refine Le.mk ((o :: L).map fun j=>(j,j)) [] ((List.range N).map fun k=>(k + 1000,s)) hsz (by rw [hid]; exact hL) (by rw [hid2]; exact hL) ?_ ?_ (by simp) (by have:=h1 o (by simp); omega) ?_ (fun i=>?_) ?_
 ·intro p hp
  obtain ⟨j,hj,rfl⟩:=List.mem_map.1 hp
  have:=h1 j hj
  exact ⟨by simp only; omega,fun _=>rfl⟩
 ·intro p hp
  obtain ⟨k,hk,rfl⟩:=(hnl p).1 hp
  have:=h1 o (by simp)
  refine ⟨by simp only; omega,by simp only; omega,?_,hs⟩
  rw [hid2]
  intro h
  have:=h1 _ h
  omega
 ·rw [List.map_map]
  exact zdL (fun i j h=>by simpa using h) List.nodup_range
 ·unfold St.get at *
  cases hl : lkp st'.t i with
  | none=>exact .inl (.dead _)
  | some v=>exact .inl (ht _ (zbh hl))
 ·intro j e' he
  by_cases hjo : j = o
  ·subst hjo
   left
   rw [ho'] at he
   cases he
   refine ⟨j,_,by simp,ho,rfl,Nat.le_refl _,Nat.zero_le _,.inr ⟨by simp [zax],by simp [zax,famO],fun i=>?_⟩⟩
   by_cases hi : i < N
   ·simp only [zax,List.map_map,fcd,List.map_cons,List.map_nil,List.getD_eq_getElem?_getD,List.getElem?_map,List.getElem?_range hi,Option.map_some,Option.getD_some,famO,famV,List.length_nil]
    exact ⟨.inr ⟨by simp [conv],i + 1000,s,rfl,(hnl _).2 ⟨i,hi,rfl⟩⟩,trivial⟩
   ·simp [zax,famO,List.getD_eq_getElem?_getD,hi,UpL]
  ·by_cases hj : j ∈ L
   ·left
    obtain ⟨e,h2,h3⟩:=hb j hj e' he
    refine ⟨j,e,by simp [hj],h2,h3.1,h3.2.1,h3.2.2.1,?_⟩
    rcases h3.2.2.2 with h | ⟨q1,q2,q3⟩
    ·exact .inl h
    ·refine .inr ⟨q1,q2,fun i=>?_⟩
     have key : ∀ {xs ys : List AV},UpL [] xs ys → UpL ((List.range N).map fun k=>(k + 1000,s)) xs ys:=by
      intro xs
      induction xs with
      | nil=>intro ys h; cases ys <;> exact h
      | cons x xs ih =>
        intro ys h
        cases ys with
        | nil=>exact h
        | cons y ys =>
          refine ⟨?_,ih h.2⟩
          rcases h.1 with h | ⟨_,_,_,_,h⟩
          ·exact .inl h
          ·simp at h
     exact key (q3 i)
   ·by_cases hr : j < 1000 ∨ 1000 + N ≤ j
    ·rw [hout j (by simp [hjo,hj]) hr] at he; cases he
    ·obtain ⟨k,rfl⟩ : ∃ k,j = k + 1000:=⟨j - 1000,by omega⟩
     have hk : k < N:=by omega
     rw [hst' k hk] at he
     cases he
     exact .inr ⟨(hnl _).2 ⟨k,hk,rfl⟩,rfl,rfl⟩
def famI (N : Nat) : List Nat:=(List.range N).map (· + 1000)
theorem zeg {N j : Nat} : j ∈ famI N ↔ 1000 ≤ j ∧ j < 1000 + N:=by
 simp only [famI,List.mem_map,List.mem_range]
 exact ⟨fun ⟨k,h,e⟩=>by omega,fun h=>⟨j - 1000,by omega,by omega⟩⟩
theorem zta {s N o : Nat} {ρ : List (Nat × Nat)} {sn : List Nat} {hp : Nat → Option Ent} {E : Nat → List (List AV)} (hE : ∀ k < N,∀ r ∈ E k,∀ x ∈ r,∃ v,x = .sc v)
  (hρ : lkp ρ o = none) (hsn : o ∈ sn) (hf : ∀ k < N,k + 1000 ∈ sn) (ho : hp o = some ⟨1,famO N E,0⟩) (hh : ∀ k < N,hp (k + 1000) = some ⟨s,E k,0⟩) :
  conv ρ sn hp 4 (.rs o 0 N) = .vs 1 false ((List.range N).map fun k=>[.vs s false (E k)]):=by
 simp only [conv,hρ,hsn,if_true,ho,zhy,Nat.zero_add,Nat.le_refl,List.drop_zero]
 rw [List.take_of_length_le (by rw [zhy]; exact Nat.le_refl _),famO,List.map_map]
 congr 1
 refine List.map_congr_left fun k hk=>?_
 have hk:=List.mem_range.1 hk
 simp only [fcd,List.map_cons,List.map_nil,famV,conv,lkp,hf k hk,if_true,hh k hk,Nat.zero_add,Nat.le_refl,List.drop_zero,List.take_length]
 rw [zfP _ (fun v=>by simp [conv]) _ (hE k hk)]
theorem Le.famOut {np N o : Nat} {L : List Nat} {st st' : St} (hsz : st'.sz = st.sz) (hL : L.Nodup) (h1 : ∀ j ∈ L,j < 1000) (hoL : o ∉ L) (hn : 1000 ≤ st'.n) (hnp : np ≤ o) (hnp2 : np ≤ 1000)
  (hout : ∀ j,j ∉ L → st'.hp j = none)
  (ht : ∀ p ∈ st'.t,Wk (conv (L.map fun j=>(j,j)) (o :: famI N) st.hp 4 (st.get p.1)) p.2)
  (hb : ∀ j ∈ L,∀ e',st'.hp j = some e' → ∃ e,st.hp j = some e ∧ zay [] (zax (L.map fun j=>(j,j)) (o :: famI N) st.hp 4 e) e') : Le np st st':=by
 have hid : (L.map fun j=>(j,j)).map (·.1) = L:=by simp [fcd]
 have hid2 : (L.map fun j=>(j,j)).map (·.2) = L:=by simp [fcd]
 refine Le.mk (L.map fun j=>(j,j)) (o :: famI N) [] hsz (by rw [hid]; exact hL) (by rw [hid2]; exact hL) ?_ (by simp) ?_ (by omega) (by simp) (fun i=>?_) ?_
 ·intro p hp
  obtain ⟨j,hj,rfl⟩:=List.mem_map.1 hp
  have:=h1 j hj
  exact ⟨by simp only; omega,fun _=>rfl⟩
 ·intro i hi
  rw [hid]
  rcases List.mem_cons.1 hi with rfl | hi
  ·exact ⟨hnp,hoL⟩
  ·have:=zeg.1 hi
   exact ⟨by omega,fun h=>by have:=h1 i h; omega⟩
 ·unfold St.get at *
  cases hl : lkp st'.t i with
  | none=>exact .inl (.dead _)
  | some v=>exact .inl (ht _ (zbh hl))
 ·intro j e' he
  left
  by_cases hj : j ∈ L
  ·obtain ⟨e,h2,h3⟩:=hb j hj e' he
   exact ⟨j,e,by simp [hj],h2,h3⟩
  ·rw [hout j hj] at he; cases he
def zqN (s : Stp) : AV:=.agg [.I s.1,.sc (.bool s.2)]
open Classical in
noncomputable def camF (D b : List Int) : Int → Option AV:=fun x=>if x ∈ D then some (if x = 0 then .agg [.I (-1),.sc (.bool false)] else zqN (decS (b.getD x.toNat 0))) else none
theorem zqo (b : List Int) : camF [0] b = fun x=>if x = 0 then some (.agg [.I (-1),.sc (.bool false)]) else none:=by
 funext x
 by_cases h : x = 0 <;> simp [camF,h]
theorem zsI {N : Nat} {A : List Ed} {f D b : List Int} (h : Bfs N A f D b) {s : Stp} (hT : stT A s ∉ D) (h0 : 0 ≤ stT A s) (h1 : stT A s < N) :
  camF (D ++ [stT A s]) (b.set (stT A s).toNat (encS s)) = fun x=>if x = stT A s then some (zqN s) else camF D b x:=by
 have hb : (stT A s).toNat < b.length:=by rw [h.len]; omega
 have hn0 : stT A s ≠ 0:=fun e=>hT (e ▸ h.mem0)
 funext x
 by_cases hx : x = stT A s
 ·subst hx
  simp only [camF,List.mem_append,List.mem_singleton,or_true,if_true,if_neg hn0]
  rw [List.getD_eq_getElem?_getD,List.getElem?_set_self hb,Option.getD_some,zoH]
 ·simp only [camF,List.mem_append,List.mem_singleton,hx,or_false,if_false]
  by_cases hD : x ∈ D
  ·have hr:=h.rng x hD
   rw [if_pos hD,if_pos hD,List.getD_eq_getElem?_getD,List.getElem?_set_ne (by omega),List.getD_eq_getElem?_getD]
  ·rw [if_neg hD,if_neg hD]
theorem zgv (D b : List Int) (x : Int) : (camF D b x).isSome = decide (x ∈ D):=by
 by_cases h : x ∈ D <;> simp [camF,h]
abbrev zbp (s : Stp) : List AV:=[.I s.1,.B s.2]
def zgL (A : List Ed) : Nat → Nat → List Stp
 | 0,_=>[]
 | i + 1,k=>zgL A i k ++ (if (arcD A i).f = k then [(i,false)] else []) ++ (if (arcD A i).t = k then [(i,true)] else [])
theorem zli {A : List Ed} {s : Stp} {k : Nat} : ∀ {i : Nat},s ∈ zgL A i k ↔ s.1 < i ∧ stF A s = k
 | 0=>by simp [zgL]
 | i + 1=>by
   obtain ⟨j,c⟩:=s
   have ih:=zli (A:=A) (s:=(j,c)) (k:=k) (i:=i)
   simp only [zgL,List.mem_append,ih]
   unfold stF
   simp only
   constructor
   ·rintro ((h | h) | h)
    ·exact ⟨by omega,h.2⟩
    ·split at h
     ·rename_i e
      simp at h
      obtain ⟨rfl,rfl⟩:=h
      exact ⟨by omega,by simpa using e⟩
     ·simp at h
    ·split at h
     ·rename_i e
      simp at h
      obtain ⟨rfl,rfl⟩:=h
      exact ⟨by omega,by simpa using e⟩
     ·simp at h
   ·rintro ⟨h1,h2⟩
    rcases Nat.lt_succ_iff_lt_or_eq.1 h1 with h | h
    ·exact .inl (.inl ⟨h,h2⟩)
    ·subst h
     cases c
     ·have : (arcD A j).f = k:=by simpa using h2
      rw [if_pos this]
      exact .inl (.inr (by simp))
     ·have : (arcD A j).t = k:=by simpa using h2
      rw [if_pos this]
      exact .inr (by simp)
theorem zhO (A : List Ed) (k : Nat) : ∀ i,(zgL A i k).length ≤ 2 * i
 | 0=>Nat.le_refl _
 | i + 1=>by
   have ih:=zhO A k i
   simp only [zgL,List.length_append]
   split <;> split <;> simp <;> omega
def famE (A : List Ed) (i : Nat) : Nat → List (List AV):=fun k=>(zgL A i k).map zbp
theorem zp0 (A : List Ed) (i k : Nat) : ∀ r ∈ famE A i k,∀ x ∈ r,∃ v,x = .sc v:=by
 intro r hr x hx
 obtain ⟨s,_,rfl⟩:=List.mem_map.1 hr
 simp only [zbp,List.mem_cons,List.not_mem_nil,or_false] at hx
 rcases hx with rfl | rfl
 ·exact ⟨_,rfl⟩
 ·exact ⟨_,rfl⟩
theorem ztN (A : List Ed) (i k : Nat) : (famE A i k).length ≤ 2 * i:=by unfold famE; rw [List.length_map]; exact zhO A k i
theorem ztf {E : Nat → List (List AV)} {a : Nat} {row : List AV} (hE : ∀ k,∀ r ∈ E k,∀ x ∈ r,∃ v,x = AV.sc v) (hr : ∀ x ∈ row,∃ v,x = AV.sc v) (k : Nat) : ∀ r ∈ grow E a row k,∀ x ∈ r,∃ v,x = AV.sc v:=by
 unfold grow
 intro r h
 split at h
 ·rcases List.mem_append.1 h with h | h
  ·exact hE a r h
  ·rw [List.mem_singleton.1 h]; exact hr
 ·exact hE k r h
theorem zr1 {A : List Ed} {i a b : Nat} (ha : (arcD A i).f = a) (hb : (arcD A i).t = b) (hab : a ≠ b) : famE A (i + 1) = grow (grow (famE A i) a (zbp (i,false))) b (zbp (i,true)):=by
 funext k
 simp only [famE,zgL,grow,ha,hb,List.map_append,Int.natCast_inj]
 by_cases h1 : k = a
 ·subst h1
  simp [hab,hab.symm]
 ·by_cases h2 : k = b
  ·subst h2
   simp [hab,h1]
  ·have h3 : ¬ a = k:=fun e=>h1 e.symm
   have h4 : ¬ b = k:=fun e=>h2 e.symm
   simp [h1,h2,h3,h4]
theorem zjf (s : Stp) : ∀ x ∈ zbp s,∃ v,x = AV.sc v:=by
 intro x hx
 simp only [zbp,List.mem_cons,List.not_mem_nil,or_false] at hx
 rcases hx with rfl | rfl
 ·exact ⟨_,rfl⟩
 ·exact ⟨_,rfl⟩
abbrev atV (N : Nat) (A : List Ed) : AV:=.vs 1 false ((List.range N).map fun k=>[.vs 2 false (famE A A.length k)])
theorem Le.slot {np sz n n' : Nat} {t t' : List (Nat × AV)} {h : List (Nat × Option Ent)} (hn : n ≤ n') (ht : ∀ p ∈ t',(⟨sz,t,h,n⟩ : St).get p.1 = p.2) : Le np ⟨sz,t,h,n⟩ ⟨sz,t',h,n'⟩:=by
 intro T0 M0 w0 T M a w ok hnp
 refine ⟨T,M,⟨ok.sz,ok.df,fun i=>?_,ok.hs,fun id g hg=>Nat.lt_of_lt_of_le (ok.dom id g hg) hn,ok.after⟩,Nat.le_trans hnp hn⟩
 show Rep T w M ((lkp t' i).getD .dead) _
 cases hl : lkp t' i with
 | none=>exact .dead _ _
 | some v =>
   have:=ht _ (zbh hl)
   simp only at this
   show Rep T w M v _
   rw [← this]
   exact ok.tm i
def famS (N : Nat) (L : List Nat) : List (Nat × Nat):=(L ++ famI N).map fun j=>(j,j)
theorem zhu {N j : Nat} {L : List Nat} (h : j ∈ L ∨ ∃ k < N,j = k + 1000) : lkp (famS N L) j = some j:=by
 rw [famS,zmo (fun j=>j) (fun i j h=>h) (fun j=>j),if_pos]
 rcases h with h | ⟨k,h1,rfl⟩
 ·simp [h]
 ·exact List.mem_append_right _ (zeg.2 (by omega))
theorem zos {N j : Nat} {L : List Nat} (h : j ∉ L) (h2 : 1000 + N ≤ j) : lkp (famS N L) j = none:=by
 rw [famS,zmo (fun j=>j) (fun i j h=>h) (fun j=>j),if_neg]
 rw [List.mem_append,not_or]
 exact ⟨h,fun hm=>by have:=zeg.1 hm; omega⟩
theorem zsL {N : Nat} {L sn : List Nat} {E : Nat → List (List AV)} {h : Nat → Option Ent} : (famO N E).map (·.map (conv (famS N L) sn h 4)) = famO N E:=by
 conv=>rhs; rw [← List.map_id (famO N E)]
 refine List.map_congr_left fun r hr=>?_
 obtain ⟨k,hk,rfl⟩:=List.mem_map.1 hr
 have:=zhu (N:=N) (L:=L) (j:=k + 1000) (.inr ⟨k,List.mem_range.1 hk,rfl⟩)
 simp [famV,this]
theorem Le.famS {np s N : Nat} {E : Nat → List (List AV)} (L sn : List Nat) {st st' : St} (hsz : st'.sz = st.sz)
  (hL : L.Nodup) (h1 : ∀ j ∈ L,j < 1000) (hn : 1000 + N ≤ st'.n) (hnp : np ≤ 1000) (hsn : ∀ j ∈ sn,1000 + N ≤ j)
  (hE : ∀ k < N,∀ r ∈ E k,∀ x ∈ r,∃ v,x = .sc v)
  (hst : ∀ k < N,st.hp (k + 1000) = some ⟨s,E k,0⟩) (hst' : ∀ k < N,st'.hp (k + 1000) = some ⟨s,E k,0⟩)
  (hout : ∀ j,j ∉ L → (j < 1000 ∨ 1000 + N ≤ j) → st'.hp j = none)
  (ht : ∀ p ∈ st'.t,Wk (conv (famS N L) sn st.hp 4 (st.get p.1)) p.2)
  (hb : ∀ j ∈ L,∀ e',st'.hp j = some e' → ∃ e,st.hp j = some e ∧ zay [] (zax (famS N L) sn st.hp 4 e) e') : Le np st st':=by
 have hid : (Go.Proofs.YteiabadhhhckfaaGreat.famS N L).map (·.1) = L ++ famI N:=by simp [Go.Proofs.YteiabadhhhckfaaGreat.famS,fcd]
 have hid2 : (Go.Proofs.YteiabadhhhckfaaGreat.famS N L).map (·.2) = L ++ famI N:=by simp [Go.Proofs.YteiabadhhhckfaaGreat.famS,fcd]
 have hnd : (L ++ famI N).Nodup:=List.nodup_append.2 ⟨hL,zdL (fun i j h=>by simpa using h) List.nodup_range,fun x hx y hy e=>by
  have:=h1 x hx
  have:=zeg.1 hy
  omega⟩
 have hmem : ∀ j,(j,j) ∈ Go.Proofs.YteiabadhhhckfaaGreat.famS N L ↔ j ∈ L ∨ j ∈ famI N:=fun j=>by simp [Go.Proofs.YteiabadhhhckfaaGreat.famS]
 refine Le.mk (Go.Proofs.YteiabadhhhckfaaGreat.famS N L) sn [] hsz (by rw [hid]; exact hnd) (by rw [hid2]; exact hnd) ?_ (by simp) ?_ (by omega) (by simp) (fun i=>?_) ?_
 ·intro p hp
  obtain ⟨j,hj,rfl⟩:=List.mem_map.1 hp
  rcases List.mem_append.1 hj with h | h
  ·have:=h1 j h
   exact ⟨by simp only; omega,fun _=>rfl⟩
  ·have:=zeg.1 h
   exact ⟨by simp only; omega,fun _=>rfl⟩
 ·intro j hj
  have:=hsn j hj
  refine ⟨by omega,?_⟩
  rw [hid,List.mem_append,not_or]
  exact ⟨fun h=>by have:=h1 j h; omega,fun h=>by have:=zeg.1 h; omega⟩
 ·unfold St.get at *
  cases hl : lkp st'.t i with
  | none=>exact .inl (.dead _)
  | some v=>exact .inl (ht _ (zbh hl))
 ·intro j e' he
  left
  by_cases hj : j ∈ L
  ·obtain ⟨e,h2,h3⟩:=hb j hj e' he
   exact ⟨j,e,(hmem j).2 (.inl hj),h2,h3⟩
  ·by_cases hr : j < 1000 ∨ 1000 + N ≤ j
   ·rw [hout j hj hr] at he; cases he
   ·obtain ⟨k,rfl⟩ : ∃ k,j = k + 1000:=⟨j - 1000,by omega⟩
    have hk : k < N:=by omega
    rw [hst' k hk] at he
    cases he
    refine ⟨k + 1000,_,(hmem _).2 (.inr (zeg.2 (by omega))),hst k hk,?_⟩
    have : zax (Go.Proofs.YteiabadhhhckfaaGreat.famS N L) sn st.hp 4 ⟨s,E k,0⟩ = ⟨s,E k,0⟩:=by
     simp only [zax]
     rw [zfP _ (fun v=>by simp [conv]) _ (hE k hk)]
    rw [this]
    exact zay.rfl' (Nat.zero_le _)
abbrev oH (N : Nat) (A : List Ed) (m : Nat) (f : List Int) (E : Nat → List (List AV)) : List (Nat × Option Ent) :=
 famH 2 N E ++ [(0,some ⟨1,zae f,0⟩),(24,some ⟨4,[[.I 0,.nilS,.nilS,.nilS]],0⟩),(64,some ⟨1,famO N E,0⟩),(80,some ⟨4,[[.I N,eEs A,.rs 0 0 m,.rs 64 0 N]],0⟩)]
theorem zcH {sz n i j : Nat} {t : List (Nat × AV)} {h : List (Nat × Option Ent)} {v : Option Ent} (hij : i ≠ j) : (⟨sz,t,(i,v) :: h,n⟩ : St).hp j = (⟨sz,t,h,n⟩ : St).hp j:=by
 rw [zpu,if_neg hij]
theorem zil {sz n N m : Nat} {t : List (Nat × AV)} {A : List Ed} {f : List Int} {E : Nat → List (List AV)} {k : Nat} (h : k < N) : (⟨sz,t,oH N A m f E,n⟩ : St).hp (k + 1000) = some ⟨2,E k,0⟩:=zvr h
theorem zoK {sz n N m j : Nat} {t : List (Nat × AV)} {A : List Ed} {f : List Int} {E : Nat → List (List AV)} (hj : j ∉ [0,24,64,80]) (hr : j < 1000 ∨ 1000 + N ≤ j) : (⟨sz,t,oH N A m f E,n⟩ : St).hp j = none:=by
 have hj' : j ≠ 0 ∧ j ≠ 24 ∧ j ≠ 64 ∧ j ≠ 80:=by simpa using hj
 rcases hr with hr | hr
 ·rw [zjL hr]
  simp [hj'.1.symm,hj'.2.1.symm,hj'.2.2.1.symm,hj'.2.2.2.symm]
 ·rw [zuw hr]
  simp [hj'.1.symm,hj'.2.1.symm,hj'.2.2.1.symm,hj'.2.2.2.symm]
section
variable {sz n N m : Nat} {t : List (Nat × AV)} {A : List Ed} {f : List Int} {E : Nat → List (List AV)}
theorem oH_0 : (⟨sz,t,oH N A m f E,n⟩ : St).hp 0 = some ⟨1,zae f,0⟩:=by rw [zjL (by omega)]; simp
theorem zqb : (⟨sz,t,oH N A m f E,n⟩ : St).hp 24 = some ⟨4,[[.I 0,.nilS,.nilS,.nilS]],0⟩:=by rw [zjL (by omega)]; simp
theorem zoE : (⟨sz,t,oH N A m f E,n⟩ : St).hp 64 = some ⟨1,famO N E,0⟩:=by rw [zjL (by omega)]; simp
theorem znb : (⟨sz,t,oH N A m f E,n⟩ : St).hp 80 = some ⟨4,[[.I N,eEs A,.rs 0 0 m,.rs 64 0 N]],0⟩:=by rw [zjL (by omega)]; simp
end
theorem Le.oStep {N a m x y n n' : Nat} {A : List Ed} {f : List Int} {E : Nat → List (List AV)} {row : List AV} {t t' : List (Nat × AV)} {h : List (Nat × Option Ent)} (ha : a < N) (hx : 1000 + N ≤ x) (hy : 1000 + N ≤ y) (hxy : x ≠ y) (hN : N ≤ 900) (hn' : 1000 + N ≤ n')
  (hE : ∀ k,∀ r ∈ E k,∀ z ∈ r,∃ v,z = .sc v) (hrow : ∀ z ∈ row,∃ v,z = .sc v)
  (hh : h = (64,some ⟨1,(famO N E).set a [.rs x 0 ((E a).length + 1)],0⟩) :: (x,some ⟨2,E a ++ [row],0⟩) :: (a + 1000,none) :: (y,some ⟨2,[row],0⟩) :: oH N A m f E)
  (ht : ∀ p ∈ t',Wk (conv (famR x a N [0,24,64,80]) [] (⟨54,t,h,n⟩ : St).hp 4 ((⟨54,t,h,n⟩ : St).get p.1)) p.2) : Le 1 ⟨54,t,h,n⟩ ⟨54,t',oH N A m f (grow E a row),n'⟩:=by
 have e64 : (⟨54,t,h,n⟩ : St).hp 64 = some ⟨1,(famO N E).set a [.rs x 0 ((E a).length + 1)],0⟩:=by rw [hh,zpu,if_pos rfl]
 have e0 : (⟨54,t,h,n⟩ : St).hp 0 = some ⟨1,zae f,0⟩:=by rw [hh,zcH (by omega),zcH (by omega),zcH (by omega),zcH (by omega),oH_0]
 have e24 : (⟨54,t,h,n⟩ : St).hp 24 = some ⟨4,[[.I 0,.nilS,.nilS,.nilS]],0⟩:=by rw [hh,zcH (by omega),zcH (by omega),zcH (by omega),zcH (by omega),zqb]
 have e80 : (⟨54,t,h,n⟩ : St).hp 80 = some ⟨4,[[.I N,eEs A,.rs 0 0 m,.rs 64 0 N]],0⟩:=by rw [hh,zcH (by omega),zcH (by omega),zcH (by omega),zcH (by omega),znb]
 have l0 : lkp (famR x a N [0,24,64,80]) 0 = some 0:=zfd (by omega) (.inl (by simp))
 have l64 : lkp (famR x a N [0,24,64,80]) 64 = some 64:=zfd (by omega) (.inl (by simp))
 refine Le.fam (s:=2) (N:=N) (a:=a) (m:=x) (E:=E) (row:=row) [0,24,64,80] rfl ha (by decide) (by simp) hx hn' (by omega) (fun k _=>hE k) hrow ?_ ?_ (fun k hk=>zil hk) (fun j hj hr=>zoK hj hr) ht ?_
 ·intro k hk hka
  rw [hh,zcH (by omega),zcH (by omega),zcH (by omega),zcH (by omega),zil hk]
 ·rw [hh,zcH (by omega),zpu,if_pos rfl]
 ·intro j hj e' he
  simp only [List.mem_cons,List.not_mem_nil,or_false] at hj
  rcases hj with rfl | rfl | rfl | rfl
  ·rw [oH_0] at he
   cases he
   exact ⟨_,e0,by simp only [zax]; rw [zfP _ (fun v=>by simp [conv]) _ (by simp)]; exact zay.rfl' (Nat.zero_le _)⟩
  ·rw [zqb] at he
   cases he
   exact ⟨_,e24,by simp [zax]; exact zay.rfl' (Nat.zero_le _)⟩
  ·rw [zoE] at he
   cases he
   refine ⟨_,e64,?_⟩
   simp only [zax]
   rw [zsB ha (.inr hx) rfl]
   exact zay.rfl' (Nat.zero_le _)
  ·rw [znb] at he
   cases he
   refine ⟨_,e80,?_⟩
   simp [zax,l0,l64]
   exact zay.rfl' (Nat.zero_le _)
set_option maxRecDepth 100000 in
set_option maxHeartbeats 4000000 in
theorem zsy (N : Nat) (A : List Ed) (f : List Int) (m : Nat) (hn : za7 ⟨N,A⟩) : zak Tryz.prog zf5 [eN ⟨N,A⟩,.rs 0 0 m] [⟨1,zae f,0⟩] (.agg [.I N,eEs A,.rs 0 0 m,atV N A]) [some ⟨1,zae f,0⟩]:=by
 refine zql.acalls (nbz rfl) (nbz rfl) (Nat.le_refl _) ?_
 show awp _ 1 _ _ ⟨54,[(0,eN ⟨N,A⟩),(1,.rs 0 0 m)],[(0,some ⟨1,zae f,0⟩)],16⟩
 obtain ⟨hn0,hn1,hal,hav⟩:=hn
 simp only at hn0 hn1 hal hav
 refine zaa ⟨54,[(1,.rs 0 0 m),(2,.pv (nC ⟨N,A⟩)),(4,.pt 24 0 0)],[(0,some ⟨1,zae f,0⟩),(24,some ⟨4,[[.I 0,.nilS,.nilS,.nilS]],0⟩)],32⟩ rfl ?_ ?_
 ·simp
  exact LeI [(0,0),(24,24)] [16]
 refine zaq ⟨54,[(2,.pv (nC ⟨N,A⟩)),(4,.pt 24 0 0),(5,.pt 80 0 0)],[(0,some ⟨1,zae f,0⟩),(24,some ⟨4,[[.I 0,.nilS,.nilS,.nilS]],0⟩),(64,some ⟨1,(List.range N).map fun _=>[.nilS],0⟩),(80,some ⟨4,[[.I N,eEs A,.rs 0 0 m,.rs 64 0 N]],0⟩)],96⟩ rfl ?_ ?_
 ·simp [List.map_const']
  refine ⟨by omega,by omega,rfl,?_⟩
  exact LeI [(0,0),(24,24),(64,64),(80,80)] []
 refine zab ?_
 refine zaa ⟨54,[(4,.pt 24 0 0),(5,.pt 80 0 0),(15,eEs A),(16,.I A.length),(17,.I 0)],[(0,some ⟨1,zae f,0⟩),(24,some ⟨4,[[.I 0,.nilS,.nilS,.nilS]],0⟩),(64,some ⟨1,(List.range N).map fun _=>[.nilS],0⟩),(80,some ⟨4,[[.I N,eEs A,.rs 0 0 m,.rs 64 0 N]],0⟩)],128⟩ rfl ?_ ?_
 ·simp
  exact Le.go [(0,0),(24,24),(64,64),(80,80)] [] rfl rfl (by simp) (by simp [fcd,List.map_const'])
 refine zaf ?_
 refine zao (ι:=Nat) (fun i=>⟨54,[(4,.pt 24 0 0),(5,.pt 80 0 0),(15,eEs A),(16,.I A.length),(17,.I i)],oH N A m f (famE A i),2000⟩) (fun i=>i ≤ A.length) (fun i=>A.length - i) 0 (Nat.zero_le _) ?_ ?_
 ·refine Le.fam0 (s:=2) (N:=N) (o:=64) [0,24,80] rfl (by omega) (by decide) (by simp) (by simp only; omega) (by simp) zoE (fun k hk=>zil hk) (fun j hj hr=>zoK (by simpa [and_comm,and_left_comm,and_assoc,or_comm,or_left_comm] using hj) hr) (by simp) ?_
  intro j hj e' he
  simp only [List.mem_cons,List.not_mem_nil,or_false] at hj
  rcases hj with rfl | rfl | rfl
  ·rw [oH_0] at he
   cases he
   exact ⟨⟨1,zae f,0⟩,by simp,by simp only [zax]; rw [zfP _ (fun v=>by simp [conv]) _ (by simp)]; exact zay.rfl' (Nat.zero_le _)⟩
  ·rw [zqb] at he
   cases he
   exact ⟨⟨4,[[.I 0,.nilS,.nilS,.nilS]],0⟩,by simp,by simp [zax]; exact zay.rfl' (Nat.zero_le _)⟩
  ·rw [znb] at he
   cases he
   exact ⟨⟨4,[[.I N,eEs A,.rs 0 0 m,.rs 64 0 N]],0⟩,by simp,by simp [zax]; exact zay.rfl' (Nat.zero_le _)⟩
 intro i hi
 refine zaa ⟨54,[(4,.pt 24 0 0),(5,.pt 80 0 0),(15,eEs A),(16,.I A.length),(17,.I i),(18,.B (decide (i < A.length)))],oH N A m f (famE A i),2008⟩ rfl ?_ ?_
 ·simp
  exact Le.slot (by omega) (by simp)
 refine zab ?_
 refine zac _ rfl (fun h5=>?_) fun h5=>?_
 ·simp at h5
  have hw1 : IntKind.i64.wrap ((i : Int) + 1) = (i : Int) + 1:=w64 (by omega) (by omega)
  have heo:=hav _ (List.getElem_mem h5)
  have harc : arcD A i = A[i]:=by unfold arcD; rw [List.getD_eq_getElem?_getD,List.getElem?_eq_getElem h5,Option.getD_some]
  obtain ⟨e,he⟩ : ∃ e,e = A[i]:=⟨_,rfl⟩
  rw [← he] at heo harc
  obtain ⟨q1,q2,q3,q4,q5,_⟩:=heo
  obtain ⟨a,haf,haN⟩ : ∃ a : Nat,e.f = a ∧ a < N:=⟨e.f.toNat,by omega,by omega⟩
  obtain ⟨b,hbt,hbN⟩ : ∃ b : Nat,e.t = b ∧ b < N:=⟨e.t.toNat,by omega,by omega⟩
  have hab : a ≠ b:=fun h=>q5 (by omega)
  have hsucc:=zr1 (A:=A) (i:=i) (a:=a) (b:=b) (by rw [harc]; exact haf) (by rw [harc]; exact hbt) hab
  have hEs:=zp0 A i
  have hEl:=fun k=>ztN A i k
  obtain ⟨E,hE⟩ : ∃ E,E = famE A i:=⟨_,rfl⟩
  rw [← hE] at hsucc hEs hEl ⊢
  refine zad ?_
  refine zab ?_
  refine zaf ?_
  refine zaa ⟨54,[(4,.pt 24 0 0),(5,.pt 80 0 0),(6,.I i),(7,.pv [.I a,.I b,.I e.v]),(15,eEs A),(16,.I A.length),(17,.I i)],oH N A m f E,3000⟩ rfl ?_ ?_
  ·simp [h5,← he,haf,hbt]
   have l24 : lkp (famS N [0,24,64,80]) 24 = some 24:=zhu (.inl (by simp))
   have l80 : lkp (famS N [0,24,64,80]) 80 = some 80:=zhu (.inl (by simp))
   have l0 : lkp (famS N [0,24,64,80]) 0 = some 0:=zhu (.inl (by simp))
   have l64 : lkp (famS N [0,24,64,80]) 64 = some 64:=zhu (.inl (by simp))
   have lno : lkp (famS N [0,24,64,80]) 2032 = none:=zos (by simp) (by omega)
   refine Le.famS (s:=2) (N:=N) (E:=E) [0,24,64,80] [2032] rfl (by decide) (by simp) (by simp only; omega) (by omega) (by simp; omega) (fun k _=>hEs k) ?_ (fun k hk=>zil hk) (fun j hj hr=>zoK hj hr) ?_ ?_
   ·intro k hk
    rw [zcH (by omega),zcH (by omega),zil hk]
   ·simp [l24,l80,lno]
   ·intro j hj e' he'
    simp only [List.mem_cons,List.not_mem_nil,or_false] at hj
    rcases hj with rfl | rfl | rfl | rfl
    ·rw [oH_0] at he'
     cases he'
     exact ⟨_,by rw [zcH (by omega),zcH (by omega),oH_0],by simp only [zax]; rw [zfP _ (fun v=>by simp [conv]) _ (by simp)]; exact zay.rfl' (Nat.zero_le _)⟩
    ·rw [zqb] at he'
     cases he'
     exact ⟨_,by rw [zcH (by omega),zcH (by omega),zqb],by simp [zax]; exact zay.rfl' (Nat.zero_le _)⟩
    ·rw [zoE] at he'
     cases he'
     refine ⟨_,by rw [zcH (by omega),zcH (by omega),zoE],?_⟩
     simp only [zax]
     rw [zsL]
     exact zay.rfl' (Nat.zero_le _)
    ·rw [znb] at he'
     cases he'
     exact ⟨_,by rw [zcH (by omega),zcH (by omega),znb],by simp [zax,l0,l64]; exact zay.rfl' (Nat.zero_le _)⟩
  refine zaq ⟨54,[(4,.pt 24 0 0),(5,.pt 80 0 0),(6,.I i),(7,.pv [.I a,.I b,.I e.v]),(15,eEs A),(16,.I A.length),(17,.I i)],oH N A m f (grow E a (zbp (i,false))),4000⟩ rfl ?_ ?_
  ·have hl:=hEl a
   have hne : ¬ a = 2096:=by omega
   simp [znb,zoE,zil haN,haN,zhb haN,zhy,famV,hne]
   refine ⟨by omega,by omega,rfl,?_⟩
   have l24 : lkp (famR 3104 a N [0,24,64,80]) 24 = some 24:=zfd (by omega) (.inl (by simp))
   have l80 : lkp (famR 3104 a N [0,24,64,80]) 80 = some 80:=zfd (by omega) (.inl (by simp))
   refine Le.oStep (x:=3104) (y:=3096) haN (by omega) (by omega) (by omega) (by omega) (by omega) hEs (zjf _) ?_ ?_
   ·simp
   ·simp [l24,l80]
  have hEs1:=ztf (a:=a) hEs (zjf (i,false))
  have hEl1 : (grow E a (zbp (i,false)) b).length ≤ 2 * i:=by
   have:=hEl b
   simp only [grow,if_neg hab.symm]
   exact this
  obtain ⟨E1,hE1⟩ : ∃ E1,E1 = grow E a (zbp (i,false)):=⟨_,rfl⟩
  rw [← hE1] at hEs1 hEl1 hsucc ⊢
  refine zbI rfl ?_
  have hne : ¬ b = 3096:=by omega
  simp [znb,zoE,zil hbN,hbN,zhb hbN,zhy,famV,hne]
  refine ⟨by omega,by omega,rfl,?_⟩
  refine zar rfl ?_
  simp
  have l24 : lkp (famR 4104 b N [0,24,64,80]) 24 = some 24:=zfd (by omega) (.inl (by simp))
  have l80 : lkp (famR 4104 b N [0,24,64,80]) 80 = some 80:=zfd (by omega) (.inl (by simp))
  refine ⟨i + 1,by omega,by omega,?_⟩
  rw [hsucc]
  refine Le.oStep (x:=4104) (y:=4096) hbN (by omega) (by omega) (by omega) (by omega) (by omega) hEs1 (zjf _) ?_ ?_
  ·simp
  ·simp [l24,l80,hw1]
 simp at h5
 obtain rfl : i = A.length:=by omega
 refine zam ?_
 refine hit ?_
 refine zaa ⟨54,[(4,.pt 24 0 0)],[(0,some ⟨1,zae f,0⟩),(24,some ⟨4,[[.I N,eEs A,.rs 0 0 m,atV N A]],0⟩)],5000⟩ rfl ?_ ?_
 ·simp [znb,zqb]
  have hcv : ∀ {h : Nat → Option Ent},h 64 = some ⟨1,famO N (famE A A.length),0⟩ → (∀ k < N,h (k + 1000) = some ⟨2,famE A A.length k,0⟩) → conv [(0,0),(24,24)] (64 :: famI N) h 4 (.rs 64 0 N) = atV N A:=fun h1 h2 =>
   zta (fun k _=>zp0 A A.length k) (by simp) (by simp) (fun k hk=>by simp [zeg]; omega) h1 h2
  refine Le.famOut (N:=N) (o:=64) (L:=[0,24]) rfl (by decide) (by simp) (by simp) (by simp) (by omega) (by omega) ?_ ?_ ?_
  ·intro j hj
   have hj' : j ≠ 0 ∧ j ≠ 24:=by simpa using hj
   simp [hj'.1.symm,hj'.2.symm]
  ·simp
  ·intro j hj e' he'
   simp only [List.mem_cons,List.not_mem_nil,or_false] at hj
   rcases hj with rfl | rfl
   ·simp at he'
    subst he'
    refine ⟨_,by rw [zcH (by omega),oH_0],?_⟩
    simp only [zax]
    rw [zfP _ (fun v=>by simp [conv]) _ (by simp)]
    exact zay.rfl' (Nat.zero_le _)
   ·simp at he'
    subst he'
    refine ⟨_,by rw [zpu,if_pos rfl],?_⟩
    refine zay.eq ?_ (Nat.zero_le _)
    simp only [zax,List.map_cons,List.map_nil]
    rw [hcv (by rw [zcH (by omega),zoE]) (fun k hk=>by rw [zcH (by omega),zil hk])]
    simp
 refine zah ?_
 exact ⟨.inr rfl,zan.k1 rfl (by simp) (by simp [fcd])⟩
abbrev rC (N : Nat) (A : List Ed) (f : AV) : List AV:=[.I N,eEs A,f,atV N A]
abbrev eR (N : Nat) (A : List Ed) (f : AV) : AV:=.agg (rC N A f)
theorem zmT {A : List Ed} {i : Nat} (h : i < A.length) : A[i]? = some (arcD A i):=by
 unfold arcD
 rw [List.getD_eq_getElem?_getD,List.getElem?_eq_getElem h,Option.getD_some]
set_option maxRecDepth 100000 in
theorem zrZ (N : Nat) (A : List Ed) (f : List Int) (s : Stp) (hn : za7 ⟨N,A⟩) (hf : Fit2 A f) (hs : s.1 < A.length) : zak Tryz.prog zbL [eR N A (ints f),.agg (zbp s)] [] (.tup [.I (zbd A f s),.I (stT A s)]) []:=by
 refine zgE.acalls (nbz rfl) (nbz rfl) (Nat.le_refl _) ?_
 show awp _ 0 _ _ ⟨35,[(0,eR N A (ints f)),(1,.agg (zbp s))],[],16⟩
 obtain ⟨i,c⟩:=s
 simp only at hs
 obtain ⟨hfl,hfa⟩:=zb8.1 hf
 have hA:=zmT hs
 have hi:=hfa i hs
 have hav:=hn.2.2.2 _ (zbD hs)
 have hif : i < f.length:=by omega
 obtain ⟨e,he⟩ : ∃ e,e = arcD A i:=⟨_,rfl⟩
 obtain ⟨w,hw⟩ : ∃ w,w = f.getD i 0:=⟨_,rfl⟩
 have hg : f[i]? = some w:=by rw [hw,List.getD_eq_getElem?_getD,List.getElem?_eq_getElem hif,Option.getD_some]
 have hge : A[i] = e:=by rw [List.getElem?_eq_getElem hs,← he] at hA; exact Option.some.inj hA
 have hgf : f[i] = w:=by rw [List.getElem?_eq_getElem hif] at hg; exact Option.some.inj hg
 rw [← he] at hav
 rw [← hw,← he] at hi
 obtain ⟨_,_,_,_,_,_,_,h8,h9⟩:=hav
 have hwr : IntKind.i64.wrap (e.v - w) = e.v - w:=w64 (by omega) (by omega)
 refine zaa ⟨35,[(2,.pv (rC N A (ints f))),(3,.pv [.I i,.B c])],[],48⟩ rfl ?_ ?_
 ·simp
  exact LeH [] [16,24]
 refine zaa ⟨35,[(2,.pv (rC N A (ints f))),(3,.pv [.I i,.B c]),(6,.pv (eC e))],[],200⟩ rfl ?_ ?_
 ·simp [hs,hge]
  exact LeH [] [104]
 refine zab ?_
 refine rx (s:=?s3) [2,3,6,15] [] [] rfl ?o3 ?q3
 case o3=>simp; rfl
 refine zac _ rfl (fun h4=>?_) fun h4=>?_
 ·have hc : c = true:=h4
  subst hc
  have h1 : zbd A f (i,true) = w:=by unfold zbd; simp [hw]
  have h2 : stT A (i,true) = e.f:=by unfold stT; simp [he]
  rw [h1,h2]
  refine zaq ⟨35,[(4,.I w),(5,.I e.f)],[],400⟩ rfl ?_ ?_
  ·simp [hif,hgf]
   exact ⟨rfl,LeH [] []⟩
  refine zah ?_
  exact ⟨.inr rfl,zan.out [] [] rfl (by simp) (by simp) (by simp) (by simp)⟩
 have hc : c = false:=h4
 subst hc
 have h1 : zbd A f (i,false) = e.v - w:=by unfold zbd; simp [hw,he]
 have h2 : stT A (i,false) = e.t:=by unfold stT; simp [he]
 rw [h1,h2]
 refine zad ?_
 refine zaq ⟨35,[(4,.I (e.v - w)),(5,.I e.t)],[],400⟩ rfl ?_ ?_
 ·simp [hif,hgf,hwr]
  exact ⟨rfl,LeH [] []⟩
 refine zah ?_
 exact ⟨.inr rfl,zan.out [] [] rfl (by simp) (by simp) (by simp) (by simp)⟩
theorem zjO : ∀ {l : List (Int × AV)} {q : Int × AV},(l.map (·.1)).Nodup → q ∈ l → zcW q.1 (zcY l) = some q.2
 | (k,x) :: l,q,hn,h=>by
   rw [List.map_cons,List.nodup_cons] at hn
   rw [zff,List.find?_cons]
   rcases List.mem_cons.1 h with rfl | h
   ·simp
   ·have hne : ¬ k = q.1:=fun e=>hn.1 (e ▸ List.mem_map.2 ⟨q,h,rfl⟩)
    have ih:=zjO hn.2 h
    rw [zff] at ih
    simpa [hne] using ih
structure MapF (rows : List (List AV)) (φ : Int → Option AV) : Prop where
 is : MapR rows φ
 flat : ∀ n x,φ n = some x → ∃ u v,x = .agg [.sc u,.sc v]
theorem MapF.mem {rows : List (List AV)} {φ : Int → Option AV} (h : MapF rows φ) {r : List AV} (hr : r ∈ rows) : ∃ k u v,r = [.sc k,.agg [.sc u,.sc v]]:=by
 obtain ⟨⟨l,rfl,hn,hf⟩,hfl⟩:=h
 obtain ⟨q,hq,rfl⟩:=List.mem_map.1 hr
 obtain ⟨u,v,e⟩:=hfl q.1 q.2 (by rw [← hf]; exact zjO hn hq)
 exact ⟨_,u,v,by rw [e]⟩
theorem MapF.conv {rows : List (List AV)} {φ : Int → Option AV} (h : MapF rows φ) (ρ : List (Nat × Nat)) (sn : List Nat) (g : Nat → Option Ent) : rows.map (·.map (conv ρ sn g 4)) = rows:=by
 conv=>rhs; rw [← List.map_id rows]
 refine List.map_congr_left fun r hr=>?_
 obtain ⟨k,u,v,rfl⟩:=h.mem hr
 simp
theorem MapF.conv' {rows : List (List AV)} {φ : Int → Option AV} (h : MapF rows φ) (ρ : List (Nat × Nat)) (sn : List Nat) (g : Nat → Option Ent) : rows.map (List.map (Go.Proofs.YteiabadhhhckfaaGreat.conv ρ sn g 4)) = rows:=h.conv ρ sn g
theorem MapF.plain {rows : List (List AV)} {φ : Int → Option AV} (h : MapF rows φ) (s ro : Nat) : zll ⟨s,rows,ro⟩:=by
 intro r hr x hx
 obtain ⟨k,u,v,rfl⟩:=h.mem hr
 simp only [List.mem_cons,List.not_mem_nil,or_false] at hx
 rcases hx with rfl | rfl
 ·exact .sc _
 ·refine .agg _ fun i=>?_
  match i with
  | 0=>exact .sc _
  | 1=>exact .sc _
  | i + 2=>exact .dead
theorem zfD (D b : List Int) (n : Int) (x : AV) (h : camF D b n = some x) : ∃ u v,x = .agg [.sc u,.sc v]:=by
 unfold camF at h
 split at h
 ·split at h
  ·cases h; exact ⟨_,_,rfl⟩
  ·cases h; exact ⟨_,_,rfl⟩
 ·cases h
theorem MapF.set {rows : List (List AV)} {D b D' b' : List Int} (h : MapF rows (camF D b)) (n : Int) (y : AV) (he : camF D' b' = fun k=>if k = n then some y else camF D b k) : MapF (mset n y rows) (camF D' b') :=
 ⟨by rw [he]; exact h.is.set n y,zfD D' b'⟩
theorem zkV {N : Nat} {A : List Ed} (hn : za7 ⟨N,A⟩) {s : Stp} (hs : s.1 < A.length) : 0 ≤ stT A s ∧ stT A s < N:=by
 have : zjp N (arcD A s.1):=hn.2.2.2 _ (zbD hs)
 obtain ⟨q1,q2,q3,q4,_⟩:=this
 unfold stT
 split <;> omega
theorem zuh {α : Type} {l : List α} {q : α → Bool} {j : Nat} (hj : j < l.length) (h : q l[j] = true) : ∃ i : Nat,idxQ l q = i ∧ i ≤ j:=by
 have h1 : l.findIdx q ≤ j:=Nat.le_of_not_lt fun hlt=>by
  have:=List.not_of_lt_findIdx hlt
  rw [h] at this
  cases this
 exact ⟨l.findIdx q,by unfold idxQ; rw [if_pos (by omega)],h1⟩
theorem ziV (e : Ed) (w : Int) : zak Tryz.prog zdn [eE e,.pv [.I w]] [] (.B (decide (e.f = w))) []:=by
 refine zkP.acalls (nbz rfl) (nbz rfl) (Nat.zero_le _) ?_
 show awp _ 0 _ _ ⟨8,[(0,eE e),(1,.pv [.I w])],[],16⟩
 refine zaa ⟨8,[(1,.pv [.I w]),(2,.pv (eC e))],[],100⟩ rfl ?_ ?_
 ·simp
  exact LeH [] [16]
 refine zaa ⟨8,[(3,.B (decide (e.f = w)))],[],200⟩ rfl ?_ ?_
 ·simp
  exact Le.go [] [] rfl rfl (by simp <;> exact wkB (by rw [Bool.eq_iff_iff]; simp)) (by simp)
 refine zah ?_
 exact ⟨.inr rfl,zan.one (by simp)⟩
structure MapI (rows : List (List AV)) (φ : Int → Option AV) : Prop where
 is : MapR rows φ
 flat : ∀ n x,φ n = some x → ∃ v,x = .sc v
theorem MapI.mem {rows : List (List AV)} {φ : Int → Option AV} (h : MapI rows φ) {r : List AV} (hr : r ∈ rows) : ∃ k v,r = [.sc k,.sc v]:=by
 obtain ⟨⟨l,rfl,hn,hf⟩,hfl⟩:=h
 obtain ⟨q,hq,rfl⟩:=List.mem_map.1 hr
 obtain ⟨v,e⟩:=hfl q.1 q.2 (by rw [← hf]; exact zjO hn hq)
 exact ⟨_,v,by rw [e]⟩
theorem MapI.conv' {rows : List (List AV)} {φ : Int → Option AV} (h : MapI rows φ) (ρ : List (Nat × Nat)) (sn : List Nat) (g : Nat → Option Ent) : rows.map (List.map (Go.Proofs.YteiabadhhhckfaaGreat.conv ρ sn g 4)) = rows:=by
 conv=>rhs; rw [← List.map_id rows]
 refine List.map_congr_left fun r hr=>?_
 obtain ⟨k,v,rfl⟩:=h.mem hr
 simp
theorem MapI.set {rows : List (List AV)} {φ ψ : Int → Option AV} (h : MapI rows φ) (n v : Int) (he : ψ = fun k=>if k = n then some (.I v) else φ k) : MapI (mset n (.I v) rows) ψ:=by
 subst he
 refine ⟨h.is.set n (.I v),fun k x hx=>?_⟩
 split at hx
 ·cases hx; exact ⟨_,rfl⟩
 ·exact h.flat k x hx
theorem MapI.del {rows : List (List AV)} {φ ψ : Int → Option AV} (h : MapI rows φ) (n : Int) (he : ψ = fun k=>if k = n then none else φ k) : MapI (mdel n rows) ψ:=by
 subst he
 refine ⟨h.is.del n,fun k x hx=>?_⟩
 split at hx
 ·cases hx
 ·exact h.flat k x hx
theorem zrF (A : List Ed) (l : List Nat) : ∀ n x,metF A l n = some x → ∃ v,x = .sc v:=fun n x h=>by
 unfold metF at h
 obtain ⟨k,_,rfl⟩:=Option.map_eq_some_iff.1 h
 exact ⟨_,rfl⟩
theorem zqf (A : List Ed) : MapI [[.I 0,.I 0]] (metF A []):=by
 have h : metF A [] = fun k=>if k = 0 then some (.I 0) else (fun _=>none) k:=by
  funext k
  unfold metF metA
  simp only [List.map_nil,posN]
  by_cases hk : k = 0
  ·subst hk
   simp
  ·simp [hk,show ¬ 0 = k from fun e=>hk e.symm]
 exact ⟨by rw [h]; exact MapR.nil.set 0 (.I 0),zrF A []⟩
def delF (A : List Ed) (l : List Nat) (d : List Nat) : Int → Option AV:=fun x=>if x ∈ metA A d then none else metF A l x
theorem ztJ (A : List Ed) (l : List Nat) : delF A l [] = metF A l:=by
 funext x
 unfold delF metA
 simp
theorem zsj (A : List Ed) (l d : List Nat) (i : Nat) : delF A l (d ++ [i]) = fun x=>if x = (arcD A i).t then none else delF A l d x:=by
 funext x
 unfold delF
 rw [zg3]
 by_cases h : x = (arcD A i).t
 ·simp [h]
 ·simp [h]
theorem zrA {A : List Ed} {l : List Nat} {x : Int} {k : Nat} (h : posN ((0 : Int) :: metA A l) x = some k) : metF A l x = some (.I k):=by unfold metF; rw [h]; rfl
theorem zrN {A : List Ed} {l : List Nat} {x : Int} (h : posN ((0 : Int) :: metA A l) x = none) : metF A l x = none:=by unfold metF; rw [h]; rfl
theorem zi4 (S : Int → Bool) : ∀ A : List Ed,capS S A = (A.map fun e=>if S e.f = true ∧ S e.t = false then e.v else 0).sum
 | []=>rfl
 | e :: A=>by
   have ih:=zi4 S A
   unfold capS at ih ⊢
   simp only [List.map_cons,sumF,List.sum_cons]
   rw [ih]
theorem zi8 {α : Type} {h : α → Int} : ∀ {l : List α},(∀ x ∈ l,h x = 0) → (l.map h).sum = 0
 | [],_=>rfl
 | x :: l,hx=>by
   rw [List.map_cons,List.sum_cons,hx x (List.mem_cons_self ..),zi8 fun y hy=>hx y (List.mem_cons_of_mem _ hy)]
   rfl
theorem zsu {α : Type} {h : α → Int} : ∀ {l : List α},(∀ x ∈ l,h x ≤ 1) → (l.map h).sum ≤ l.length
 | [],_=>Int.le_refl _
 | x :: l,hx=>by
   have ih:=zsu (l:=l) fun y hy=>hx y (List.mem_cons_of_mem _ hy)
   have h1:=hx x (List.mem_cons_self ..)
   rw [List.map_cons,List.sum_cons,List.length_cons]
   omega
theorem zf8 {g : Gr} {p : Pol} {ks : List Int} (hg : GrOk g) (hp : zaV g.size p) (hk : ∀ x ∈ ks,0 ≤ x ∧ x < g.size) : maxF (netN g) (netA g p ks) ≤ ks.length:=by
 have hno:=zhW hg hp hk
 obtain ⟨f,hf,hv⟩:=zpH hno
 rw [← hv]
 refine Int.le_trans (zdM (S:=fun x=>decide (x ≠ 1)) hno hf (by simp) (by simp)) ?_
 rw [zi4]
 simp only [netA,zaX,List.map_append,List.sum_append,List.map_map]
 have hle:=zhJ hg p.lv
 rw [zi8,zi8,zi8 (l:=(zai g p.lv).edges.filter _)]
 ·have h1:=zsu (h:=(fun e : Ed=>if (decide (e.f ≠ 1)) = true ∧ (decide (e.t ≠ 1)) = false then e.v else 0) ∘ fun x : Int=>(⟨2 + 2 * x,1,1⟩ : Ed)) (l:=ks.filter fun x=>decide (0 < (zaC g p).getD x.toNat 0)) fun x _=>by
   simp only [Function.comp]
   split <;> omega
  have h2:=List.length_filter_le (fun x=>decide (0 < (zaC g p).getD x.toNat 0)) ks
  omega
 ·intro e he
  have:=hle.2 e (List.mem_filter.1 he).1
  simp only [Function.comp]
  rw [if_neg]
  simp
  omega
 ·intro i _
  simp only [Function.comp]
  rw [if_neg]
  simp
  omega
 ·intro x _
  simp only [Function.comp]
  rw [if_neg]
  simp
  omega
theorem zoZ {N : Nat} {A : List Ed} {f : List Int} (hn : zc5 N A) : exF A f 0 = valF A f:=by
 unfold exF valF
 rw [zfz hn]
 omega
section
variable {P : Program} {np id : Nat} {h : Nat → Option Ent} {K : AV → List Nat → List (Nat × Option Ent) → Prop} {f : FuncId} {first capt args args' : List AV} {res : AV}
theorem zsX {j : Nat} {ej : Ent} (hnp : np ≤ j) (hj : h j = some ej) (hc : zak P f args' [] res []) (he : (first ++ args ++ capt).map (conv [] [j] h 4) = args')
  (hk : K (conv (swp [] id) [] (fun _=>none) 4 res) [j] [(j,some { ej with ro:=ej.rows.length })]) : aK P np id .call (.fn (.func f) first capt :: args) h K :=
 ⟨[],[j],true,args',[],res,[],by simp,by simp,by simpa using hnp,by rw [List.zipIdx_nil,he]; exact zbV _,rfl,hc,by simp,.inl rfl,by simpa [swp,hj] using hk⟩
end
def zjk (g : Gr) (p : Pol) (ks : List Int) (W : List (List Nat)) : Prop :=
 ∃ f g',zit g p (zav ks) f ∧ zeH (netN g) (netA g p (zav ks)) f g' W ∧ (W.length : Int) = maxF (netN g) (netA g p (zav ks)) ∧ ∀ w ∈ W,w.length ≤ 130
structure PSt where
 W : List (List Nat)
 g : List Int
set_option maxRecDepth 100000 in
set_option maxHeartbeats 4000000 in
theorem zrB (g : Gr) (p : Pol) (ks : List Int) (hg : GrOk g) (hp : zaV g.size p) (hs : p.seeds.length ≤ 64) (hk : ∀ x ∈ ks,0 ≤ x ∧ x < g.size) (hkl : ks.length ≤ 1000) :
  ∃ W,zjk g p ks W ∧ zak Tryz.prog zfZ [eG g,eP p,ints ks] [] (zaS (W.map (zaY (netA g p (zav ks))))) []:=by
 refine znX.acallsX (args:=[eG g,eP p,ints ks]) (hs:=[]) (fun W=>zaS (W.map (zaY (netA g p (zav ks))))) (fun _=>[]) (fun W=>zjk g p ks W) (nbz rfl) (nbz rfl) (fun _=>Nat.le_refl _) ?_
 show awp _ 0 _ _ ⟨55,[(0,eG g),(1,eP p),(2,ints ks)],[],16⟩
 have hJl:=zcS ks
 have hJr:=zey hk
 have hJk:=zi9 hJr
 have hjn:=zkd ks [] (by omega) (by simp)
 rw [List.append_nil] at hjn
 have hnet:=zfk g p (zav ks) hg hp hJr hs hJl
 rw [← ze2 hg] at hnet
 have hnv:=zgU hg hp hJk hs hJl
 have hno:=zhW hg hp hJk
 have hmx:=zf8 hg hp hJk
 obtain ⟨f,⟨hf1,hf2⟩,hmax⟩:=zuI _ _ hnv
 have hgf : zit g p (zav ks) f:=⟨hf1,hf2,(ze8 hf1 hf2).symm⟩
 have hfl:=hf1.fit.len
 have hsz:=hg.1.1
 have hsz2:=hg.1.2.1
 have hR : ∀ W g',zeH (netN g) (netA g p (zav ks)) f g' W → (W.length : Int) = maxF (netN g) (netA g p (zav ks)) → (∀ w ∈ W,w.length ≤ 130) → zjk g p ks W:=fun W g' h1 h2 h3=>⟨f,g',hgf,h1,h2,h3⟩
 have hval:=hgf.val
 rw [← zoZ hno] at hval
 have hN2:=ze2 hg
 have hNr : (2 + 2 * g.size).toNat = netN g:=rfl
 obtain ⟨A,hA⟩ : ∃ A,A = netA g p (zav ks):=⟨_,rfl⟩
 obtain ⟨N,hN⟩ : ∃ N,N = netN g:=⟨_,rfl⟩
 obtain ⟨J,hJ⟩ : ∃ J,J = zav ks:=⟨_,rfl⟩
 rw [show zaX g p (zaC g p) (zav ks) = A from hA.symm,← hN,← hJ] at hnet
 rw [← hA,← hN] at hmax hno hnv hf1 hmx hR hval
 rw [← hA] at hfl ⊢
 rw [← hJ] at hjn hJl hmx
 rw [← hN] at hNr
 have hal:=hnv.2.2.1
 simp only at hal
 have hfit:=zb8.1 hf1.fit
 have hkeys:=fun l h1 h2=>zuu g.size A l hsz hsz2 (by rw [hNr]; exact hno) hal h1 h2
 have hfb : ∀ i,f.getD i 0 ≤ 1048576:=fun i=>by
  by_cases hi : i < A.length
  ·have h1:=hfit.2 i hi
   have h2 : (arcD A i).v ≤ 1048576:=(hnv.2.2.2 _ (zbD hi)).2.2.2.2.2.2.2.2
   omega
  ·rw [List.getD_eq_getElem?_getD,List.getElem?_eq_none (by omega)]
   simp
 have htf : ∀ h : Int → List AV,List.take A.length (List.map h f) = List.map h f:=fun h=>List.take_of_length_le (by simp; omega)
 refine zaa ⟨55,[(2,ints ks),(3,.pv (gC g)),(4,.pv (pC p))],[],100⟩ rfl ?_ ?_
 ·simp
  exact LeH [] [16,24]
 refine zaq ⟨55,[(3,.pv (gC g)),(7,.pv (nC ⟨N,A⟩)),(8,.I 0)],[],300⟩ rfl ?_ ?_
 ·simp
  refine zmz hjn (by simp [Wk.refl,ints,Wk.nil]) ?_
  simp
  refine zsX (j:=124) (by decide) rfl hnet (by simp [zaj,fcd]) ?_
  simp
  exact ⟨rfl,LeH [] [164]⟩
 refine zab ?_
 refine zaa ⟨55,[(3,.pv (gC g)),(7,.pv (nC ⟨N,A⟩)),(24,.B false)],[],400⟩ rfl ?_ ?_
 ·simp
  exact LeH [] []
 refine zac _ rfl (fun h=>by cases h) fun _=>?_
 refine zad ?_
 refine zaa ⟨55,[(3,.pv (gC g)),(7,.pv (nC ⟨N,A⟩)),(8,.I 0),(9,.rs 33 0 A.length)],[(33,some ⟨1,zae f,0⟩)],500⟩ rfl ?_ ?_
 ·simp
  refine zaM hmax (by simp) ?_
  simp
  exact LeI [(408,33)] []
 refine zab ?_
 refine zaa ⟨55,[(3,.pv (gC g)),(7,.pv (nC ⟨N,A⟩)),(9,.rs 33 0 A.length),(31,.B false)],[(33,some ⟨1,zae f,0⟩)],600⟩ rfl ?_ ?_
 ·simp
  exact LeI [(33,33)] []
 refine zac _ rfl (fun h=>by cases h) fun _=>?_
 refine zad ?_
 refine zaa ⟨55,[(3,.pv (gC g)),(7,.pv (nC ⟨N,A⟩)),(10,.rs 18 0 A.length)],[(18,some ⟨1,zae f,0⟩)],700⟩ rfl ?_ ?_
 ·simp [hfl,htf]
  refine ⟨by omega,by omega,?_⟩
  exact LeI [(616,18)] []
 refine zaa ⟨55,[(3,.pv (gC g)),(7,.pv (nC ⟨N,A⟩)),(10,.rs 18 0 A.length),(11,.nilS)],[(18,some ⟨1,zae f,0⟩)],800⟩ rfl ?_ ?_
 ·simp
  exact LeI [(18,18)] []
 refine zaf ?_
 refine zao (ι:=PSt) (fun s=>⟨55,[(3,.pv (gC g)),(7,.pv (nC ⟨N,A⟩)),(10,.rs 18 0 A.length),(11,.rs 17 0 s.W.length)],[(18,some ⟨1,zae s.g,0⟩),(17,some ⟨1,s.W.map fun w=>[ints (zaY A w)],0⟩)],800⟩)
  (fun s=>zeH N A f s.g s.W ∧ ∀ w ∈ s.W,w.length ≤ 130) (fun s=>(exF A s.g 0).toNat) ⟨[],f⟩ ⟨zeH.nil hf1.balF,by simp⟩
  (Le.lst [(18,18)] [] [(17,1)] rfl (by simp) (by simp) (by simp) (by simp) (by simp) (by simp) (by simp) (by simp [Up]) (by simp [fcd]; exact zay.rfl' (by simp))) ?_
 rintro ⟨W,g'⟩ ⟨hT,hWl⟩
 simp only at hT hWl
 have hgl:=hT.bal.len
 have hgb : ∀ i,g'.getD i 0 ≤ 1048576:=fun i=>by
  have h1:=hT.used i
  have h2:=hfb i
  omega
 obtain ⟨⟨l,g2⟩,hl,hcall⟩:=zvb N A g' hnv hT.bal hgb
 simp only at hl hcall
 have he0:=zhY hno hT.bal
 have hex:=hT.ex
 have htg : ∀ h : Int → List AV,List.take A.length (List.map h g') = List.map h g':=fun h=>List.take_of_length_le (by simp; omega)
 refine zaf ?_
 refine zaa ⟨55,[(3,.pv (gC g)),(7,.pv (nC ⟨N,A⟩)),(10,.rs 18 0 A.length),(11,.rs 17 0 W.length),(12,ints (natL l))],[(18,some ⟨1,zae g2,0⟩),(17,some ⟨1,W.map fun w=>[ints (zaY A w)],0⟩)],900⟩ rfl ?_ ?_
 ·simp
  refine zbl (i:=18) rfl (e':=⟨1,zae g',0⟩) (by simp [fcd]) hcall (by simp) (by simp [htg,hgl]) ?_
  simp
  exact LeI [(18,18),(17,17)] []
 refine zab ?_
 refine zaa ⟨55,[(3,.pv (gC g)),(7,.pv (nC ⟨N,A⟩)),(10,.rs 18 0 A.length),(11,.rs 17 0 W.length),(12,ints (natL l)),(40,.B (decide (l = [])))],[(18,some ⟨1,zae g2,0⟩),(17,some ⟨1,W.map fun w=>[ints (zaY A w)],0⟩)],1000⟩ rfl ?_ ?_
 ·simp [zdo]
  exact Le.go [(18,18),(17,17)] [] rfl rfl (by simp <;> exact wkB (by rw [Bool.eq_iff_iff]; simp [natL])) (by simp [fcd])
 refine zac _ rfl (fun h5=>?_) fun h5=>?_
 ·rw [decide_eq_true_eq] at h5
  subst h5
  have hz : exF A g' 0 ≤ 0:=by
   rcases hl with h | h
   ·exact h.2
   ·have : (0 : Int) = 1:=h.way
    omega
  refine zaa ⟨55,[(6,.vs 1 false (W.map fun w=>[ints (zaY A w)]))],[],1100⟩ rfl ?_ ?_
  ·simp
   exact Le.go [] [17] rfl rfl (by simp [fcd,zaj]) (by simp)
  refine zah ?_
  exact zdZ.mk (.inr rfl) W (hR W g' hT (by omega) hWl) (zan.one (by rw [show zaS (W.map (zaY A)) = .vs 1 false (W.map fun w=>[ints (zaY A w)]) from by simp [fcd]]; simp))
 rw [decide_eq_false_iff_not] at h5
 have hla : zeE A g' g2 l 1:=by
  rcases hl with h | h
  ·exact absurd h.1 h5
  ·exact h
 have hfew:=hla.few hno
 have hn1:=hnv.2.1
 simp only at hn1
 have hky:=hkeys l hla.way (by omega)
 have hmo:=hT.more hla
 have hex2:=(hla.balF hT.bal).2
 have he2:=zhY hno hmo.bal
 refine zad ?_
 refine zaa ⟨55,[(3,.pv (gC g)),(7,.pv (nC ⟨N,A⟩)),(10,.rs 18 0 A.length),(11,.rs 17 0 W.length),(13,ints (zaY A l))],[(18,some ⟨1,zae g2,0⟩),(17,some ⟨1,W.map fun w=>[ints (zaY A w)],0⟩)],1200⟩ rfl ?_ ?_
 ·simp
  refine zal hky (by simp) ?_
  simp
  exact LeI [(18,18),(17,17)] []
 have htW : ∀ h : List Nat → List AV,List.take W.length (List.map h W) = List.map h W:=fun h=>List.take_of_length_le (by simp)
 refine zar rfl ?_
 simp [htW]
 refine ⟨by omega,by omega,⟨W ++ [l],g2⟩,⟨hmo,fun w hw=>?_⟩,?_,LeI [(18,18),(1224,17)] []⟩
 ·rcases List.mem_append.1 hw with h | h
  ·exact hWl w h
  ·rw [List.mem_singleton] at h
   subst h
   omega
 ·simp only
  omega
end Go.Proofs.YteiabadhhhckfaaGreat
