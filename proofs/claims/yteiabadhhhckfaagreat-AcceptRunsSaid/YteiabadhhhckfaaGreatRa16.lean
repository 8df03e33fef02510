/- Texts of this claim,merged. -/
import Derived.Test.YteiabadhhhckfaaGreatRa14
import Derived.Test.YteiabadhhhckfaaGreatRa9
import Derived.Test.YteiabadhhhckfaaGreatRa15
import Derived.Test.YteiabadhhhckfaaGreatRa7
set_option linter.unusedSimpArgs false
set_option linter.unusedVariables false
set_option linter.unusedSectionVars false
namespace Go.Proofs.YteiabadhhhckfaaGreat
open Go
variable {N : Nat} {A : List Ed} {f : List Int}
theorem netG_bnd (hl : f.length = A.length) (x : Int) : ∀ i,i ≤ A.length → (∀ j (h : j < f.length),j < i → 0 ≤ f[j] ∧ f[j] ≤ 1048576) → -(1048576 * (i : Int)) ≤ netG A f i x ∧ netG A f i x ≤ 1048576 * (i : Int)
 | 0,_,_=>by rw [netG_zero]; omega
 | i + 1,h,hb=>by
   have ih:=netG_bnd hl x i (by omega) fun j h1 h2=>hb j h1 (by omega)
   have h2:=hb i (by omega) (by omega)
   rw [netG_succ (by omega) (by omega)]
   split <;> split <;> omega
set_option maxRecDepth 100000 in
set_option maxHeartbeats 4000000 in
open Classical in
theorem ref15_Valid_ok (hn : NetVal ⟨N,A⟩) (hfl0 : f.length ≤ 1099511627776) : ACalls Tryz.prog nref15_Valid [eN ⟨N,A⟩,ints f] [] (.B (decide (FlowOk N A f))) []:=by
 refine sref15_Valid.acalls (Nat.le_of_ble_eq_true rfl) (Nat.le_of_ble_eq_true rfl) (Nat.le_refl _) ?_
 show awp _ 0 _ _ ⟨87,[(0,eN ⟨N,A⟩),(1,ints f)],[],16⟩
 have hchk:=ref15_Check_ok ⟨N,A⟩ (by have:=hn.2.2.1; simp only at this ⊢; omega)
 rw [if_pos hn] at hchk
 obtain ⟨hn0,hn1,hal,hav⟩:=hn
 simp only at hn0 hn1 hal hav
 refine rx (s:=?s1) [1,2] [] [16] rfl ?o1 ?q1
 case o1=>simp; rfl
 refine awp_seq ?_
 refine awp_regc ⟨87,[(1,ints f),(2,.pv (nC ⟨N,A⟩)),(18,.B (!decide (f.length = A.length)))],[],120⟩ rfl ?_ ?_
 ·simp
  refine call0e hchk (by simp) ?_
  simp
  exact Le.snap [] rfl rfl (by simp <;> exact wkB (by rw [Bool.eq_iff_iff]; simp <;> omega))
 refine awp_cond _ rfl (fun h3=>?_) fun h3=>?_
 ·have h3' : ¬ f.length = A.length:=by simpa using h3
  have hno : ¬ FlowOk N A f:=fun h=>h3' (flowOk_iff.1 h).1
  refine rx (s:=?s3) [4] [] [] rfl ?o3 ?q3
  case o3=>simp; rfl
  refine awp_ret ?_
  exact ⟨.inr rfl,RetOk.one (by simp [hno])⟩
 have hfl : f.length = A.length:=by simpa using h3
 refine awp_skip ?_
 refine awp_regc ⟨87,[(1,ints f),(2,.pv (nC ⟨N,A⟩)),(5,.rs 136 0 N)],[(136,some ⟨1,rowsI (rowR N (netG A f 0)),0⟩)],144⟩ rfl ?_ ?_
 ·simp
  refine ⟨by omega,by omega,?_⟩
  have : rowR N (netG A f 0) = List.replicate N 0:=by
   unfold rowR
   simp only [netG_zero]
   simp [List.map_const']
  rw [this]
  exact Le.go [(136,136)] [] rfl rfl (by simp) (by simp)
 refine awp_seq ?_
 refine awp_regc ⟨87,[(1,ints f),(2,.pv (nC ⟨N,A⟩)),(5,.rs 136 0 N),(6,.I 0)],[(136,some ⟨1,rowsI (rowR N (netG A f 0)),0⟩)],160⟩ rfl ?_ ?_
 ·simp
  exact Le.go [(136,136)] [] rfl rfl (by simp) (by simp [fcd])
 refine awp_block ?_
 refine awp_loop (ι:=Nat) (fun i=>⟨87,[(1,ints f),(2,.pv (nC ⟨N,A⟩)),(5,.rs 136 0 N),(6,.I i)],[(136,some ⟨1,rowsI (rowR N (netG A f i)),0⟩)],160⟩) (fun i=>i ≤ A.length ∧ ∀ k,k < i → FitAt A f k) (fun i=>A.length - i) 0 ⟨Nat.zero_le _,fun k h=>absurd h (Nat.not_lt_zero _)⟩ (Le.go [(136,136)] [] rfl rfl (by simp) (by simp [fcd])) ?_
 rintro i ⟨hi,hp⟩
 have hfb : ∀ j (h : j < f.length),j < i → 0 ≤ f[j] ∧ f[j] ≤ 1048576:=fun j hj hji=>by
  have h1:=hp j hji
  unfold FitAt at h1
  have e1 : f.getD j 0 = f[j]:=by rw [List.getD_eq_getElem?_getD,List.getElem?_eq_getElem hj,Option.getD_some]
  have e2 : arcD A j = A[j]'(by omega):=by unfold arcD; rw [List.getD_eq_getElem?_getD,List.getElem?_eq_getElem (by omega),Option.getD_some]
  rw [e1,e2] at h1
  have h2:=(hav _ (List.getElem_mem (show j < A.length by omega))).2.2.2.2.2.2.2.2
  omega
 have hbd:=fun x=>netG_bnd hfl x i hi hfb
 refine awp_seq ?_
 refine awp_regc ⟨87,[(1,ints f),(2,.pv (nC ⟨N,A⟩)),(5,.rs 136 0 N),(6,.I i),(25,.B (decide (i < f.length)))],[(136,some ⟨1,rowsI (rowR N (netG A f i)),0⟩)],192⟩ rfl ?_ ?_
 ·simp
  exact Le.go [(136,136)] [] rfl rfl (by simp) (by simp [fcd])
 refine awp_cond _ rfl (fun h8=>?_) fun h8=>?_
 ·simp at h8
  have hiA : i < A.length:=by omega
  have hw1 : IntKind.i64.wrap ((i : Int) + 1) = (i : Int) + 1:=w64 (by omega) (by omega)
  have heo:=hav _ (List.getElem_mem hiA)
  have hsucc:=netG_succ hiA h8
  have hbe:=hbd
  obtain ⟨e,he⟩ : ∃ e,e = A[i]:=⟨_,rfl⟩
  obtain ⟨w,hw⟩ : ∃ w,w = f[i]:=⟨_,rfl⟩
  rw [← he,← hw] at hsucc
  rw [← he] at heo
  obtain ⟨e1,e2,e3,e4,e5,e6,e7,e8,b3⟩:=heo
  have hfa : FitAt A f i ↔ 0 ≤ w ∧ w ≤ e.v:=by
   unfold FitAt arcD
   rw [List.getD_eq_getElem?_getD,List.getElem?_eq_getElem h8,Option.getD_some,List.getD_eq_getElem?_getD,List.getElem?_eq_getElem hiA,Option.getD_some,he,hw]
  have hg1 : A[i]? = some e:=by rw [List.getElem?_eq_getElem hiA,he]
  have hg2 : f[i]? = some w:=by rw [List.getElem?_eq_getElem h8,hw]
  have h2N : e.f < (N : Int) ∧ e.t < (N : Int):=by omega
  have h1:=hbe e.f
  have h2:=hbe e.t
  have hr1:=rowR_get (N:=N) (g:=netG A f i) (x:=e.f) e1 (by omega)
  have hs1:=rowR_set (N:=N) (g:=netG A f i) (x:=e.f) (v:=netG A f i e.f - w) e1 (by omega)
  obtain ⟨g1,hg1d⟩ : ∃ g1 : Int → Int,g1 = fun y=>if y = e.f then netG A f i e.f - w else netG A f i y:=⟨_,rfl⟩
  rw [← hg1d] at hs1
  have hg1t : g1 e.t = netG A f i e.t:=by rw [hg1d]; exact if_neg fun h=>e5 h.symm
  have hr2:=rowR_get (N:=N) (g:=g1) (x:=e.t) e3 (by omega)
  rw [hg1t] at hr2
  have hs2:=rowR_set (N:=N) (g:=g1) (x:=e.t) (v:=netG A f i e.t + w) e3 (by omega)
  have hend : (rowR N fun y=>if y = e.t then netG A f i e.t + w else g1 y) = rowR N (netG A f (i + 1)):=rowR_congr fun x=>by
   rw [hsucc,hg1d]
   simp only
   by_cases h3 : x = e.t
   ·rw [h3,if_pos rfl,if_pos rfl,if_neg e5]
    omega
   ·by_cases h4 : x = e.f
    ·rw [if_neg h3,if_pos h4,if_neg fun h=>h3 h.symm,if_pos h4.symm,h4]
     omega
    ·rw [if_neg h3,if_neg h4,if_neg fun h=>h3 h.symm,if_neg fun h=>h4 h.symm]
     omega
  rw [hend] at hs2
  refine awp_skip ?_
  refine awp_cut (ι:=Unit) (fun _=>⟨87,[(1,ints f),(2,.pv (nC ⟨N,A⟩)),(5,.rs 136 0 N),(6,.I i)],[(136,some ⟨1,rowsI (rowR N (netG A f (i + 1))),0⟩)],1000⟩) (fun _=>FitAt A f i) ?_ fun _ hfit=>?_
  ·refine awp_block ?_
   refine awp_seq ?_
   refine awp_dregc ⟨87,[(1,ints f),(2,.pv (nC ⟨N,A⟩)),(5,.rs 136 0 N),(6,.I i),(45,.B (!decide (0 ≤ w ∧ w ≤ e.v)))],[(136,some ⟨1,rowsI (rowR N (netG A f i)),0⟩)],500⟩ rfl ?_ ?_
   ·simp [hg1,hg2,hiA,h8,← he,← hw]
    refine gcase (fun hb=>?_) (fun hb=>?_) <;> (try rw [hb]) <;> (try simp at hb) <;> simp [hb,hg1,hg2,hiA,h8,← he,← hw]
    ·exact ⟨rfl,Le.go [(136,136)] [] rfl rfl (by simp <;> exact wkB (by rw [Bool.eq_iff_iff]; simp <;> omega)) (by simp [fcd])⟩
    ·exact ⟨rfl,Le.go [(136,136)] [] rfl rfl (by simp <;> exact wkB (by rw [Bool.eq_iff_iff]; simp <;> omega)) (by simp [fcd])⟩
   refine awp_cond _ rfl (fun h45=>?_) fun h45=>?_
   ·have h45' : ¬ (0 ≤ w ∧ w ≤ e.v):=fun h=>by rw [decide_eq_true h] at h45; cases h45
    have hno : ¬ FlowOk N A f:=fun h=>h45' (hfa.1 ((flowOk_iff.1 h).2.1 i hiA))
    refine rx (s:=?s46) [4] [] [] rfl ?o46 ?q46
    case o46=>simp; rfl
    refine awp_ret ?_
    exact ⟨.inr rfl,RetOk.one (by simp [hno])⟩
   have h45' : 0 ≤ w ∧ w ≤ e.v:=Decidable.byContradiction fun h=>by rw [decide_eq_false h] at h45; cases h45
   obtain ⟨b1,b2⟩:=h45'
   have hwx : IntKind.i64.wrap (netG A f i e.f - w) = netG A f i e.f - w:=w64 (by omega) (by omega)
   have hwy : IntKind.i64.wrap (netG A f i e.t + w) = netG A f i e.t + w:=w64 (by omega) (by omega)
   refine awp_skip ?_
   refine awp_dregc ⟨87,[(1,ints f),(2,.pv (nC ⟨N,A⟩)),(5,.rs 136 0 N),(6,.I i)],[(136,some ⟨1,rowsI (rowR N g1),0⟩)],700⟩ rfl ?_ ?_
   ·simp [hg1,hg2,hiA,h8,← he,← hw,hr1,e1,h2N,hwx,splice]
    exact ⟨rfl,Le.go [(136,136)] [] rfl rfl (by simp) (by simp [fcd,← hs1])⟩
   refine awp_drw rfl ?_
   simp [hg1,hg2,hiA,h8,← he,← hw,hr2,e3,h2N,hwy,splice]
   exact ⟨rfl,hfa.2 ⟨b1,b2⟩,Le.go [(136,136)] [] rfl rfl (by simp) (by simp [fcd,← hs2])⟩
  refine awp_run (s:=?s20) rfl ?o20 ?q20
  case o20=>simp; rfl
  exact ⟨i + 1,⟨by omega,fun k hk=>by
   rcases Nat.lt_succ_iff_lt_or_eq.1 hk with h | h
   ·exact hp k h
   ·rw [h]; exact hfit⟩,by omega,Le.go [(136,136)] [] rfl rfl (by simp [hw1]) (by simp [fcd])⟩
 simp at h8
 obtain rfl : i = A.length:=by omega
 refine awp_exit ?_
 refine hit ?_
 refine awp_seq ?_
 refine awp_regc ⟨87,[(2,.pv (nC ⟨N,A⟩)),(5,.rs 136 0 N),(7,.I 2)],[(136,some ⟨1,rowsI (rowR N (netG A f A.length)),0⟩)],200⟩ rfl ?_ ?_
 ·simp
  exact Le.go [(136,136)] [] rfl rfl (by simp) (by simp [fcd])
 refine awp_block ?_
 refine awp_loop (ι:=Nat) (fun k=>⟨87,[(2,.pv (nC ⟨N,A⟩)),(5,.rs 136 0 N),(7,.I k)],[(136,some ⟨1,rowsI (rowR N (netG A f A.length)),0⟩)],200⟩) (fun k=>(2 ≤ k ∧ k ≤ N) ∧ ∀ x : Nat,2 ≤ x → x < k → exF A f x = 0) (fun k=>N - k) 2 ⟨by omega,fun x h1 h2=>by omega⟩ (Le.go [(136,136)] [] rfl rfl (by simp) (by simp [fcd])) ?_
 rintro k ⟨⟨hk1,hk2⟩,hz⟩
 refine awp_seq ?_
 refine awp_regc ⟨87,[(2,.pv (nC ⟨N,A⟩)),(5,.rs 136 0 N),(7,.I k),(79,.B (decide (k < N)))],[(136,some ⟨1,rowsI (rowR N (netG A f A.length)),0⟩)],300⟩ rfl ?_ ?_
 ·simp
  exact Le.go [(136,136)] [] rfl rfl (by simp) (by simp [fcd])
 refine awp_cond _ rfl (fun h15=>?_) fun h15=>?_
 ·simp at h15
  have hr:=rowR_get (N:=N) (g:=netG A f A.length) (x:=(k : Int)) (by omega) (by omega)
  have hng:=netG_all hfl (k : Int)
  obtain ⟨z,hzd⟩ : ∃ z,z = netG A f A.length k:=⟨_,rfl⟩
  rw [← hzd] at hr hng
  simp only [Int.toNat_natCast] at hr
  have hw1 : IntKind.i64.wrap ((k : Int) + 1) = (k : Int) + 1:=w64 (by omega) (by omega)
  refine awp_skip ?_
  refine awp_seq ?_
  refine awp_block ?_
  refine awp_regc ⟨87,[(2,.pv (nC ⟨N,A⟩)),(5,.rs 136 0 N),(7,.I k),(86,.B (!decide (z = 0)))],[(136,some ⟨1,rowsI (rowR N (netG A f A.length)),0⟩)],400⟩ rfl ?_ ?_
  ·simp [hr,h15]
   exact Le.go [(136,136)] [] rfl rfl (by simp <;> exact wkB (by rw [Bool.eq_iff_iff]; simp)) (by simp [fcd])
  refine awp_cond _ rfl (fun h86=>?_) fun h86=>?_
  ·have h86' : ¬ z = 0:=by simpa using h86
   have hno : ¬ FlowOk N A f:=fun h=>h86' (by rw [hng,(flowOk_iff.1 h).2.2 k hk1 h15]; rfl)
   refine rx (s:=?s87) [4] [] [] rfl ?o87 ?q87
   case o87=>simp; rfl
   refine awp_ret ?_
   exact ⟨.inr rfl,RetOk.one (by simp [hno])⟩
  have h86' : z = 0:=by simpa using h86
  refine awp_skip ?_
  refine awp_run (s:=?s21) rfl ?o21 ?q21
  case o21=>simp; rfl
  exact ⟨k + 1,⟨by omega,fun x h1 h2=>by
   rcases Nat.lt_succ_iff_lt_or_eq.1 h2 with h | h
   ·exact hz x h1 h
   ·subst h; omega⟩,by omega,Le.go [(136,136)] [] rfl rfl (by simp [hw1]) (by simp [fcd])⟩
 simp at h15
 have hyes : FlowOk N A f:=flowOk_iff.2 ⟨hfl,hp,fun x h1 h2=>hz x h1 (by omega)⟩
 refine awp_exit ?_
 refine hit ?_
 refine awp_regc ⟨87,[(4,.B true)],[],400⟩ rfl ?_ ?_
 ·simp
  exact Le.go [] [] rfl rfl (by simp) (by simp)
 refine awp_ret ?_
 exact ⟨.inr rfl,RetOk.one (by simp [hyes])⟩
set_option maxRecDepth 100000 in
open Classical in
theorem ref15_Value_ok (hn : NetVal ⟨N,A⟩) (hfl0 : f.length ≤ 1099511627776) : ACalls Tryz.prog nref15_Value [eN ⟨N,A⟩,ints f] [] (.I (if FlowOk N A f then valF A f else 0)) []:=by
 by_cases hf : FlowOk N A f
 ·rw [if_pos hf]
  exact ref15_Value_flow hn hf
 rw [if_neg hf]
 have hchk:=ref15_Valid_ok hn hfl0
 rw [decide_eq_false hf] at hchk
 refine sref15_Value.acalls (Nat.le_of_ble_eq_true rfl) (Nat.le_of_ble_eq_true rfl) (Nat.le_refl _) ?_
 show awp _ 0 _ _ ⟨31,[(0,eN ⟨N,A⟩),(1,ints f)],[],16⟩
 refine rx (s:=?s1) [1,2] [] [16] rfl ?o1 ?q1
 case o1=>simp; rfl
 refine awp_seq ?_
 refine rx (s:=?s2) [1,2,10] [] [] rfl ?o2 ?q2
 case o2=>simp; refine call0e hchk (by simp) ?_; simp; rfl
 refine awp_cond _ rfl (fun h=>?_) fun h=>by cases h
 refine rx (s:=?s3) [4] [] [] rfl ?o3 ?q3
 case o3=>simp; rfl
 refine awp_ret ?_
 exact ⟨.inr rfl,RetOk.one (by simp)⟩
set_option maxRecDepth 100000
def cref17_partition : AFun:=⟨65,[(4,none)],
 (.seq
 (.reg false [
  ⟨(some 3),(.box 3),[(.t 1)],none⟩,
  ⟨(some 4),.mv,[(.c (.bool false))],none⟩] [])
 (.seq
 (.reg false [
  ⟨(some 5),.mv,[(.c (.int .i64 0))],none⟩,
  ⟨(some 6),.mv,[(.c (.int .i64 0))],none⟩] [])
 (.seq
 (.seq
 (.reg false [
  ⟨(some 7),.mv,[(.c (.int .i64 0))],none⟩] [])
 (.block 0
 (.loop
 (.seq
 (.seq
 (.reg false [
  ⟨(some 8),.mv,[(.t 7)],none⟩,
  ⟨(some 9),.mv,[(.t 0)],none⟩,
  ⟨(some 10),.len,[(.t 9)],none⟩,
  ⟨(some 11),(.bin .lss),[(.t 8),(.t 10)],none⟩] [])
 (.cond (.t 11)
  .skip
  (.exit 0)))
 (.seq
 (.block 1
 (.seq
 (.reg true [
  ⟨(some 14),.mv,[(.t 5)],none⟩,
  ⟨(some 15),(.fad 0),[(.t 3)],none⟩,
  ⟨(some 16),(.ld false 1),[(.t 15)],none⟩,
  ⟨(some 17),.len,[(.t 16)],none⟩,
  ⟨(some 18),(.bin .lss),[(.t 14),(.t 17)],none⟩,
  ⟨(some 19),.mv,[(.t 18)],none⟩,
  ⟨(some 20),(.fad 0),[(.t 3)],(some (19,true))⟩,
  ⟨(some 21),(.ld false 1),[(.t 20)],(some (19,true))⟩,
  ⟨(some 22),.mv,[(.t 5)],(some (19,true))⟩,
  ⟨(some 23),(.iad 1),[(.t 21),(.t 22)],(some (19,true))⟩,
  ⟨(some 24),(.ld false 1),[(.t 23)],(some (19,true))⟩,
  ⟨(some 25),.mv,[(.t 0)],(some (19,true))⟩,
  ⟨(some 26),.mv,[(.t 7)],(some (19,true))⟩,
  ⟨(some 27),(.iad 1),[(.t 25),(.t 26)],(some (19,true))⟩,
  ⟨(some 28),(.ld false 1),[(.t 27)],(some (19,true))⟩,
  ⟨(some 29),(.bin .eql),[(.t 24),(.t 28)],(some (19,true))⟩,
  ⟨(some 30),.pick,[(.t 19),(.t 29),(.c (.bool false))],none⟩] [[],[],[1],[2],[0,3],[4],[5],[6,5],[5],[7,8,5],[9,5],[5],[5],[11,12,5],[13,5],[10,14,5],[5,15]])
 (.cond (.t 30)
  (.reg false [
   ⟨(some 31),.mv,[(.t 5)],none⟩,
   ⟨(some 32),(.bin .add),[(.t 31),(.c (.int .i64 1))],none⟩,
   ⟨(some 5),.mv,[(.t 32)],none⟩] [])
  (.seq
  (.reg true [
   ⟨(some 33),.mv,[(.t 6)],none⟩,
   ⟨(some 34),(.fad 2),[(.t 3)],none⟩,
   ⟨(some 35),(.ld false 1),[(.t 34)],none⟩,
   ⟨(some 36),.len,[(.t 35)],none⟩,
   ⟨(some 37),(.bin .lss),[(.t 33),(.t 36)],none⟩,
   ⟨(some 38),.mv,[(.t 37)],none⟩,
   ⟨(some 39),(.fad 2),[(.t 3)],(some (38,true))⟩,
   ⟨(some 40),(.ld false 1),[(.t 39)],(some (38,true))⟩,
   ⟨(some 41),.mv,[(.t 6)],(some (38,true))⟩,
   ⟨(some 42),(.iad 2),[(.t 40),(.t 41)],(some (38,true))⟩,
   ⟨(some 43),(.fad 0),[(.t 42)],(some (38,true))⟩,
   ⟨(some 44),(.ld false 1),[(.t 43)],(some (38,true))⟩,
   ⟨(some 45),.mv,[(.t 0)],(some (38,true))⟩,
   ⟨(some 46),.mv,[(.t 7)],(some (38,true))⟩,
   ⟨(some 47),(.iad 1),[(.t 45),(.t 46)],(some (38,true))⟩,
   ⟨(some 48),(.ld false 1),[(.t 47)],(some (38,true))⟩,
   ⟨(some 49),(.bin .eql),[(.t 44),(.t 48)],(some (38,true))⟩,
   ⟨(some 50),.pick,[(.t 38),(.t 49),(.c (.bool false))],none⟩] [[],[],[1],[2],[0,3],[4],[5],[6,5],[5],[7,8,5],[9,5],[10,5],[5],[5],[12,13,5],[14,5],[11,15,5],[5,16]])
  (.cond (.t 50)
   (.reg false [
    ⟨(some 51),.mv,[(.t 6)],none⟩,
    ⟨(some 52),(.bin .add),[(.t 51),(.c (.int .i64 1))],none⟩,
    ⟨(some 6),.mv,[(.t 52)],none⟩] [])
   (.seq
   (.reg false [
    ⟨(some 4),.mv,[(.c (.bool false))],none⟩] [])
   .ret))))))
 (.reg false [
  ⟨(some 12),.mv,[(.t 7)],none⟩,
  ⟨(some 13),(.bin .add),[(.t 12),(.c (.int .i64 1))],none⟩,
  ⟨(some 7),.mv,[(.t 13)],none⟩] []))))))
 (.seq
 (.reg false [
  ⟨(some 53),.mv,[(.t 5)],none⟩,
  ⟨(some 54),(.fad 0),[(.t 3)],none⟩,
  ⟨(some 55),(.ld false 1),[(.t 54)],none⟩,
  ⟨(some 56),.len,[(.t 55)],none⟩,
  ⟨(some 57),(.bin .eql),[(.t 53),(.t 56)],none⟩,
  ⟨(some 58),.mv,[(.t 57)],none⟩,
  ⟨(some 59),.mv,[(.t 6)],(some (58,true))⟩,
  ⟨(some 60),(.fad 2),[(.t 3)],(some (58,true))⟩,
  ⟨(some 61),(.ld false 1),[(.t 60)],(some (58,true))⟩,
  ⟨(some 62),.len,[(.t 61)],(some (58,true))⟩,
  ⟨(some 63),(.bin .eql),[(.t 59),(.t 62)],(some (58,true))⟩,
  ⟨(some 64),.pick,[(.t 58),(.t 63),(.c (.bool false))],none⟩,
  ⟨(some 4),.mv,[(.t 64)],none⟩] [])
 .ret))))⟩
theorem sref17_partition : Src Tryz.prog nref17_partition cref17_partition:=⟨mixed,Tryz.f90,by kernel_rfl,by kernel_rfl,by decide⟩
structure PnSt where
 n : Nat
 i : Nat
 k : Nat
set_option maxRecDepth 100000 in
set_option maxHeartbeats 4000000 in
theorem ref17_partition_ok (o acc f : List Int) (R : List (Int × List Int)) (hol : o.length ≤ 100) (ha : acc.length ≤ 1000) (hR : R.length ≤ 1000) : ACalls Tryz.prog nref17_partition [ints o,eAcc acc f R] [] (.B (partP o acc (keysR R))) []:=by
 refine sref17_partition.acalls (Nat.le_of_ble_eq_true rfl) (Nat.le_of_ble_eq_true rfl) (Nat.le_refl _) ?_
 show awp _ 0 _ _ ⟨65,[(0,ints o),(1,eAcc acc f R)],[],16⟩
 have hkl : (keysR R).length = R.length:=by simp [keysR]
 obtain ⟨b,hb⟩ : ∃ b,b = partP o acc (keysR R):=⟨_,rfl⟩
 rw [← hb]
 refine awp_regc ⟨65,[(0,ints o),(3,.pv [ints acc,ints f,.vs 2 false (rowsR R)])],[],40⟩ rfl ?_ ?_
 ·simp
  exact Le.go [] [16] rfl rfl (by simp) (by simp)
 refine rx (s:=?s2) [0,3,5,6] [] [] rfl ?o2 ?q2
 case o2=>simp; rfl
 refine awp_seq ?_
 refine rx (s:=?s3) [0,3,5,6,7] [] [] rfl ?o3 ?q3
 case o3=>simp; rfl
 refine awp_block ?_
 refine awp_loop (ι:=PnSt) (fun s=>⟨65,[(0,ints o),(3,.pv [ints acc,ints f,.vs 2 false (rowsR R)]),(5,.I s.i),(6,.I s.k),(7,.I s.n)],[],300⟩)
  (fun s=>s.n ≤ o.length ∧ s.i ≤ acc.length ∧ s.k ≤ R.length ∧ b = partP (o.drop s.n) (acc.drop s.i) ((keysR R).drop s.k))
  (fun s=>o.length - s.n) ⟨0,0,0⟩ ⟨Nat.zero_le _,Nat.zero_le _,Nat.zero_le _,by simpa using hb⟩ (Le.go [] [] rfl rfl (by simp) (by simp)) ?_
 rintro ⟨n,i,k⟩ ⟨hn,hi,hk,hp⟩
 simp only at hn hi hk hp
 refine awp_seq ?_
 refine awp_regc ⟨65,[(0,ints o),(3,.pv [ints acc,ints f,.vs 2 false (rowsR R)]),(5,.I i),(6,.I k),(7,.I n),(11,.B (decide (n < o.length)))],[],400⟩ rfl ?_ ?_
 ·simp
  exact Le.go [] [] rfl rfl (by simp) (by simp)
 refine awp_cond _ rfl (fun h6=>?_) fun h6=>?_
 ·simp at h6
  have hw1 : IntKind.i64.wrap ((n : Int) + 1) = (n : Int) + 1:=w64 (by omega) (by omega)
  have hw2 : IntKind.i64.wrap ((i : Int) + 1) = (i : Int) + 1:=w64 (by omega) (by omega)
  have hw3 : IntKind.i64.wrap ((k : Int) + 1) = (k : Int) + 1:=w64 (by omega) (by omega)
  obtain ⟨x,hx⟩ : ∃ x,x = o[n]:=⟨_,rfl⟩
  have hod : o.drop n = x :: o.drop (n + 1):=by rw [List.drop_eq_getElem_cons h6,hx]
  rw [hod] at hp
  simp only [partP,List.tail_drop] at hp
  refine awp_skip ?_
  refine awp_seq ?_
  refine awp_block ?_
  refine awp_dregc ⟨65,[(0,ints o),(3,.pv [ints acc,ints f,.vs 2 false (rowsR R)]),(5,.I i),(6,.I k),(7,.I n),(30,.B (decide ((acc.drop i).head? = some x)))],[],700⟩ rfl ?_ ?_
  ·by_cases hia : i < acc.length
   ·have hh:=head_drop_some hia
    simp [hia,h6,← hx]
    exact ⟨rfl,Le.go [] [] rfl rfl (by simp <;> exact wkB (by rw [Bool.eq_iff_iff]; simp [hia])) (by simp)⟩
   ·have hh:=head_drop_none hia
    have hai : acc.length ≤ i:=by omega
    simp [hia]
    exact ⟨rfl,Le.go [] [] rfl rfl (by simp [hia]) (by simp)⟩
  refine awp_cond _ rfl (fun h9=>?_) fun h9=>?_
  ·rw [decide_eq_true_eq] at h9
   rw [if_pos h9] at hp
   have hia : i < acc.length:=Decidable.byContradiction fun h=>by rw [head_drop_none h] at h9; cases h9
   refine awp_reg rfl ?_
   simp
   refine awp_reg rfl ?_
   simp
   exact ⟨⟨n + 1,i + 1,k⟩,⟨by simp only; omega,by simp only; omega,hk,hp⟩,by simp only; omega,Le.go [] [] rfl rfl (by simp [hw1,hw2]) (by simp)⟩
  rw [decide_eq_false_iff_not] at h9
  rw [if_neg h9] at hp
  refine awp_dregc ⟨65,[(0,ints o),(3,.pv [ints acc,ints f,.vs 2 false (rowsR R)]),(5,.I i),(6,.I k),(7,.I n),(50,.B (decide (((keysR R).drop k).head? = some x)))],[],900⟩ rfl ?_ ?_
  ·by_cases hkR : k < R.length
   ·have hh2 : (keysR R)[k]? = some R[k].1:=by rw [keysR,List.getElem?_map,List.getElem?_eq_getElem hkR]; rfl
    simp [hkR,h6,← hx]
    exact ⟨rfl,Le.go [] [] rfl rfl (by simp [hh2] <;> exact wkB (by rw [Bool.eq_iff_iff]; simp)) (by simp)⟩
   ·have hh2 : (keysR R)[k]? = none:=List.getElem?_eq_none (by omega)
    simp [hkR]
    exact ⟨rfl,Le.go [] [] rfl rfl (by simp [hh2,hkR]) (by simp)⟩
  refine awp_cond _ rfl (fun h11=>?_) fun h11=>?_
  ·rw [decide_eq_true_eq] at h11
   rw [if_pos h11] at hp
   have hkR : k < R.length:=Decidable.byContradiction fun h=>by rw [List.head?_drop,List.getElem?_eq_none (by omega)] at h11; cases h11
   refine awp_reg rfl ?_
   simp
   refine awp_reg rfl ?_
   simp
   exact ⟨⟨n + 1,i,k + 1⟩,⟨by simp only; omega,hi,hkR,hp⟩,by simp only; omega,Le.go [] [] rfl rfl (by simp [hw1,hw3]) (by simp)⟩
  rw [decide_eq_false_iff_not] at h11
  rw [if_neg h11] at hp
  subst hp
  refine rx (s:=?s10) [4] [] [] rfl ?o10 ?q10
  case o10=>simp; rfl
  refine awp_ret ?_
  exact ⟨.inr rfl,RetOk.one (by simp)⟩
 simp at h6
 obtain rfl : n = o.length:=by omega
 rw [List.drop_length] at hp
 have hp2 : b = (decide (i = acc.length) && decide (k = R.length)):=by
  rw [hp]
  simp only [partP]
  rw [Bool.eq_iff_iff]
  simp [List.isEmpty_iff]
  omega
 refine awp_exit ?_
 refine hit ?_
 refine awp_regc ⟨65,[(4,.B b)],[],1000⟩ rfl ?_ ?_
 ·by_cases hia : i = acc.length
  ·simp [hia]
   exact Le.go [] [] rfl rfl (by simp [hp2,hia] <;> exact wkB (by rw [Bool.eq_iff_iff]; simp; omega)) (by simp)
  ·have hia2 : ¬ (i : Int) = acc.length:=by omega
   have hia3 : ((i : Int) == (acc.length : Int)) = false:=by simpa using hia2
   simp [hia3]
   exact Le.go [] [] rfl rfl (by simp [hp2,hia]) (by simp)
 refine awp_ret ?_
 exact ⟨.inr rfl,RetOk.one (by simp)⟩
theorem partP_head {o : List Int} {x : Int} {a r : List Int} (h : partP (x :: o) a r = true) (hn : (x :: o).Nodup) (hx : x ∈ a) : a.head? = some x:=by
 simp only [partP] at h
 split at h
 ·assumption
 ·split at h
  ·exact absurd ((partP_sub h).1.subset hx) (List.nodup_cons.1 hn).1
  ·cases h
set_option maxRecDepth 100000 in
set_option maxHeartbeats 8000000 in
open Classical in
theorem ref17_Check_ok (g : Gr) (p : Pol) (acc f : List Int) (R : List (Int × List Int)) (hg : GrOk g) (hp : PolOk g.size p) (hs : p.seeds.length ≤ 64) (ha : acc.length ≤ 1000) (hR : R.length ≤ 1000) (hf : f.length ≤ 1099511627776) (hsd : ∀ r ∈ R,r.2.length ≤ 140737488355328) :
  ACalls Tryz.prog nref17_Check [eG g,eP p,eAcc acc f R] [] (.I (checkA g p acc f R)) []:=by
 have hsz:=hg.1.1
 have hsz2:=hg.1.2.1
 have hel:=hg.edges_le
 have hgl:=hg.gone_le
 have hchk:=ref13_Check_ok g p (by omega) (by omega) (by omega) (by have:=hp.2.2.2.1; omega)
 rw [if_pos hg,if_pos hp] at hchk
 have hlev:=ref11_Level_ok g p.lv (by omega) (by omega)
 have hord:=ref12_Order_ok (g:=levelG g p.lv) (S:=p.seeds) (hg.level p.lv) (by omega)
 have hol:=ordL_le hg p
 unfold checkA
 obtain ⟨o,ho⟩ : ∃ o,o = ordL (levelG g p.lv) p.seeds:=⟨_,rfl⟩
 have hor : ∀ k ∈ o,0 ≤ k ∧ k < g.size:=fun k hk=>by rw [ho] at hk; have h:=ordL_range hk; exact h
 have hon : o.Nodup:=by rw [ho]; exact ordL_nodup _ _
 rw [← ho] at hord hol ⊢
 have hpart:=ref17_partition_ok o acc f R (by omega) ha hR
 have hj0 : joinL [] = []:=rfl
 refine sref17_Check.acalls (Nat.le_of_ble_eq_true rfl) (Nat.le_of_ble_eq_true rfl) (Nat.le_refl _) ?_
 show awp _ 0 _ _ ⟨114,[(0,eG g),(1,eP p),(2,eAcc acc f R)],[],16⟩
 refine awp_regc ⟨114,[(3,.pv (gC g)),(4,.pv (pC p)),(5,.pv [ints acc,ints f,.vs 2 false (rowsR R)])],[],60⟩ rfl ?_ ?_
 ·simp
  exact Le.go [] [16,24,32] rfl rfl (by simp) (by simp)
 refine awp_seq ?_
 refine rx (s:=?s2) [3,4,5,7] [] [] rfl ?o2 ?q2
 case o2=>simp; refine call0e hchk (by simp) ?_; simp; rfl
 refine rx (s:=?s3) [3,4,5,22] [] [] rfl ?o3 ?q3
 case o3=>simp; rfl
 refine awp_cond _ rfl (fun h=>by cases h) fun _=>?_
 refine awp_skip ?_
 refine awp_dregc ⟨114,[(3,.pv (gC g)),(4,.pv (pC p)),(5,.pv [ints acc,ints f,.vs 2 false (rowsR R)]),(8,ints o)],[],300⟩ rfl ?_ ?_
 ·simp
  refine call0e hlev (by simp) ?_
  simp
  refine callN1 hord (by simp) ?_
  simp
  exact ⟨rfl,Le.go [] [156] rfl rfl (by simp [fcd,take_map_len]) (by simp)⟩
 refine awp_seq ?_
 refine awp_regc ⟨114,[(3,.pv (gC g)),(4,.pv (pC p)),(5,.pv [ints acc,ints f,.vs 2 false (rowsR R)]),(8,ints o),(34,.B (!partP o acc (keysR R)))],[],400⟩ rfl ?_ ?_
 ·simp
  refine call0e hpart (by simp) ?_
  simp
  exact Le.go [] [] rfl rfl (by simp) (by simp)
 refine awp_cond _ rfl (fun h8=>?_) fun h8=>?_
 ·have h8' : ¬ partP o acc (keysR R) = true:=by simpa using h8
  rw [if_neg h8']
  refine rx (s:=?s9) [6] [] [] rfl ?o9 ?q9
  case o9=>simp; rfl
  refine awp_ret ?_
  exact ⟨.inr rfl,RetOk.one (by simp)⟩
 have h8' : partP o acc (keysR R) = true:=by simpa using h8
 rw [if_pos h8']
 have hsub:=partP_sub h8'
 have hperm:=(partP_perm hon h8').nodup_iff.1 hon
 have hkl : (keysR R).length = R.length:=by simp [keysR]
 have hrk : ∀ k ∈ keysR R,0 ≤ k ∧ k < g.size:=fun k hk=>hor k (hsub.2.subset hk)
 have hak : ∀ k ∈ acc,0 ≤ k ∧ k < g.size:=fun k hk=>hor k (hsub.1.subset hk)
 have h64 : ∀ a : List Int,(∀ x ∈ a,0 ≤ x ∧ x < g.size) → ∀ x ∈ a,0 ≤ x ∧ x < 64:=fun a h x hx=>by have:=h x hx; omega
 have han : acc.Nodup:=(List.nodup_append.1 hperm).1
 have hjl:=join_len han (h64 acc hak)
 have hnet:=ref14_Network_ok g p (joinL acc) hg hp (rise_join hak) hs (joinL_len acc)
 rw [← netN_int hg,show netArcs g p (capsL g p) (joinL acc) = netA g p (joinL acc) from rfl] at hnet
 have hnv : ∀ a : List Int,(∀ x ∈ a,0 ≤ x ∧ x < g.size) → NetVal ⟨netN g,netA g p (joinL a)⟩:=fun a h=>netA_val hg hp (rise_in (rise_join h)) hs (joinL_len a)
 have hval:=ref15_Valid_ok (f:=f) (hnv acc hak) hf
 have hvv:=ref15_Value_ok (f:=f) (hnv acc hak) hf
 obtain ⟨A,hA⟩ : ∃ A,A = netA g p (joinL acc):=⟨_,rfl⟩
 rw [← hA] at hnet hval hvv
 rw [← hA]
 refine awp_skip ?_
 refine awp_regc ⟨114,[(3,.pv (gC g)),(4,.pv (pC p)),(5,.pv [ints acc,ints f,.vs 2 false (rowsR R)]),(8,ints o),(9,.vs 1 false [])],[],500⟩ rfl ?_ ?_
 ·simp
  exact Le.go [] [] rfl rfl (by simp) (by simp)
 refine awp_seq ?_
 refine awp_regc ⟨114,[(3,.pv (gC g)),(4,.pv (pC p)),(5,.pv [ints acc,ints f,.vs 2 false (rowsR R)]),(8,ints o),(9,.vs 1 false []),(10,.I 0)],[],600⟩ rfl ?_ ?_
 ·simp
  exact Le.go [] [] rfl rfl (by simp) (by simp)
 refine awp_block ?_
 refine awp_loop (ι:=Nat) (fun i=>⟨114,[(3,.pv (gC g)),(4,.pv (pC p)),(5,.pv [ints acc,ints f,.vs 2 false (rowsR R)]),(8,ints o),(9,ints (joinL (acc.take i))),(10,.I i)],[],700⟩) (fun i=>i ≤ acc.length) (fun i=>acc.length - i) 0 (Nat.zero_le _) (Le.go [] [] rfl rfl (by simp [hj0]; exact .refl _) (by simp)) ?_
 intro i hi
 refine awp_seq ?_
 refine awp_regc ⟨114,[(3,.pv (gC g)),(4,.pv (pC p)),(5,.pv [ints acc,ints f,.vs 2 false (rowsR R)]),(8,ints o),(9,ints (joinL (acc.take i))),(10,.I i),(39,.B (decide (i < acc.length)))],[],800⟩ rfl ?_ ?_
 ·simp
  exact Le.go [] [] rfl rfl (by simp) (by simp)
 refine awp_cond _ rfl (fun h13=>?_) fun h13=>?_
 ·simp at h13
  have hw1 : IntKind.i64.wrap ((i : Int) + 1) = (i : Int) + 1:=w64 (by omega) (by omega)
  have hxr:=hak _ (List.getElem_mem h13)
  have hput:=Put_ok (joinL (acc.take i)) acc[i] (by have:=joinL_len (acc.take i); omega)
  rw [putL_join hxr.1 (by omega),← List.take_succ_eq_append_getElem h13] at hput
  obtain ⟨J,hJ⟩ : ∃ J,J = joinL (acc.take (i + 1)):=⟨_,rfl⟩
  rw [← hJ] at hput
  refine awp_skip ?_
  refine awp_seq ?_
  refine awp_block ?_
  refine awp_reg rfl ?_
  simp [h13]
  refine callN1 hput (by simp) ?_
  simp
  refine awp_reg rfl ?_
  simp
  exact ⟨i + 1,by omega,by omega,Le.go [] [848] rfl rfl (by simp [hw1,← hJ,fcd,take_map_len]) (by simp)⟩
 simp at h13
 obtain rfl : i = acc.length:=by omega
 rw [List.take_length]
 refine awp_exit ?_
 refine hit ?_
 refine awp_regc ⟨114,[(3,.pv (gC g)),(4,.pv (pC p)),(5,.pv [ints acc,ints f,.vs 2 false (rowsR R)]),(8,ints o),(9,ints (joinL acc)),(11,.pv (nC ⟨netN g,A⟩))],[],1000⟩ rfl ?_ ?_
 ·simp
  refine call0e hnet (by simp) ?_
  simp
  exact Le.go [] [856] rfl rfl (by simp) (by simp)
 refine awp_seq ?_
 refine awp_regc ⟨114,[(3,.pv (gC g)),(4,.pv (pC p)),(5,.pv [ints acc,ints f,.vs 2 false (rowsR R)]),(8,ints o),(69,.B (!decide (FlowOk (netN g) A f ∧ valF A f = acc.length)))],[],1200⟩ rfl ?_ ?_
 ·by_cases hfo : FlowOk (netN g) A f
  ·rw [decide_eq_true hfo] at hval
   rw [if_pos hfo] at hvv
   simp
   refine call0e hval (by simp) ?_
   simp
   refine call0e hvv (by simp) ?_
   simp
   exact Le.go [] [] rfl rfl (by simp [hfo,hjl] <;> exact wkB (by rw [Bool.eq_iff_iff]; simp)) (by simp)
  ·rw [decide_eq_false hfo] at hval
   simp
   refine call0e hval (by simp) ?_
   simp
   exact Le.go [] [] rfl rfl (by simp [hfo]) (by simp)
 refine awp_cond _ rfl (fun h12=>?_) fun h12=>?_
 ·have h12' : ¬ (FlowOk (netN g) A f ∧ valF A f = acc.length):=fun h=>by rw [decide_eq_true h] at h12; cases h12
  rw [if_neg h12']
  refine rx (s:=?s13) [6] [] [] rfl ?o13 ?q13
  case o13=>simp; rfl
  refine awp_ret ?_
  exact ⟨.inr rfl,RetOk.one (by simp)⟩
 have h12' : FlowOk (netN g) A f ∧ valF A f = acc.length:=by simpa using h12
 rw [if_pos h12']
 refine awp_skip ?_
 refine awp_regc ⟨114,[(3,.pv (gC g)),(4,.pv (pC p)),(5,.pv [ints acc,ints f,.vs 2 false (rowsR R)]),(8,ints o),(13,.vs 1 false [])],[],1300⟩ rfl ?_ ?_
 ·simp
  exact Le.go [] [] rfl rfl (by simp) (by simp)
 refine awp_regc ⟨114,[(3,.pv (gC g)),(4,.pv (pC p)),(5,.pv [ints acc,ints f,.vs 2 false (rowsR R)]),(8,ints o),(13,.vs 1 false []),(14,.I 0)],[],1400⟩ rfl ?_ ?_
 ·simp
  exact Le.go [] [] rfl rfl (by simp) (by simp)
 refine awp_seq ?_
 refine awp_regc ⟨114,[(3,.pv (gC g)),(4,.pv (pC p)),(5,.pv [ints acc,ints f,.vs 2 false (rowsR R)]),(8,ints o),(13,.vs 1 false []),(14,.I 0),(15,.I 0)],[],1500⟩ rfl ?_ ?_
 ·simp
  exact Le.go [] [] rfl rfl (by simp) (by simp)
 refine awp_block ?_
 refine awp_loop (ι:=PnSt) (fun s=>⟨114,[(3,.pv (gC g)),(4,.pv (pC p)),(5,.pv [ints acc,ints f,.vs 2 false (rowsR R)]),(8,ints o),(13,ints (joinL (acc.take s.i))),(14,.I s.k),(15,.I s.n)],[],1600⟩)
  (fun s=>s.n ≤ o.length ∧ s.i ≤ acc.length ∧ s.k ≤ R.length ∧ partP (o.drop s.n) (acc.drop s.i) ((keysR R).drop s.k) = true ∧ (cutsR g p [] o acc R ↔ cutsR g p (acc.take s.i) (o.drop s.n) (acc.drop s.i) (R.drop s.k)) ∧ ∀ x ∈ acc.take s.i,x ∈ o.take s.n)
  (fun s=>o.length - s.n) ⟨0,0,0⟩ ⟨Nat.zero_le _,Nat.zero_le _,Nat.zero_le _,by simpa using h8',by simp,by simp⟩ (Le.go [] [] rfl rfl (by simp [hj0]; exact .refl _) (by simp)) ?_
 rintro ⟨n,i,k⟩ ⟨hn,hi,hk,hpp,hcc,hin⟩
 simp only at hn hi hk hpp hcc hin
 refine awp_seq ?_
 refine awp_regc ⟨114,[(3,.pv (gC g)),(4,.pv (pC p)),(5,.pv [ints acc,ints f,.vs 2 false (rowsR R)]),(8,ints o),(13,ints (joinL (acc.take i))),(14,.I k),(15,.I n),(73,.B (decide (n < o.length)))],[],1700⟩ rfl ?_ ?_
 ·simp
  exact Le.go [] [] rfl rfl (by simp) (by simp)
 refine awp_cond _ rfl (fun h22=>?_) fun h22=>?_
 ·simp at h22
  have hw1 : IntKind.i64.wrap ((n : Int) + 1) = (n : Int) + 1:=w64 (by omega) (by omega)
  have hw3 : IntKind.i64.wrap ((k : Int) + 1) = (k : Int) + 1:=w64 (by omega) (by omega)
  obtain ⟨x,hx⟩ : ∃ x,x = o[n]:=⟨_,rfl⟩
  have hxr : 0 ≤ x ∧ x < g.size:=by rw [hx]; exact hor _ (List.getElem_mem h22)
  have hod : o.drop n = x :: o.drop (n + 1):=by rw [List.drop_eq_getElem_cons h22,hx]
  have hdn : (x :: o.drop (n + 1)).Nodup:=by rw [← hod]; exact hon.sublist (List.drop_sublist _ _)
  rw [hod] at hpp hcc
  have hhead : x ∈ acc ↔ (acc.drop i).head? = some x:=by
   constructor
   ·intro hm
    rw [← List.take_append_drop i acc] at hm
    rcases List.mem_append.1 hm with h | h
    ·exfalso
     have h2:=hin x h
     obtain ⟨j,hj,hjx⟩:=List.mem_iff_getElem.1 h2
     rw [List.getElem_take] at hjx
     rw [List.length_take] at hj
     exact (List.pairwise_iff_getElem.1 hon) j n (by omega) h22 (by omega) (hjx.trans hx)
    ·exact partP_head hpp hdn h
   ·intro h
    exact List.mem_of_mem_drop (List.mem_of_mem_head? h)
  have hhas:=has_ok acc x (by omega)
  have hput:=Put_ok (joinL (acc.take i)) x (by have:=joinL_len (acc.take i); omega)
  rw [putL_join hxr.1 (by omega)] at hput
  have htn : o.take (n + 1) = o.take n ++ [x]:=by rw [List.take_succ_eq_append_getElem h22,hx]
  have hcd : (acc.contains x) = decide (x ∈ acc):=by rw [Bool.eq_iff_iff]; simp
  rw [hcd] at hhas
  refine awp_skip ?_
  refine awp_cut (ι:=PnSt) (fun s=>⟨114,[(3,.pv (gC g)),(4,.pv (pC p)),(5,.pv [ints acc,ints f,.vs 2 false (rowsR R)]),(8,ints o),(13,ints (joinL (acc.take s.i))),(14,.I s.k),(15,.I n)],[],3000⟩)
   (fun s=>s.i ≤ acc.length ∧ s.k ≤ R.length ∧ partP (o.drop (n + 1)) (acc.drop s.i) ((keysR R).drop s.k) = true ∧ (cutsR g p [] o acc R ↔ cutsR g p (acc.take s.i) (o.drop (n + 1)) (acc.drop s.i) (R.drop s.k)) ∧ ∀ x ∈ acc.take s.i,x ∈ o.take (n + 1)) ?_ fun s hs'=>?_
  ·refine awp_block ?_
   refine awp_seq ?_
   refine awp_dregc ⟨114,[(3,.pv (gC g)),(4,.pv (pC p)),(5,.pv [ints acc,ints f,.vs 2 false (rowsR R)]),(8,ints o),(13,ints (joinL (acc.take i))),(14,.I k),(15,.I n),(82,.B (decide (x ∈ acc)))],[],1800⟩ rfl ?_ ?_
   ·simp [h22,← hx]
    refine call0e hhas (by simp) ?_
    simp
    exact ⟨rfl,Le.go [] [] rfl rfl (by simp) (by simp)⟩
   refine awp_cond _ rfl (fun h24=>?_) fun h24=>?_
   ·have h24':=hhead.1 (of_decide_eq_true h24)
    simp only [partP,cutsR,if_pos h24',List.tail_drop] at hpp hcc
    have hia : i < acc.length:=Decidable.byContradiction fun h=>by rw [head_drop_none h] at h24'; cases h24'
    have hai : acc[i] = x:=by rw [head_drop_some hia] at h24'; exact Option.some.inj h24'
    have hti : acc.take (i + 1) = acc.take i ++ [x]:=by rw [List.take_succ_eq_append_getElem hia,hai]
    rw [← hti] at hput hcc
    obtain ⟨J,hJ⟩ : ∃ J,J = joinL (acc.take (i + 1)):=⟨_,rfl⟩
    rw [← hJ] at hput
    refine awp_regc ⟨114,[(3,.pv (gC g)),(4,.pv (pC p)),(5,.pv [ints acc,ints f,.vs 2 false (rowsR R)]),(8,ints o),(13,ints J),(14,.I k),(15,.I n)],[],1900⟩ rfl ?_ ?_
    ·simp [h22,← hx]
     refine callN1 hput (by simp) ?_
     simp
     exact Le.go [] [1840] rfl rfl (by simp [fcd,take_map_len]) (by simp)
    refine awp_exit ?_
    refine hit ?_
    refine ⟨⟨n,i + 1,k⟩,⟨hia,hk,hpp,hcc,fun y hy=>?_⟩,Le.go [] [] rfl rfl (by simp [hJ]) (by simp)⟩
    simp only [hti] at hy
    rw [htn]
    rcases List.mem_append.1 hy with h | h
    ·exact List.mem_append_left _ (hin y h)
    ·exact List.mem_append_right _ h
   ·have h24' : ¬ (acc.drop i).head? = some x:=fun h=>(of_decide_eq_false h24) (hhead.2 h)
    simp only [partP,cutsR,if_neg h24',List.tail_drop] at hpp hcc
    have hrh : ((keysR R).drop k).head? = some x:=by
     split at hpp
     ·assumption
     ·cases hpp
    rw [if_pos hrh] at hpp
    have hkR : k < R.length:=Decidable.byContradiction fun h=>by rw [List.head?_drop,List.getElem?_eq_none (by omega)] at hrh; cases hrh
    have hrx : R[k].1 = x:=by
     rw [List.head?_drop,keysR,List.getElem?_map,List.getElem?_eq_getElem hkR] at hrh
     exact Option.some.inj hrh
    rw [List.drop_eq_getElem_cons hkR] at hcc
    simp only at hcc
    have hsdk:=hsd _ (List.getElem_mem hkR)
    obtain ⟨r,hr⟩ : ∃ r,r = R[k]:=⟨_,rfl⟩
    rw [← hr] at hcc hsdk hrx
    have hbr : ∀ y ∈ acc.take i,0 ≤ y ∧ y < g.size:=fun y hy=>hak y (List.mem_of_mem_take hy)
    have hbn : (acc.take i).Nodup:=han.sublist (List.take_sublist _ _)
    have hbl:=join_len hbn (h64 _ hbr)
    have hks : ∀ y ∈ acc.take i ++ [x],0 ≤ y ∧ y < g.size:=fun y hy=>by
     rcases List.mem_append.1 hy with h | h
     ·exact hbr y h
     ·rw [List.mem_singleton] at h; subst h; exact hxr
    have hnet2:=ref14_Network_ok g p (joinL (acc.take i ++ [x])) hg hp (rise_join hks) hs (joinL_len _)
    rw [← netN_int hg,show netArcs g p (capsL g p) (joinL (acc.take i ++ [x])) = netA g p (joinL (acc.take i ++ [x])) from rfl] at hnet2
    have hprv:=ref16_Proves_ok ⟨netN g,netA g p (joinL (acc.take i ++ [x]))⟩ r.2 (joinL (acc.take i)).length (by have:=(hnv _ hks).2.2.1; simp only at this ⊢; omega) hsdk
    have hpd : decide (ProvesP ⟨netN g,netA g p (joinL (acc.take i ++ [x]))⟩ r.2 (joinL (acc.take i)).length) = decide (CutOk g p (acc.take i) r):=by
     unfold CutOk
     rw [hrx,hbl]
    rw [hpd] at hprv
    obtain ⟨W,hW⟩ : ∃ W,W = joinL (acc.take i ++ [x]):=⟨_,rfl⟩
    obtain ⟨B,hB⟩ : ∃ B,B = joinL (acc.take i):=⟨_,rfl⟩
    rw [← hW] at hput hnet2 hprv
    rw [← hB] at hput hprv
    rw [← hB]
    obtain ⟨A2,hA2⟩ : ∃ A2,A2 = netA g p W:=⟨_,rfl⟩
    rw [← hA2] at hnet2 hprv
    refine awp_skip ?_
    refine awp_dregc ⟨114,[(3,.pv (gC g)),(4,.pv (pC p)),(5,.pv [ints acc,ints f,.vs 2 false (rowsR R)]),(8,ints o),(13,ints B),(14,.I k),(15,.I n),(16,.pv (nC ⟨netN g,A2⟩))],[],2000⟩ rfl ?_ ?_
    ·simp [h22,← hx]
     refine callN1 hput (by simp) ?_
     simp
     refine call0k [1856] (by simp) hnet2 (by simp [fcd,take_map_len]) ?_
     simp
     exact ⟨rfl,Le.go [] [1896] rfl rfl (by simp) (by simp)⟩
    refine awp_seq ?_
    refine awp_dregc ⟨114,[(3,.pv (gC g)),(4,.pv (pC p)),(5,.pv [ints acc,ints f,.vs 2 false (rowsR R)]),(8,ints o),(13,ints B),(14,.I k),(15,.I n),(111,.B (!decide (CutOk g p (acc.take i) r)))],[],2200⟩ rfl ?_ ?_
    ·simp [hkR,← hr]
     refine call0e hprv (by simp) ?_
     simp
     exact ⟨rfl,Le.go [] [] rfl rfl (by simp) (by simp)⟩
    refine awp_cond _ rfl (fun h28=>?_) fun h28=>?_
    ·have h28' : ¬ CutOk g p (acc.take i) r:=by simpa using h28
     have hno : ¬ cutsR g p [] o acc R:=fun h=>h28' (hcc.1 h).1
     rw [if_neg hno]
     refine rx (s:=?s29) [6] [] [] rfl ?o29 ?q29
     case o29=>simp; rfl
     refine awp_ret ?_
     exact ⟨.inr rfl,RetOk.one (by simp)⟩
    have h28' : CutOk g p (acc.take i) r:=by simpa using h28
    refine awp_skip ?_
    refine awp_reg rfl ?_
    simp
    refine ⟨⟨n,i,k + 1⟩,⟨hi,hkR,hpp,?_,fun y hy=>by rw [htn]; exact List.mem_append_left _ (hin y hy)⟩,Le.go [] [] rfl rfl (by simp [hw3,hB]) (by simp)⟩
    rw [hcc]
    exact ⟨fun h=>h.2,fun h=>⟨h28',h⟩⟩
  obtain ⟨c1,c2,c3,c4,c5⟩:=hs'
  refine awp_reg rfl ?_
  simp
  exact ⟨⟨n + 1,s.i,s.k⟩,⟨by simp only; omega,c1,c2,c3,c4,c5⟩,by simp only; omega,Le.go [] [] rfl rfl (by simp [hw1]) (by simp)⟩
 simp at h22
 obtain rfl : n = o.length:=by omega
 rw [List.drop_length] at hcc
 have hyes : cutsR g p [] o acc R:=hcc.2 (by simp [cutsR])
 rw [if_pos hyes]
 refine awp_exit ?_
 refine hit ?_
 refine rx (s:=?s30) [6] [] [] rfl ?o30 ?q30
 case o30=>simp; rfl
 refine awp_ret ?_
 exact ⟨.inr rfl,RetOk.one (by simp)⟩
theorem nearL_side {N : Nat} {A : List Ed} (hn : NetVal ⟨N,A⟩) : SideOk ⟨N,A⟩ (nearL N A) ∧ cutV A (nearL N A) = maxF N A:=by
 have hno:=netOk_of hn
 obtain ⟨f,hf,hm⟩:=ex_greatest hno
 obtain ⟨D,b,hb,hc⟩:=Bfs.grow hno N [0] _ (Bfs.start (f:=f) (by have:=hno.two; omega)) (by omega)
 have h1:=no_sink hno hf hm hb
 have hmf:=maxF_of hf hm
 have he : inD D N = nearL N A:=nearL_of hno hf hm hb.tree hb.mem0 h1 hc
 have hgr:=(greatest hno hf hb.mem0 h1 hc).1
 have hmD : ∀ x,x ∈ inD D N ↔ x ∈ D:=fun x=>by
  rw [mem_inD]
  exact ⟨fun h=>h.2,fun h=>⟨hb.rng x h,h⟩⟩
 rw [← he]
 refine ⟨⟨hn,rise_of_pair (inD_pair D N) fun k hk=>by have:=(mem_inD.1 hk).1; simp only; omega,(hmD 0).2 hb.mem0,fun h=>h1 ((hmD 1).1 h)⟩,?_⟩
 rw [cutV_capS,hmf,hgr]
 congr 1
 funext x
 exact decide_eq_decide.2 (hmD x)
section
variable {g : Gr} {p : Pol}
theorem cutsR_acc : ∀ {o b a : List Int} {R : List (Int × List Int)} {k : Int},partP o a (keysR R) = true → k ∉ o → cutsR g p b o a R → cutsR g p b (o ++ [k]) (a ++ [k]) R
 | [],b,a,R,k,h,_,_=>by
   simp [partP,keysR] at h
   obtain ⟨rfl,rfl⟩:=h
   simp [cutsR]
 | x :: o,b,a,R,k,h,hk,hc=>by
   have hkx : k ≠ x:=fun e=>hk (by simp [e])
   have hko : k ∉ o:=fun e=>hk (List.mem_cons_of_mem _ e)
   simp only [partP] at h
   simp only [cutsR] at hc
   simp only [List.cons_append,cutsR]
   split at h
   ·rename_i h1
    rw [if_pos h1] at hc
    cases a with
    | nil=>cases h1
    | cons y a =>
      have : y = x:=by simpa using h1
      subst this
      simpa using cutsR_acc h hko hc
   ·rename_i h1
    rw [if_neg h1] at hc
    have h3 : (a ++ [k]).head? ≠ some x:=by
     cases a with
     | nil=>simpa using hkx
     | cons y a=>simpa using h1
    rw [if_neg h3]
    split at h
    ·cases R with
     | nil=>trivial
     | cons r R=>exact ⟨hc.1,cutsR_acc h hko hc.2⟩
    ·cases h
theorem cutsR_ref : ∀ {o b a : List Int} {R : List (Int × List Int)} {r : Int × List Int},partP o a (keysR R) = true → r.1 ∉ o → CutOk g p (b ++ a) r → cutsR g p b o a R → cutsR g p b (o ++ [r.1]) a (R ++ [r])
 | [],b,a,R,r,h,_,hr,_=>by
   simp [partP,keysR] at h
   obtain ⟨rfl,rfl⟩:=h
   rw [List.append_nil] at hr
   simp [cutsR,hr]
 | x :: o,b,a,R,r,h,hk,hr,hc=>by
   have hko : r.1 ∉ o:=fun e=>hk (List.mem_cons_of_mem _ e)
   simp only [partP] at h
   simp only [cutsR] at hc
   simp only [List.cons_append,cutsR]
   split at h
   ·rename_i h1
    rw [if_pos h1] at hc
    rw [if_pos h1]
    cases a with
    | nil=>cases h1
    | cons y a =>
      have : y = x:=by simpa using h1
      subst this
      exact cutsR_ref h hko (by simpa using hr) hc
   ·rename_i h1
    rw [if_neg h1] at hc
    rw [if_neg h1]
    split at h
    ·rename_i h2
     cases R with
     | nil=>cases h2
     | cons q R=>exact ⟨hc.1,cutsR_ref h hko hr hc.2⟩
    ·cases h
theorem keysOk_ord (hg : GrOk g) (hp : PolOk g.size p) {a : List Int} (h : ∀ x ∈ a,x ∈ ordL (levelG g p.lv) p.seeds) : KeysOk g p a:=by
 refine ⟨fun x hx=>?_,fun x hx=>?_⟩
 ·have h2:=ordL_range (h x hx)
  exact h2
 ·have h2:=(mem_ordL (hg.level p.lv)).1 (h x hx)
  exact (caps_reach hp h2.1.1).2 ⟨h2.1.2,h2.2⟩
theorem KeysOk.join {a : List Int} (h : KeysOk g p a) : KeysOk g p (joinL a):=h.sub fun _ hx=>(mem_joinL.1 hx).1
theorem acc_inv (hg : GrOk g) (hp : PolOk g.size p) (hs : p.seeds.length ≤ 64) : ∀ (n : Nat) (o : List Int),o.length = n → o.Nodup → KeysOk g p o →
  CanServe g p (joinL (accR g p o)) ∧ partP o (accR g p o) (keysR (refR g p o)) = true ∧ cutsR g p [] o (accR g p o) (refR g p o)
 | 0,o,h,_,_=>by
   obtain rfl:=List.eq_nil_of_length_eq_zero h
   exact ⟨CanServe.nil hg hp,rfl,trivial⟩
 | n + 1,o,h,hon,hok=>by
   have hne : o ≠ []:=fun e=>by rw [e] at h; cases h
   obtain ⟨q,hq⟩ : ∃ q,q = o.dropLast:=⟨_,rfl⟩
   obtain ⟨k,hk⟩ : ∃ k,k = o.getLast hne:=⟨_,rfl⟩
   have ho : o = q ++ [k]:=by rw [hq,hk]; exact (List.dropLast_concat_getLast hne).symm
   have hql : q.length = n:=by rw [hq,List.length_dropLast,h]; rfl
   rw [ho] at hon hok ⊢
   have hqn : q.Nodup:=(List.nodup_append.1 hon).1
   have hkq : k ∉ q:=fun hm=>(List.nodup_append.1 hon).2.2 k hm k (by simp) rfl
   have hqok : KeysOk g p q:=hok.sub fun x hx=>List.mem_append_left _ hx
   obtain ⟨ih1,ih2,ih3⟩:=acc_inv hg hp hs n q hql hqn hqok
   by_cases hc : CanServe g p (joinL (accR g p q ++ [k]))
   ·rw [accR_yes hc,refR_yes hc]
    exact ⟨hc,partP_acc ih2 hkq,cutsR_acc ih2 hkq ih3⟩
   ·rw [accR_no hc,refR_no hc]
    have hsz2:=hg.1.2.1
    have hrng : ∀ x ∈ accR g p q ++ [k],0 ≤ x ∧ x < g.size:=fun x hx=>hok.rng x (by
     rcases List.mem_append.1 hx with h2 | h2
     ·exact List.mem_append_left _ (accR_mem h2)
     ·exact List.mem_append_right _ h2)
    have hnd : (accR g p q ++ [k]).Nodup:=List.nodup_append.2 ⟨hqn.sublist (accR_sub _ _ rfl),by simp,fun a ha b hb=>by
     rw [List.mem_singleton] at hb
     subst hb
     rintro rfl
     exact hkq (accR_mem ha)⟩
    have hjl:=join_len hnd fun x hx=>by have:=hrng x hx; omega
    have hnv:=netA_val hg hp (rise_in (rise_join hrng)) hs (joinL_len (accR g p q ++ [k]))
    have hside:=nearL_side hnv
    have hfew:=maxF_few (p:=p) (ks:=joinL (accR g p q ++ [k])) hg hp (rise_in (rise_join hrng))
    have hcut : CutOk g p (accR g p q) (k,nearL (netN g) (netA g p (joinL (accR g p q ++ [k])))):=by
     refine ⟨hside.1,?_⟩
     simp only
     rw [hside.2]
     have : maxF (netN g) (netA g p (joinL (accR g p q ++ [k]))) ≠ (joinL (accR g p q ++ [k])).length:=hc
     rw [hjl,List.length_append,List.length_singleton] at this hfew
     omega
    refine ⟨ih1,?_,?_⟩
    ·have:=partP_ref (r:=keysR (refR g p q)) ih2 hkq
     simpa [keysR] using this
    ·exact cutsR_ref (r:=(k,nearL (netN g) (netA g p (joinL (accR g p q ++ [k]))))) ih2 hkq (by rw [List.nil_append]; exact hcut) ih3
theorem ord_keysOk (hg : GrOk g) (hp : PolOk g.size p) : KeysOk g p (ordL (levelG g p.lv) p.seeds):=keysOk_ord hg hp fun _ h=>h
theorem checkA_right (hg : GrOk g) (hp : PolOk g.size p) (hs : p.seeds.length ≤ 64) {f : List Int} (hf : GreatF g p (joinL (accR g p (ordL (levelG g p.lv) p.seeds))) f) :
  checkA g p (accR g p (ordL (levelG g p.lv) p.seeds)) f (refR g p (ordL (levelG g p.lv) p.seeds)) = 0:=by
 have hon:=ordL_nodup (levelG g p.lv) p.seeds
 obtain ⟨h1,h2,h3⟩:=acc_inv hg hp hs _ _ rfl hon (ord_keysOk hg hp)
 have hsz2:=hg.1.2.1
 have hjl:=join_len (hon.sublist (accR_sub (g:=g) (p:=p) _ _ rfl)) fun x hx=>by
  have:=(ord_keysOk hg hp).rng x (accR_mem hx)
  omega
 unfold checkA
 rw [if_pos h2,if_pos ⟨hf.ok,by rw [hf.val,← hjl]; exact h1⟩,if_pos h3]
end
def gF : Gr:=⟨3,[⟨0,1,1⟩,⟨0,2,1⟩],[]⟩
def pF : Pol:=⟨[0],[2,1],1⟩
theorem gF_ok : GrOk gF:=by
 refine ⟨⟨by decide +revert,by decide +revert,by decide +revert,fun i h=>by simp [gF] at h⟩,fun i h=>?_⟩
 have : i = 0 ∨ i = 1:=by simp [gF] at h; omega
 rcases this with rfl | rfl
 ·exact ⟨by unfold Fits; simp [gF],by decide +revert,by decide +revert,fun h=>by cases h⟩
 ·exact ⟨by unfold Fits; simp [gF],by decide +revert,by decide +revert,fun h=>by decide +revert⟩
theorem pF_ok : PolOk gF.size pF:=by
 refine ⟨by decide +revert,fun i h=>?_,by decide +revert,by decide +revert,by decide +revert,by decide +revert,fun i h=>?_⟩
 ·obtain rfl : i = 0:=by simp [pF] at h; omega
  exact ⟨by decide +revert,by decide +revert,fun h=>by cases h⟩
 ·have : i = 0 ∨ i = 1:=by simp [pF] at h; omega
  rcases this with rfl | rfl
  ·exact ⟨by decide +revert,by decide +revert,fun h=>by cases h⟩
  ·exact ⟨by decide +revert,by decide +revert,fun h=>by decide +revert⟩
theorem gF_order : ordL (levelG gF pF.lv) pF.seeds = [0,1,2]:=by decide
theorem gF_rng : ∀ {ks : List Int},(∀ x ∈ ks,x = 0 ∨ x = 1 ∨ x = 2) → ∀ x ∈ ks,0 ≤ x ∧ x < gF.size:=fun h x hx=>by
 have : gF.size = 3:=rfl
 rcases h x hx with rfl | rfl | rfl <;> omega
theorem gF_can {ks f : List Int} {A : List Ed} (hk : ∀ x ∈ ks,x = 0 ∨ x = 1 ∨ x = 2) (hA : netA gF pF ks = A) (hf : FlowOk 8 A f) (hv : valF A f = ks.length) : CanServe gF pF ks:=by
 have hr:=gF_rng hk
 have h1:=maxF_few (p:=pF) gF_ok pF_ok hr
 have h2:=maxF_ge (netA_ok gF_ok pF_ok hr) (f:=f) (by rw [hA]; exact hf)
 rw [hA,hv] at h2
 rw [hA] at h1
 unfold CanServe
 rw [hA]
 have h3 : netN gF = 8:=rfl
 rw [h3] at h1 h2 ⊢
 omega
theorem flowB {N : Nat} {A : List Ed} {f : List Int} (h : (decide (f.length = A.length) && ((List.range A.length).all fun i=>decide (0 ≤ f.getD i 0 ∧ f.getD i 0 ≤ (arcD A i).v)) && ((List.range N).all fun x=>decide (x < 2 ∨ exF A f x = 0))) = true) : FlowOk N A f:=by
 simp only [Bool.and_eq_true,decide_eq_true_eq,List.all_eq_true,List.mem_range] at h
 exact flowOk_iff.2 ⟨h.1.1,fun i hi=>h.1.2 i hi,fun x h1 h2=>(h.2 x h2).resolve_left (by omega)⟩
theorem can_0 : CanServe gF pF [0]:=gF_can (f:=[1,0,0,0,1,0,0]) (by simp) rfl (flowB (by decide)) (by decide)
theorem can_01 : CanServe gF pF [0,1]:=gF_can (f:=[2,1,0,0,1,1,1,0]) (by simp) rfl (flowB (by decide)) (by decide)
theorem can_02 : CanServe gF pF [0,2]:=gF_can (f:=[2,1,0,0,1,1,0,1]) (by simp) rfl (flowB (by decide)) (by decide)
theorem cant_012 : ¬ CanServe gF pF [0,1,2]:=fun h=>by
 have h1:=maxF_le (netA_ok gF_ok pF_ok (gF_rng (ks:=[0,1,2]) (by simp))) (S:=fun x=>decide (x = 0)) (by decide) (by decide)
 have h2 : maxF (netN gF) (netA gF pF [0,1,2]) = 3:=h
 rw [h2] at h1
 revert h1
 decide
theorem gF_acc : accR gF pF [0,1,2] = [0,1]:=by
 have h0 : accR gF pF [0] = [0]:=accR_yes (o:=[]) (k:=0) can_0
 have h1 : accR gF pF [0,1] = [0,1]:=by
  have h:=accR_yes (g:=gF) (p:=pF) (o:=[0]) (k:=1) (by rw [h0]; exact can_01)
  rw [h0] at h
  exact h
 have h:=accR_no (g:=gF) (p:=pF) (o:=[0,1]) (k:=2) (by rw [h1]; exact cant_012)
 rw [h1] at h
 exact h
theorem gF_ref : ∃ side,refR gF pF [0,1,2] = [(2,side)]:=by
 have h0 : accR gF pF [0] = [0]:=accR_yes (o:=[]) (k:=0) can_0
 have h1 : accR gF pF [0,1] = [0,1]:=by
  have h:=accR_yes (g:=gF) (p:=pF) (o:=[0]) (k:=1) (by rw [h0]; exact can_01)
  rw [h0] at h
  exact h
 have r0 : refR gF pF [0] = []:=refR_yes (o:=[]) (k:=0) can_0
 have r1 : refR gF pF [0,1] = []:=by
  have h:=refR_yes (g:=gF) (p:=pF) (o:=[0]) (k:=1) (by rw [h0]; exact can_01)
  rw [r0] at h
  exact h
 have h:=refR_no (g:=gF) (p:=pF) (o:=[0,1]) (k:=2) (by rw [h1]; exact cant_012)
 rw [r1] at h
 exact ⟨_,h⟩
theorem ref17_Accepts_ok (acc f : List Int) (R : List (Int × List Int)) (k : Int) (hl : acc.length ≤ 140737488355328) : ACalls Tryz.prog nref17_Accepts [eAcc acc f R,.I k] [] (.B (decide (k ∈ acc))) []:=by
 refine sref17_Accepts.acalls (Nat.le_of_ble_eq_true rfl) (Nat.le_of_ble_eq_true rfl) (Nat.zero_le _) ?_
 show awp _ 0 _ _ ⟨9,[(0,eAcc acc f R),(1,.I k)],[],16⟩
 have hh:=has_ok acc k hl
 rw [show acc.contains k = decide (k ∈ acc) by rw [Bool.eq_iff_iff]; simp] at hh
 refine awp_regc ⟨9,[(1,.I k),(2,.pv [ints acc,ints f,.vs 2 false (rowsR R)])],[],100⟩ rfl ?_ ?_
 ·simp
  exact Le.go [] [16] rfl rfl (by simp) (by simp)
 refine awp_regc ⟨9,[(4,.B (decide (k ∈ acc)))],[],200⟩ rfl ?_ ?_
 ·simp
  refine call0e hh (by simp) ?_
  simp
  exact Le.go [] [] rfl rfl (by simp) (by simp)
 refine awp_ret ?_
 exact ⟨.inr rfl,RetOk.one (by simp)⟩
set_option maxRecDepth 100000 in
theorem SameRefusals_ok (R S : List (Int × List Int)) (hR : R.length ≤ 1000) (hS : S.length ≤ 1000) (hr : ∀ r ∈ R,r.2.length ≤ 140737488355328) : ACalls Tryz.prog nref17_SameRefusals [.vs 2 false (rowsR R),.vs 2 false (rowsR S)] [] (.B (decide (R = S))) []:=by
 refine sref17_SameRefusals.acalls (Nat.le_of_ble_eq_true rfl) (Nat.le_of_ble_eq_true rfl) (Nat.le_refl _) ?_
 show awp _ 0 _ _ ⟨42,[(0,.vs 2 false (rowsR R)),(1,.vs 2 false (rowsR S))],[],16⟩
 refine rx (s:=?s1) [0,1] [] [] rfl ?o1 ?q1
 case o1=>simp; rfl
 refine awp_seq ?_
 refine awp_regc ⟨42,[(0,.vs 2 false (rowsR R)),(1,.vs 2 false (rowsR S)),(10,.B (!decide (R.length = S.length)))],[],100⟩ rfl ?_ ?_
 ·simp
  exact Le.go [] [] rfl rfl (by simp <;> exact wkB (by rw [Bool.eq_iff_iff]; simp <;> omega)) (by simp)
 refine awp_cond _ rfl (fun h3=>?_) fun h3=>?_
 ·have h3' : ¬ R.length = S.length:=by simpa using h3
  have hno : ¬ R = S:=fun h=>h3' (by rw [h])
  refine rx (s:=?s4) [4] [] [] rfl ?o4 ?q4
  case o4=>simp; rfl
  refine awp_ret ?_
  exact ⟨.inr rfl,RetOk.one (by simp [hno])⟩
 have h3' : R.length = S.length:=by simpa using h3
 refine awp_skip ?_
 refine awp_seq ?_
 refine rx (s:=?s5) [0,1,5] [] [] rfl ?o5 ?q5
 case o5=>simp; rfl
 refine awp_block ?_
 refine awp_loop (ι:=Nat) (fun i=>⟨42,[(0,.vs 2 false (rowsR R)),(1,.vs 2 false (rowsR S)),(5,.I i)],[],200⟩) (fun i=>i ≤ R.length ∧ ∀ k (h : k < R.length) (h' : k < S.length),k < i → R[k] = S[k]) (fun i=>R.length - i) 0 ⟨Nat.zero_le _,fun k _ _ h=>absurd h (Nat.not_lt_zero _)⟩ (Le.go [] [] rfl rfl (by simp) (by simp)) ?_
 rintro i ⟨hi,hp⟩
 refine awp_seq ?_
 refine rx (s:=?s6) [0,1,5,14] [] [] rfl ?o6 ?q6
 case o6=>simp; rfl
 refine awp_cond _ rfl (fun h7=>?_) fun h7=>?_
 ·simp at h7
  have h7S : i < S.length:=by omega
  have hw1 : IntKind.i64.wrap ((i : Int) + 1) = (i : Int) + 1:=w64 (by omega) (by omega)
  have hrl:=hr _ (List.getElem_mem h7)
  obtain ⟨⟨k1,s1⟩,hr1⟩ : ∃ r,r = R[i]:=⟨_,rfl⟩
  obtain ⟨⟨k2,s2⟩,hr2⟩ : ∃ r,r = S[i]:=⟨_,rfl⟩
  rw [← hr1] at hrl
  have hsame:=SameInts_ok s1 s2 hrl
  refine awp_skip ?_
  refine awp_seq ?_
  refine awp_block ?_
  refine awp_dregc ⟨42,[(0,.vs 2 false (rowsR R)),(1,.vs 2 false (rowsR S)),(5,.I i),(41,.B (!decide (k1 = k2 ∧ s1 = s2)))],[],600⟩ rfl ?_ ?_
  ·by_cases hk : k1 = k2
   ·subst hk
    simp [h7,h7S,← hr1,← hr2]
    refine call0e hsame (by simp) ?_
    simp
    exact ⟨rfl,Le.go [] [] rfl rfl (by simp) (by simp)⟩
   ·have hk2 : (k1 == k2) = false:=by simpa using hk
    simp [h7,h7S,← hr1,← hr2,hk2,bne]
    exact ⟨rfl,Le.go [] [] rfl rfl (by simp [hk]) (by simp)⟩
  refine awp_cond _ rfl (fun h9=>?_) fun h9=>?_
  ·have h9' : ¬ (k1 = k2 ∧ s1 = s2):=fun h=>by rw [decide_eq_true h] at h9; cases h9
   have hno : ¬ R = S:=fun h=>by
    subst h
    rw [← hr1] at hr2
    exact h9' ⟨(congrArg Prod.fst hr2).symm,(congrArg Prod.snd hr2).symm⟩
   refine rx (s:=?s10) [4] [] [] rfl ?o10 ?q10
   case o10=>simp; rfl
   refine awp_ret ?_
   exact ⟨.inr rfl,RetOk.one (by simp [hno])⟩
  have h9' : k1 = k2 ∧ s1 = s2:=by simpa using h9
  refine awp_skip ?_
  refine awp_reg rfl ?_
  simp
  refine ⟨i + 1,⟨by omega,fun k h h' hki=>?_⟩,by omega,Le.go [] [] rfl rfl (by simp [hw1]) (by simp)⟩
  rcases Nat.lt_succ_iff_lt_or_eq.1 hki with h2 | h2
  ·exact hp k h h' h2
  ·subst h2
   rw [← hr1,← hr2,h9'.1,h9'.2]
 simp at h7
 have hyes : R = S:=List.ext_getElem h3' fun k h1 h2=>hp k h1 h2 (by omega)
 refine awp_exit ?_
 refine hit ?_
 refine rx (s:=?s11) [4] [] [] rfl ?o11 ?q11
 case o11=>simp; rfl
 refine awp_ret ?_
 exact ⟨.inr rfl,RetOk.one (by simp [hyes])⟩
theorem Alike_ok (a f b f' : List Int) (R S : List (Int × List Int)) (ha : a.length ≤ 140737488355328) (hR : R.length ≤ 1000) (hS : S.length ≤ 1000) (hr : ∀ r ∈ R,r.2.length ≤ 140737488355328) : ACalls Tryz.prog nref17_Alike [eAcc a f R,eAcc b f' S] [] (.B (decide (a = b ∧ R = S))) []:=by
 refine sref17_Alike.acalls (Nat.le_of_ble_eq_true rfl) (Nat.le_of_ble_eq_true rfl) (Nat.le_refl _) ?_
 show awp _ 0 _ _ ⟨17,[(0,eAcc a f R),(1,eAcc b f' S)],[],16⟩
 have h1:=SameInts_ok a b ha
 have h2:=SameRefusals_ok R S hR hS hr
 refine awp_regc ⟨17,[(2,.pv [ints a,ints f,.vs 2 false (rowsR R)]),(3,.pv [ints b,ints f',.vs 2 false (rowsR S)])],[],60⟩ rfl ?_ ?_
 ·simp
  exact Le.go [] [16,24] rfl rfl (by simp) (by simp)
 refine awp_regc ⟨17,[(4,.B (decide (a = b ∧ R = S)))],[],300⟩ rfl ?_ ?_
 ·by_cases hab : a = b
  ·rw [decide_eq_true hab] at h1
   simp
   refine call0e h1 (by simp) ?_
   simp
   refine call0e h2 (by simp) ?_
   simp
   exact Le.go [] [] rfl rfl (by simp [hab]) (by simp)
  ·rw [decide_eq_false hab] at h1
   simp
   refine call0e h1 (by simp) ?_
   simp
   exact Le.go [] [] rfl rfl (by simp [hab]) (by simp)
 refine awp_ret ?_
 exact ⟨.inr rfl,RetOk.one (by simp)⟩
theorem refR_side (g : Gr) (p : Pol) : ∀ (n : Nat) (o : List Int),o.length = n → ∀ r ∈ refR g p o,r.2.length ≤ netN g
 | 0,o,h,r,hr=>by
   obtain rfl:=List.eq_nil_of_length_eq_zero h
   cases hr
 | n + 1,o,h,r,hr=>by
   have hne : o ≠ []:=fun e=>by rw [e] at h; cases h
   rw [← List.dropLast_concat_getLast hne] at hr
   have ih:=refR_side g p n o.dropLast (by rw [List.length_dropLast,h]; rfl)
   by_cases hc : CanServe g p (joinL (accR g p o.dropLast ++ [o.getLast hne]))
   ·rw [refR_yes hc] at hr; exact ih r hr
   ·rw [refR_no hc] at hr
    rcases List.mem_append.1 hr with h2 | h2
    ·exact ih r h2
    ·rw [List.mem_singleton] at h2
     rw [h2]
     exact nearL_len _ _
noncomputable abbrev accG (g : Gr) (p : Pol) : List Int:=accR g p (ordL (levelG g p.lv) p.seeds)
noncomputable abbrev refG (g : Gr) (p : Pol) : List (Int × List Int):=refR g p (ordL (levelG g p.lv) p.seeds)
theorem accG_len {g : Gr} (hg : GrOk g) (p : Pol) : (accG g p).length ≤ 64:=Nat.le_trans (accR_len _) (ordL_le hg p)
theorem refG_len {g : Gr} (hg : GrOk g) (p : Pol) : (refG g p).length ≤ 64:=Nat.le_trans (refR_len _ _ _ _ rfl) (ordL_le hg p)
theorem refG_side {g : Gr} (hg : GrOk g) (p : Pol) : ∀ r ∈ refG g p,r.2.length ≤ 130:=fun r hr=>by
 have h1:=refR_side g p _ _ rfl r hr
 have h2:=netN_int hg
 have h3:=hg.1.2.1
 omega
theorem great_len {g : Gr} {p : Pol} {ks f : List Int} (hg : GrOk g) (hp : PolOk g.size p) (hr : ∀ x ∈ ks,0 ≤ x ∧ x < g.size) (hs : p.seeds.length ≤ 64) (hl : ks.length ≤ 64) (hf : GreatF g p ks f) : f.length ≤ 1200:=by
 have h1:=netA_val hg hp hr hs hl
 have h2:=hf.ok.fit.len
 have h3:=h1.2.2.1
 simp only at h3
 omega
theorem accG_rng {g : Gr} (p : Pol) : ∀ x ∈ accG g p,0 ≤ x ∧ x < g.size:=fun x hx=>by
 have h:=ordL_range (accR_mem hx)
 exact h
set_option maxRecDepth 100000 in
theorem right_ok (g : Gr) (p : Pol) (f : List Int) (hg : GrOk g) (hp : PolOk g.size p) (hs : p.seeds.length ≤ 64) (hf : GreatF g p (joinL (accG g p)) f) : ACalls Tryz.prog nlaw17_right [eG g,eP p,eAcc (accG g p) f (refG g p)] [] (.B true) []:=by
 obtain ⟨⟨R,f'⟩,⟨hR,hf'⟩,hrun⟩:=Run_a g p hg hp hs
 have hR:=hR.eq
 simp only at hR hf' hrun
 subst hR
 have hrun : ACalls Tryz.prog nref17_Run [eG g,eP p] [] (.tup [eAcc (accG g p) f' (refG g p),.I 0]) []:=hrun
 have hal:=accG_len hg p
 have hrl:=refG_len hg p
 have hrs:=refG_side hg p
 have hfl:=great_len hg hp (rise_in (rise_join (accG_rng p))) hs (joinL_len _) hf
 have hlike:=Alike_ok (accG g p) f (accG g p) f' (refG g p) (refG g p) (by omega) (by omega) (by omega) (fun r hr=>by have:=hrs r hr; omega)
 rw [decide_eq_true ⟨rfl,rfl⟩] at hlike
 have hchk:=ref17_Check_ok g p (accG g p) f (refG g p) hg hp hs (by omega) (by omega) (by omega) (fun r hr=>by have:=hrs r hr; omega)
 rw [show checkA g p (accG g p) f (refG g p) = 0 from checkA_right hg hp hs hf] at hchk
 obtain ⟨acc,hacc⟩ : ∃ acc,acc = accG g p:=⟨_,rfl⟩
 obtain ⟨R,hR⟩ : ∃ R,R = refG g p:=⟨_,rfl⟩
 rw [← hacc,← hR] at hlike hchk hrun ⊢
 refine slaw17_right.acalls (Nat.le_of_ble_eq_true rfl) (Nat.le_of_ble_eq_true rfl) (Nat.le_refl _) ?_
 show awp _ 0 _ _ ⟨25,[(0,eG g),(1,eP p),(2,eAcc acc f R)],[],16⟩
 refine awp_regc ⟨25,[(3,.pv (gC g)),(4,.pv (pC p)),(5,.pv [ints acc,ints f,.vs 2 false (rowsR R)])],[],60⟩ rfl ?_ ?_
 ·simp
  exact Le.go [] [16,24,32] rfl rfl (by simp) (by simp)
 refine awp_regc ⟨25,[(3,.pv (gC g)),(4,.pv (pC p)),(5,.pv [ints acc,ints f,.vs 2 false (rowsR R)]),(7,.pv [ints acc,ints f',.vs 2 false (rowsR R)])],[],200⟩ rfl ?_ ?_
 ·simp
  refine call0e hrun (by simp) ?_
  simp
  exact Le.go [] [108] rfl rfl (by simp) (by simp)
 refine awp_regc ⟨25,[(6,.B true)],[],300⟩ rfl ?_ ?_
 ·simp
  refine call0e hlike (by simp) ?_
  simp
  refine call0e hchk (by simp) ?_
  simp
  exact Le.go [] [] rfl rfl (by simp) (by simp)
 refine awp_ret ?_
 exact ⟨.inr rfl,RetOk.one (by simp)⟩
theorem fan_ok : ACalls Tryz.prog nlaw17_fan [] [] (.tup [eG gF,eP pF]) []:=by
 refine slaw17_fan.acalls (Nat.le_of_ble_eq_true rfl) (Nat.le_of_ble_eq_true rfl) (Nat.le_refl _) ?_
 show awp _ 0 _ _ ⟨9,[],[],16⟩
 refine rx (s:=?s1) [0,1] [16,24] [] rfl ?o1 ?q1
 case o1=>simp; rfl
 refine awp_regc ⟨9,[(0,.pt 16 0 0),(1,.pt 24 0 0)],[(16,some ⟨3,[[.I 3,eEs [⟨0,1,1⟩,⟨0,2,1⟩],.nilS]],0⟩),(24,some ⟨3,[[ints [0],ints [2,1],.I 1]],0⟩)],300⟩ rfl ?_ ?_
 ·simp
  exact Le.go [(16,16),(24,24)] [48,64,72] rfl rfl (by simp) (by simp)
 refine awp_ret ?_
 exact ⟨.inr rfl,RetOk.out [] [16,24] rfl (by simp) (by simp) (wkT2 (wkA3 (.refl _) (.refl _) (.nil _ _)) (wkA3 (.refl _) (.refl _) (.refl _))) (by simp)⟩
set_option maxRecDepth 100000 in
set_option maxHeartbeats 4000000 in
open Classical in
theorem awake17_ok : ACalls Tryz.prog nlaw17_awake [] [] (.B true) []:=by
 obtain ⟨f,hf,hrun⟩:=accept_Run_a gF pF gF_ok pF_ok (by decide) (by decide)
 have hchk:=checkA_right gF_ok pF_ok (by decide) hf
 have hcheck:=fun (R : List (Int × List Int)) (h1 : R.length ≤ 1000) (h2 : ∀ r ∈ R,r.2.length ≤ 140737488355328)=>accept_Check_ok gF pF [0,1] f R gF_ok pF_ok (by decide) (by decide) (by decide) h1 (by have:=great_len gF_ok pF_ok (rise_in (rise_join (accG_rng pF))) (by decide) (joinL_len _) hf; omega) h2
 have hrs:=refG_side gF_ok pF
 unfold refG at hrs
 rw [gF_order,gF_acc] at hrun hchk hf
 rw [gF_order] at hrs
 obtain ⟨side,hside⟩:=gF_ref
 rw [hside] at hrun hchk hrs
 have hcheck:=hcheck [(2,side)] (by simp) (fun r hr=>by have:=hrs r hr; omega)
 rw [hchk] at hcheck
 have ha1:=accept_Accepts_ok [0,1] f [(2,side)] 1 (by decide)
 have ha2:=accept_Accepts_ok [0,1] f [(2,side)] 2 (by decide)
 rw [show decide ((1 : Int) ∈ [(0 : Int),1]) = true by decide] at ha1
 rw [show decide ((2 : Int) ∈ [(0 : Int),1]) = false by decide] at ha2
 have hs1:=accept_Served_ok gF pF [0,2] gF_ok pF_ok (by decide) (by decide)
 have hs2:=accept_Served_ok gF pF [0,1,2] gF_ok pF_ok (by decide) (by decide)
 have hy1 : ServedP gF pF [0,2]:=⟨rise_of_pair (by decide) (gF_rng (by simp)),by decide,can_02⟩
 have hn1 : ¬ ServedP gF pF [0,1,2]:=fun h=>cant_012 h.2.2
 rw [decide_eq_true hy1] at hs1
 rw [decide_eq_false hn1] at hs2
 refine slaw17_awake.acalls (Nat.le_of_ble_eq_true rfl) (Nat.le_of_ble_eq_true rfl) (Nat.le_refl _) ?_
 show awp _ 0 _ _ ⟨73,[],[],16⟩
 refine rx (s:=?s1) [] [] [] rfl ?o1 ?q1
 case o1=>simp; rfl
 refine awp_regc ⟨73,[(1,.pv (gC gF)),(2,.pv (pC pF))],[],200⟩ rfl ?_ ?_
 ·simp
  refine call0e fan_ok (by simp) ?_
  simp
  exact Le.go [] [56,64] rfl rfl (by simp) (by simp)
 refine awp_regc ⟨73,[(1,.pv (gC gF)),(2,.pv (pC pF)),(3,.pv [ints [0,1],ints f,.vs 2 false (rowsR [(2,side)])]),(4,.I 0)],[],400⟩ rfl ?_ ?_
 ·simp
  refine call0e hrun (by simp) ?_
  simp
  exact Le.go [] [248] rfl rfl (by simp; exact .refl _) (by simp)
 refine awp_regc ⟨73,[(0,.B true)],[],2000⟩ rfl ?_ ?_
 ·simp
  refine call0e hcheck (by simp) ?_
  simp
  refine call0e ha1 (by simp) ?_
  simp
  refine call0e ha2 (by simp) ?_
  simp
  refine call0s [784] hs1 (by simp) (.sc _) ?_
  simp
  refine call0s [832] hs2 (by simp) (.sc _) ?_
  simp
  exact Le.go [] [] rfl rfl (by simp) (by simp)
 refine awp_ret ?_
 exact ⟨.inr rfl,RetOk.one (by simp)⟩
set_option maxRecDepth 100000 in
set_option maxHeartbeats 4000000 in
open Classical in
theorem law17_AcceptRuns_ok (L K : List Int) : ACalls Tryz.prog nlaw17_AcceptRuns [ints L,ints K] [] (.B true) []:=by
 refine slaw17_AcceptRuns.acalls (Nat.le_of_ble_eq_true rfl) (Nat.le_of_ble_eq_true rfl) (Nat.le_refl _) ?_
 show awp _ 0 _ _ ⟨83,[(0,ints L),(1,ints K)],[],16⟩
 have hlight:=Light_ok L
 refine rx (s:=?s1) [0,1] [] [] rfl ?o1 ?q1
 case o1=>simp; rfl
 refine awp_seq ?_
 refine awp_regc ⟨83,[(0,ints L),(1,ints K),(19,.B (!decide (L.length ≤ 400 ∧ K.length ≤ 70)))],[],100⟩ rfl ?_ ?_
 ·by_cases h3 : L.length ≤ 400
  ·rw [decide_eq_true h3] at hlight
   simp
   refine call0e hlight (by simp) ?_
   simp
   exact Le.go [] [] rfl rfl (by simp [h3] <;> exact wkB (by rw [Bool.eq_iff_iff]; simp <;> omega)) (by simp)
  ·rw [decide_eq_false h3] at hlight
   simp
   refine call0e hlight (by simp) ?_
   simp
   exact Le.go [] [] rfl rfl (by simp [h3]) (by simp)
 refine awp_cond _ rfl (fun h3=>?_) fun h3=>?_
 ·refine rx (s:=?s4) [4] [] [] rfl ?o4 ?q4
  case o4=>simp; refine call0e awake17_ok (by simp) ?_; simp; rfl
  refine awp_ret ?_
  exact ⟨.inr rfl,RetOk.one (by simp)⟩
 have h3' : L.length ≤ 400 ∧ K.length ≤ 70:=by simpa using h3
 obtain ⟨h3,hK⟩:=h3'
 obtain ⟨g,b1,⟨hg,hg2,hg9,hb1⟩,hcg⟩:=roll_a L h3
 obtain ⟨⟨p,b2⟩,⟨hp1,hp2,hp3,hb2⟩,hcp⟩:=Policy_a L b1 g h3 hb1 (by omega) (by omega)
 simp only at hp1 hp2 hp3 hb2 hcp
 have hel:=hg.edges_le
 have hgl:=hg.gone_le
 refine awp_skip ?_
 refine awp_regc ⟨83,[(1,ints K),(5,.pt 20 0 0)],[(20,some (dice L 0))],200⟩ rfl ?_ ?_
 ·simp
  refine callN1 (Roll_ok L) (by simp) ?_
  simp
  exact Le.go [(108,20)] [] rfl rfl (by simp) (by simp)
 refine awp_regc ⟨83,[(1,ints K),(5,.pt 20 0 0),(6,.pv (gC g))],[(20,some (dice L b1))],300⟩ rfl ?_ ?_
 ·simp
  refine callM1 (i:=20) rfl (e':=dice L 0) (by simp) hcg (by simp) (by simp) ?_
  simp
  exact Le.go [(20,20)] [216] rfl rfl (by simp) (by simp)
 refine awp_regc ⟨83,[(1,ints K),(5,.pt 20 0 0),(6,.pv (gC g)),(7,.pv (pC p))],[(20,some (dice L b2))],400⟩ rfl ?_ ?_
 ·simp
  refine callM1 (i:=20) rfl (e':=dice L b1) (by simp) hcp (by simp) (by simp) ?_
  simp
  exact Le.go [(20,20)] [324] rfl rfl (by simp) (by simp)
 obtain ⟨fl,hfl,hrun⟩:=accept_Run_a g p hg hp1 (by omega) (by omega)
 have hrun : ACalls Tryz.prog naccept_Run [eG g,eP p] [] (.tup [eAcc (accG g p) fl (refG g p),.I 0]) []:=hrun
 have hright:=right_ok g p fl hg hp1 (by omega) hfl
 have hal:=accG_len hg p
 have hacc1:=fun k=>accept_Accepts_ok (accG g p) fl (refG g p) k (by omega)
 have hacc2:=fun k=>ref17_Accepts_ok (accG g p) fl (refG g p) k (by omega)
 obtain ⟨acc,hacc⟩ : ∃ acc,acc = accG g p:=⟨_,rfl⟩
 obtain ⟨R,hR⟩ : ∃ R,R = refG g p:=⟨_,rfl⟩
 rw [← hacc,← hR] at hrun hright hacc1 hacc2
 refine awp_regc ⟨83,[(1,ints K),(5,.pt 20 0 0),(6,.pv (gC g)),(7,.pv (pC p)),(8,.pv [ints acc,ints fl,.vs 2 false (rowsR R)]),(9,.I 0)],[(20,some (dice L b2))],500⟩ rfl ?_ ?_
 ·simp
  refine call0e hrun (by simp) ?_
  simp
  exact Le.go [(20,20)] [448] rfl rfl (by simp) (by simp)
 refine awp_seq ?_
 refine awp_regc ⟨83,[(1,ints K),(5,.pt 20 0 0),(6,.pv (gC g)),(7,.pv (pC p)),(8,.pv [ints acc,ints fl,.vs 2 false (rowsR R)]),(42,.B false)],[(20,some (dice L b2))],600⟩ rfl ?_ ?_
 ·simp
  refine call0e hright (by simp) ?_
  simp
  exact Le.go [(20,20)] [] rfl rfl (by simp) (by simp)
 refine awp_cond _ rfl (fun h=>by cases h) fun _=>?_
 refine awp_skip ?_
 obtain ⟨N,hN,hN9⟩ : ∃ N : Nat,g.size = N ∧ N ≤ 9:=⟨g.size.toNat,by omega,by omega⟩
 have hsome:=Some_ok L b2 N h3 hb2 (by omega)
 have hsl:=someD_len (L:=L) (a:=b2) N
 obtain ⟨S,hS⟩ : ∃ S,S = (someD L b2 N).1:=⟨_,rfl⟩
 rw [← hS] at hsome hsl
 refine awp_regc ⟨83,[(1,ints K),(6,.pv (gC g)),(7,.pv (pC p)),(8,.pv [ints acc,ints fl,.vs 2 false (rowsR R)]),(10,ints S)],[],700⟩ rfl ?_ ?_
 ·simp [hN]
  refine callM1 (i:=20) rfl (e':=dice L b2) (by simp) hsome (by simp) (by simp) ?_
  simp
  exact Le.go [] [624] rfl rfl (by simp [hN,fcd,take_map_len]) (by simp)
 refine awp_seq ?_
 refine awp_regc ⟨83,[(1,ints K),(6,.pv (gC g)),(7,.pv (pC p)),(8,.pv [ints acc,ints fl,.vs 2 false (rowsR R)]),(10,ints S),(11,.I (-1))],[],800⟩ rfl ?_ ?_
 ·simp
  exact Le.go [] [] rfl rfl (by simp) (by simp)
 refine awp_block ?_
 refine awp_loop (ι:=Nat) (fun i=>⟨83,[(1,ints K),(6,.pv (gC g)),(7,.pv (pC p)),(8,.pv [ints acc,ints fl,.vs 2 false (rowsR R)]),(10,ints S),(11,.I ((i : Int) - 1))],[],900⟩) (fun i=>i ≤ N + 2) (fun i=>N + 2 - i) 0 (Nat.zero_le _) (Le.go [] [] rfl rfl (by simp) (by simp)) ?_
 intro i hi
 obtain ⟨k,hk⟩ : ∃ k,k = (i : Int) - 1:=⟨_,rfl⟩
 rw [← hk]
 refine awp_seq ?_
 refine awp_regc ⟨83,[(1,ints K),(6,.pv (gC g)),(7,.pv (pC p)),(8,.pv [ints acc,ints fl,.vs 2 false (rowsR R)]),(10,ints S),(11,.I k),(50,.B (decide (k ≤ g.size)))],[],1000⟩ rfl ?_ ?_
 ·simp
  exact Le.go [] [] rfl rfl (by simp) (by simp)
 refine awp_cond _ rfl (fun h10=>?_) fun h10=>?_
 ·rw [decide_eq_true_eq] at h10
  have hw1 : IntKind.i64.wrap (k + 1) = k + 1:=w64 (by omega) (by omega)
  have hw2 : IntKind.i64.wrap (i : Int) = i:=w64 (by omega) (by omega)
  refine awp_skip ?_
  refine awp_seq ?_
  refine awp_block ?_
  refine awp_dregc ⟨83,[(1,ints K),(6,.pv (gC g)),(7,.pv (pC p)),(8,.pv [ints acc,ints fl,.vs 2 false (rowsR R)]),(10,ints S),(11,.I k),(59,.B false)],[],1200⟩ rfl ?_ ?_
  ·simp
   refine call0e (hacc1 k) (by simp) ?_
   simp
   refine call0e (hacc2 k) (by simp) ?_
   simp
   exact ⟨rfl,Le.go [] [] rfl rfl (by simp) (by simp)⟩
  refine awp_cond _ rfl (fun h=>by cases h) fun _=>?_
  refine awp_skip ?_
  refine awp_reg rfl ?_
  simp
  exact ⟨i + 1,by omega,by omega,Le.go [] [] rfl rfl (by simp [hw1,hw2,hk]) (by simp)⟩
 refine awp_exit ?_
 refine hit ?_
 have hs1:=accept_Served_ok g p S hg hp1 (by omega) (by omega)
 have hs2:=Served_ok g p S hg hp1 (by omega) (by omega)
 have hs3:=accept_Served_ok g p K hg hp1 (by omega) (by omega)
 have hs4:=Served_ok g p K hg hp1 (by omega) (by omega)
 refine awp_dregc ⟨83,[(4,.B true)],[],1600⟩ rfl ?_ ?_
 ·simp
  refine call0e awake17_ok (by simp) ?_
  simp
  refine call0e hs1 (by simp) ?_
  simp
  refine call0e hs2 (by simp) ?_
  simp
  refine call0e hs3 (by simp) ?_
  simp
  refine call0e hs4 (by simp) ?_
  simp
  exact ⟨rfl,Le.go [] [] rfl rfl (by simp) (by simp)⟩
 refine awp_ret ?_
 exact ⟨.inr rfl,RetOk.one (by simp)⟩
end Go.Proofs.YteiabadhhhckfaaGreat
