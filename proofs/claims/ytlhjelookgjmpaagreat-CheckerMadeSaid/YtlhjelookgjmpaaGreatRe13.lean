/- Texts of this claim,merged. -/
import Derived.Test.YtlhjelookgjmpaaGreatRe12
set_option linter.unusedSimpArgs false
set_option linter.unusedVariables false
set_option linter.unusedSectionVars false
namespace Go.Proofs.YtlhjelookgjmpaaGreat
open Go
open Classical in
theorem cut_Valid_ok (n : Net) (side : List Int) (hl : n.arcs.length ≤ 1099511627776) (hs : side.length ≤ 140737488355328) : ACalls Tryz.prog ncut_Valid [eN n,ints side] [] (.B (decide (SideOk n side))) []:=by
 refine scut_Valid.acalls (Nat.le_of_ble_eq_true rfl) (Nat.le_of_ble_eq_true rfl) (Nat.le_refl _) ?_
 show awp _ 0 _ _ ⟨24,[(0,eN n),(1,ints side)],[],16⟩
 refine rx (s:=?s1) [1,2] [] [16] rfl ?o1 ?q1
 case o1=>simp; rfl
 refine awp_regc ⟨24,[(4,.B (decide (SideOk n side)))],[],300⟩ rfl ?_ ?_
 ·have hc:=flow_Check_ok n hl
  by_cases hn : NetVal n
  ·rw [if_pos hn] at hc
   have hw : IntKind.i64.wrap (n.nodes - 1) = n.nodes - 1:=w64 (by have:=hn.1; omega) (by have:=hn.2.1; omega)
   simp
   refine call0e hc (by simp) ?_
   simp [hw]
   refine call0e (lists_Rising_ok side 0 (n.nodes - 1) hs) (by simp) ?_
   simp
   refine gcase (fun hb=>?_) (fun hb=>?_) <;> (try rw [hb]) <;> (try simp at hb) <;> simp [hb]
   ·refine call0e (contains_ok side 0 hs) (by simp) ?_
    simp
    refine gcase (fun hb2=>?_) (fun hb2=>?_) <;> (try rw [hb2]) <;> (try simp at hb2) <;> simp [hb2]
    ·refine call0e (contains_ok side 1 hs) (by simp) ?_
     simp
     exact Le.snap [] rfl rfl (by simp [SideOk,hn,hb,hb2])
    ·exact Le.snap [] rfl rfl (by simp [SideOk,hn,hb,hb2])
   ·exact Le.snap [] rfl rfl (by simp [SideOk,hn,hb])
  ·rw [if_neg hn] at hc
   simp
   refine call0e hc (by simp) ?_
   simp
   exact Le.snap [] rfl rfl (by simp [SideOk,hn])
 refine awp_ret ?_
 exact ⟨.inr rfl,RetOk.one (by simp)⟩
open Classical in
theorem ref16_Valid_ok (n : Net) (side : List Int) (hl : n.arcs.length ≤ 1099511627776) (hs : side.length ≤ 140737488355328) : ACalls Tryz.prog nref16_Valid [eN n,ints side] [] (.B (decide (SideOk n side))) []:=by
 refine sref16_Valid.acalls (Nat.le_of_ble_eq_true rfl) (Nat.le_of_ble_eq_true rfl) (Nat.le_refl _) ?_
 show awp _ 0 _ _ ⟨23,[(0,eN n),(1,ints side)],[],16⟩
 refine rx (s:=?s1) [1,2] [] [16] rfl ?o1 ?q1
 case o1=>simp; rfl
 refine awp_regc ⟨23,[(4,.B (decide (SideOk n side)))],[],300⟩ rfl ?_ ?_
 ·have hc:=ref15_Check_ok n hl
  by_cases hn : NetVal n
  ·rw [if_pos hn] at hc
   simp
   refine call0e hc (by simp) ?_
   simp
   refine call0e (ref11_Set_ok side n.nodes hs) (by simp) ?_
   simp
   refine gcase (fun hb=>?_) (fun hb=>?_) <;> (try rw [hb]) <;> (try simp at hb) <;> simp [hb]
   ·refine call0e (has_ok side 0 hs) (by simp) ?_
    simp
    refine gcase (fun hb2=>?_) (fun hb2=>?_) <;> (try rw [hb2]) <;> (try simp at hb2) <;> simp [hb2]
    ·refine call0e (has_ok side 1 hs) (by simp) ?_
     simp
     exact Le.snap [] rfl rfl (by simp [SideOk,hn,hb,hb2])
    ·exact Le.snap [] rfl rfl (by simp [SideOk,hn,hb,hb2])
   ·exact Le.snap [] rfl rfl (by simp [SideOk,hn,hb])
  ·rw [if_neg hn] at hc
   simp
   refine call0e hc (by simp) ?_
   simp
   exact Le.snap [] rfl rfl (by simp [SideOk,hn])
 refine awp_ret ?_
 exact ⟨.inr rfl,RetOk.one (by simp)⟩
open Classical in
theorem ref16_Capacity_ok (n : Net) (side : List Int) (hl : n.arcs.length ≤ 1099511627776) (hs : side.length ≤ 140737488355328) : ACalls Tryz.prog nref16_Capacity [eN n,ints side] [] (.I (if SideOk n side then cutV n.arcs side else 0)) []:=by
 refine sref16_Capacity.acalls (Nat.le_of_ble_eq_true rfl) (Nat.le_of_ble_eq_true rfl) (Nat.le_refl _) ?_
 show awp _ 0 _ _ ⟨46,[(0,eN n),(1,ints side)],[],16⟩
 refine rx (s:=?s1) [1,2] [] [16] rfl ?o1 ?q1
 case o1=>simp; rfl
 refine awp_seq ?_
 refine rx (s:=?s2) [1,2,10] [] [] rfl ?o2 ?q2
 case o2=>simp; refine call0e (ref16_Valid_ok n side hl hs) (by simp) ?_; simp; rfl
 refine awp_cond _ rfl (fun h3=>?_) fun h3=>?_
 ·simp at h3
  refine rx (s:=?s4) [4] [] [] rfl ?o4 ?q4
  case o4=>simp; rfl
  refine awp_ret ?_
  exact ⟨.inr rfl,RetOk.one (by simp [h3])⟩
 simp at h3
 have hb1:=h3.1.2.2.1
 refine awp_skip ?_
 refine rx (s:=?s5) [1,2,5] [] [] rfl ?o5 ?q5
 case o5=>simp; rfl
 refine awp_seq ?_
 refine rx (s:=?s6) [1,2,5,6] [] [] rfl ?o6 ?q6
 case o6=>simp; rfl
 refine awp_block ?_
 refine awp_loop (ι:=Nat) (fun i=>⟨46,[(1,ints side),(2,.pv (nC n)),(5,.I (cutV (n.arcs.take i) side)),(6,.I i)],[],80⟩) (fun i=>i ≤ n.arcs.length) (fun i=>n.arcs.length - i) 0 (by simp) (Le.go [] [] rfl rfl (by simp [cutV]) (by simp)) ?_
 intro i hi
 have hcb:=cutV_bound (n:=n.nodes) (side:=side) (arcs:=n.arcs.take i) fun a ha=>h3.1.2.2.2 a (List.mem_of_mem_take ha)
 have htl:=List.length_take_le' i n.arcs
 refine awp_seq ?_
 refine rx (s:=?s7) [1,2,5,6,15] [] [] rfl ?o7 ?q7
 case o7=>simp; rfl
 refine awp_cond _ rfl (fun h7=>?_) fun h7=>?_
 ·simp at h7
  have hw : IntKind.i64.wrap ((i : Int) + 1) = (i : Int) + 1:=w64 (by omega) (by omega)
  have hcs:=cutV_succ n.arcs side i h7
  have hav:=h3.1.2.2.2 _ (List.getElem_mem h7)
  have hwv : IntKind.i64.wrap (cutV (n.arcs.take i) side + n.arcs[i].v) = cutV (n.arcs.take i) side + n.arcs[i].v:=w64 (by have:=hav.2.2.2.2.2.2.2.1; omega) (by have:=hav.2.2.2.2.2.2.2.2; omega)
  refine awp_skip ?_
  refine awp_cut (ι:=Unit) (fun _=>⟨46,[(1,ints side),(2,.pv (nC n)),(5,.I (cutV (n.arcs.take (i + 1)) side)),(6,.I i)],[],400⟩) (fun _=>True) ?_ fun _ _=>?_
  ·refine awp_block ?_
   refine awp_regc ⟨46,[(1,ints side),(2,.pv (nC n)),(5,.I (cutV (n.arcs.take i) side)),(6,.I i),(36,.B (decide (n.arcs[i].f ∈ side ∧ n.arcs[i].t ∉ side)))],[],300⟩ rfl ?_ ?_
   ·simp [h7]
    refine call0e (has_ok side n.arcs[i].f hs) (by simp) ?_
    simp
    refine gcase (fun hb=>?_) (fun hb=>?_) <;> (try rw [hb]) <;> (try simp at hb) <;> simp [hb,h7]
    ·refine call0e (has_ok side n.arcs[i].t hs) (by simp) ?_
     simp
     exact Le.snap [] rfl rfl (by simp [hb])
    ·exact Le.snap [] rfl rfl (by simp [hb])
   refine awp_cond _ rfl (fun h8=>?_) fun h8=>?_
   ·rw [decide_eq_true_eq] at h8
    rw [if_pos h8] at hcs
    refine awp_run (s:=?s9) rfl ?o9 ?q9
    case o9=>simp [h7]; rfl
    exact ⟨(),trivial,Le.go [] [] rfl rfl (by simp [hcs,hwv]) (by simp)⟩
   ·rw [decide_eq_false_iff_not] at h8
    rw [if_neg h8] at hcs
    refine awp_skip ?_
    exact ⟨(),trivial,Le.go [] [] rfl rfl (by simp [hcs]) (by simp)⟩
  refine awp_run (s:=?s10) rfl ?o10 ?q10
  case o10=>simp; rfl
  exact ⟨i + 1,by omega,by omega,Le.go [] [] rfl rfl (by simp [hw]) (by simp)⟩
 simp at h7
 obtain rfl : i = n.arcs.length:=by omega
 refine awp_exit ?_
 refine hit ?_
 refine rx (s:=?s11) [4] [] [] rfl ?o11 ?q11
 case o11=>simp; rfl
 refine awp_ret ?_
 exact ⟨.inr rfl,RetOk.one (by simp [h3])⟩
open Classical in
theorem ref16_Proves_ok (n : Net) (side : List Int) (most : Int) (hl : n.arcs.length ≤ 1099511627776) (hs : side.length ≤ 140737488355328) : ACalls Tryz.prog nref16_Proves [eN n,ints side,.I most] [] (.B (decide (ProvesP n side most))) []:=by
 refine sref16_Proves.acalls (Nat.le_of_ble_eq_true rfl) (Nat.le_of_ble_eq_true rfl) (Nat.le_refl _) ?_
 show awp _ 0 _ _ ⟨17,[(0,eN n),(1,ints side),(2,.I most)],[],16⟩
 refine rx (s:=?s1) [1,2,3] [] [16] rfl ?o1 ?q1
 case o1=>simp; rfl
 refine awp_regc ⟨17,[(6,.B (decide (ProvesP n side most)))],[],300⟩ rfl ?_ ?_
 ·have hc:=ref16_Capacity_ok n side hl hs
  simp
  refine call0e (ref16_Valid_ok n side hl hs) (by simp) ?_
  simp
  by_cases hv : SideOk n side
  ·rw [if_pos hv] at hc
   simp [hv]
   refine call0e hc (by simp) ?_
   simp
   exact Le.snap [] rfl rfl (by simp [ProvesP,hv])
  ·simp [hv]
   exact Le.snap [] rfl rfl (by simp [ProvesP,hv])
 refine awp_ret ?_
 exact ⟨.inr rfl,RetOk.one (by simp)⟩
def hereR (N : Nat) (s : List Int) : List (List AV):=(List.range N).map fun (k : Nat)=>[AV.B (decide ((k : Int) ∈ s))]
theorem hereR_len (N : Nat) (s : List Int) : (hereR N s).length = N:=by simp [hereR]
theorem hereR_nil (N : Nat) : hereR N [] = List.replicate N [AV.B false]:=by
 unfold hereR
 simp [List.map_const']
theorem hereR_get {N k : Nat} (hk : k < N) (s : List Int) : (hereR N s)[k]? = some [AV.B (decide ((k : Int) ∈ s))]:=by simp [hereR,hk]
@[simp] theorem hereR_at {N k : Nat} {s : List Int} (h : k < (hereR N s).length) : (hereR N s)[k] = [AV.B (decide ((k : Int) ∈ s))]:=by simp [hereR]
theorem hereR_set {N k : Nat} (s : List Int) : (hereR N s).set k [AV.B true] = hereR N (s ++ [(k : Int)]):=by
 apply List.ext_getElem?
 intro i
 rw [List.getElem?_set]
 by_cases h : k = i
 ·subst h
  rw [if_pos rfl]
  by_cases hk : k < N
  ·rw [if_pos (by rw [hereR_len]; exact hk),hereR_get hk]
   simp
  ·rw [if_neg (by rw [hereR_len]; exact hk)]
   simp [hereR,hk]
 ·rw [if_neg h]
  unfold hereR
  simp only [List.getElem?_map]
  by_cases hi : i < N
  ·simp [hi,show ¬ ((i : Int) = k) by omega]
  ·simp [hi]
@[simp] theorem conv_hereR {ρ : List (Nat × Nat)} {sn : List Nat} {h : Nat → Option Ent} {N : Nat} {s : List Int} : (hereR N s).map (·.map (conv ρ sn h 4)) = hereR N s:=by
 unfold hereR
 rw [List.map_map]
 rfl
set_option maxRecDepth 100000 in
open Classical in
theorem cut_Capacity_ok (n : Net) (side : List Int) (hl : n.arcs.length ≤ 1099511627776) (hs : side.length ≤ 140737488355328) : ACalls Tryz.prog ncut_Capacity [eN n,ints side] [] (.I (if SideOk n side then cutV n.arcs side else 0)) []:=by
 refine scut_Capacity.acalls (Nat.le_of_ble_eq_true rfl) (Nat.le_of_ble_eq_true rfl) (Nat.le_refl _) ?_
 show awp _ 0 _ _ ⟨54,[(0,eN n),(1,ints side)],[],16⟩
 refine rx (s:=?s1) [1,2] [] [16] rfl ?o1 ?q1
 case o1=>simp; rfl
 refine awp_seq ?_
 refine rx (s:=?s2) [1,2,14] [] [] rfl ?o2 ?q2
 case o2=>simp; refine call0e (cut_Valid_ok n side hl hs) (by simp) ?_; simp; rfl
 refine awp_cond _ rfl (fun h3=>?_) fun h3=>?_
 ·simp at h3
  refine rx (s:=?s4) [4] [] [] rfl ?o4 ?q4
  case o4=>simp; rfl
  refine awp_ret ?_
  exact ⟨.inr rfl,RetOk.one (by simp [h3])⟩
 simp at h3
 have hb1:=h3.1.2.2.1
 have hn2:=h3.1.1
 have hn3:=h3.1.2.1
 obtain ⟨N,hN,hN3⟩ : ∃ N : Nat,n.nodes = N ∧ N ≤ 130:=⟨n.nodes.toNat,by omega,by omega⟩
 have hside : ∀ k ∈ side,∃ j : Nat,k = j ∧ j < N:=fun k hk=>by
  obtain ⟨i,hi,rfl⟩:=List.getElem_of_mem hk
  have:=(h3.2.1 i hi)
  exact ⟨side[i].toNat,by omega,by omega⟩
 refine awp_skip ?_
 refine awp_regc ⟨54,[(1,ints side),(2,.pv (nC n)),(5,.rs 80 0 N)],[(80,some ⟨1,hereR N [],0⟩)],96⟩ rfl ?_ ?_
 ·rw [hereR_nil]
  simp [hN]
  refine ⟨by omega,?_⟩
  exact Le.keep rfl (Nat.le_refl _) (by simp [hN]) (by simp [hN])
 refine awp_seq ?_
 refine rk (s:=?s5) [1,2,5,18,19,20] [80] rfl ?o5 ?q5
 case o5=>simp; rfl
 refine awp_block ?_
 refine awp_loop (ι:=Nat) (fun i=>⟨54,[(1,ints side),(2,.pv (nC n)),(5,.rs 80 0 N),(18,ints side),(19,.I side.length),(20,.I i)],[(80,some ⟨1,hereR N (side.take i),0⟩)],120⟩) (fun i=>i ≤ side.length) (fun i=>side.length - i) 0 (by simp) (Le.keep rfl (Nat.le_refl _) (by simp) (by simp)) ?_
 intro i hi
 refine rk (s:=?s6) [1,2,5,18,19,20,21] [80] rfl ?o6 ?q6
 case o6=>simp; rfl
 refine awp_seq ?_
 refine awp_cond _ rfl (fun h7=>?_) fun h7=>?_
 ·simp at h7
  have hw : IntKind.i64.wrap ((i : Int) + 1) = (i : Int) + 1:=w64 (by omega) (by omega)
  obtain ⟨j,hj,hjN⟩:=hside _ (List.getElem_mem h7)
  have hset : (hereR N (side.take i)).set j [AV.sc (.bool true)] = hereR N (side.take (i + 1)):=by
   rw [List.take_succ_eq_append_getElem h7,hj]
   exact hereR_set _
  refine awp_skip ?_
  refine awp_seq ?_
  refine awp_block ?_
  refine rk (s:=?s8) [1,2,5,7,18,19,20] [80] rfl ?o8 ?q8
  case o8=>simp [h7,hj]; rfl
  refine awp_run (s:=?s9) rfl ?o9 ?q9
  case o9=>simp [hjN,hereR_len,hset]; rfl
  refine awp_run (s:=?s10) rfl ?o10 ?q10
  case o10=>simp [hw]; rfl
  exact ⟨i + 1,by omega,by omega,Le.go [(80,80)] [] rfl rfl (by simp) (by simp)⟩
 simp at h7
 obtain rfl : i = side.length:=by omega
 rw [List.take_of_length_le (Nat.le_refl _)]
 refine awp_exit ?_
 refine hit ?_
 refine rk (s:=?s11) [1,2,5,8] [80] rfl ?o11 ?q11
 case o11=>simp; rfl
 refine awp_seq ?_
 refine rk (s:=?s12) [5,8,29,30,31] [80] rfl ?o12 ?q12
 case o12=>simp; rfl
 refine awp_block ?_
 refine awp_loop (ι:=Nat) (fun i=>⟨54,[(5,.rs 80 0 N),(8,.I (cutV (n.arcs.take i) side)),(29,eEs n.arcs),(30,.I n.arcs.length),(31,.I i)],[(80,some ⟨1,hereR N side,0⟩)],168⟩) (fun i=>i ≤ n.arcs.length) (fun i=>n.arcs.length - i) 0 (by simp) (Le.go [(80,80)] [] rfl rfl (by simp [cutV]) (by simp)) ?_
 intro i hi
 have hcb:=cutV_bound (n:=n.nodes) (side:=side) (arcs:=n.arcs.take i) fun a ha=>h3.1.2.2.2 a (List.mem_of_mem_take ha)
 have htl:=List.length_take_le' i n.arcs
 refine rk (s:=?s13) [5,8,29,30,31,32] [80] rfl ?o13 ?q13
 case o13=>simp; rfl
 refine awp_seq ?_
 refine awp_cond _ rfl (fun h7=>?_) fun h7=>?_
 ·simp at h7
  have hw : IntKind.i64.wrap ((i : Int) + 1) = (i : Int) + 1:=w64 (by omega) (by omega)
  have hcs:=cutV_succ n.arcs side i h7
  have hav:=h3.1.2.2.2 _ (List.getElem_mem h7)
  have hwv : IntKind.i64.wrap (cutV (n.arcs.take i) side + n.arcs[i].v) = cutV (n.arcs.take i) side + n.arcs[i].v:=w64 (by have:=hav.2.2.2.2.2.2.2.1; omega) (by have:=hav.2.2.2.2.2.2.2.2; omega)
  obtain ⟨x,hx⟩ : ∃ x,x = n.arcs[i]:=⟨_,rfl⟩
  rw [← hx] at hcs hav hwv
  obtain ⟨f,hf,hfN⟩ : ∃ f : Nat,x.f = f ∧ f < N:=⟨x.f.toNat,by have:=hav.1; omega,by have:=hav.1; have:=hav.2.1; omega⟩
  obtain ⟨u,hu,huN⟩ : ∃ u : Nat,x.t = u ∧ u < N:=⟨x.t.toNat,by have:=hav.2.2.1; omega,by have:=hav.2.2.1; have:=hav.2.2.2.1; omega⟩
  refine awp_skip ?_
  refine awp_cut (ι:=Unit) (fun _=>⟨54,[(5,.rs 80 0 N),(8,.I (cutV (n.arcs.take (i + 1)) side)),(29,eEs n.arcs),(30,.I n.arcs.length),(31,.I i)],[(80,some ⟨1,hereR N side,0⟩)],400⟩) (fun _=>True) ?_ fun _ _=>?_
  ·refine awp_block ?_
   refine awp_regc ⟨54,[(5,.rs 80 0 N),(8,.I (cutV (n.arcs.take i) side)),(10,.pv (eC x)),(29,eEs n.arcs),(30,.I n.arcs.length),(31,.I i)],[(80,some ⟨1,hereR N side,0⟩)],208⟩ rfl ?_ ?_
   ·simp [h7,← hx]
    exact Le.go [(80,80)] [192] rfl rfl (by simp) (by simp)
   refine awp_regc ⟨54,[(5,.rs 80 0 N),(8,.I (cutV (n.arcs.take i) side)),(10,.pv (eC x)),(29,eEs n.arcs),(30,.I n.arcs.length),(31,.I i),(47,.B (decide ((f : Int) ∈ side ∧ (u : Int) ∉ side)))],[(80,some ⟨1,hereR N side,0⟩)],312⟩ rfl ?_ ?_
   ·simp [hf,hu,hfN,huN,hereR_len]
    refine gcase (fun hb=>?_) (fun hb=>?_) <;> (try rw [hb]) <;> (try simp at hb) <;> simp [hb,hu,huN,hereR_len]
    ·exact Le.go [(80,80)] [] rfl rfl (by simp [hb]) (by simp)
    ·exact Le.go [(80,80)] [] rfl rfl (by simp [hb]) (by simp)
   rw [← hf,← hu]
   refine awp_cond _ rfl (fun h8=>?_) fun h8=>?_
   ·rw [decide_eq_true_eq] at h8
    rw [if_pos h8] at hcs
    refine awp_run (s:=?s14) rfl ?o14 ?q14
    case o14=>simp; rfl
    exact ⟨(),trivial,Le.go [(80,80)] [] rfl rfl (by simp [hcs,hwv]) (by simp)⟩
   ·rw [decide_eq_false_iff_not] at h8
    rw [if_neg h8] at hcs
    refine awp_skip ?_
    exact ⟨(),trivial,Le.go [(80,80)] [] rfl rfl (by simp [hcs]) (by simp)⟩
  refine awp_run (s:=?s15) rfl ?o15 ?q15
  case o15=>simp; rfl
  exact ⟨i + 1,by omega,by omega,Le.go [(80,80)] [] rfl rfl (by simp [hw]) (by simp)⟩
 simp at h7
 obtain rfl : i = n.arcs.length:=by omega
 refine awp_exit ?_
 refine hit ?_
 refine rk (s:=?s16) [4] [] rfl ?o16 ?q16
 case o16=>simp; rfl
 refine awp_ret ?_
 exact ⟨.inr rfl,RetOk.one (by simp [h3])⟩
open Classical in
theorem cut_Proves_ok (n : Net) (side : List Int) (most : Int) (hl : n.arcs.length ≤ 1099511627776) (hs : side.length ≤ 140737488355328) : ACalls Tryz.prog ncut_Proves [eN n,ints side,.I most] [] (.B (decide (ProvesP n side most))) []:=by
 refine scut_Proves.acalls (Nat.le_of_ble_eq_true rfl) (Nat.le_of_ble_eq_true rfl) (Nat.le_refl _) ?_
 show awp _ 0 _ _ ⟨17,[(0,eN n),(1,ints side),(2,.I most)],[],16⟩
 refine rx (s:=?s1) [1,2,3] [] [16] rfl ?o1 ?q1
 case o1=>simp; rfl
 refine awp_regc ⟨17,[(6,.B (decide (ProvesP n side most)))],[],300⟩ rfl ?_ ?_
 ·have hc:=cut_Capacity_ok n side hl hs
  simp
  refine call0e (cut_Valid_ok n side hl hs) (by simp) ?_
  simp
  by_cases hv : SideOk n side
  ·rw [if_pos hv] at hc
   simp [hv]
   refine call0e hc (by simp) ?_
   simp
   exact Le.snap [] rfl rfl (by simp [ProvesP,hv])
  ·simp [hv]
   exact Le.snap [] rfl rfl (by simp [ProvesP,hv])
 refine awp_ret ?_
 exact ⟨.inr rfl,RetOk.one (by simp)⟩
section
variable {P : Program} {np id : Nat} {h : Nat → Option Ent} {K : AV → List Nat → List (Nat × Option Ent) → Prop} {f : FuncId} {first capt args args' : List AV} {res : AV}
theorem callM2 {i j : Nat} {e1 e2 e1' e2' : Ent} {hs' : List (Option Ent)} (hij : i ≠ j) (h1 : h i = some e1) (h2 : h j = some e2) (he1 : convE [(i,0),(j,1)] [] h 4 e1 = e1') (he2 : convE [(i,0),(j,1)] [] h 4 e2 = e2')
  (hc : ACalls P f args' [e1',e2'] res hs') (h8 : hs'.length ≤ 10) (he : (first ++ args ++ capt).map (conv [(i,0),(j,1)] [] h 4) = args')
  (hk : K (conv (swp [i,j] id) [] (fun _=>none) 4 res) [i,j] (hs'.zipIdx.map fun (e,k)=>((i :: j :: (List.range 8).map (id + ·)).getD k 0,e.map (convE (swp [i,j] id) [] (fun _=>none) 4)))) : aK P np id .call (.fn (.func f) first capt :: args) h K :=
 ⟨[i,j],[],true,args',[e1',e2'],res,hs',by simp [hij],by simp,by simp,by rw [show [i,j].zipIdx = [(i,0),(j,1)] from rfl,he]; exact wkL_refl _,by
  rw [show [i,j].zipIdx = [(i,0),(j,1)] from rfl]
  simp only [List.map_cons,List.map_nil,h1,h2,Option.map_some,he1,he2],hc,by simpa using h8,.inl rfl,by simpa [swp] using hk⟩
end
theorem split_Entry_ok (k : Int) (h : 0 ≤ k) (h2 : k ≤ 1000000) : ACalls Tryz.prog nsplit_Entry [.I k] [] (.I (2 + 2 * k)) []:=by
 refine ssplit_Entry.acalls (Nat.le_of_ble_eq_true rfl) (Nat.le_of_ble_eq_true rfl) (Nat.le_refl _) ?_
 show awp _ 0 _ _ ⟨6,[(0,.I k)],[],16⟩
 have hw1 : IntKind.i64.wrap (2 * k) = 2 * k:=w64 (by omega) (by omega)
 have hw2 : IntKind.i64.wrap (2 + 2 * k) = 2 + 2 * k:=w64 (by omega) (by omega)
 refine rx (s:=?s1) [0] [] [] rfl ?o1 ?q1
 case o1=>simp; rfl
 refine rx (s:=?s2) [2] [] [] rfl ?o2 ?q2
 case o2=>simp [hw1,hw2]; rfl
 refine awp_ret ?_
 exact ⟨.inr rfl,RetOk.one (by simp)⟩
theorem split_Exit_ok (k : Int) (h : 0 ≤ k) (h2 : k ≤ 1000000) : ACalls Tryz.prog nsplit_Exit [.I k] [] (.I (3 + 2 * k)) []:=by
 refine ssplit_Exit.acalls (Nat.le_of_ble_eq_true rfl) (Nat.le_of_ble_eq_true rfl) (Nat.le_refl _) ?_
 show awp _ 0 _ _ ⟨_,[(0,.I k)],[],16⟩
 have hw2 : IntKind.i64.wrap (2 + 2 * k + 1) = 3 + 2 * k:=by rw [w64 (by omega) (by omega)]; omega
 refine rx (s:=?s1) [0] [] [] rfl ?o1 ?q1
 case o1=>simp; rfl
 refine rx (s:=?s2) [2] [] [] rfl ?o2 ?q2
 case o2=>simp; refine call0e (split_Entry_ok k h h2) (by simp) ?_; simp [hw2]; rfl
 refine awp_ret ?_
 exact ⟨.inr rfl,RetOk.one (by simp)⟩
theorem ref14_Entry_ok (k : Int) (h : 0 ≤ k) (h2 : k ≤ 1000000) : ACalls Tryz.prog nref14_Entry [.I k] [] (.I (2 + 2 * k)) []:=by
 refine sref14_Entry.acalls (Nat.le_of_ble_eq_true rfl) (Nat.le_of_ble_eq_true rfl) (Nat.le_refl _) ?_
 show awp _ 0 _ _ ⟨_,[(0,.I k)],[],16⟩
 have hw1 : IntKind.i64.wrap (2 * k) = 2 * k:=w64 (by omega) (by omega)
 have hw2 : IntKind.i64.wrap (2 + 2 * k) = 2 + 2 * k:=w64 (by omega) (by omega)
 refine rx (s:=?s1) [0] [] [] rfl ?o1 ?q1
 case o1=>simp; rfl
 refine rx (s:=?s2) [2] [] [] rfl ?o2 ?q2
 case o2=>simp [hw1,hw2]; rfl
 refine awp_ret ?_
 exact ⟨.inr rfl,RetOk.one (by simp)⟩
theorem ref14_Exit_ok (k : Int) (h : 0 ≤ k) (h2 : k ≤ 1000000) : ACalls Tryz.prog nref14_Exit [.I k] [] (.I (3 + 2 * k)) []:=by
 refine sref14_Exit.acalls (Nat.le_of_ble_eq_true rfl) (Nat.le_of_ble_eq_true rfl) (Nat.le_refl _) ?_
 show awp _ 0 _ _ ⟨_,[(0,.I k)],[],16⟩
 have hw1 : IntKind.i64.wrap (2 * k) = 2 * k:=w64 (by omega) (by omega)
 have hw2 : IntKind.i64.wrap (3 + 2 * k) = 3 + 2 * k:=w64 (by omega) (by omega)
 refine rx (s:=?s1) [0] [] [] rfl ?o1 ?q1
 case o1=>simp; rfl
 refine rx (s:=?s2) [2] [] [] rfl ?o2 ?q2
 case o2=>simp [hw1,hw2]; rfl
 refine awp_ret ?_
 exact ⟨.inr rfl,RetOk.one (by simp)⟩
abbrev outV (N : Int) (B n : Nat) : Ent:=⟨2,[[.I N,.rs B 0 n]],0⟩
theorem arc_ok (N f t v : Int) (L : List Ed) (n : Nat) (hL : L.length = n) (hn : n ≤ 1000000) : ACalls Tryz.prog nsplit_Network_c1 [.I f,.I t,.I v,.pt 0 0 0] [outV N 1 n,⟨3,rowsE L,0⟩] (.tup []) [some (outV N 2 (n + 1)),none,some ⟨3,rowsE (L ++ [⟨f,t,v⟩]),0⟩]:=by
 refine ssplit_Network_c1.acalls (Nat.le_of_ble_eq_true rfl) (Nat.le_of_ble_eq_true rfl) (Nat.le_of_ble_eq_true rfl) ?_
 show awp _ 2 _ _ ⟨16,[(0,.I f),(1,.I t),(2,.I v),(3,.pt 0 0 0)],[(0,some (outV N 1 n)),(1,some ⟨3,rowsE L,0⟩)],16⟩
 have htl : ∀ f : Ed → List AV,List.take n (List.map f L) = List.map f L:=fun f=>List.take_of_length_le (by simp [hL])
 refine awp_run (s:=?s1) rfl ?o1 ?q1
 case o1=>simp [hL,htl]; refine ⟨by omega,by omega,?_⟩; rfl
 refine ⟨.inl rfl,⟨[],rfl,[72],[],by simp [List.range,List.range.loop],by simp,by simp,by simp,?_⟩⟩
 simp [List.range,List.range.loop]
def arc1 (c : List Int) (x : Int) : List Ed:=if 0 < c.getD x.toNat 0 then [⟨0,2 + 2 * x,c.getD x.toNat 0⟩] else []
def arc2 (c : List Int) (i : Nat) : List Ed:=if 0 < c.getD i 0 then [⟨2 + 2 * (i : Int),3 + 2 * (i : Int),c.getD i 0 - 1⟩] else []
def arc3 (c : List Int) (x : Int) : List Ed:=if 0 < c.getD x.toNat 0 then [⟨2 + 2 * x,1,1⟩] else []
def arc4 (c : List Int) (e : Ed) : List Ed:=if 0 < c.getD e.f.toNat 0 then [⟨3 + 2 * e.f,2 + 2 * e.t,64⟩] else []
theorem filter_map_flat {α : Type} (q : α → Bool) (f : α → Ed) (l : List α) : (l.filter q).map f = l.flatMap fun x=>if q x = true then [f x] else []:=by
 induction l with
 | nil=>rfl
 | cons x l ih=>by_cases h : q x = true <;> simp [h,ih]
theorem netArcs_flat (g : Gr) (p : Pol) (c sinks : List Int) : netArcs g p c sinks = p.seeds.flatMap (arc1 c) ++ (List.range c.length).flatMap (arc2 c) ++ sinks.flatMap (arc3 c) ++ (levelG g p.lv).edges.flatMap (arc4 c):=by
 unfold netArcs
 rw [filter_map_flat,filter_map_flat,filter_map_flat,filter_map_flat]
 simp only [decide_eq_true_eq]
 rfl
theorem flat_succ {α : Type} (f : α → List Ed) (l : List α) (i : Nat) (h : i < l.length) : (l.take (i + 1)).flatMap f = (l.take i).flatMap f ++ f l[i]:=by
 rw [List.take_succ_eq_append_getElem h,List.flatMap_append]
 simp
theorem flat_len {α : Type} (f : α → List Ed) (hf : ∀ x,(f x).length ≤ 1) (l : List α) : (l.flatMap f).length ≤ l.length:=by
 induction l with
 | nil=>simp
 | cons x l ih=>rw [List.flatMap_cons,List.length_append,List.length_cons]; have:=hf x; omega
theorem arc1_len (c : List Int) (x : Int) : (arc1 c x).length ≤ 1:=by unfold arc1; split <;> simp
theorem arc2_len (c : List Int) (x : Nat) : (arc2 c x).length ≤ 1:=by unfold arc2; split <;> simp
theorem arc3_len (c : List Int) (x : Int) : (arc3 c x).length ≤ 1:=by unfold arc3; split <;> simp
theorem arc4_len (c : List Int) (x : Ed) : (arc4 c x).length ≤ 1:=by unfold arc4; split <;> simp
theorem flat_take_len {α : Type} (f : α → List Ed) (hf : ∀ x,(f x).length ≤ 1) (l : List α) (i : Nat) : ((l.take i).flatMap f).length ≤ l.length:=Nat.le_trans (flat_len f hf _) (List.length_take_le' i l)
set_option maxRecDepth 100000 in
set_option maxHeartbeats 4000000 in
theorem split_Network_ok (g : Gr) (p : Pol) (sinks : List Int) (hg : GrOk g) (hp : PolOk g.size p) (hr : Rise sinks 0 (g.size - 1)) (hs : p.seeds.length ≤ 64) (hsl : sinks.length ≤ 64) :
  ACalls Tryz.prog nsplit_Network [eG g,eP p,ints sinks] [] (.tup [eN ⟨2 + 2 * g.size,netArcs g p (capsL g p) sinks⟩,.I 0]) []:=by
 refine ssplit_Network.acalls (Nat.le_of_ble_eq_true rfl) (Nat.le_of_ble_eq_true rfl) (Nat.le_refl _) ?_
 show awp _ 0 _ _ ⟨123,[(0,eG g),(1,eP p),(2,ints sinks)],[],16⟩
 have hsz:=hg.1.1
 have hsz2:=hg.1.2.1
 have hel:=hg.edges_le
 have hgl:=hg.gone_le
 have hchk:=capacity_Check_ok g p (by omega) (by omega) (by omega) (by have:=hp.2.2.2.1; omega)
 rw [if_pos hg,if_pos hp] at hchk
 have hcap:=capacity_All_ok g p hg (by omega)
 have hcb:=capsL_bound (g:=g) hp
 have hcl : (capsL g p).length = g.size.toNat:=capsL_len
 rw [← hcl] at hcap
 have hlev:=graph_Level_ok g p.lv (by omega) (by omega)
 rw [netArcs_flat]
 obtain ⟨C,hC⟩ : ∃ C,C = capsL g p:=⟨_,rfl⟩
 rw [← hC] at hcap hcl hcb ⊢
 have hGe : ∀ e ∈ (levelG g p.lv).edges,e ∈ g.edges:=fun e he=>(List.mem_filter.1 he).1
 have hGl : (levelG g p.lv).edges.length ≤ 500:=Nat.le_trans (List.length_filter_le ..) hel
 obtain ⟨G,hG⟩ : ∃ G,G = levelG g p.lv:=⟨_,rfl⟩
 rw [← hG] at hlev hGe hGl ⊢
 have hw1 : IntKind.i64.wrap (g.size - 1) = g.size - 1:=w64 (by omega) (by omega)
 have hfit : ∀ e ∈ G.edges,(0 ≤ e.f ∧ e.f < g.size) ∧ (0 ≤ e.t ∧ e.t < g.size):=fun e he=>by
  have:=hg.fits e (hGe e he)
  unfold Fits at this
  omega
 have hkey : ∀ k : Int,0 ≤ k → k < g.size → ∃ j : Nat,k = j ∧ j < C.length ∧ j < 64:=fun k h0 h1=>⟨k.toNat,by omega,by omega,by omega⟩
 have hseed : ∀ k ∈ p.seeds,∃ j : Nat,k = j ∧ j < C.length ∧ j < 64:=fun k hk=>by
  obtain ⟨i,hi,rfl⟩:=List.getElem_of_mem hk
  have:=hp.2.1 i hi
  exact hkey _ (by omega) (by omega)
 have hsink : ∀ k ∈ sinks,∃ j : Nat,k = j ∧ j < C.length ∧ j < 64:=fun k hk=>by
  obtain ⟨i,hi,rfl⟩:=List.getElem_of_mem hk
  have:=hr i hi
  exact hkey _ (by omega) (by omega)
 refine awp_regc ⟨123,[(2,ints sinks),(3,.pv (gC g)),(4,.pv (pC p)),(6,.pt 32 0 0)],[(32,some ⟨2,[[.I 0,.nilS]],0⟩)],48⟩ rfl ?_ ?_
 ·simp
  exact Le.go [(32,32)] [16,24] rfl rfl (by simp) (by simp)
 refine awp_seq ?_
 refine rk (s:=?s2) [2,3,4,6,8] [32] rfl ?o2 ?q2
 case o2=>simp; refine call0e hchk (by simp) ?_; simp; rfl
 refine rk (s:=?s3) [2,3,4,6,24] [32] rfl ?o3 ?q3
 case o3=>simp; rfl
 refine awp_cond _ rfl (fun h4=>?_) fun h4=>awp_skip ?_
 ·simp at h4
 refine awp_seq ?_
 refine rk (s:=?s5) [2,3,4,6,32] [32] rfl ?o5 ?q5
 case o5=>simp [hw1]; refine call0e (lists_Rising_ok sinks 0 (g.size - 1) (by omega)) (by simp) ?_; simp [hr]; rfl
 refine awp_cond _ rfl (fun h6=>?_) fun h6=>awp_skip ?_
 ·simp at h6
 refine rk (s:=?s7) [2,3,4,6,9] [32,176] rfl ?o7 ?q7
 case o7=>simp; refine call0e (split_Entry_ok g.size hsz (by omega)) (by simp) ?_; simp; rfl
 obtain ⟨N,hN⟩ : ∃ N : Int,N = 2 + 2 * g.size:=⟨_,rfl⟩
 simp only [← hN]
 refine rk (s:=?s8) [2,3,4,6,9,10] [32,176] rfl ?o8 ?q8
 case o8=>simp; rfl
 refine awp_regc ⟨123,[(2,ints sinks),(3,.pv (gC g)),(4,.pv (pC p)),(6,.pt 32 0 0),(9,.pt 176 0 0),(10,.fn (.func nsplit_Network_c1) [] [.pt 176 0 0]),(11,ints C)],[(32,some ⟨2,[[.I 0,.nilS]],0⟩),(176,some ⟨2,[[.I N,.nilS]],0⟩)],240⟩ rfl ?_ ?_
 ·simp
  refine callN1 hcap (by simp) ?_
  simp [fcd]
  exact Le.go [(32,32),(176,176)] [224] rfl rfl (by simp [fcd,take_map_len]) (by simp)
 have hb1 : (p.seeds.flatMap (arc1 C)).length ≤ 64:=Nat.le_trans (flat_len _ (arc1_len C) _) hs
 have hb2 : ((List.range C.length).flatMap (arc2 C)).length ≤ 64:=Nat.le_trans (flat_len _ (arc2_len C) _) (by rw [List.length_range]; omega)
 have hb3 : (sinks.flatMap (arc3 C)).length ≤ 64:=Nat.le_trans (flat_len _ (arc3_len C) _) hsl
 have hb4 : (G.edges.flatMap (arc4 C)).length ≤ 500:=Nat.le_trans (flat_len _ (arc4_len C) _) hGl
 obtain ⟨X1,hX1⟩ : ∃ X,X = p.seeds.flatMap (arc1 C):=⟨_,rfl⟩
 obtain ⟨X2,hX2⟩ : ∃ X,X = (List.range C.length).flatMap (arc2 C):=⟨_,rfl⟩
 obtain ⟨X3,hX3⟩ : ∃ X,X = sinks.flatMap (arc3 C):=⟨_,rfl⟩
 obtain ⟨X4,hX4⟩ : ∃ X,X = G.edges.flatMap (arc4 C):=⟨_,rfl⟩
 obtain ⟨Z2,hZ2⟩ : ∃ Z,Z = X1 ++ X2:=⟨_,rfl⟩
 obtain ⟨Z3,hZ3⟩ : ∃ Z,Z = Z2 ++ X3:=⟨_,rfl⟩
 obtain ⟨Z4,hZ4⟩ : ∃ Z,Z = Z3 ++ X4:=⟨_,rfl⟩
 rw [← hX1] at hb1
 rw [← hX2] at hb2
 rw [← hX3] at hb3
 rw [← hX4] at hb4
 rw [← hX1,← hX2,← hX3,← hX4,← hZ2,← hZ3,← hZ4]
 have hz2 : Z2.length ≤ 128:=by rw [hZ2,List.length_append]; omega
 have hz3 : Z3.length ≤ 192:=by rw [hZ3,List.length_append]; omega
 refine awp_seq ?_
 refine rk (s:=?sa1) [2,3,4,6,9,10,11,43,44,45] [32,176] rfl ?oa1 ?qa1
 case oa1=>simp; rfl
 refine awp_block ?_
 obtain ⟨Fa,Fa0,Fas,Fal,FaN⟩ : ∃ F : Nat → List Ed,F 0 = [] ∧ (∀ i (h : i < (p.seeds).length),F (i + 1) = F i ++ arc1 C (p.seeds)[i]) ∧ (∀ i,(F i).length ≤ 64) ∧ F (p.seeds).length = (p.seeds).flatMap (arc1 C) :=
  ⟨fun i=>((p.seeds).take i).flatMap (arc1 C),by simp,fun i h=>by simp only [flat_succ _ _ i h,List.append_assoc],fun i=>by have:=flat_take_len _ (arc1_len C) (p.seeds) i; exact Nat.le_trans this hs,by simp⟩
 rw [← hX1] at FaN
 refine awp_loop (ι:=Nat) (fun i=>⟨123,[(2,ints sinks),(3,.pv (gC g)),(4,.pv (pC p)),(6,.pt 32 0 0),(9,.pt 176 0 0),(10,.fn (.func nsplit_Network_c1) [] [.pt 176 0 0]),(11,ints C),(43,ints p.seeds),(44,.I p.seeds.length),(45,.I i)],[(32,some ⟨2,[[.I 0,.nilS]],0⟩),(176,some (outV N 16 (Fa i).length)),(16,some ⟨3,rowsE (Fa i),0⟩)],272⟩) (fun i=>i ≤ p.seeds.length) (fun i=>p.seeds.length - i) 0 (Nat.zero_le _) (Le.lst [(32,32),(176,176)] [] [(16,3)] rfl (by simp) (by simp) (by simp) (by simp) (by simp) (by simp) (by simp) (by simp [Up]) (by simp [Fa0]; refine ⟨EntUp.rfl' (by simp),EntUp.row rfl (by omega) (by simp [UpL,Up])⟩)) ?_
 intro i hi
 refine rk (s:=?sa2) [2,3,4,6,9,10,11,43,44,45,46] [32,176,16] rfl ?oa2 ?qa2
 case oa2=>simp; rfl
 refine awp_seq ?_
 refine awp_cond _ rfl (fun h7=>?_) fun h7=>?_
 ·simp at h7
  have hw : IntKind.i64.wrap ((i : Int) + 1) = (i : Int) + 1:=w64 (by omega) (by omega)
  have hFi:=Fal i
  obtain ⟨k,hk,hkC,hk64⟩:=hseed _ (List.getElem_mem h7)
  have hFn : Fa (i + 1) = Fa i ++ if 0 < C[k] then [⟨0,2 + 2 * (k : Int),C[k]⟩] else []:=by
   rw [Fas i h7,hk]
   unfold arc1
   simp [hkC]
  refine awp_skip ?_
  refine awp_cut (ι:=Unit) (fun _=>⟨123,[(2,ints sinks),(3,.pv (gC g)),(4,.pv (pC p)),(6,.pt 32 0 0),(9,.pt 176 0 0),(10,.fn (.func nsplit_Network_c1) [] [.pt 176 0 0]),(11,ints C),(43,ints p.seeds),(44,.I p.seeds.length),(45,.I i)],[(32,some ⟨2,[[.I 0,.nilS]],0⟩),(176,some (outV N 16 (Fa (i + 1)).length)),(16,some ⟨3,rowsE (Fa (i + 1)),0⟩)],700⟩) (fun _=>True) ?_ fun _ _=>?_
  ·refine awp_block ?_
   refine rk (s:=?sa3) [2,3,4,6,9,10,11,13,43,44,45] [32,176,16] rfl ?oa3 ?qa3
   case oa3=>simp [h7,hk]; rfl
   refine rk (s:=?sa4) [2,3,4,6,9,10,11,13,43,44,45,53] [32,176,16] rfl ?oa4 ?qa4
   case oa4=>simp [hkC]; rfl
   refine awp_cond _ rfl (fun h8=>?_) fun h8=>?_
   ·simp at h8
    rw [if_pos h8] at hFn
    refine awp_drw rfl ?_
    simp [hkC]
    refine call0e (split_Entry_ok k (by omega) (by omega)) (by simp) ?_
    simp [hkC]
    refine callM2 (i:=176) (j:=16) (by decide) rfl rfl (e1':=outV N 1 (Fa i).length) (e2':=⟨3,rowsE (Fa i),0⟩) (by simp) (by simp [fcd]) (arc_ok N 0 (2 + 2 * (k : Int)) C[k] (Fa i) _ rfl (by omega)) (by simp) (by simp) ?_
    simp [fcd]
    exact ⟨rfl,Le.go [(32,32),(176,176),(400,16)] [] rfl rfl (by simp [hFn]) (by simp [hFn,fcd])⟩
   ·simp at h8
    rw [if_neg (by omega)] at hFn
    refine awp_skip ?_
    exact ⟨(),trivial,Le.go [(32,32),(176,176),(16,16)] [] rfl rfl (by simp [hFn]) (by simp [hFn,fcd])⟩
  refine awp_run (s:=?sa9) rfl ?oa9 ?qa9
  case oa9=>simp; rfl
  exact ⟨i + 1,by omega,by omega,Le.go [(32,32),(176,176),(16,16)] [] rfl rfl (by simp [hw]) (by simp [fcd])⟩
 simp at h7
 obtain rfl : i = p.seeds.length:=by omega
 rw [FaN]
 refine awp_exit ?_
 refine hit ?_
 refine awp_seq ?_
 refine rk (s:=?sb1) [2,3,4,6,9,10,11,63,64,65] [32,176,16] rfl ?ob1 ?qb1
 case ob1=>simp; rfl
 refine awp_block ?_
 obtain ⟨Fb,Fb0,Fbs,Fbl,FbN⟩ : ∃ F : Nat → List Ed,F 0 = X1 ∧ (∀ i (h : i < (List.range C.length).length),F (i + 1) = F i ++ arc2 C (List.range C.length)[i]) ∧ (∀ i,(F i).length ≤ 200) ∧ F (List.range C.length).length = X1 ++ (List.range C.length).flatMap (arc2 C) :=
  ⟨fun i=>X1 ++ ((List.range C.length).take i).flatMap (arc2 C),by simp,fun i h=>by simp only [flat_succ _ _ i h,List.append_assoc],fun i=>by have:=flat_take_len _ (arc2_len C) (List.range C.length) i; rw [List.length_range] at this; rw [List.length_append]; omega,by simp⟩
 rw [List.length_range,← hX2,← hZ2] at FbN
 refine awp_loop (ι:=Nat) (fun i=>⟨123,[(2,ints sinks),(3,.pv (gC g)),(4,.pv (pC p)),(6,.pt 32 0 0),(9,.pt 176 0 0),(10,.fn (.func nsplit_Network_c1) [] [.pt 176 0 0]),(11,ints C),(63,ints C),(64,.I C.length),(65,.I i)],[(32,some ⟨2,[[.I 0,.nilS]],0⟩),(176,some (outV N 16 (Fb i).length)),(16,some ⟨3,rowsE (Fb i),0⟩)],304⟩) (fun i=>i ≤ C.length) (fun i=>C.length - i) 0 (Nat.zero_le _) (Le.go [(32,32),(176,176),(16,16)] [] rfl rfl (by simp [Fb0]) (by simp [Fb0,fcd])) ?_
 intro i hi
 refine rk (s:=?sb2) [2,3,4,6,9,10,11,63,64,65,66] [32,176,16] rfl ?ob2 ?qb2
 case ob2=>simp; rfl
 refine awp_seq ?_
 refine awp_cond _ rfl (fun h7=>?_) fun h7=>?_
 ·simp at h7
  have hw : IntKind.i64.wrap ((i : Int) + 1) = (i : Int) + 1:=w64 (by omega) (by omega)
  have hFi:=Fbl i
  have hkC:=h7
  have hFn : Fb (i + 1) = Fb i ++ if 0 < C[i] then [⟨2 + 2 * (i : Int),3 + 2 * (i : Int),C[i] - 1⟩] else []:=by
   rw [Fbs i (by simpa using h7)]
   unfold arc2
   simp [hkC]
  have hci:=hcb _ (List.getElem_mem h7)
  have hwc : IntKind.i64.wrap (C[i] - 1) = C[i] - 1:=w64 (by omega) (by omega)
  refine awp_skip ?_
  refine awp_cut (ι:=Unit) (fun _=>⟨123,[(2,ints sinks),(3,.pv (gC g)),(4,.pv (pC p)),(6,.pt 32 0 0),(9,.pt 176 0 0),(10,.fn (.func nsplit_Network_c1) [] [.pt 176 0 0]),(11,ints C),(63,ints C),(64,.I C.length),(65,.I i)],[(32,some ⟨2,[[.I 0,.nilS]],0⟩),(176,some (outV N 16 (Fb (i + 1)).length)),(16,some ⟨3,rowsE (Fb (i + 1)),0⟩)],700⟩) (fun _=>True) ?_ fun _ _=>?_
  ·refine awp_block ?_
   refine rk (s:=?sb3) [2,3,4,6,9,10,11,14,15,63,64,65] [32,176,16] rfl ?ob3 ?qb3
   case ob3=>simp [h7]; rfl
   refine rk (s:=?sb4) [2,3,4,6,9,10,11,14,15,63,64,65,71] [32,176,16] rfl ?ob4 ?qb4
   case ob4=>simp [hkC]; rfl
   refine awp_cond _ rfl (fun h8=>?_) fun h8=>?_
   ·simp at h8
    rw [if_pos h8] at hFn
    refine awp_reg rfl ?_
    simp [hkC]
    refine call0e (split_Entry_ok i (by omega) (by omega)) (by simp) ?_
    simp [hkC,hwc]
    refine call0e (split_Exit_ok i (by omega) (by omega)) (by simp) ?_
    simp [hkC,hwc]
    refine callM2 (i:=176) (j:=16) (by decide) rfl rfl (e1':=outV N 1 (Fb i).length) (e2':=⟨3,rowsE (Fb i),0⟩) (by simp) (by simp [fcd]) (arc_ok N (2 + 2 * (i : Int)) (3 + 2 * (i : Int)) (C[i] - 1) (Fb i) _ rfl (by omega)) (by simp) (by simp) ?_
    simp [fcd]
    exact Le.go [(32,32),(176,176),(424,16)] [] rfl rfl (by simp [hFn]) (by simp [hFn,fcd])
   ·simp at h8
    rw [if_neg (by omega)] at hFn
    refine awp_skip ?_
    exact ⟨(),trivial,Le.go [(32,32),(176,176),(16,16)] [] rfl rfl (by simp [hFn]) (by simp [hFn,fcd])⟩
  refine awp_run (s:=?sb9) rfl ?ob9 ?qb9
  case ob9=>simp; rfl
  exact ⟨i + 1,by omega,by omega,Le.go [(32,32),(176,176),(16,16)] [] rfl rfl (by simp [hw]) (by simp [fcd])⟩
 simp at h7
 obtain rfl : i = C.length:=by omega
 rw [FbN]
 refine awp_exit ?_
 refine hit ?_
 refine awp_seq ?_
 refine rk (s:=?sc1) [3,4,6,9,10,11,81,82,83] [32,176,16] rfl ?oc1 ?qc1
 case oc1=>simp; rfl
 refine awp_block ?_
 obtain ⟨Fc,Fc0,Fcs,Fcl,FcN⟩ : ∃ F : Nat → List Ed,F 0 = Z2 ∧ (∀ i (h : i < (sinks).length),F (i + 1) = F i ++ arc3 C (sinks)[i]) ∧ (∀ i,(F i).length ≤ 300) ∧ F (sinks).length = Z2 ++ (sinks).flatMap (arc3 C) :=
  ⟨fun i=>Z2 ++ ((sinks).take i).flatMap (arc3 C),by simp,fun i h=>by simp only [flat_succ _ _ i h,List.append_assoc],fun i=>by have:=flat_take_len _ (arc3_len C) (sinks) i; simp only [List.length_append]; omega,by simp⟩
 rw [← hX3,← hZ3] at FcN
 refine awp_loop (ι:=Nat) (fun i=>⟨123,[(3,.pv (gC g)),(4,.pv (pC p)),(6,.pt 32 0 0),(9,.pt 176 0 0),(10,.fn (.func nsplit_Network_c1) [] [.pt 176 0 0]),(11,ints C),(81,ints sinks),(82,.I sinks.length),(83,.I i)],[(32,some ⟨2,[[.I 0,.nilS]],0⟩),(176,some (outV N 16 (Fc i).length)),(16,some ⟨3,rowsE (Fc i),0⟩)],336⟩) (fun i=>i ≤ sinks.length) (fun i=>sinks.length - i) 0 (Nat.zero_le _) (Le.go [(32,32),(176,176),(16,16)] [] rfl rfl (by simp [Fc0]) (by simp [Fc0,fcd])) ?_
 intro i hi
 refine rk (s:=?sc2) [3,4,6,9,10,11,81,82,83,84] [32,176,16] rfl ?oc2 ?qc2
 case oc2=>simp; rfl
 refine awp_seq ?_
 refine awp_cond _ rfl (fun h7=>?_) fun h7=>?_
 ·simp at h7
  have hw : IntKind.i64.wrap ((i : Int) + 1) = (i : Int) + 1:=w64 (by omega) (by omega)
  have hFi:=Fcl i
  obtain ⟨k,hk,hkC,hk64⟩:=hsink _ (List.getElem_mem h7)
  have hFn : Fc (i + 1) = Fc i ++ if 0 < C[k] then [⟨2 + 2 * (k : Int),1,1⟩] else []:=by
   rw [Fcs i h7,hk]
   unfold arc3
   simp [hkC]
  refine awp_skip ?_
  refine awp_cut (ι:=Unit) (fun _=>⟨123,[(3,.pv (gC g)),(4,.pv (pC p)),(6,.pt 32 0 0),(9,.pt 176 0 0),(10,.fn (.func nsplit_Network_c1) [] [.pt 176 0 0]),(11,ints C),(81,ints sinks),(82,.I sinks.length),(83,.I i)],[(32,some ⟨2,[[.I 0,.nilS]],0⟩),(176,some (outV N 16 (Fc (i + 1)).length)),(16,some ⟨3,rowsE (Fc (i + 1)),0⟩)],700⟩) (fun _=>True) ?_ fun _ _=>?_
  ·refine awp_block ?_
   refine rk (s:=?sc3) [3,4,6,9,10,11,17,81,82,83] [32,176,16] rfl ?oc3 ?qc3
   case oc3=>simp [h7,hk]; rfl
   refine rk (s:=?sc4) [3,4,6,9,10,11,17,81,82,83,91] [32,176,16] rfl ?oc4 ?qc4
   case oc4=>simp [hkC]; rfl
   refine awp_cond _ rfl (fun h8=>?_) fun h8=>?_
   ·simp at h8
    rw [if_pos h8] at hFn
    refine awp_reg rfl ?_
    simp [hkC]
    refine call0e (split_Entry_ok k (by omega) (by omega)) (by simp) ?_
    simp [hkC]
    refine callM2 (i:=176) (j:=16) (by decide) rfl rfl (e1':=outV N 1 (Fc i).length) (e2':=⟨3,rowsE (Fc i),0⟩) (by simp) (by simp [fcd]) (arc_ok N (2 + 2 * (k : Int)) 1 1 (Fc i) _ rfl (by omega)) (by simp) (by simp) ?_
    simp [fcd]
    exact Le.go [(32,32),(176,176),(432,16)] [] rfl rfl (by simp [hFn]) (by simp [hFn,fcd])
   ·simp at h8
    rw [if_neg (by omega)] at hFn
    refine awp_skip ?_
    exact ⟨(),trivial,Le.go [(32,32),(176,176),(16,16)] [] rfl rfl (by simp [hFn]) (by simp [hFn,fcd])⟩
  refine awp_run (s:=?sc9) rfl ?oc9 ?qc9
  case oc9=>simp; rfl
  exact ⟨i + 1,by omega,by omega,Le.go [(32,32),(176,176),(16,16)] [] rfl rfl (by simp [hw]) (by simp [fcd])⟩
 simp at h7
 obtain rfl : i = sinks.length:=by omega
 rw [FcN]
 refine awp_exit ?_
 refine hit ?_
 refine awp_seq ?_
 refine rk (s:=?sd1) [6,9,10,11,101,102,103] [32,176,16] rfl ?od1 ?qd1
 case od1=>simp; refine call0e hlev (by simp) ?_; simp; rfl
 refine awp_block ?_
 obtain ⟨Fd,Fd0,Fds,Fdl,FdN⟩ : ∃ F : Nat → List Ed,F 0 = Z3 ∧ (∀ i (h : i < (G.edges).length),F (i + 1) = F i ++ arc4 C (G.edges)[i]) ∧ (∀ i,(F i).length ≤ 900) ∧ F (G.edges).length = Z3 ++ (G.edges).flatMap (arc4 C) :=
  ⟨fun i=>Z3 ++ ((G.edges).take i).flatMap (arc4 C),by simp,fun i h=>by simp only [flat_succ _ _ i h,List.append_assoc],fun i=>by have:=flat_take_len _ (arc4_len C) (G.edges) i; simp only [List.length_append]; omega,by simp⟩
 rw [← hX4,← hZ4] at FdN
 refine awp_loop (ι:=Nat) (fun i=>⟨123,[(6,.pt 32 0 0),(9,.pt 176 0 0),(10,.fn (.func nsplit_Network_c1) [] [.pt 176 0 0]),(11,ints C),(101,eEs G.edges),(102,.I G.edges.length),(103,.I i)],[(32,some ⟨2,[[.I 0,.nilS]],0⟩),(176,some (outV N 16 (Fd i).length)),(16,some ⟨3,rowsE (Fd i),0⟩)],400⟩) (fun i=>i ≤ G.edges.length) (fun i=>G.edges.length - i) 0 (Nat.zero_le _) (Le.go [(32,32),(176,176),(16,16)] [] rfl rfl (by simp [Fd0]) (by simp [Fd0,fcd])) ?_
 intro i hi
 refine rk (s:=?sd2) [6,9,10,11,101,102,103,104] [32,176,16] rfl ?od2 ?qd2
 case od2=>simp; rfl
 refine awp_seq ?_
 refine awp_cond _ rfl (fun h7=>?_) fun h7=>?_
 ·simp at h7
  have hw : IntKind.i64.wrap ((i : Int) + 1) = (i : Int) + 1:=w64 (by omega) (by omega)
  have hFi:=Fdl i
  obtain ⟨x,hx⟩ : ∃ x,x = G.edges[i]:=⟨_,rfl⟩
  have hfx:=hfit _ (List.getElem_mem h7)
  rw [← hx] at hfx
  obtain ⟨k,hk,hkC,hk64⟩:=hkey x.f hfx.1.1 hfx.1.2
  obtain ⟨u,hu,huC,hu64⟩:=hkey x.t hfx.2.1 hfx.2.2
  have hFn : Fd (i + 1) = Fd i ++ if 0 < C[k] then [⟨3 + 2 * (k : Int),2 + 2 * (u : Int),64⟩] else []:=by
   rw [Fds i h7,← hx]
   unfold arc4
   rw [hk,hu]
   simp [hkC]
  refine awp_skip ?_
  refine awp_cut (ι:=Unit) (fun _=>⟨123,[(6,.pt 32 0 0),(9,.pt 176 0 0),(10,.fn (.func nsplit_Network_c1) [] [.pt 176 0 0]),(11,ints C),(101,eEs G.edges),(102,.I G.edges.length),(103,.I i)],[(32,some ⟨2,[[.I 0,.nilS]],0⟩),(176,some (outV N 16 (Fd (i + 1)).length)),(16,some ⟨3,rowsE (Fd (i + 1)),0⟩)],700⟩) (fun _=>True) ?_ fun _ _=>?_
  ·refine awp_block ?_
   refine awp_regc ⟨123,[(6,.pt 32 0 0),(9,.pt 176 0 0),(10,.fn (.func nsplit_Network_c1) [] [.pt 176 0 0]),(11,ints C),(19,.pv (eC x)),(101,eEs G.edges),(102,.I G.edges.length),(103,.I i)],[(32,some ⟨2,[[.I 0,.nilS]],0⟩),(176,some (outV N 16 (Fd i).length)),(16,some ⟨3,rowsE (Fd i),0⟩)],440⟩ rfl ?_ ?_
   ·simp [h7,← hx]
    exact Le.go [(32,32),(176,176),(16,16)] [424] rfl rfl (by simp) (by simp [fcd])
   refine rk (s:=?sd4) [6,9,10,11,19,101,102,103,112] [32,176,16] rfl ?od4 ?qd4
   case od4=>simp [hk,hkC]; rfl
   refine awp_cond _ rfl (fun h8=>?_) fun h8=>?_
   ·simp at h8
    rw [if_pos h8] at hFn
    refine awp_drw rfl ?_
    simp [hk,hu]
    refine call0e (split_Exit_ok k (by omega) (by omega)) (by simp) ?_
    simp [hkC]
    refine call0e (split_Entry_ok u (by omega) (by omega)) (by simp) ?_
    simp [hkC]
    refine callM2 (i:=176) (j:=16) (by decide) rfl rfl (e1':=outV N 1 (Fd i).length) (e2':=⟨3,rowsE (Fd i),0⟩) (by simp) (by simp [fcd]) (arc_ok N (3 + 2 * (k : Int)) (2 + 2 * (u : Int)) 64 (Fd i) _ rfl (by omega)) (by simp) (by simp) ?_
    simp [fcd]
    exact ⟨rfl,Le.go [(32,32),(176,176),(544,16)] [] rfl rfl (by simp [hFn]) (by simp [hFn,fcd])⟩
   ·simp at h8
    rw [if_neg (by omega)] at hFn
    refine awp_skip ?_
    exact ⟨(),trivial,Le.go [(32,32),(176,176),(16,16)] [] rfl rfl (by simp [hFn]) (by simp [hFn,fcd])⟩
  refine awp_run (s:=?sd9) rfl ?od9 ?qd9
  case od9=>simp; rfl
  exact ⟨i + 1,by omega,by omega,Le.go [(32,32),(176,176),(16,16)] [] rfl rfl (by simp [hw]) (by simp [fcd])⟩
 simp at h7
 obtain rfl : i = G.edges.length:=by omega
 rw [FdN]
 refine awp_exit ?_
 refine hit ?_
 refine rk (s:=?sz) [6,7] [32,16] rfl ?oz ?qz
 case oz=>simp; rfl
 refine awp_ret ?_
 exact ⟨.inr rfl,RetOk.out [] [16] rfl (by simp) (by simp) (by simp [hN,fcd,take_map_len]) (by simp)⟩
set_option maxRecDepth 100000 in
set_option maxHeartbeats 4000000 in
theorem ref14_Network_ok (g : Gr) (p : Pol) (sinks : List Int) (hg : GrOk g) (hp : PolOk g.size p) (hr : Rise sinks 0 (g.size - 1)) (hs : p.seeds.length ≤ 64) (hsl : sinks.length ≤ 64) :
  ACalls Tryz.prog nref14_Network [eG g,eP p,ints sinks] [] (.tup [eN ⟨2 + 2 * g.size,netArcs g p (capsL g p) sinks⟩,.I 0]) []:=by
 refine sref14_Network.acalls (Nat.le_of_ble_eq_true rfl) (Nat.le_of_ble_eq_true rfl) (Nat.le_refl _) ?_
 show awp _ 0 _ _ ⟨158,[(0,eG g),(1,eP p),(2,ints sinks)],[],16⟩
 have hsz:=hg.1.1
 have hsz2:=hg.1.2.1
 have hel:=hg.edges_le
 have hgl:=hg.gone_le
 have hchk:=ref13_Check_ok g p (by omega) (by omega) (by omega) (by have:=hp.2.2.2.1; omega)
 rw [if_pos hg,if_pos hp] at hchk
 have hcb:=capsL_bound (g:=g) hp
 have hcl : (capsL g p).length = g.size.toNat:=capsL_len
 have hlev:=ref11_Level_ok g p.lv (by omega) (by omega)
 rw [netArcs_flat]
 have hGe : ∀ e ∈ (levelG g p.lv).edges,e ∈ g.edges:=fun e he=>(List.mem_filter.1 he).1
 have hGl : (levelG g p.lv).edges.length ≤ 500:=Nat.le_trans (List.length_filter_le ..) hel
 have hall:=ref12_All_ok (levelG g p.lv) p.seeds (hg.level p.lv) (by omega)
 have hcap:=ref13_All_ok (levelG g p.lv) p (hg.level p.lv) (by omega)
 have hcc : capsL (levelG g p.lv) p = capsL g p:=by unfold capsL; rw [levelG_twice]
 rw [hcc] at hcap
 have hDC : ∀ k : Nat,k < g.size.toNat → ∀ (h1 : k < (distL (levelG g p.lv) p.seeds).length) (h2 : k < (capsL g p).length),0 ≤ (distL (levelG g p.lv) p.seeds)[k] ↔ 0 < (capsL g p)[k]:=fun k hk h1 h2=>by
  have:=capOf_pos hp (d:=(distL (levelG g p.lv) p.seeds)[k])
  rw [← this]
  simp [capsL]
 have hDl : (distL (levelG g p.lv) p.seeds).length = g.size.toNat:=by simp [distL,levelG]
 have hGs : (levelG g p.lv).size = g.size:=rfl
 rw [hGs] at hall hcap
 rw [← hcl] at hcap
 rw [← hDl] at hall
 obtain ⟨C,hC⟩ : ∃ C,C = capsL g p:=⟨_,rfl⟩
 obtain ⟨D,hD⟩ : ∃ D,D = distL (levelG g p.lv) p.seeds:=⟨_,rfl⟩
 rw [← hC] at hcap hcl hcb ⊢
 rw [← hD] at hall hDl
 simp only [← hC,← hD] at hDC
 have hDk : ∀ k : Nat,k < C.length → k < D.length:=fun k hk=>by omega
 have hDC' : ∀ (k : Nat) (h2 : k < C.length),0 ≤ D[k]'(hDk k h2) ↔ 0 < C[k]:=fun k h2=>hDC k (by omega) (hDk k h2) h2
 obtain ⟨G,hG⟩ : ∃ G,G = levelG g p.lv:=⟨_,rfl⟩
 rw [← hG] at hlev hGe hGl hall hcap hGs ⊢
 have hfit : ∀ e ∈ G.edges,(0 ≤ e.f ∧ e.f < g.size) ∧ (0 ≤ e.t ∧ e.t < g.size):=fun e he=>by
  have:=hg.fits e (hGe e he)
  unfold Fits at this
  omega
 have hkey : ∀ k : Int,0 ≤ k → k < g.size → ∃ j : Nat,k = j ∧ j < C.length ∧ j < 64:=fun k h0 h1=>⟨k.toNat,by omega,by omega,by omega⟩
 have hseed : ∀ k ∈ p.seeds,∃ j : Nat,k = j ∧ j < C.length ∧ j < 64:=fun k hk=>by
  obtain ⟨i,hi,rfl⟩:=List.getElem_of_mem hk
  have:=hp.2.1 i hi
  exact hkey _ (by omega) (by omega)
 have hsink : ∀ k ∈ sinks,∃ j : Nat,k = j ∧ j < C.length ∧ j < 64:=fun k hk=>by
  obtain ⟨i,hi,rfl⟩:=List.getElem_of_mem hk
  have:=hr i hi
  exact hkey _ (by omega) (by omega)
 have hw3 : IntKind.i64.wrap (2 * g.size) = 2 * g.size:=w64 (by omega) (by omega)
 have hw4 : IntKind.i64.wrap (2 + 2 * g.size) = 2 + 2 * g.size:=w64 (by omega) (by omega)
 refine awp_regc ⟨158,[(2,ints sinks),(3,.pt 16 0 0),(4,.pv (pC p)),(6,.pt 32 0 0)],[(16,some ⟨3,[gC g],0⟩),(32,some ⟨2,[[.I 0,.nilS]],0⟩)],48⟩ rfl ?_ ?_
 ·simp
  exact Le.go [(16,16),(32,32)] [24] rfl rfl (by simp) (by simp)
 refine awp_seq ?_
 refine rk (s:=?s2) [2,3,4,6,8] [16,32] rfl ?o2 ?q2
 case o2=>simp; refine call0e hchk (by simp) ?_; simp; rfl
 refine rk (s:=?s3) [2,3,4,6,22] [16,32] rfl ?o3 ?q3
 case o3=>simp; rfl
 refine awp_cond _ rfl (fun h4=>?_) fun h4=>awp_skip ?_
 ·simp at h4
 refine awp_seq ?_
 refine rk (s:=?s5) [2,3,4,6,29] [16,32] rfl ?o5 ?q5
 case o5=>simp; refine call0e (ref11_Set_ok sinks g.size (by omega)) (by simp) ?_; simp [hr]; rfl
 refine awp_cond _ rfl (fun h6=>?_) fun h6=>awp_skip ?_
 ·simp at h6
 refine awp_regc ⟨158,[(2,ints sinks),(3,.pv (gC G)),(4,.pv (pC p)),(6,.pt 32 0 0)],[(32,some ⟨2,[[.I 0,.nilS]],0⟩)],176⟩ rfl ?_ ?_
 ·simp
  refine call0e hlev (by simp) ?_
  simp
  exact Le.go [(32,32)] [16] rfl rfl (by simp) (by simp)
 refine awp_dregc ⟨158,[(2,ints sinks),(3,.pv (gC G)),(4,.pv (pC p)),(6,.pt 32 0 0),(9,ints D),(10,ints C)],[(32,some ⟨2,[[.I 0,.nilS]],0⟩)],248⟩ rfl ?_ ?_
 ·simp
  refine callN1 hall (by simp) ?_
  simp [fcd]
  refine callN1 hcap (by simp) ?_
  simp [fcd]
  exact ⟨rfl,Le.go [(32,32)] [200,224] rfl rfl (by simp [fcd,take_map_len]) (by simp)⟩
 refine rk (s:=?s7) [2,3,4,6,9,10,11] [32,288] rfl ?o7 ?q7
 case o7=>simp [hGs,hw3,hw4]; rfl
 obtain ⟨N,hN⟩ : ∃ N : Int,N = 2 + 2 * g.size:=⟨_,rfl⟩
 simp only [← hN]
 have hb1 : (p.seeds.flatMap (arc1 C)).length ≤ 64:=Nat.le_trans (flat_len _ (arc1_len C) _) hs
 have hb2 : ((List.range C.length).flatMap (arc2 C)).length ≤ 64:=Nat.le_trans (flat_len _ (arc2_len C) _) (by rw [List.length_range]; omega)
 have hb3 : (sinks.flatMap (arc3 C)).length ≤ 64:=Nat.le_trans (flat_len _ (arc3_len C) _) hsl
 have hb4 : (G.edges.flatMap (arc4 C)).length ≤ 500:=Nat.le_trans (flat_len _ (arc4_len C) _) hGl
 obtain ⟨X1,hX1⟩ : ∃ X,X = p.seeds.flatMap (arc1 C):=⟨_,rfl⟩
 obtain ⟨X2,hX2⟩ : ∃ X,X = (List.range C.length).flatMap (arc2 C):=⟨_,rfl⟩
 obtain ⟨X3,hX3⟩ : ∃ X,X = sinks.flatMap (arc3 C):=⟨_,rfl⟩
 obtain ⟨X4,hX4⟩ : ∃ X,X = G.edges.flatMap (arc4 C):=⟨_,rfl⟩
 obtain ⟨Z2,hZ2⟩ : ∃ Z,Z = X1 ++ X2:=⟨_,rfl⟩
 obtain ⟨Z3,hZ3⟩ : ∃ Z,Z = Z2 ++ X3:=⟨_,rfl⟩
 obtain ⟨Z4,hZ4⟩ : ∃ Z,Z = Z3 ++ X4:=⟨_,rfl⟩
 rw [← hX1] at hb1
 rw [← hX2] at hb2
 rw [← hX3] at hb3
 rw [← hX4] at hb4
 rw [← hX1,← hX2,← hX3,← hX4,← hZ2,← hZ3,← hZ4]
 have hz2 : Z2.length ≤ 128:=by rw [hZ2,List.length_append]; omega
 have hz3 : Z3.length ≤ 192:=by rw [hZ3,List.length_append]; omega
 refine awp_seq ?_
 refine rk (s:=?sa1) [2,3,4,6,9,10,11,12] [32,288] rfl ?oa1 ?qa1
 case oa1=>simp; rfl
 refine awp_block ?_
 obtain ⟨Fa,Fa0,Fas,Fal,FaN⟩ : ∃ F : Nat → List Ed,F 0 = [] ∧ (∀ i (h : i < (p.seeds).length),F (i + 1) = F i ++ arc1 C (p.seeds)[i]) ∧ (∀ i,(F i).length ≤ 64) ∧ F (p.seeds).length = (p.seeds).flatMap (arc1 C) :=
  ⟨fun i=>((p.seeds).take i).flatMap (arc1 C),by simp,fun i h=>by simp only [flat_succ _ _ i h,List.append_assoc],fun i=>by have:=flat_take_len _ (arc1_len C) (p.seeds) i; exact Nat.le_trans this hs,by simp⟩
 rw [← hX1] at FaN
 refine awp_loop (ι:=Nat) (fun i=>⟨158,[(2,ints sinks),(3,.pv (gC G)),(4,.pv (pC p)),(6,.pt 32 0 0),(9,ints D),(10,ints C),(11,.pt 288 0 0),(12,.I i)],[(32,some ⟨2,[[.I 0,.nilS]],0⟩),(288,some (outV N 16 (Fa i).length)),(16,some ⟨3,rowsE (Fa i),0⟩)],312⟩) (fun i=>i ≤ p.seeds.length) (fun i=>p.seeds.length - i) 0 (Nat.zero_le _) (Le.lst [(32,32),(288,288)] [] [(16,3)] rfl (by simp) (by simp) (by simp) (by simp) (by simp) (by simp) (by simp) (by simp [Up]) (by simp [Fa0]; refine ⟨EntUp.rfl' (by simp),EntUp.row rfl (by omega) (by simp [UpL,Up])⟩)) ?_
 intro i hi
 refine awp_seq ?_
 refine rk (s:=?sa2) [2,3,4,6,9,10,11,12,51] [32,288,16] rfl ?oa2 ?qa2
 case oa2=>simp; rfl
 refine awp_cond _ rfl (fun h7=>?_) fun h7=>?_
 ·simp at h7
  have hw : IntKind.i64.wrap ((i : Int) + 1) = (i : Int) + 1:=w64 (by omega) (by omega)
  have hFi:=Fal i
  obtain ⟨k,hk,hkC,hk64⟩:=hseed _ (List.getElem_mem h7)
  have hFn : Fa (i + 1) = Fa i ++ if 0 < C[k] then [⟨0,2 + 2 * (k : Int),C[k]⟩] else []:=by
   rw [Fas i h7,hk]
   unfold arc1
   simp [hkC]
  have hkD:=hDk _ hkC
  have hdc:=hDC' _ hkC
  refine awp_skip ?_
  refine awp_cut (ι:=Unit) (fun _=>⟨158,[(2,ints sinks),(3,.pv (gC G)),(4,.pv (pC p)),(6,.pt 32 0 0),(9,ints D),(10,ints C),(11,.pt 288 0 0),(12,.I i)],[(32,some ⟨2,[[.I 0,.nilS]],0⟩),(288,some (outV N 16 (Fa (i + 1)).length)),(16,some ⟨3,rowsE (Fa (i + 1)),0⟩)],800⟩) (fun _=>True) ?_ fun _ _=>?_
  ·refine awp_block ?_
   refine rk (s:=?sa3) [2,3,4,6,9,10,11,12,13] [32,288,16] rfl ?oa3 ?qa3
   case oa3=>simp [h7,hk]; rfl
   refine rk (s:=?sa4) [2,3,4,6,9,10,11,12,13,63] [32,288,16] rfl ?oa4 ?qa4
   case oa4=>simp [hkD]; rfl
   refine awp_cond _ rfl (fun h8=>?_) fun h8=>?_
   ·simp at h8
    rw [if_pos (hdc.1 h8)] at hFn
    have htl : ∀ f : Ed → List AV,List.take (Fa i).length (List.map f (Fa i)) = List.map f (Fa i):=fun f=>List.take_of_length_le (by simp)
    refine awp_drw rfl ?_
    simp [hkC]
    refine call0e (ref14_Entry_ok k (by omega) (by omega)) (by simp) ?_
    simp [htl,hkC]
    refine ⟨by omega,by omega,?_⟩
    exact ⟨rfl,Le.go [(32,32),(288,288),(520,16)] [] rfl rfl (by simp [hFn]) (by simp [hFn,fcd])⟩
   ·simp at h8
    rw [if_neg (by omega)] at hFn
    refine awp_skip ?_
    exact ⟨(),trivial,Le.go [(32,32),(288,288),(16,16)] [] rfl rfl (by simp [hFn]) (by simp [hFn,fcd])⟩
  refine awp_run (s:=?sa9) rfl ?oa9 ?qa9
  case oa9=>simp; rfl
  exact ⟨i + 1,by omega,by omega,Le.go [(32,32),(288,288),(16,16)] [] rfl rfl (by simp [hw]) (by simp [fcd])⟩
 simp at h7
 obtain rfl : i = p.seeds.length:=by omega
 rw [FaN]
 refine awp_exit ?_
 refine hit ?_
 refine awp_seq ?_
 refine rk (s:=?sb1) [2,3,6,9,10,11,14] [32,288,16] rfl ?ob1 ?qb1
 case ob1=>simp; rfl
 refine awp_block ?_
 obtain ⟨Fb,Fb0,Fbs,Fbl,FbN⟩ : ∃ F : Nat → List Ed,F 0 = X1 ∧ (∀ i (h : i < (List.range C.length).length),F (i + 1) = F i ++ arc2 C (List.range C.length)[i]) ∧ (∀ i,(F i).length ≤ 200) ∧ F (List.range C.length).length = X1 ++ (List.range C.length).flatMap (arc2 C) :=
  ⟨fun i=>X1 ++ ((List.range C.length).take i).flatMap (arc2 C),by simp,fun i h=>by simp only [flat_succ _ _ i h,List.append_assoc],fun i=>by have:=flat_take_len _ (arc2_len C) (List.range C.length) i; rw [List.length_range] at this; rw [List.length_append]; omega,by simp⟩
 rw [List.length_range,← hX2,← hZ2] at FbN
 refine awp_loop (ι:=Nat) (fun i=>⟨158,[(2,ints sinks),(3,.pv (gC G)),(6,.pt 32 0 0),(9,ints D),(10,ints C),(11,.pt 288 0 0),(14,.I i)],[(32,some ⟨2,[[.I 0,.nilS]],0⟩),(288,some (outV N 16 (Fb i).length)),(16,some ⟨3,rowsE (Fb i),0⟩)],360⟩) (fun i=>i ≤ C.length) (fun i=>C.length - i) 0 (Nat.zero_le _) (Le.go [(32,32),(288,288),(16,16)] [] rfl rfl (by simp [Fb0]) (by simp [Fb0,fcd])) ?_
 intro i hi
 refine awp_seq ?_
 refine rk (s:=?sb2) [2,3,6,9,10,11,14,79] [32,288,16] rfl ?ob2 ?qb2
 case ob2=>simp; rfl
 refine awp_cond _ rfl (fun h7=>?_) fun h7=>?_
 ·simp [hGs] at h7
  have hw : IntKind.i64.wrap ((i : Int) + 1) = (i : Int) + 1:=w64 (by omega) (by omega)
  have hFi:=Fbl i
  have hkC : i < C.length:=by omega
  have hFn : Fb (i + 1) = Fb i ++ if 0 < C[i] then [⟨2 + 2 * (i : Int),3 + 2 * (i : Int),C[i] - 1⟩] else []:=by
   rw [Fbs i (by simpa using hkC)]
   unfold arc2
   simp [hkC]
  have hci:=hcb _ (List.getElem_mem hkC)
  have hwc : IntKind.i64.wrap (C[i] - 1) = C[i] - 1:=w64 (by omega) (by omega)
  have hkD:=hDk _ hkC
  have hdc:=hDC' _ hkC
  refine awp_skip ?_
  refine awp_cut (ι:=Unit) (fun _=>⟨158,[(2,ints sinks),(3,.pv (gC G)),(6,.pt 32 0 0),(9,ints D),(10,ints C),(11,.pt 288 0 0),(14,.I i)],[(32,some ⟨2,[[.I 0,.nilS]],0⟩),(288,some (outV N 16 (Fb (i + 1)).length)),(16,some ⟨3,rowsE (Fb (i + 1)),0⟩)],800⟩) (fun _=>True) ?_ fun _ _=>?_
  ·refine awp_block ?_
   refine rk (s:=?sb3) [2,3,6,9,10,11,14,86] [32,288,16] rfl ?ob3 ?qb3
   case ob3=>simp [hkD]; rfl
   refine awp_cond _ rfl (fun h8=>?_) fun h8=>?_
   ·simp at h8
    rw [if_pos (hdc.1 h8)] at hFn
    have htl : ∀ f : Ed → List AV,List.take (Fb i).length (List.map f (Fb i)) = List.map f (Fb i):=fun f=>List.take_of_length_le (by simp)
    refine awp_drw rfl ?_
    simp [hkC,hwc]
    refine call0e (ref14_Entry_ok i (by omega) (by omega)) (by simp) ?_
    simp [htl,hkC,hwc]
    refine call0e (ref14_Exit_ok i (by omega) (by omega)) (by simp) ?_
    simp [htl,hkC,hwc]
    refine ⟨by omega,by omega,?_⟩
    exact ⟨rfl,Le.go [(32,32),(288,288),(536,16)] [] rfl rfl (by simp [hFn]) (by simp [hFn,fcd])⟩
   ·simp at h8
    rw [if_neg (by omega)] at hFn
    refine awp_skip ?_
    exact ⟨(),trivial,Le.go [(32,32),(288,288),(16,16)] [] rfl rfl (by simp [hFn]) (by simp [hFn,fcd])⟩
  refine awp_run (s:=?sb9) rfl ?ob9 ?qb9
  case ob9=>simp; rfl
  exact ⟨i + 1,by omega,by omega,Le.go [(32,32),(288,288),(16,16)] [] rfl rfl (by simp [hw]) (by simp [fcd])⟩
 simp [hGs] at h7
 obtain rfl : i = C.length:=by omega
 rw [FbN]
 refine awp_exit ?_
 refine hit ?_
 refine awp_seq ?_
 refine rk (s:=?sc1) [2,3,6,9,11,15] [32,288,16] rfl ?oc1 ?qc1
 case oc1=>simp; rfl
 refine awp_block ?_
 obtain ⟨Fc,Fc0,Fcs,Fcl,FcN⟩ : ∃ F : Nat → List Ed,F 0 = Z2 ∧ (∀ i (h : i < (sinks).length),F (i + 1) = F i ++ arc3 C (sinks)[i]) ∧ (∀ i,(F i).length ≤ 300) ∧ F (sinks).length = Z2 ++ (sinks).flatMap (arc3 C) :=
  ⟨fun i=>Z2 ++ ((sinks).take i).flatMap (arc3 C),by simp,fun i h=>by simp only [flat_succ _ _ i h,List.append_assoc],fun i=>by have:=flat_take_len _ (arc3_len C) (sinks) i; simp only [List.length_append]; omega,by simp⟩
 rw [← hX3,← hZ3] at FcN
 refine awp_loop (ι:=Nat) (fun i=>⟨158,[(2,ints sinks),(3,.pv (gC G)),(6,.pt 32 0 0),(9,ints D),(11,.pt 288 0 0),(15,.I i)],[(32,some ⟨2,[[.I 0,.nilS]],0⟩),(288,some (outV N 16 (Fc i).length)),(16,some ⟨3,rowsE (Fc i),0⟩)],400⟩) (fun i=>i ≤ sinks.length) (fun i=>sinks.length - i) 0 (Nat.zero_le _) (Le.go [(32,32),(288,288),(16,16)] [] rfl rfl (by simp [Fc0]) (by simp [Fc0,fcd])) ?_
 intro i hi
 refine awp_seq ?_
 refine rk (s:=?sc2) [2,3,6,9,11,15,105] [32,288,16] rfl ?oc2 ?qc2
 case oc2=>simp; rfl
 refine awp_cond _ rfl (fun h7=>?_) fun h7=>?_
 ·simp at h7
  have hw : IntKind.i64.wrap ((i : Int) + 1) = (i : Int) + 1:=w64 (by omega) (by omega)
  have hFi:=Fcl i
  obtain ⟨k,hk,hkC,hk64⟩:=hsink _ (List.getElem_mem h7)
  have hFn : Fc (i + 1) = Fc i ++ if 0 < C[k] then [⟨2 + 2 * (k : Int),1,1⟩] else []:=by
   rw [Fcs i h7,hk]
   unfold arc3
   simp [hkC]
  have hkD:=hDk _ hkC
  have hdc:=hDC' _ hkC
  refine awp_skip ?_
  refine awp_cut (ι:=Unit) (fun _=>⟨158,[(2,ints sinks),(3,.pv (gC G)),(6,.pt 32 0 0),(9,ints D),(11,.pt 288 0 0),(15,.I i)],[(32,some ⟨2,[[.I 0,.nilS]],0⟩),(288,some (outV N 16 (Fc (i + 1)).length)),(16,some ⟨3,rowsE (Fc (i + 1)),0⟩)],800⟩) (fun _=>True) ?_ fun _ _=>?_
  ·refine awp_block ?_
   refine rk (s:=?sc3) [2,3,6,9,11,15,115] [32,288,16] rfl ?oc3 ?qc3
   case oc3=>simp [h7,hk,hkD]; rfl
   refine awp_cond _ rfl (fun h8=>?_) fun h8=>?_
   ·simp at h8
    rw [if_pos (hdc.1 h8)] at hFn
    have htl : ∀ f : Ed → List AV,List.take (Fc i).length (List.map f (Fc i)) = List.map f (Fc i):=fun f=>List.take_of_length_le (by simp)
    refine awp_drw rfl ?_
    simp [h7,hk]
    refine call0e (ref14_Entry_ok k (by omega) (by omega)) (by simp) ?_
    simp [htl,h7,hk]
    refine ⟨by omega,by omega,?_⟩
    exact ⟨rfl,Le.go [(32,32),(288,288),(568,16)] [] rfl rfl (by simp [hFn]) (by simp [hFn,fcd])⟩
   ·simp at h8
    rw [if_neg (by omega)] at hFn
    refine awp_skip ?_
    exact ⟨(),trivial,Le.go [(32,32),(288,288),(16,16)] [] rfl rfl (by simp [hFn]) (by simp [hFn,fcd])⟩
  refine awp_run (s:=?sc9) rfl ?oc9 ?qc9
  case oc9=>simp; rfl
  exact ⟨i + 1,by omega,by omega,Le.go [(32,32),(288,288),(16,16)] [] rfl rfl (by simp [hw]) (by simp [fcd])⟩
 simp at h7
 obtain rfl : i = sinks.length:=by omega
 rw [FcN]
 refine awp_exit ?_
 refine hit ?_
 refine awp_seq ?_
 refine rk (s:=?sd1) [3,6,9,11,16] [32,288,16] rfl ?od1 ?qd1
 case od1=>simp; rfl
 refine awp_block ?_
 obtain ⟨Fd,Fd0,Fds,Fdl,FdN⟩ : ∃ F : Nat → List Ed,F 0 = Z3 ∧ (∀ i (h : i < (G.edges).length),F (i + 1) = F i ++ arc4 C (G.edges)[i]) ∧ (∀ i,(F i).length ≤ 900) ∧ F (G.edges).length = Z3 ++ (G.edges).flatMap (arc4 C) :=
  ⟨fun i=>Z3 ++ ((G.edges).take i).flatMap (arc4 C),by simp,fun i h=>by simp only [flat_succ _ _ i h,List.append_assoc],fun i=>by have:=flat_take_len _ (arc4_len C) (G.edges) i; simp only [List.length_append]; omega,by simp⟩
 rw [← hX4,← hZ4] at FdN
 refine awp_loop (ι:=Nat) (fun i=>⟨158,[(3,.pv (gC G)),(6,.pt 32 0 0),(9,ints D),(11,.pt 288 0 0),(16,.I i)],[(32,some ⟨2,[[.I 0,.nilS]],0⟩),(288,some (outV N 16 (Fd i).length)),(16,some ⟨3,rowsE (Fd i),0⟩)],440⟩) (fun i=>i ≤ G.edges.length) (fun i=>G.edges.length - i) 0 (Nat.zero_le _) (Le.go [(32,32),(288,288),(16,16)] [] rfl rfl (by simp [Fd0]) (by simp [Fd0,fcd])) ?_
 intro i hi
 refine awp_seq ?_
 refine rk (s:=?sd2) [3,6,9,11,16,131] [32,288,16] rfl ?od2 ?qd2
 case od2=>simp; rfl
 refine awp_cond _ rfl (fun h7=>?_) fun h7=>?_
 ·simp at h7
  have hw : IntKind.i64.wrap ((i : Int) + 1) = (i : Int) + 1:=w64 (by omega) (by omega)
  have hFi:=Fdl i
  obtain ⟨x,hx⟩ : ∃ x,x = G.edges[i]:=⟨_,rfl⟩
  have hfx:=hfit _ (List.getElem_mem h7)
  rw [← hx] at hfx
  obtain ⟨k,hk,hkC,hk64⟩:=hkey x.f hfx.1.1 hfx.1.2
  obtain ⟨u,hu,huC,hu64⟩:=hkey x.t hfx.2.1 hfx.2.2
  have hFn : Fd (i + 1) = Fd i ++ if 0 < C[k] then [⟨3 + 2 * (k : Int),2 + 2 * (u : Int),64⟩] else []:=by
   rw [Fds i h7,← hx]
   unfold arc4
   rw [hk,hu]
   simp [hkC]
  have hkD:=hDk _ hkC
  have hdc:=hDC' _ hkC
  refine awp_skip ?_
  refine awp_cut (ι:=Unit) (fun _=>⟨158,[(3,.pv (gC G)),(6,.pt 32 0 0),(9,ints D),(11,.pt 288 0 0),(16,.I i)],[(32,some ⟨2,[[.I 0,.nilS]],0⟩),(288,some (outV N 16 (Fd (i + 1)).length)),(16,some ⟨3,rowsE (Fd (i + 1)),0⟩)],800⟩) (fun _=>True) ?_ fun _ _=>?_
  ·refine awp_block ?_
   refine awp_regc ⟨158,[(3,.pv (gC G)),(6,.pt 32 0 0),(9,ints D),(11,.pt 288 0 0),(16,.I i),(17,.pv (eC x))],[(32,some ⟨2,[[.I 0,.nilS]],0⟩),(288,some (outV N 16 (Fd i).length)),(16,some ⟨3,rowsE (Fd i),0⟩)],536⟩ rfl ?_ ?_
   ·simp [h7,← hx]
    exact Le.go [(32,32),(288,288),(16,16)] [520] rfl rfl (by simp) (by simp [fcd])
   refine rk (s:=?sd4) [3,6,9,11,16,17,144] [32,288,16] rfl ?od4 ?qd4
   case od4=>simp [hk,hkD]; rfl
   refine awp_cond _ rfl (fun h8=>?_) fun h8=>?_
   ·simp at h8
    rw [if_pos (hdc.1 h8)] at hFn
    have htl : ∀ f : Ed → List AV,List.take (Fd i).length (List.map f (Fd i)) = List.map f (Fd i):=fun f=>List.take_of_length_le (by simp)
    refine awp_drw rfl ?_
    simp [hk,hu]
    refine call0e (ref14_Exit_ok k (by omega) (by omega)) (by simp) ?_
    simp [htl,hk,hu]
    refine call0e (ref14_Entry_ok u (by omega) (by omega)) (by simp) ?_
    simp [htl,hk,hu]
    refine ⟨by omega,by omega,?_⟩
    exact ⟨rfl,Le.go [(32,32),(288,288),(664,16)] [] rfl rfl (by simp [hFn]) (by simp [hFn,fcd])⟩
   ·simp at h8
    rw [if_neg (by omega)] at hFn
    refine awp_skip ?_
    exact ⟨(),trivial,Le.go [(32,32),(288,288),(16,16)] [] rfl rfl (by simp [hFn]) (by simp [hFn,fcd])⟩
  refine awp_run (s:=?sd9) rfl ?od9 ?qd9
  case od9=>simp; rfl
  exact ⟨i + 1,by omega,by omega,Le.go [(32,32),(288,288),(16,16)] [] rfl rfl (by simp [hw]) (by simp [fcd])⟩
 simp at h7
 obtain rfl : i = G.edges.length:=by omega
 rw [FdN]
 refine awp_exit ?_
 refine hit ?_
 refine rk (s:=?sz) [6,7] [32,16] rfl ?oz ?qz
 case oz=>simp; rfl
 refine awp_ret ?_
 exact ⟨.inr rfl,RetOk.out [] [16] rfl (by simp) (by simp) (by simp [hN,fcd,take_map_len]) (by simp)⟩
instance (g : Gr) (lv f t : Int) : Decidable (EdgeAt g lv f t):=by unfold EdgeAt; infer_instance
theorem ref44_edge_ok (g : Gr) (lv f t : Int) (hl : g.edges.length ≤ 140737488355328) : ACalls Tryz.prog nref44_edge [eG g,.I lv,.I f,.I t] [] (.B (decide (EdgeAt g lv f t))) []:=by
 refine sref44_edge.acalls (Nat.le_of_ble_eq_true rfl) (Nat.le_of_ble_eq_true rfl) (Nat.le_refl _) ?_
 show awp _ 0 _ _ ⟨45,[(0,eG g),(1,.I lv),(2,.I f),(3,.I t)],[],16⟩
 refine rx (s:=?s1) [1,2,3,4] [] [16] rfl ?o1 ?q1
 case o1=>simp; rfl
 refine awp_seq ?_
 refine rx (s:=?s2) [1,2,3,4,9] [] [] rfl ?o2 ?q2
 case o2=>simp; rfl
 refine awp_block ?_
 refine awp_loop (ι:=Nat) (fun i=>⟨45,[(1,.I lv),(2,.I f),(3,.I t),(4,.pv (gC g)),(9,.I i)],[],40⟩) (fun i=>i ≤ g.edges.length ∧ ∀ k (h : k < g.edges.length),k < i → ¬ (g.edges[k].f = f ∧ g.edges[k].t = t ∧ lv ≤ g.edges[k].v)) (fun i=>g.edges.length - i) 0 (by simp) (Le.go [] [] rfl rfl (by simp) (by simp)) ?_
 rintro i ⟨hi,hp⟩
 refine awp_seq ?_
 refine rx (s:=?s3) [1,2,3,4,9,14] [] [] rfl ?o3 ?q3
 case o3=>simp; rfl
 refine awp_cond _ rfl (fun h4=>?_) fun h4=>?_
 ·simp at h4
  have hw : IntKind.i64.wrap ((i : Int) + 1) = (i : Int) + 1:=w64 (by omega) (by omega)
  refine awp_skip ?_
  refine awp_seq ?_
  refine awp_block ?_
  refine awp_regc ⟨45,[(1,.I lv),(2,.I f),(3,.I t),(4,.pv (gC g)),(9,.I i),(44,.B (decide (g.edges[i].f = f ∧ g.edges[i].t = t ∧ lv ≤ g.edges[i].v)))],[],400⟩ rfl ?_ ?_
  ·simp [h4]
   repeat' first
    | (refine gcase (fun hb=>?_) (fun hb=>?_) <;> (try rw [hb]) <;> (try simp at hb) <;> simp [hb,h4])
   all_goals exact Le.snap [] rfl rfl (by simp <;> exact wkB (by (try simp at *); grind))
  refine awp_cond _ rfl (fun h7=>?_) fun h7=>?_
  ·rw [decide_eq_true_eq] at h7
   refine rx (s:=?s8) [8] [] [] rfl ?o8 ?q8
   case o8=>simp; rfl
   refine awp_ret ?_
   have hy : EdgeAt g lv f t:=⟨_,List.getElem_mem h4,h7⟩
   exact ⟨.inr rfl,RetOk.one (by simp [hy])⟩
  rw [decide_eq_false_iff_not] at h7
  refine awp_skip ?_
  refine awp_run (s:=?s9) rfl ?o9 ?q9
  case o9=>simp; rfl
  refine ⟨i + 1,⟨h4,fun k hk hki=>?_⟩,by omega,Le.go [] [] rfl rfl (by simp [hw]) (by simp)⟩
  rcases Nat.lt_succ_iff_lt_or_eq.1 hki with h | rfl
  ·exact hp k hk h
  ·exact h7
 simp at h4
 have hn : ¬ EdgeAt g lv f t:=by
  rintro ⟨e,he,h⟩
  obtain ⟨k,hk,rfl⟩:=List.getElem_of_mem he
  exact hp k hk (by omega) h
 refine awp_exit ?_
 refine hit ?_
 refine rx (s:=?s10) [8] [] [] rfl ?o10 ?q10
 case o10=>simp; rfl
 refine awp_ret ?_
 exact ⟨.inr rfl,RetOk.one (by simp [hn])⟩
def WalkB (g : Gr) (lv : Int) (order w : List Int) (i : Nat) : Prop:=∀ h : i < w.length,(w[i] ∈ order ∧ w[i] ∉ w.take i) ∧ (0 < i → EdgeAt g lv w[i - 1] w[i])
theorem walkB_iff {g : Gr} {lv : Int} {seeds order w : List Int} : WalkP g lv seeds order w ↔ (∃ k,w.head? = some k ∧ k ∈ seeds) ∧ ∀ i,WalkB g lv order w i:=by
 rw [← walkC_iff]
 unfold WalkC WalkAt WalkB
 simp only [mem_outs_level]
open Classical in
theorem ref44_path_ok (g : Gr) (p : Pol) (order w : List Int) (hl : g.edges.length ≤ 140737488355328) (hs : p.seeds.length ≤ 140737488355328) (ho : order.length ≤ 140737488355328) (hwl : w.length ≤ 140737488355328) :
  ACalls Tryz.prog nref44_path [eG g,eP p,ints order,ints w] [] (.B (decide (WalkP g p.lv p.seeds order w))) []:=by
 refine sref44_path.acalls (Nat.le_of_ble_eq_true rfl) (Nat.le_of_ble_eq_true rfl) (Nat.le_refl _) ?_
 show awp _ 0 _ _ ⟨65,[(0,eG g),(1,eP p),(2,ints order),(3,ints w)],[],16⟩
 refine rx (s:=?s1) [2,3,4,5] [] [16,24] rfl ?o1 ?q1
 case o1=>simp; rfl
 refine awp_seq ?_
 refine awp_dregc ⟨65,[(2,ints order),(3,ints w),(4,.pv (gC g)),(5,.pv (pC p)),(21,.B (decide (¬ ∃ k,w.head? = some k ∧ k ∈ p.seeds)))],[],200⟩ rfl ?_ ?_
 ·cases w with
  | nil=>simp; exact ⟨rfl,Le.snap [] rfl rfl (by simp [ints,Wk.refl])⟩
  | cons a w =>
    have hz : ((w.length : Int) + 1 == 0) = false:=by rw [beq_eq_false_iff_ne]; omega
    simp [hz]
    refine call0e (has24_ok p.seeds a hs) (by simp) ?_
    simp
    exact ⟨rfl,Le.snap [] rfl rfl (by simp [ints,Wk.refl])⟩
 refine awp_cond _ rfl (fun h3=>?_) fun h3=>?_
 ·rw [decide_eq_true_eq] at h3
  refine rx (s:=?s4) [8] [] [] rfl ?o4 ?q4
  case o4=>simp; rfl
  refine awp_ret ?_
  have hn : ¬ WalkP g p.lv p.seeds order w:=fun h=>h3 (walkB_iff.1 h).1
  exact ⟨.inr rfl,RetOk.one (by simp [hn])⟩
 rw [decide_eq_false_iff_not,Decidable.not_not] at h3
 refine awp_skip ?_
 refine awp_seq ?_
 refine rx (s:=?s5) [2,3,4,5,9] [] [] rfl ?o5 ?q5
 case o5=>simp; rfl
 refine awp_block ?_
 refine awp_loop (ι:=Nat) (fun i=>⟨65,[(2,ints order),(3,ints w),(4,.pv (gC g)),(5,.pv (pC p)),(9,.I i)],[],208⟩) (fun i=>i ≤ w.length ∧ ∀ k,k < i → WalkB g p.lv order w k) (fun i=>w.length - i) 0 (by simp) (Le.go [] [] rfl rfl (by simp) (by simp)) ?_
 rintro i ⟨hi,hp⟩
 refine awp_seq ?_
 refine rx (s:=?s6) [2,3,4,5,9,25] [] [] rfl ?o6 ?q6
 case o6=>simp; rfl
 refine awp_cond _ rfl (fun h4=>?_) fun h4=>?_
 ·simp at h4
  have hw1 : IntKind.i64.wrap ((i : Int) + 1) = (i : Int) + 1:=w64 (by omega) (by omega)
  have hwp : 0 < i → IntKind.i64.wrap ((i : Int) - 1) = ((i - 1 : Nat) : Int):=fun h=>by rw [w64 (by omega) (by omega)]; omega
  have h4' : i - 1 < w.length:=by omega
  have htl : (w.take i).length ≤ 140737488355328:=by rw [List.length_take]; omega
  have hc:=has24_ok (w.take i) w[i] htl
  have hWB : WalkB g p.lv order w i ↔ (w[i] ∈ order ∧ w[i] ∉ w.take i) ∧ (0 < i → EdgeAt g p.lv w[i - 1] w[i]):=⟨fun h=>h h4,fun h _=>h⟩
  refine awp_skip ?_
  refine awp_seq ?_
  refine awp_block ?_
  refine awp_dregc ⟨65,[(2,ints order),(3,ints w),(4,.pv (gC g)),(5,.pv (pC p)),(9,.I i),(64,.B (decide (¬ WalkB g p.lv order w i)))],[],600⟩ rfl ?_ ?_
  ·simp [h4]
   refine call0e (has24_ok order w[i] ho) (by simp) ?_
   simp [h4]
   by_cases hA : w[i] ∈ order
   ·simp [hA,h4,hi]
    refine call0e hc (by simp) ?_
    simp
    by_cases hB : w[i] ∈ w.take i
    ·simp [hB]
     exact ⟨rfl,Le.snap [] rfl rfl (by simp <;> exact wkB (by simp [hWB,hB]))⟩
    ·simp [hB]
     by_cases hi0 : 0 < i
     ·simp [hi0,h4,h4',hwp hi0]
      refine call0e (ref44_edge_ok ⟨g.size,g.edges,g.gone⟩ p.lv w[i - 1] w[i] hl) (by simp) ?_
      simp
      exact ⟨rfl,Le.snap [] rfl rfl (by simp <;> exact wkB (by simp [hWB,hA,hB,hi0]))⟩
     ·simp [hi0]
      exact ⟨rfl,Le.snap [] rfl rfl (by simp <;> exact wkB (by simp [hWB,hA,hB,hi0]))⟩
   ·simp [hA]
    exact ⟨rfl,Le.snap [] rfl rfl (by simp <;> exact wkB (by simp [hWB,hA]))⟩
  refine awp_cond _ rfl (fun h7=>?_) fun h7=>?_
  ·rw [decide_eq_true_eq] at h7
   refine rx (s:=?s8) [8] [] [] rfl ?o8 ?q8
   case o8=>simp; rfl
   refine awp_ret ?_
   have hn : ¬ WalkP g p.lv p.seeds order w:=fun h=>h7 ((walkB_iff.1 h).2 i)
   exact ⟨.inr rfl,RetOk.one (by simp [hn])⟩
  rw [decide_eq_false_iff_not,Decidable.not_not] at h7
  refine awp_skip ?_
  refine awp_run (s:=?s9) rfl ?o9 ?q9
  case o9=>simp; rfl
  refine ⟨i + 1,⟨h4,fun k hk=>?_⟩,by omega,Le.go [] [] rfl rfl (by simp [hw1]) (by simp)⟩
  rcases Nat.lt_succ_iff_lt_or_eq.1 hk with h | rfl
  ·exact hp k h
  ·exact h7
 simp at h4
 have hy : WalkP g p.lv p.seeds order w:=walkB_iff.2 ⟨h3,fun k hk=>hp k (by omega) hk⟩
 refine awp_exit ?_
 refine hit ?_
 refine rx (s:=?s10) [8] [] [] rfl ?o10 ?q10
 case o10=>simp; rfl
 refine awp_ret ?_
 exact ⟨.inr rfl,RetOk.one (by simp [hy])⟩
theorem ref44_reached_ok (g : Gr) (p : Pol) (hg : GrOk g) (hs : p.seeds.length ≤ 1099511627776) :
  ACalls Tryz.prog nref44_reached [eG g,eP p] [] (.rs 0 0 (ordL (levelG g p.lv) p.seeds).length) [some ⟨1,rowsI (ordL (levelG g p.lv) p.seeds),0⟩]:=by
 refine sref44_reached.acalls (Nat.le_of_ble_eq_true rfl) (Nat.le_of_ble_eq_true rfl) (Nat.zero_le _) ?_
 show awp _ 0 _ _ ⟨12,[(0,eG g),(1,eP p)],[],16⟩
 have hel:=hg.edges_le
 have hgl:=hg.gone_le
 have hord:=ref12_Order_ok (g:=levelG g p.lv) (S:=p.seeds) (hg.level p.lv) hs
 refine rx (s:=?s1) [2,3] [] [16,24] rfl ?o1 ?q1
 case o1=>simp; rfl
 refine rkd (s:=?s2) [4] [88] rfl ?o2 ?q2
 case o2 =>
  simp
  refine call0e (ref11_Level_ok g p.lv (by omega) (by omega)) (by simp) ?_
  simp
  refine callN1 hord (by simp) ?_
  simp [fcd]
  refine ⟨rfl,?_⟩
  rfl
 refine awp_ret ?_
 exact ⟨.inr rfl,RetOk.out [88] [] rfl (by simp) (by simp) (by simp) (by simp [fcd])⟩
open Classical in
theorem ref44_ahead_ok (order l : List Int) (key : Int) (ho : order.length ≤ 1000000) (hl : l.length ≤ 140737488355328) :
  ACalls Tryz.prog nref44_ahead [ints order,ints l,.I key] [] (.B (decide (BeforeP order l key))) []:=by
 refine sref44_ahead.acalls (Nat.le_of_ble_eq_true rfl) (Nat.le_of_ble_eq_true rfl) (Nat.le_refl _) ?_
 show awp _ 0 _ _ ⟨54,[(0,ints order),(1,ints l),(2,.I key)],[],16⟩
 refine rx (s:=?s1) [0,1,2] [] [] rfl ?o1 ?q1
 case o1=>simp; rfl
 refine rx (s:=?s2) [0,1,2,7] [] [] rfl ?o2 ?q2
 case o2=>simp; rfl
 refine awp_seq ?_
 refine rx (s:=?s3) [0,1,2,7,8] [] [] rfl ?o3 ?q3
 case o3=>simp; rfl
 refine awp_block ?_
 refine awp_loop (ι:=Nat × Nat) (fun x=>⟨54,[(0,ints order),(1,ints l),(2,.I key),(7,.I x.2),(8,.I x.1)],[],40⟩)
  (fun x=>x.1 ≤ l.length ∧ x.2 ≤ order.length ∧ (BeforeP order l key ↔ (l.drop x.1).Sublist (aheadO (order.drop x.2) key))) (fun x=>l.length - x.1) (0,0) ⟨Nat.zero_le _,Nat.zero_le _,by unfold BeforeP; simp⟩ (Le.go [] [] rfl rfl (by simp) (by simp)) ?_
 rintro ⟨i,a⟩ ⟨hi,ha,hq⟩
 simp only at hi ha hq
 refine awp_seq ?_
 refine rx (s:=?s4) [0,1,2,7,8,12] [] [] rfl ?o4 ?q4
 case o4=>simp; rfl
 refine awp_cond _ rfl (fun h5=>?_) fun h5=>?_
 ·simp at h5
  have hw1 : IntKind.i64.wrap ((i : Int) + 1) = (i : Int) + 1:=w64 (by omega) (by omega)
  rw [List.drop_eq_getElem_cons h5] at hq
  refine awp_skip ?_
  refine awp_seq ?_
  refine awp_block ?_
  refine awp_cut (ι:=Nat) (fun b=>⟨54,[(0,ints order),(1,ints l),(2,.I key),(7,.I b),(8,.I i)],[],500⟩)
   (fun b=>b ≤ order.length ∧ (BeforeP order l key ↔ (l[i] :: l.drop (i + 1)).Sublist (aheadO (order.drop b) key)) ∧ ∀ h : b < order.length,order[b] = l[i] ∨ order[b] = key) ?_ fun b hb=>?_
  ·refine awp_block ?_
   refine awp_loop (ι:=Nat) (fun b=>⟨54,[(0,ints order),(1,ints l),(2,.I key),(7,.I b),(8,.I i)],[],72⟩)
    (fun b=>b ≤ order.length ∧ (BeforeP order l key ↔ (l[i] :: l.drop (i + 1)).Sublist (aheadO (order.drop b) key))) (fun b=>order.length - b) a ⟨ha,hq⟩ (Le.go [] [] rfl rfl (by simp) (by simp)) ?_
   rintro b ⟨hb,hqb⟩
   have hw2 : b < order.length → IntKind.i64.wrap ((b : Int) + 1) = (b : Int) + 1:=fun h=>w64 (by omega) (by omega)
   refine awp_seq ?_
   refine awp_dregc ⟨54,[(0,ints order),(1,ints l),(2,.I key),(7,.I b),(8,.I i),(37,.B (decide (∃ h : b < order.length,order[b] ≠ l[i] ∧ order[b] ≠ key)))],[],400⟩ rfl ?_ ?_
   ·by_cases hb1 : b < order.length
    ·simp [hb1,h5]
     repeat' first
      | (refine gcase (fun hb=>?_) (fun hb=>?_) <;> (try rw [hb]) <;> (try simp at hb) <;> simp [hb,hb1,h5])
     all_goals exact ⟨rfl,Le.snap [] rfl rfl (by simp <;> exact wkB (by (try simp at *); grind))⟩
    ·have hno : ¬ ∃ h : b < order.length,order[b] ≠ l[i] ∧ order[b] ≠ key:=fun ⟨h,_⟩=>hb1 h
     rw [decide_eq_false hno]
     simp [hb1]
     exact ⟨rfl,Le.snap [] rfl rfl (by simp)⟩
   refine awp_cond _ rfl (fun h7=>?_) fun h7=>?_
   ·rw [decide_eq_true_eq] at h7
    obtain ⟨hb1,hb2,hb3⟩:=h7
    refine awp_skip ?_
    refine awp_block ?_
    refine awp_run (s:=?s6) rfl ?o6 ?q6
    case o6=>simp; rfl
    refine ⟨b + 1,⟨hb1,?_⟩,by omega,Le.go [] [] rfl rfl (by simp [hw2 hb1]) (by simp)⟩
    rw [hqb,List.drop_eq_getElem_cons hb1,aheadO_cons,if_neg hb3,sub_cons_iff,if_neg hb2]
   ·rw [decide_eq_false_iff_not] at h7
    refine awp_exit ?_
    refine hit ?_
    refine ⟨b,⟨hb,hqb,fun h=>?_⟩,Le.go [] [] rfl rfl (by simp) (by simp)⟩
    by_cases h1 : order[b] = l[i]
    ·exact .inl h1
    ·by_cases h2 : order[b] = key
     ·exact .inr h2
     ·exact absurd ⟨h,h1,h2⟩ h7
  obtain ⟨hb0,hqb,hst⟩:=hb
  refine awp_seq ?_
  refine awp_regc ⟨54,[(0,ints order),(1,ints l),(2,.I key),(7,.I b),(8,.I i),(51,.B (decide (b = order.length ∨ ∃ h : b < order.length,order[b] = key)))],[],700⟩ rfl ?_ ?_
  ·by_cases hb1 : b < order.length
   ·simp [hb1]
    repeat' first
     | (refine gcase (fun hb=>?_) (fun hb=>?_) <;> (try rw [hb]) <;> (try simp at hb) <;> simp [hb,hb1])
    all_goals exact Le.snap [] rfl rfl (by simp <;> exact wkB (by (try simp at *); grind))
   ·obtain rfl : b = order.length:=by omega
    simp
    exact Le.snap [] rfl rfl (by simp)
  refine awp_cond _ rfl (fun h8=>?_) fun h8=>?_
  ·rw [decide_eq_true_eq] at h8
   refine rx (s:=?s9) [6] [] [] rfl ?o9 ?q9
   case o9=>simp; rfl
   refine awp_ret ?_
   have hn : ¬ BeforeP order l key:=by
    rw [hqb]
    rcases h8 with rfl | ⟨hb1,hb2⟩
    ·rw [List.drop_length,aheadO_nil]; simp; exact h5
    ·rw [List.drop_eq_getElem_cons hb1,aheadO_cons,if_pos hb2]; simp; exact h5
   exact ⟨.inr rfl,RetOk.one (by simp [hn])⟩
  rw [decide_eq_false_iff_not] at h8
  have hb1 : b < order.length:=by
   rcases Nat.lt_or_eq_of_le hb0 with h | h
   ·exact h
   ·exact absurd (.inl h) h8
  have hb2 : order[b] ≠ key:=fun h=>h8 (.inr ⟨hb1,h⟩)
  have hb3 : order[b] = l[i]:=(hst hb1).resolve_right hb2
  have hw3 : IntKind.i64.wrap ((b : Int) + 1) = (b : Int) + 1:=w64 (by omega) (by omega)
  refine awp_skip ?_
  refine awp_run (s:=?s10) rfl ?o10 ?q10
  case o10=>simp; rfl
  refine awp_run (s:=?s11) rfl ?o11 ?q11
  case o11=>simp; rfl
  refine ⟨(i + 1,b + 1),⟨h5,hb1,?_⟩,by simp only; omega,Le.go [] [] rfl rfl (by simp [hw1,hw3]) (by simp)⟩
  simp only
  rw [hqb,List.drop_eq_getElem_cons hb1,aheadO_cons,if_neg hb2,sub_cons_iff,if_pos hb3]
 simp at h5
 obtain rfl : i = l.length:=by omega
 have hy : BeforeP order l key:=hq.2 (by simp)
 refine awp_exit ?_
 refine hit ?_
 refine rx (s:=?s12) [6] [] [] rfl ?o12 ?q12
 case o12=>simp; rfl
 refine awp_ret ?_
 exact ⟨.inr rfl,RetOk.one (by simp [hy])⟩
def cntR (f : Int → Int) : List (List AV):=(List.range 64).map fun (k : Nat)=>[AV.I (f (k : Int))]
@[simp] theorem cntR_len (f : Int → Int) : (cntR f).length = 64:=by simp [cntR]
theorem cntR_zero : cntR (fun _=>0) = List.replicate 64 [AV.I 0]:=by simp [cntR,List.map_const']
@[simp] theorem cntR_at {f : Int → Int} {k : Nat} (h : k < (cntR f).length) : (cntR f)[k] = [AV.I (f k)]:=by simp [cntR]
theorem cntR_set (f : Int → Int) {k : Nat} (v : Int) : (cntR f).set k [AV.I v] = cntR fun j=>if j = k then v else f j:=by
 apply List.ext_getElem?
 intro i
 rw [List.getElem?_set]
 by_cases h : k = i
 ·subst h
  rw [if_pos rfl]
  by_cases hk : k < 64
  ·rw [if_pos (by rw [cntR_len]; exact hk)]
   simp [cntR,hk]
  ·rw [if_neg (by rw [cntR_len]; exact hk)]
   simp [cntR,hk]
 ·rw [if_neg h]
  unfold cntR
  simp only [List.getElem?_map]
  by_cases hi : i < 64
  ·simp [hi,show ¬ ((i : Int) = k) by omega]
  ·simp [hi]
@[simp] theorem conv_cntR {ρ : List (Nat × Nat)} {sn : List Nat} {h : Nat → Option Ent} {f : Int → Int} : (cntR f).map (·.map (conv ρ sn h 4)) = cntR f:=by
 unfold cntR
 rw [List.map_map]
 rfl
@[simp] theorem entUp_cntR {nl : List (Nat × Nat)} {f : Int → Int} : EntUp nl ⟨1,cntR f,0⟩ ⟨1,cntR f,0⟩:=EntUp.rfl' (Nat.zero_le _)
def PathsR (g : Gr) (p : Pol) (P : List (List Int)) (ends : List Int) : Prop :=
 (GrOk g ∧ PolOk g.size p) ∧ ServesR g p.lv p.seeds (ordL (levelG g p.lv) p.seeds) (capsL g p) P ends
set_option maxRecDepth 100000 in
set_option maxHeartbeats 4000000 in
open Classical in
theorem ref44_Paths_ok (g : Gr) (p : Pol) (P : List (List Int)) (ends : List Int) (hl : g.edges.length ≤ 140737488355328) (hl2 : g.gone.length ≤ 140737488355328) (hs : p.seeds.length ≤ 1099511627776) (ht : p.table.length ≤ 140737488355328)
  (hP : P.length ≤ 100000) (hPw : ∀ w ∈ P,w.length ≤ 100000) (hE : ends.length ≤ 1099511627776) :
  ACalls Tryz.prog nref44_Paths [eG g,eP p,pathsV P,ints ends] [] (.B (decide (PathsR g p P ends))) []:=by
 refine sref44_Paths.acalls (Nat.le_of_ble_eq_true rfl) (Nat.le_of_ble_eq_true rfl) (Nat.le_refl _) ?_
 show awp _ 0 _ _ ⟨144,[(0,eG g),(1,eP p),(2,pathsV P),(3,ints ends)],[],16⟩
 have hchk:=ref13_Check_ok g p hl hl2 (by omega) ht
 refine rx (s:=?s1) [2,3,4,5] [] [16,24] rfl ?o1 ?q1
 case o1=>simp; rfl
 refine awp_seq ?_
 refine awp_regc ⟨144,[(2,pathsV P),(3,ints ends),(4,.pv (gC g)),(5,.pv (pC p)),(30,.B (decide (¬ ((GrOk g ∧ PolOk g.size p) ∧ P.length = ends.length))))],[],128⟩ rfl ?_ ?_
 ·by_cases hg : GrOk g
  ·by_cases hp : PolOk g.size p
   ·rw [if_pos hg,if_pos hp] at hchk
    simp
    refine call0e hchk (by simp) ?_
    simp
    exact Le.snap [] rfl rfl (by simp [hg,hp] <;> exact wkB (by rw [Bool.eq_iff_iff]; simp; omega))
   ·rw [if_pos hg,if_neg hp] at hchk
    simp
    refine call0e hchk (by simp) ?_
    simp
    exact Le.snap [] rfl rfl (by simp [hp])
  ·rw [if_neg hg] at hchk
   simp
   refine call0e hchk (by simp) ?_
   simp
   exact Le.snap [] rfl rfl (by simp [hg])
 refine awp_cond _ rfl (fun h3=>?_) fun h3=>?_
 ·rw [decide_eq_true_eq] at h3
  refine rx (s:=?s4) [8] [] [] rfl ?o4 ?q4
  case o4=>simp; rfl
  refine awp_ret ?_
  have hn : ¬ PathsR g p P ends:=fun h=>h3 ⟨h.1,h.2.1⟩
  exact ⟨.inr rfl,RetOk.one (by simp [hn])⟩
 rw [decide_eq_false_iff_not,Decidable.not_not] at h3
 obtain ⟨⟨hg,hp⟩,hPE⟩:=h3
 have hsz:=hg.1.1
 have hsz2:=hg.1.2.1
 have hel:=hg.edges_le
 have hre:=ref44_reached_ok g p hg hs
 have hcap:=ref13_All_ok g p hg hs
 have hcb:=capsL_bound (g:=g) hp
 have hcl : (capsL g p).length = g.size.toNat:=capsL_len
 rw [← hcl] at hcap
 have hol:=ordL_len (g:=levelG g p.lv) (S:=p.seeds) hsz
 have hor : ∀ k ∈ ordL (levelG g p.lv) p.seeds,0 ≤ k ∧ k < 64:=fun k hk=>by have:=ordL_range hk; have : (levelG g p.lv).size = g.size:=rfl; omega
 have hPR : PathsR g p P ends ↔ ServesR g p.lv p.seeds (ordL (levelG g p.lv) p.seeds) (capsL g p) P ends:=⟨fun h=>h.2,fun h=>⟨⟨hg,hp⟩,h⟩⟩
 rw [show (levelG g p.lv).size = g.size from rfl] at hol
 obtain ⟨O,hO⟩ : ∃ O,O = ordL (levelG g p.lv) p.seeds:=⟨_,rfl⟩
 obtain ⟨C,hC⟩ : ∃ C,C = capsL g p:=⟨_,rfl⟩
 rw [← hO] at hre hol hor hPR
 rw [← hC] at hcap hcb hcl hPR
 simp only [hPR]
 refine awp_skip ?_
 refine awp_regc ⟨144,[(2,pathsV P),(3,ints ends),(4,.pv (gC g)),(5,.pv (pC p)),(9,ints O)],[],160⟩ rfl ?_ ?_
 ·simp
  refine callN1 hre (by simp) ?_
  simp [fcd]
  exact Le.snap [144] rfl rfl (by simp [fcd,take_map_len])
 refine awp_regc ⟨144,[(2,pathsV P),(3,ints ends),(4,.pv (gC g)),(5,.pv (pC p)),(9,ints O),(10,ints C)],[],192⟩ rfl ?_ ?_
 ·simp
  refine callN1 hcap (by simp) ?_
  simp [fcd]
  exact Le.snap [176] rfl rfl (by simp [fcd,take_map_len])
 refine awp_regc ⟨144,[(2,pathsV P),(3,ints ends),(4,.pv (gC g)),(5,.pv (pC p)),(9,ints O),(10,ints C),(11,.rs 192 0 64)],[(192,some ⟨1,cntR fun _=>0,0⟩)],208⟩ rfl ?_ ?_
 ·rw [cntR_zero]
  simp
  exact Le.keep rfl (Nat.le_refl _) (by simp) (by simp)
 refine awp_regc ⟨144,[(2,pathsV P),(3,ints ends),(4,.pv (gC g)),(5,.pv (pC p)),(9,ints O),(10,ints C),(11,.rs 192 0 64),(12,.rs 208 0 64)],[(192,some ⟨1,cntR fun _=>0,0⟩),(208,some ⟨1,cntR fun _=>0,0⟩)],224⟩ rfl ?_ ?_
 ·rw [cntR_zero]
  simp
  exact Le.keep rfl (Nat.le_refl _) (by simp) (by simp)
 refine rk (s:=?s9) [2,3,4,5,9,10,11,12,13] [192,208] rfl ?o9 ?q9
 case o9=>simp; rfl
 refine awp_seq ?_
 refine rk (s:=?s10) [2,3,4,5,9,10,11,12,13,14] [192,208] rfl ?o10 ?q10
 case o10=>simp; rfl
 refine awp_block ?_
 refine awp_loop (ι:=Nat) (fun i=>⟨144,[(2,pathsV P),(3,ints ends),(4,.pv (gC g)),(5,.pv (pC p)),(9,ints O),(10,ints C),(11,.rs 192 0 64),(12,.rs 208 0 64),(13,.nilS),(14,.I i)],[(192,some ⟨1,cntR fun _=>0,0⟩),(208,some ⟨1,cntR fun _=>0,0⟩)],240⟩)
  (fun i=>i ≤ ends.length ∧ ∀ k (h : k < ends.length),k < i → ends[k] ∉ ends.take k) (fun i=>ends.length - i) 0 (by simp) (Le.keep rfl (Nat.le_refl _) (by simp) (by simp)) ?_
 rintro i ⟨hi,hq⟩
 refine awp_seq ?_
 refine rk (s:=?s11) [2,3,4,5,9,10,11,12,13,14,42] [192,208] rfl ?o11 ?q11
 case o11=>simp; rfl
 refine awp_cond _ rfl (fun h7=>?_) fun h7=>?_
 ·simp at h7
  have hw : IntKind.i64.wrap ((i : Int) + 1) = (i : Int) + 1:=w64 (by omega) (by omega)
  have htl : (ends.take i).length ≤ 140737488355328:=by rw [List.length_take]; omega
  refine awp_skip ?_
  refine awp_seq ?_
  refine awp_block ?_
  refine rkd (s:=?s12) [2,3,4,5,9,10,11,12,13,14,52] [192,208] rfl ?o12 ?q12
  case o12 =>
   simp [h7,hi]
   refine call0e (has24_ok (ends.take i) ends[i] htl) (by simp) ?_
   simp
   refine ⟨rfl,?_⟩
   rfl
  refine awp_cond _ rfl (fun h8=>?_) fun h8=>?_
  ·rw [decide_eq_true_eq] at h8
   refine rx (s:=?s13) [8] [] [] rfl ?o13 ?q13
   case o13=>simp; rfl
   refine awp_ret ?_
   have hn : ¬ ServesR g p.lv p.seeds O C P ends:=fun h=>nodup_take.1 h.2.1 i h7 h8
   exact ⟨.inr rfl,RetOk.one (by simp [hn])⟩
  rw [decide_eq_false_iff_not] at h8
  refine awp_skip ?_
  refine awp_run (s:=?s14) rfl ?o14 ?q14
  case o14=>simp; rfl
  refine ⟨i + 1,⟨h7,fun k hk hki=>?_⟩,by omega,Le.go [(192,192),(208,208)] [] rfl rfl (by simp [hw]) (by simp)⟩
  rcases Nat.lt_succ_iff_lt_or_eq.1 hki with h | rfl
  ·exact hq k hk h
  ·exact h8
 simp at h7
 have hnd : ends.Nodup:=nodup_take.2 fun k hk=>hq k hk (by omega)
 clear hq
 refine awp_exit ?_
 refine hit ?_
 refine awp_seq ?_
 refine rk (s:=?s15) [2,3,4,5,9,10,11,12,13,15] [192,208] rfl ?o15 ?q15
 case o15=>simp; rfl
 refine awp_block ?_
 obtain ⟨B,hB0,hBs,hBP,hBb⟩ : ∃ B : Nat → Int → Int,B 0 = (fun _=>0) ∧ (∀ i (h : i < P.length) k,B (i + 1) k = B i k + if P[i].head? = some k then 1 else 0) ∧ (∀ k,B P.length k = begC P k) ∧ (∀ i k,0 ≤ B i k ∧ B i k ≤ 100000) :=
  ⟨fun i k=>begC (P.take i) k,by funext k; simp [begC],fun i h k=>by simp only [begC_succ P i h k]; split <;> simp,fun k=>by simp,fun i k=>by have:=begC_len (P.take i) k; have:=List.length_take_le' i P; simp only; omega⟩
 obtain ⟨U,hU0,hUs,hUP,hUb⟩ : ∃ U : Nat → Int → Int,U 0 = (fun _=>0) ∧ (∀ i (h : i < P.length) k,U (i + 1) k = U i k + (P[i].dropLast.count k : Nat)) ∧ (∀ k,U P.length k = useC P k) ∧ (∀ i k,0 ≤ U i k ∧ U i k ≤ 10000000000) :=
  ⟨fun i k=>useC (P.take i) k,by funext k; simp [useC],fun i h k=>by simp only [useC_succ P i h k]; simp,fun k=>by simp,fun i k=>by
   have h1:=useC_len (P:=P.take i) (m:=100000) (fun x hx=>hPw x (List.mem_of_mem_take hx)) k
   have h2:=List.length_take_le' i P
   have h4 : 100000 * (P.take i).length ≤ 100000 * P.length:=Nat.mul_le_mul_left _ h2
   have h5 : 100000 * P.length ≤ 100000 * 100000:=Nat.mul_le_mul_left _ hP
   simp only
   omega⟩
 obtain ⟨L,hL0,hLs,hLP,hLl,hLsub⟩ : ∃ L : Nat → List Int,L 0 = [] ∧ (∀ i (h : i < P.length) (hne : P[i] ≠ []),L (i + 1) = L i ++ [P[i].getLast hne]) ∧ L P.length = lasts P ∧ (∀ i,(L i).length ≤ P.length) ∧ (∀ i,(L i).Sublist (lasts P)) :=
  ⟨fun i=>lasts (P.take i),by simp [lasts],fun i h hne=>lasts_succ P i h hne,by simp,fun i=>Nat.le_trans (List.length_filterMap_le ..) (List.length_take_le' i P),fun i=>(List.take_sublist i P).filterMap _⟩
 refine awp_loop (ι:=Nat) (fun i=>⟨144,[(2,pathsV P),(3,ints ends),(4,.pv (gC g)),(5,.pv (pC p)),(9,ints O),(10,ints C),(11,.rs 192 0 64),(12,.rs 208 0 64),(13,.rs 16 0 (L i).length),(15,.I i)],[(192,some ⟨1,cntR (B i),0⟩),(208,some ⟨1,cntR (U i),0⟩),(16,some ⟨1,rowsI (L i),0⟩)],280⟩)
  (fun i=>i ≤ P.length ∧ (∀ w ∈ P.take i,WalkP g p.lv p.seeds O w) ∧ (∀ k ∈ L i,k ∈ ends) ∧ (L i).Nodup) (fun i=>P.length - i) 0 (by simp [hL0]) (Le.lst [(192,192),(208,208)] [] [(16,1)] rfl (by simp) (by simp) (by simp) (by simp) (by simp) (by simp) (by simp) (by simp [Up,hL0]) (by simp [hB0,hU0,hL0])) ?_
 rintro i ⟨hi,hq1,hq2,hq3⟩
 have hLi:=hLl i
 refine awp_seq ?_
 refine rk (s:=?s17) [2,3,4,5,9,10,11,12,13,15,56] [192,208,16] rfl ?o17 ?q17
 case o17=>simp; rfl
 refine awp_cond _ rfl (fun h18=>?_) fun h18=>?_
 ·simp at h18
  have hw1 : IntKind.i64.wrap ((i : Int) + 1) = (i : Int) + 1:=w64 (by omega) (by omega)
  obtain ⟨w,hwd⟩ : ∃ w,w = P[i]:=⟨_,rfl⟩
  have hwl : w.length ≤ 100000:=by rw [hwd]; exact hPw _ (List.getElem_mem h18)
  refine awp_skip ?_
  refine awp_seq ?_
  refine awp_block ?_
  refine rk (s:=?s19) [2,3,4,5,9,10,11,12,13,15,16] [192,208,16] rfl ?o19 ?q19
  case o19=>simp [h18,← hwd]; rfl
  refine awp_seq ?_
  refine rk (s:=?s20) [2,3,4,5,9,10,11,12,13,15,16,68] [192,208,16] rfl ?o20 ?q20
  case o20 =>
   simp
   refine call0e (ref44_path_ok g p O w hl (by omega) (by omega) (by omega)) (by simp) ?_
   simp
   rfl
  refine awp_cond _ rfl (fun h21=>?_) fun h21=>?_
  ·refine rk (s:=?s22) [8] [] rfl ?o22 ?q22
   case o22=>simp; rfl
   refine awp_ret ?_
   have hn : ¬ ServesR g p.lv p.seeds O C P ends:=fun h=>by simp at h21; exact h21 (hwd ▸ h.2.2.1 _ (List.getElem_mem h18))
   exact ⟨.inr rfl,RetOk.one (by simp [hn])⟩
  simp at h21
  have hne : w ≠ []:=h21.ne
  have hpos : 0 < w.length:=List.length_pos_iff.2 hne
  have hk64 : ∀ j (h : j < w.length),0 ≤ w[j] ∧ w[j] < 64:=fun j h=>hor _ (h21.2.1 _ (List.getElem_mem h))
  have hwm : IntKind.i64.wrap ((w.length : Int) - 1) = ((w.length - 1 : Nat) : Int):=by rw [w64 (by omega) (by omega)]; omega
  obtain ⟨z,hz⟩ : ∃ z,z = w.getLast hne:=⟨_,rfl⟩
  have hgl : w[w.length - 1]'(by omega) = z:=by rw [hz]; exact (List.getLast_eq_getElem hne).symm
  have hLn : L (i + 1) = L i ++ [z]:=by
   have:=hLs i h18 (hwd ▸ hne)
   rw [this]
   congr 2
   rw [hz]
   congr 1
   exact hwd.symm
  have hti : ∀ f : Int → List AV,List.take (L i).length (List.map f (L i)) = List.map f (L i):=fun f=>List.take_of_length_le (by simp)
  refine awp_skip ?_
  refine rk (s:=?s23) [2,3,4,5,9,10,11,12,13,15,16,17] [192,208,16] rfl ?o23 ?q23
  case o23=>simp [hwm,hne,show w.length - 1 < w.length by omega,hgl]; rfl
  refine awp_seq ?_
  refine awp_regc ⟨144,[(2,pathsV P),(3,ints ends),(4,.pv (gC g)),(5,.pv (pC p)),(9,ints O),(10,ints C),(11,.rs 192 0 64),(12,.rs 208 0 64),(13,.rs 16 0 (L i).length),(15,.I i),(16,ints w),(17,.I z),(83,.B (decide (¬ (z ∈ ends ∧ z ∉ L i))))],[(192,some ⟨1,cntR (B i),0⟩),(208,some ⟨1,cntR (U i),0⟩),(16,some ⟨1,rowsI (L i),0⟩)],528⟩ rfl ?_ ?_
  ·simp
   refine call0e (has24_ok ends z (by omega)) (by simp) ?_
   simp
   by_cases hz1 : z ∈ ends
   ·simp [hz1]
    refine call0s [16] (has24_ok (L i) z (by omega)) (by simp [hti]) (.sc _) ?_
    simp
    exact Le.go [(192,192),(208,208),(16,16)] [] rfl rfl (by simp [hz1]) (by simp [fcd])
   ·simp [hz1]
    exact Le.go [(192,192),(208,208),(16,16)] [] rfl rfl (by simp [hz1]) (by simp [fcd])
  refine awp_cond _ rfl (fun h25=>?_) fun h25=>?_
  ·rw [decide_eq_true_eq] at h25
   refine rk (s:=?s26) [8] [] rfl ?o26 ?q26
   case o26=>simp; rfl
   refine awp_ret ?_
   have hsub:=hLsub (i + 1)
   have hn : ¬ ServesR g p.lv p.seeds O C P ends:=fun h=>by
    have hzm : z ∈ lasts P:=hsub.subset (by rw [hLn]; simp)
    refine h25 ⟨h.2.2.2.1 z hzm,fun hzL=>?_⟩
    have hd:=h.2.2.2.2.1.sublist hsub
    rw [hLn,List.nodup_append] at hd
    exact hd.2.2 z hzL z (by simp) rfl
   exact ⟨.inr rfl,RetOk.one (by simp [hn])⟩
  rw [decide_eq_false_iff_not,Decidable.not_not] at h25
  obtain ⟨k0,hk0,hk0'⟩ : ∃ k0 : Nat,w[0] = k0 ∧ k0 < 64:=⟨w[0].toNat,by have:=hk64 0 hpos; omega,by have:=hk64 0 hpos; omega⟩
  have hhd : w.head? = some (k0 : Int):=by rw [List.head?_eq_getElem?,List.getElem?_eq_getElem hpos,hk0]
  have hBk:=hBb i k0
  have hk0i : (k0 : Int) < 64:=by omega
  have hwB : IntKind.i64.wrap (B i k0 + 1) = B i k0 + 1:=w64 (by omega) (by omega)
  have hBn : (cntR (B i)).set k0 [AV.I (B i k0 + 1)] = cntR (B (i + 1)):=by
   rw [cntR_set]
   congr 1
   funext j
   rw [hBs i h18 j,← hwd,hhd]
   by_cases h : j = (k0 : Int)
   ·subst h; simp
   ·simp [h,Ne.symm h]
  refine awp_skip ?_
  refine awp_regc ⟨144,[(2,pathsV P),(3,ints ends),(4,.pv (gC g)),(5,.pv (pC p)),(9,ints O),(10,ints C),(11,.rs 192 0 64),(12,.rs 208 0 64),(13,.rs 16 0 (L (i + 1)).length),(15,.I i),(16,ints w)],[(192,some ⟨1,cntR (B i),0⟩),(208,some ⟨1,cntR (U i),0⟩),(16,some ⟨1,rowsI (L (i + 1)),0⟩)],568⟩ rfl ?_ ?_
  ·simp [hti]
   refine ⟨by omega,by omega,?_⟩
   exact Le.go [(192,192),(208,208),(552,16)] [] rfl rfl (by simp [hLn]) (by simp [hLn,fcd])
  refine awp_regc ⟨144,[(2,pathsV P),(3,ints ends),(4,.pv (gC g)),(5,.pv (pC p)),(9,ints O),(10,ints C),(11,.rs 192 0 64),(12,.rs 208 0 64),(13,.rs 16 0 (L (i + 1)).length),(15,.I i),(16,ints w)],[(192,some ⟨1,cntR (B (i + 1)),0⟩),(208,some ⟨1,cntR (U i),0⟩),(16,some ⟨1,rowsI (L (i + 1)),0⟩)],640⟩ rfl ?_ ?_
  ·simp [hpos,hk0,hk0i,hk0',hwB,hBn]
   exact Le.keep rfl (Nat.le_refl _) (by simp) (by simp)
  obtain ⟨d,hd⟩ : ∃ d,d = w.dropLast:=⟨_,rfl⟩
  have hdl : d.length = w.length - 1:=by rw [hd,List.length_dropLast]
  refine rk (s:=?s29) [2,3,4,5,9,10,11,12,13,15,16,18] [192,208,16] rfl ?o29 ?q29
  case o29=>simp; rfl
  refine awp_block ?_
  let V : Nat → Int → Int:=fun j k=>U i k + ((d.take j).count k : Nat)
  have hV0 : V 0 = U i:=by funext k; simp [V]
  refine awp_loop (ι:=Nat) (fun j=>⟨144,[(2,pathsV P),(3,ints ends),(4,.pv (gC g)),(5,.pv (pC p)),(9,ints O),(10,ints C),(11,.rs 192 0 64),(12,.rs 208 0 64),(13,.rs 16 0 (L (i + 1)).length),(15,.I i),(16,ints w),(18,.I j)],[(192,some ⟨1,cntR (B (i + 1)),0⟩),(208,some ⟨1,cntR (V j),0⟩),(16,some ⟨1,rowsI (L (i + 1)),0⟩)],648⟩)
   (fun j=>j ≤ d.length) (fun j=>d.length - j) 0 (Nat.zero_le _) (Le.keep rfl (Nat.le_refl _) (by simp) (by simp [hV0])) ?_
  intro j hj
  refine awp_seq ?_
  refine rk (s:=?s30) [2,3,4,5,9,10,11,12,13,15,16,18,100] [192,208,16] rfl ?o30 ?q30
  case o30=>simp [hwm]; rfl
  refine awp_cond _ rfl (fun h31=>?_) fun h31=>?_
  ·simp at h31
   have h31' : j < d.length:=by omega
   have hw2 : IntKind.i64.wrap ((j : Int) + 1) = (j : Int) + 1:=w64 (by omega) (by omega)
   have hjw : j < w.length:=by omega
   have hdj : d[j] = w[j]:=by simp [hd]
   obtain ⟨k1,hk1,hk1'⟩ : ∃ k1 : Nat,w[j] = k1 ∧ k1 < 64:=⟨w[j].toNat,by have:=hk64 j (by omega); omega,by have:=hk64 j (by omega); omega⟩
   have hk1i : (k1 : Int) < 64:=by omega
   have hVle : 0 ≤ V j k1 ∧ V j k1 ≤ 100000000000000:=by
    have h1:=hUb i k1
    have h3 : (d.take j).count (k1 : Int) ≤ d.length:=Nat.le_trans List.count_le_length (List.length_take_le' j d)
    simp only [V]
    omega
   have hwV : IntKind.i64.wrap (V j k1 + 1) = V j k1 + 1:=w64 (by omega) (by omega)
   have hVn : (cntR (V j)).set k1 [AV.I (V j k1 + 1)] = cntR (V (j + 1)):=by
    rw [cntR_set]
    congr 1
    funext k
    simp only [V]
    rw [count_take_succ d j h31' k,hdj,hk1]
    by_cases h : k = (k1 : Int)
    ·subst h; simp; omega
    ·simp [h,Ne.symm h]
   refine awp_skip ?_
   refine awp_seq ?_
   refine awp_block ?_
   refine awp_run (s:=?s31) rfl ?o31 ?q31
   case o31=>simp [hjw,hk1,hk1i,hk1',hwV,hVn]; rfl
   refine awp_run (s:=?s32) rfl ?o32 ?q32
   case o32=>simp; rfl
   exact ⟨j + 1,by omega,by omega,Le.go [(192,192),(208,208),(16,16)] [] rfl rfl (by simp [hw2]) (by simp [fcd])⟩
  simp at h31
  obtain rfl : j = d.length:=by omega
  have hVe : V d.length = U (i + 1):=by
   funext k
   simp only [V]
   rw [hUs i h18 k,← hwd,← hd,List.take_of_length_le (Nat.le_refl _)]
  refine awp_exit ?_
  refine hit ?_
  refine awp_run (s:=?s33) rfl ?o33 ?q33
  case o33=>simp; rfl
  refine ⟨i + 1,⟨h18,fun x hx=>?_,fun k hk=>?_,?_⟩,by omega,Le.go [(192,192),(208,208),(16,16)] [] rfl rfl (by simp [hw1]) (by simp [fcd,hVe])⟩
  ·rw [List.take_succ_eq_append_getElem h18] at hx
   rcases List.mem_append.1 hx with hx | hx
   ·exact hq1 x hx
   ·rw [List.mem_singleton] at hx
    rw [hx,← hwd]
    exact h21
  ·rw [hLn] at hk
   rcases List.mem_append.1 hk with hk | hk
   ·exact hq2 k hk
   ·rw [List.mem_singleton] at hk
    rw [hk]
    exact h25.1
  ·rw [hLn,List.nodup_append]
   refine ⟨hq3,by simp,fun x hx y hy=>?_⟩
   rw [List.mem_singleton] at hy
   subst hy
   rintro rfl
   exact h25.2 hx
 simp at h18
 obtain rfl : i = P.length:=by omega
 rw [hLP] at hq2 hq3 ⊢
 have hBf : B P.length = fun k=>(begC P k : Int):=funext hBP
 have hUf : U P.length = fun k=>(useC P k : Int):=funext hUP
 rw [hBf,hUf]
 have hq1' : ∀ w ∈ P,WalkP g p.lv p.seeds O w:=fun w hw=>hq1 w (by simpa using hw)
 refine awp_exit ?_
 refine hit ?_
 refine awp_seq ?_
 refine rk (s:=?s40) [10,11,12,19] [192,208] rfl ?o40 ?q40
 case o40=>simp; rfl
 refine awp_block ?_
 refine awp_loop (ι:=Nat) (fun k=>⟨144,[(10,ints C),(11,.rs 192 0 64),(12,.rs 208 0 64),(19,.I k)],[(192,some ⟨1,cntR fun k=>(begC P k : Int),0⟩),(208,some ⟨1,cntR fun k=>(useC P k : Int),0⟩)],320⟩)
  (fun k=>k ≤ C.length ∧ ∀ x,x < k → capAt C P x) (fun k=>C.length - k) 0 (by simp) (Le.keep rfl (Nat.le_refl _) (by simp) (by simp)) ?_
 rintro k ⟨hk,hq⟩
 refine awp_seq ?_
 refine awp_regc ⟨144,[(10,ints C),(11,.rs 192 0 64),(12,.rs 208 0 64),(19,.I k),(119,.B (decide (k < C.length)))],[(192,some ⟨1,cntR fun k=>(begC P k : Int),0⟩),(208,some ⟨1,cntR fun k=>(useC P k : Int),0⟩)],384⟩ rfl ?_ ?_
 ·simp
  by_cases hkC : k < C.length
  ·simp [hkC]
   exact Le.go [(192,192),(208,208)] [] rfl rfl (by simp [hkC]; exact wkB (by simp; omega)) (by simp)
  ·simp [hkC]
   exact Le.go [(192,192),(208,208)] [] rfl rfl (by simp [hkC]) (by simp)
 refine awp_cond _ rfl (fun h7=>?_) fun h7=>?_
 ·rw [decide_eq_true_eq] at h7
  have hw3 : IntKind.i64.wrap ((k : Int) + 1) = (k : Int) + 1:=w64 (by omega) (by omega)
  have hck:=hcb _ (List.getElem_mem h7)
  have hwc : IntKind.i64.wrap (C[k] - 1) = C[k] - 1:=w64 (by omega) (by omega)
  have hk64' : k < 64:=by omega
  have hk64i : (k : Int) < 64:=by omega
  have hcp : capAt C P k ↔ ((begC P k : Int) ≤ C[k] ∧ (useC P k : Int) ≤ max 0 (C[k] - 1)):=⟨fun h=>h h7,fun h _=>h⟩
  refine awp_skip ?_
  refine awp_seq ?_
  refine awp_block ?_
  refine awp_dregc ⟨144,[(10,ints C),(11,.rs 192 0 64),(12,.rs 208 0 64),(19,.I k),(143,.B (decide (¬ capAt C P k)))],[(192,some ⟨1,cntR fun k=>(begC P k : Int),0⟩),(208,some ⟨1,cntR fun k=>(useC P k : Int),0⟩)],700⟩ rfl ?_ ?_
  ·simp [hk64',hk64i,h7]
   refine gcase (fun hb=>?_) (fun hb=>?_) <;> (try rw [hb]) <;> (try simp at hb) <;> simp [hb,hk64',hk64i,h7,hwc]
   ·exact ⟨rfl,Le.go [(192,192),(208,208)] [] rfl rfl (by simp <;> exact wkB (by rw [Bool.eq_iff_iff]; simp [hcp]; omega)) (by simp)⟩
   ·exact ⟨rfl,Le.go [(192,192),(208,208)] [] rfl rfl (by simp <;> exact wkB (by rw [Bool.eq_iff_iff]; simp [hcp,hb]; split <;> omega)) (by simp)⟩
  refine awp_cond _ rfl (fun h8=>?_) fun h8=>?_
  ·rw [decide_eq_true_eq] at h8
   refine rk (s:=?s43) [8] [] rfl ?o43 ?q43
   case o43=>simp; rfl
   refine awp_ret ?_
   have hn : ¬ ServesR g p.lv p.seeds O C P ends:=fun h=>h8 (roomP_iff.1 h.2.2.2.2.2 k)
   exact ⟨.inr rfl,RetOk.one (by simp [hn])⟩
  rw [decide_eq_false_iff_not,Decidable.not_not] at h8
  refine awp_skip ?_
  refine awp_run (s:=?s44) rfl ?o44 ?q44
  case o44=>simp; rfl
  refine ⟨k + 1,⟨h7,fun x hx=>?_⟩,by omega,Le.go [(192,192),(208,208)] [] rfl rfl (by simp [hw3]) (by simp)⟩
  rcases Nat.lt_succ_iff_lt_or_eq.1 hx with h | rfl
  ·exact hq x h
  ·exact h8
 rw [decide_eq_false_iff_not] at h7
 have hy : ServesR g p.lv p.seeds O C P ends:=⟨hPE,hnd,hq1',hq2,hq3,roomP_iff.2 fun x hx=>hq x (by omega) hx⟩
 refine awp_exit ?_
 refine hit ?_
 refine rk (s:=?s45) [8] [] rfl ?o45 ?q45
 case o45=>simp; rfl
 refine awp_ret ?_
 exact ⟨.inr rfl,RetOk.one (by simp [hy])⟩
end Go.Proofs.YtlhjelookgjmpaaGreat
