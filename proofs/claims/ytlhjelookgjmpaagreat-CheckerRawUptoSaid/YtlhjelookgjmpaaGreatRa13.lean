/- Texts of this claim, merged. -/
import Derived.Test.YtlhjelookgjmpaaGreatRa12
import Derived.Test.YtlhjelookgjmpaaGreatRa11
import Derived.Test.YtlhjelookgjmpaaGreatRa7
set_option linter.unusedSimpArgs false
set_option linter.unusedVariables false
set_option linter.unusedSectionVars false
namespace Go.Proofs.YtlhjelookgjmpaaGreat
open Go
set_option maxRecDepth 100000 in
set_option maxHeartbeats 4000000 in
theorem ref14_Network_ok (g : Gr) (p : Pol) (sinks : List Int) (hg : GrOk g) (hp : PolOk g.size p) (hr : Rise sinks 0 (g.size - 1)) (hs : p.seeds.length ≤ 64) (hsl : sinks.length ≤ 64) :
    ACalls Tryz.prog nref14_Network [eG g, eP p, ints sinks] [] (.tup [eN ⟨2 + 2 * g.size, netArcs g p (capsL g p) sinks⟩, .I 0]) [] := by
  refine sref14_Network.acalls (Nat.le_of_ble_eq_true rfl) (Nat.le_of_ble_eq_true rfl) (Nat.le_refl _) ?_
  show awp _ 0 _ _ ⟨158, [(0, eG g), (1, eP p), (2, ints sinks)], [], 16⟩
  have hsz := hg.1.1
  have hsz2 := hg.1.2.1
  have hel := hg.edges_le
  have hgl := hg.gone_le
  have hchk := ref13_Check_ok g p (by omega) (by omega) (by omega) (by have := hp.2.2.2.1; omega)
  rw [if_pos hg, if_pos hp] at hchk
  have hcb := capsL_bound (g := g) hp
  have hcl : (capsL g p).length = g.size.toNat := capsL_len
  have hlev := ref11_Level_ok g p.lv (by omega) (by omega)
  rw [netArcs_flat]
  have hGe : ∀ e ∈ (levelG g p.lv).edges, e ∈ g.edges := fun e he => (List.mem_filter.1 he).1
  have hGl : (levelG g p.lv).edges.length ≤ 500 := Nat.le_trans (List.length_filter_le ..) hel
  have hall := ref12_All_ok (levelG g p.lv) p.seeds (hg.level p.lv) (by omega)
  have hcap := ref13_All_ok (levelG g p.lv) p (hg.level p.lv) (by omega)
  have hcc : capsL (levelG g p.lv) p = capsL g p := by unfold capsL; rw [levelG_twice]
  rw [hcc] at hcap
  have hDC : ∀ k : Nat, k < g.size.toNat → ∀ (h1 : k < (distL (levelG g p.lv) p.seeds).length) (h2 : k < (capsL g p).length), 0 ≤ (distL (levelG g p.lv) p.seeds)[k] ↔ 0 < (capsL g p)[k] := fun k hk h1 h2 => by
    have := capOf_pos hp (d := (distL (levelG g p.lv) p.seeds)[k])
    rw [← this]
    simp [capsL]
  have hDl : (distL (levelG g p.lv) p.seeds).length = g.size.toNat := by simp [distL, levelG]
  have hGs : (levelG g p.lv).size = g.size := rfl
  rw [hGs] at hall hcap
  rw [← hcl] at hcap
  rw [← hDl] at hall
  obtain ⟨C, hC⟩ : ∃ C, C = capsL g p := ⟨_, rfl⟩
  obtain ⟨D, hD⟩ : ∃ D, D = distL (levelG g p.lv) p.seeds := ⟨_, rfl⟩
  rw [← hC] at hcap hcl hcb ⊢
  rw [← hD] at hall hDl
  simp only [← hC, ← hD] at hDC
  have hDk : ∀ k : Nat, k < C.length → k < D.length := fun k hk => by omega
  have hDC' : ∀ (k : Nat) (h2 : k < C.length), 0 ≤ D[k]'(hDk k h2) ↔ 0 < C[k] := fun k h2 => hDC k (by omega) (hDk k h2) h2
  obtain ⟨G, hG⟩ : ∃ G, G = levelG g p.lv := ⟨_, rfl⟩
  rw [← hG] at hlev hGe hGl hall hcap hGs ⊢
  have hfit : ∀ e ∈ G.edges, (0 ≤ e.f ∧ e.f < g.size) ∧ (0 ≤ e.t ∧ e.t < g.size) := fun e he => by
    have := hg.fits e (hGe e he)
    unfold Fits at this
    omega
  have hkey : ∀ k : Int, 0 ≤ k → k < g.size → ∃ j : Nat, k = j ∧ j < C.length ∧ j < 64 := fun k h0 h1 => ⟨k.toNat, by omega, by omega, by omega⟩
  have hseed : ∀ k ∈ p.seeds, ∃ j : Nat, k = j ∧ j < C.length ∧ j < 64 := fun k hk => by
    obtain ⟨i, hi, rfl⟩ := List.getElem_of_mem hk
    have := hp.2.1 i hi
    exact hkey _ (by omega) (by omega)
  have hsink : ∀ k ∈ sinks, ∃ j : Nat, k = j ∧ j < C.length ∧ j < 64 := fun k hk => by
    obtain ⟨i, hi, rfl⟩ := List.getElem_of_mem hk
    have := hr i hi
    exact hkey _ (by omega) (by omega)
  have hw3 : IntKind.i64.wrap (2 * g.size) = 2 * g.size := w64 (by omega) (by omega)
  have hw4 : IntKind.i64.wrap (2 + 2 * g.size) = 2 + 2 * g.size := w64 (by omega) (by omega)
  refine awp_regc ⟨158, [(2, ints sinks), (3, .pt 16 0 0), (4, .pv (pC p)), (6, .pt 32 0 0)], [(16, some ⟨3, [gC g], 0⟩), (32, some ⟨2, [[.I 0, .nilS]], 0⟩)], 48⟩ rfl ?_ ?_
  · simp
    exact Le.go [(16, 16), (32, 32)] [24] rfl rfl (by simp) (by simp)
  refine awp_seq ?_
  refine rk (s := ?s2) [2, 3, 4, 6, 8] [16, 32] rfl ?o2 ?q2
  case o2 => simp; refine call0e hchk (by simp) ?_; simp; rfl
  refine rk (s := ?s3) [2, 3, 4, 6, 22] [16, 32] rfl ?o3 ?q3
  case o3 => simp; rfl
  refine awp_cond _ rfl (fun h4 => ?_) fun h4 => awp_skip ?_
  · simp at h4
  refine awp_seq ?_
  refine rk (s := ?s5) [2, 3, 4, 6, 29] [16, 32] rfl ?o5 ?q5
  case o5 => simp; refine call0e (ref11_Set_ok sinks g.size (by omega)) (by simp) ?_; simp [hr]; rfl
  refine awp_cond _ rfl (fun h6 => ?_) fun h6 => awp_skip ?_
  · simp at h6
  refine awp_regc ⟨158, [(2, ints sinks), (3, .pv (gC G)), (4, .pv (pC p)), (6, .pt 32 0 0)], [(32, some ⟨2, [[.I 0, .nilS]], 0⟩)], 176⟩ rfl ?_ ?_
  · simp
    refine call0e hlev (by simp) ?_
    simp
    exact Le.go [(32, 32)] [16] rfl rfl (by simp) (by simp)
  refine awp_dregc ⟨158, [(2, ints sinks), (3, .pv (gC G)), (4, .pv (pC p)), (6, .pt 32 0 0), (9, ints D), (10, ints C)], [(32, some ⟨2, [[.I 0, .nilS]], 0⟩)], 248⟩ rfl ?_ ?_
  · simp
    refine callN1 hall (by simp) ?_
    simp [Function.comp_def]
    refine callN1 hcap (by simp) ?_
    simp [Function.comp_def]
    exact ⟨rfl, Le.go [(32, 32)] [200, 224] rfl rfl (by simp [Function.comp_def, take_map_len]) (by simp)⟩
  refine rk (s := ?s7) [2, 3, 4, 6, 9, 10, 11] [32, 288] rfl ?o7 ?q7
  case o7 => simp [hGs, hw3, hw4]; rfl
  obtain ⟨N, hN⟩ : ∃ N : Int, N = 2 + 2 * g.size := ⟨_, rfl⟩
  simp only [← hN]
  have hb1 : (p.seeds.flatMap (arc1 C)).length ≤ 64 := Nat.le_trans (flat_len _ (arc1_len C) _) hs
  have hb2 : ((List.range C.length).flatMap (arc2 C)).length ≤ 64 := Nat.le_trans (flat_len _ (arc2_len C) _) (by rw [List.length_range]; omega)
  have hb3 : (sinks.flatMap (arc3 C)).length ≤ 64 := Nat.le_trans (flat_len _ (arc3_len C) _) hsl
  have hb4 : (G.edges.flatMap (arc4 C)).length ≤ 500 := Nat.le_trans (flat_len _ (arc4_len C) _) hGl
  obtain ⟨X1, hX1⟩ : ∃ X, X = p.seeds.flatMap (arc1 C) := ⟨_, rfl⟩
  obtain ⟨X2, hX2⟩ : ∃ X, X = (List.range C.length).flatMap (arc2 C) := ⟨_, rfl⟩
  obtain ⟨X3, hX3⟩ : ∃ X, X = sinks.flatMap (arc3 C) := ⟨_, rfl⟩
  obtain ⟨X4, hX4⟩ : ∃ X, X = G.edges.flatMap (arc4 C) := ⟨_, rfl⟩
  obtain ⟨Z2, hZ2⟩ : ∃ Z, Z = X1 ++ X2 := ⟨_, rfl⟩
  obtain ⟨Z3, hZ3⟩ : ∃ Z, Z = Z2 ++ X3 := ⟨_, rfl⟩
  obtain ⟨Z4, hZ4⟩ : ∃ Z, Z = Z3 ++ X4 := ⟨_, rfl⟩
  rw [← hX1] at hb1
  rw [← hX2] at hb2
  rw [← hX3] at hb3
  rw [← hX4] at hb4
  rw [← hX1, ← hX2, ← hX3, ← hX4, ← hZ2, ← hZ3, ← hZ4]
  have hz2 : Z2.length ≤ 128 := by rw [hZ2, List.length_append]; omega
  have hz3 : Z3.length ≤ 192 := by rw [hZ3, List.length_append]; omega
  refine awp_seq ?_
  refine rk (s := ?sa1) [2, 3, 4, 6, 9, 10, 11, 12] [32, 288] rfl ?oa1 ?qa1
  case oa1 => simp; rfl
  refine awp_block ?_
  obtain ⟨Fa, Fa0, Fas, Fal, FaN⟩ : ∃ F : Nat → List Ed, F 0 = [] ∧ (∀ i (h : i < (p.seeds).length), F (i + 1) = F i ++ arc1 C (p.seeds)[i]) ∧ (∀ i, (F i).length ≤ 64) ∧ F (p.seeds).length = (p.seeds).flatMap (arc1 C) :=
    ⟨fun i => ((p.seeds).take i).flatMap (arc1 C), by simp, fun i h => by simp only [flat_succ _ _ i h, List.append_assoc], fun i => by have := flat_take_len _ (arc1_len C) (p.seeds) i; exact Nat.le_trans this hs, by simp⟩
  rw [← hX1] at FaN
  refine awp_loop (ι := Nat) (fun i => ⟨158, [(2, ints sinks), (3, .pv (gC G)), (4, .pv (pC p)), (6, .pt 32 0 0), (9, ints D), (10, ints C), (11, .pt 288 0 0), (12, .I i)], [(32, some ⟨2, [[.I 0, .nilS]], 0⟩), (288, some (outV N 16 (Fa i).length)), (16, some ⟨3, rowsE (Fa i), 0⟩)], 312⟩) (fun i => i ≤ p.seeds.length) (fun i => p.seeds.length - i) 0 (Nat.zero_le _) (Le.lst [(32, 32), (288, 288)] [] [(16, 3)] rfl (by simp) (by simp) (by simp) (by simp) (by simp) (by simp) (by simp) (by simp [Up]) (by simp [Fa0]; refine ⟨EntUp.rfl' (by simp), EntUp.row rfl (by omega) (by simp [UpL, Up])⟩)) ?_
  intro i hi
  refine awp_seq ?_
  refine rk (s := ?sa2) [2, 3, 4, 6, 9, 10, 11, 12, 51] [32, 288, 16] rfl ?oa2 ?qa2
  case oa2 => simp; rfl
  refine awp_cond _ rfl (fun h7 => ?_) fun h7 => ?_
  · simp at h7
    have hw : IntKind.i64.wrap ((i : Int) + 1) = (i : Int) + 1 := w64 (by omega) (by omega)
    have hFi := Fal i
    obtain ⟨k, hk, hkC, hk64⟩ := hseed _ (List.getElem_mem h7)
    have hFn : Fa (i + 1) = Fa i ++ if 0 < C[k] then [⟨0, 2 + 2 * (k : Int), C[k]⟩] else [] := by
      rw [Fas i h7, hk]
      unfold arc1
      simp [hkC]
    have hkD := hDk _ hkC
    have hdc := hDC' _ hkC
    refine awp_skip ?_
    refine awp_cut (ι := Unit) (fun _ => ⟨158, [(2, ints sinks), (3, .pv (gC G)), (4, .pv (pC p)), (6, .pt 32 0 0), (9, ints D), (10, ints C), (11, .pt 288 0 0), (12, .I i)], [(32, some ⟨2, [[.I 0, .nilS]], 0⟩), (288, some (outV N 16 (Fa (i + 1)).length)), (16, some ⟨3, rowsE (Fa (i + 1)), 0⟩)], 800⟩) (fun _ => True) ?_ fun _ _ => ?_
    · refine awp_block ?_
      refine rk (s := ?sa3) [2, 3, 4, 6, 9, 10, 11, 12, 13] [32, 288, 16] rfl ?oa3 ?qa3
      case oa3 => simp [h7, hk]; rfl
      refine rk (s := ?sa4) [2, 3, 4, 6, 9, 10, 11, 12, 13, 63] [32, 288, 16] rfl ?oa4 ?qa4
      case oa4 => simp [hkD]; rfl
      refine awp_cond _ rfl (fun h8 => ?_) fun h8 => ?_
      · simp at h8
        rw [if_pos (hdc.1 h8)] at hFn
        have htl : ∀ f : Ed → List AV, List.take (Fa i).length (List.map f (Fa i)) = List.map f (Fa i) := fun f => List.take_of_length_le (by simp)
        refine awp_drw rfl ?_
        simp [hkC]
        refine call0e (ref14_Entry_ok k (by omega) (by omega)) (by simp) ?_
        simp [htl, hkC]
        refine ⟨by omega, by omega, ?_⟩
        exact ⟨rfl, Le.go [(32, 32), (288, 288), (520, 16)] [] rfl rfl (by simp [hFn]) (by simp [hFn, Function.comp_def])⟩
      · simp at h8
        rw [if_neg (by omega)] at hFn
        refine awp_skip ?_
        exact ⟨(), trivial, Le.go [(32, 32), (288, 288), (16, 16)] [] rfl rfl (by simp [hFn]) (by simp [hFn, Function.comp_def])⟩
    refine awp_run (s := ?sa9) rfl ?oa9 ?qa9
    case oa9 => simp; rfl
    exact ⟨i + 1, by omega, by omega, Le.go [(32, 32), (288, 288), (16, 16)] [] rfl rfl (by simp [hw]) (by simp [Function.comp_def])⟩
  simp at h7
  obtain rfl : i = p.seeds.length := by omega
  rw [FaN]
  refine awp_exit ?_
  refine hit ?_
  refine awp_seq ?_
  refine rk (s := ?sb1) [2, 3, 6, 9, 10, 11, 14] [32, 288, 16] rfl ?ob1 ?qb1
  case ob1 => simp; rfl
  refine awp_block ?_
  obtain ⟨Fb, Fb0, Fbs, Fbl, FbN⟩ : ∃ F : Nat → List Ed, F 0 = X1 ∧ (∀ i (h : i < (List.range C.length).length), F (i + 1) = F i ++ arc2 C (List.range C.length)[i]) ∧ (∀ i, (F i).length ≤ 200) ∧ F (List.range C.length).length = X1 ++ (List.range C.length).flatMap (arc2 C) :=
    ⟨fun i => X1 ++ ((List.range C.length).take i).flatMap (arc2 C), by simp, fun i h => by simp only [flat_succ _ _ i h, List.append_assoc], fun i => by have := flat_take_len _ (arc2_len C) (List.range C.length) i; rw [List.length_range] at this; rw [List.length_append]; omega, by simp⟩
  rw [List.length_range, ← hX2, ← hZ2] at FbN
  refine awp_loop (ι := Nat) (fun i => ⟨158, [(2, ints sinks), (3, .pv (gC G)), (6, .pt 32 0 0), (9, ints D), (10, ints C), (11, .pt 288 0 0), (14, .I i)], [(32, some ⟨2, [[.I 0, .nilS]], 0⟩), (288, some (outV N 16 (Fb i).length)), (16, some ⟨3, rowsE (Fb i), 0⟩)], 360⟩) (fun i => i ≤ C.length) (fun i => C.length - i) 0 (Nat.zero_le _) (Le.go [(32, 32), (288, 288), (16, 16)] [] rfl rfl (by simp [Fb0]) (by simp [Fb0, Function.comp_def])) ?_
  intro i hi
  refine awp_seq ?_
  refine rk (s := ?sb2) [2, 3, 6, 9, 10, 11, 14, 79] [32, 288, 16] rfl ?ob2 ?qb2
  case ob2 => simp; rfl
  refine awp_cond _ rfl (fun h7 => ?_) fun h7 => ?_
  · simp [hGs] at h7
    have hw : IntKind.i64.wrap ((i : Int) + 1) = (i : Int) + 1 := w64 (by omega) (by omega)
    have hFi := Fbl i
    have hkC : i < C.length := by omega
    have hFn : Fb (i + 1) = Fb i ++ if 0 < C[i] then [⟨2 + 2 * (i : Int), 3 + 2 * (i : Int), C[i] - 1⟩] else [] := by
      rw [Fbs i (by simpa using hkC)]
      unfold arc2
      simp [hkC]
    have hci := hcb _ (List.getElem_mem hkC)
    have hwc : IntKind.i64.wrap (C[i] - 1) = C[i] - 1 := w64 (by omega) (by omega)
    have hkD := hDk _ hkC
    have hdc := hDC' _ hkC
    refine awp_skip ?_
    refine awp_cut (ι := Unit) (fun _ => ⟨158, [(2, ints sinks), (3, .pv (gC G)), (6, .pt 32 0 0), (9, ints D), (10, ints C), (11, .pt 288 0 0), (14, .I i)], [(32, some ⟨2, [[.I 0, .nilS]], 0⟩), (288, some (outV N 16 (Fb (i + 1)).length)), (16, some ⟨3, rowsE (Fb (i + 1)), 0⟩)], 800⟩) (fun _ => True) ?_ fun _ _ => ?_
    · refine awp_block ?_
      refine rk (s := ?sb3) [2, 3, 6, 9, 10, 11, 14, 86] [32, 288, 16] rfl ?ob3 ?qb3
      case ob3 => simp [hkD]; rfl
      refine awp_cond _ rfl (fun h8 => ?_) fun h8 => ?_
      · simp at h8
        rw [if_pos (hdc.1 h8)] at hFn
        have htl : ∀ f : Ed → List AV, List.take (Fb i).length (List.map f (Fb i)) = List.map f (Fb i) := fun f => List.take_of_length_le (by simp)
        refine awp_drw rfl ?_
        simp [hkC, hwc]
        refine call0e (ref14_Entry_ok i (by omega) (by omega)) (by simp) ?_
        simp [htl, hkC, hwc]
        refine call0e (ref14_Exit_ok i (by omega) (by omega)) (by simp) ?_
        simp [htl, hkC, hwc]
        refine ⟨by omega, by omega, ?_⟩
        exact ⟨rfl, Le.go [(32, 32), (288, 288), (536, 16)] [] rfl rfl (by simp [hFn]) (by simp [hFn, Function.comp_def])⟩
      · simp at h8
        rw [if_neg (by omega)] at hFn
        refine awp_skip ?_
        exact ⟨(), trivial, Le.go [(32, 32), (288, 288), (16, 16)] [] rfl rfl (by simp [hFn]) (by simp [hFn, Function.comp_def])⟩
    refine awp_run (s := ?sb9) rfl ?ob9 ?qb9
    case ob9 => simp; rfl
    exact ⟨i + 1, by omega, by omega, Le.go [(32, 32), (288, 288), (16, 16)] [] rfl rfl (by simp [hw]) (by simp [Function.comp_def])⟩
  simp [hGs] at h7
  obtain rfl : i = C.length := by omega
  rw [FbN]
  refine awp_exit ?_
  refine hit ?_
  refine awp_seq ?_
  refine rk (s := ?sc1) [2, 3, 6, 9, 11, 15] [32, 288, 16] rfl ?oc1 ?qc1
  case oc1 => simp; rfl
  refine awp_block ?_
  obtain ⟨Fc, Fc0, Fcs, Fcl, FcN⟩ : ∃ F : Nat → List Ed, F 0 = Z2 ∧ (∀ i (h : i < (sinks).length), F (i + 1) = F i ++ arc3 C (sinks)[i]) ∧ (∀ i, (F i).length ≤ 300) ∧ F (sinks).length = Z2 ++ (sinks).flatMap (arc3 C) :=
    ⟨fun i => Z2 ++ ((sinks).take i).flatMap (arc3 C), by simp, fun i h => by simp only [flat_succ _ _ i h, List.append_assoc], fun i => by have := flat_take_len _ (arc3_len C) (sinks) i; simp only [List.length_append]; omega, by simp⟩
  rw [← hX3, ← hZ3] at FcN
  refine awp_loop (ι := Nat) (fun i => ⟨158, [(2, ints sinks), (3, .pv (gC G)), (6, .pt 32 0 0), (9, ints D), (11, .pt 288 0 0), (15, .I i)], [(32, some ⟨2, [[.I 0, .nilS]], 0⟩), (288, some (outV N 16 (Fc i).length)), (16, some ⟨3, rowsE (Fc i), 0⟩)], 400⟩) (fun i => i ≤ sinks.length) (fun i => sinks.length - i) 0 (Nat.zero_le _) (Le.go [(32, 32), (288, 288), (16, 16)] [] rfl rfl (by simp [Fc0]) (by simp [Fc0, Function.comp_def])) ?_
  intro i hi
  refine awp_seq ?_
  refine rk (s := ?sc2) [2, 3, 6, 9, 11, 15, 105] [32, 288, 16] rfl ?oc2 ?qc2
  case oc2 => simp; rfl
  refine awp_cond _ rfl (fun h7 => ?_) fun h7 => ?_
  · simp at h7
    have hw : IntKind.i64.wrap ((i : Int) + 1) = (i : Int) + 1 := w64 (by omega) (by omega)
    have hFi := Fcl i
    obtain ⟨k, hk, hkC, hk64⟩ := hsink _ (List.getElem_mem h7)
    have hFn : Fc (i + 1) = Fc i ++ if 0 < C[k] then [⟨2 + 2 * (k : Int), 1, 1⟩] else [] := by
      rw [Fcs i h7, hk]
      unfold arc3
      simp [hkC]
    have hkD := hDk _ hkC
    have hdc := hDC' _ hkC
    refine awp_skip ?_
    refine awp_cut (ι := Unit) (fun _ => ⟨158, [(2, ints sinks), (3, .pv (gC G)), (6, .pt 32 0 0), (9, ints D), (11, .pt 288 0 0), (15, .I i)], [(32, some ⟨2, [[.I 0, .nilS]], 0⟩), (288, some (outV N 16 (Fc (i + 1)).length)), (16, some ⟨3, rowsE (Fc (i + 1)), 0⟩)], 800⟩) (fun _ => True) ?_ fun _ _ => ?_
    · refine awp_block ?_
      refine rk (s := ?sc3) [2, 3, 6, 9, 11, 15, 115] [32, 288, 16] rfl ?oc3 ?qc3
      case oc3 => simp [h7, hk, hkD]; rfl
      refine awp_cond _ rfl (fun h8 => ?_) fun h8 => ?_
      · simp at h8
        rw [if_pos (hdc.1 h8)] at hFn
        have htl : ∀ f : Ed → List AV, List.take (Fc i).length (List.map f (Fc i)) = List.map f (Fc i) := fun f => List.take_of_length_le (by simp)
        refine awp_drw rfl ?_
        simp [h7, hk]
        refine call0e (ref14_Entry_ok k (by omega) (by omega)) (by simp) ?_
        simp [htl, h7, hk]
        refine ⟨by omega, by omega, ?_⟩
        exact ⟨rfl, Le.go [(32, 32), (288, 288), (568, 16)] [] rfl rfl (by simp [hFn]) (by simp [hFn, Function.comp_def])⟩
      · simp at h8
        rw [if_neg (by omega)] at hFn
        refine awp_skip ?_
        exact ⟨(), trivial, Le.go [(32, 32), (288, 288), (16, 16)] [] rfl rfl (by simp [hFn]) (by simp [hFn, Function.comp_def])⟩
    refine awp_run (s := ?sc9) rfl ?oc9 ?qc9
    case oc9 => simp; rfl
    exact ⟨i + 1, by omega, by omega, Le.go [(32, 32), (288, 288), (16, 16)] [] rfl rfl (by simp [hw]) (by simp [Function.comp_def])⟩
  simp at h7
  obtain rfl : i = sinks.length := by omega
  rw [FcN]
  refine awp_exit ?_
  refine hit ?_
  refine awp_seq ?_
  refine rk (s := ?sd1) [3, 6, 9, 11, 16] [32, 288, 16] rfl ?od1 ?qd1
  case od1 => simp; rfl
  refine awp_block ?_
  obtain ⟨Fd, Fd0, Fds, Fdl, FdN⟩ : ∃ F : Nat → List Ed, F 0 = Z3 ∧ (∀ i (h : i < (G.edges).length), F (i + 1) = F i ++ arc4 C (G.edges)[i]) ∧ (∀ i, (F i).length ≤ 900) ∧ F (G.edges).length = Z3 ++ (G.edges).flatMap (arc4 C) :=
    ⟨fun i => Z3 ++ ((G.edges).take i).flatMap (arc4 C), by simp, fun i h => by simp only [flat_succ _ _ i h, List.append_assoc], fun i => by have := flat_take_len _ (arc4_len C) (G.edges) i; simp only [List.length_append]; omega, by simp⟩
  rw [← hX4, ← hZ4] at FdN
  refine awp_loop (ι := Nat) (fun i => ⟨158, [(3, .pv (gC G)), (6, .pt 32 0 0), (9, ints D), (11, .pt 288 0 0), (16, .I i)], [(32, some ⟨2, [[.I 0, .nilS]], 0⟩), (288, some (outV N 16 (Fd i).length)), (16, some ⟨3, rowsE (Fd i), 0⟩)], 440⟩) (fun i => i ≤ G.edges.length) (fun i => G.edges.length - i) 0 (Nat.zero_le _) (Le.go [(32, 32), (288, 288), (16, 16)] [] rfl rfl (by simp [Fd0]) (by simp [Fd0, Function.comp_def])) ?_
  intro i hi
  refine awp_seq ?_
  refine rk (s := ?sd2) [3, 6, 9, 11, 16, 131] [32, 288, 16] rfl ?od2 ?qd2
  case od2 => simp; rfl
  refine awp_cond _ rfl (fun h7 => ?_) fun h7 => ?_
  · simp at h7
    have hw : IntKind.i64.wrap ((i : Int) + 1) = (i : Int) + 1 := w64 (by omega) (by omega)
    have hFi := Fdl i
    obtain ⟨x, hx⟩ : ∃ x, x = G.edges[i] := ⟨_, rfl⟩
    have hfx := hfit _ (List.getElem_mem h7)
    rw [← hx] at hfx
    obtain ⟨k, hk, hkC, hk64⟩ := hkey x.f hfx.1.1 hfx.1.2
    obtain ⟨u, hu, huC, hu64⟩ := hkey x.t hfx.2.1 hfx.2.2
    have hFn : Fd (i + 1) = Fd i ++ if 0 < C[k] then [⟨3 + 2 * (k : Int), 2 + 2 * (u : Int), 64⟩] else [] := by
      rw [Fds i h7, ← hx]
      unfold arc4
      rw [hk, hu]
      simp [hkC]
    have hkD := hDk _ hkC
    have hdc := hDC' _ hkC
    refine awp_skip ?_
    refine awp_cut (ι := Unit) (fun _ => ⟨158, [(3, .pv (gC G)), (6, .pt 32 0 0), (9, ints D), (11, .pt 288 0 0), (16, .I i)], [(32, some ⟨2, [[.I 0, .nilS]], 0⟩), (288, some (outV N 16 (Fd (i + 1)).length)), (16, some ⟨3, rowsE (Fd (i + 1)), 0⟩)], 800⟩) (fun _ => True) ?_ fun _ _ => ?_
    · refine awp_block ?_
      refine awp_regc ⟨158, [(3, .pv (gC G)), (6, .pt 32 0 0), (9, ints D), (11, .pt 288 0 0), (16, .I i), (17, .pv (eC x))], [(32, some ⟨2, [[.I 0, .nilS]], 0⟩), (288, some (outV N 16 (Fd i).length)), (16, some ⟨3, rowsE (Fd i), 0⟩)], 536⟩ rfl ?_ ?_
      · simp [h7, ← hx]
        exact Le.go [(32, 32), (288, 288), (16, 16)] [520] rfl rfl (by simp) (by simp [Function.comp_def])
      refine rk (s := ?sd4) [3, 6, 9, 11, 16, 17, 144] [32, 288, 16] rfl ?od4 ?qd4
      case od4 => simp [hk, hkD]; rfl
      refine awp_cond _ rfl (fun h8 => ?_) fun h8 => ?_
      · simp at h8
        rw [if_pos (hdc.1 h8)] at hFn
        have htl : ∀ f : Ed → List AV, List.take (Fd i).length (List.map f (Fd i)) = List.map f (Fd i) := fun f => List.take_of_length_le (by simp)
        refine awp_drw rfl ?_
        simp [hk, hu]
        refine call0e (ref14_Exit_ok k (by omega) (by omega)) (by simp) ?_
        simp [htl, hk, hu]
        refine call0e (ref14_Entry_ok u (by omega) (by omega)) (by simp) ?_
        simp [htl, hk, hu]
        refine ⟨by omega, by omega, ?_⟩
        exact ⟨rfl, Le.go [(32, 32), (288, 288), (664, 16)] [] rfl rfl (by simp [hFn]) (by simp [hFn, Function.comp_def])⟩
      · simp at h8
        rw [if_neg (by omega)] at hFn
        refine awp_skip ?_
        exact ⟨(), trivial, Le.go [(32, 32), (288, 288), (16, 16)] [] rfl rfl (by simp [hFn]) (by simp [hFn, Function.comp_def])⟩
    refine awp_run (s := ?sd9) rfl ?od9 ?qd9
    case od9 => simp; rfl
    exact ⟨i + 1, by omega, by omega, Le.go [(32, 32), (288, 288), (16, 16)] [] rfl rfl (by simp [hw]) (by simp [Function.comp_def])⟩
  simp at h7
  obtain rfl : i = G.edges.length := by omega
  rw [FdN]
  refine awp_exit ?_
  refine hit ?_
  refine rk (s := ?sz) [6, 7] [32, 16] rfl ?oz ?qz
  case oz => simp; rfl
  refine awp_ret ?_
  exact ⟨.inr rfl, RetOk.out [] [16] rfl (by simp) (by simp) (by simp [hN, Function.comp_def, take_map_len]) (by simp)⟩
end Go.Proofs.YtlhjelookgjmpaaGreat
namespace Go.Proofs.YtlhjelookgjmpaaGreat
open Go
instance (g : Gr) (lv f t : Int) : Decidable (EdgeAt g lv f t) := by unfold EdgeAt; infer_instance
theorem ref44_edge_ok (g : Gr) (lv f t : Int) (hl : g.edges.length ≤ 140737488355328) : ACalls Tryz.prog nref44_edge [eG g, .I lv, .I f, .I t] [] (.B (decide (EdgeAt g lv f t))) [] := by
  refine sref44_edge.acalls (Nat.le_of_ble_eq_true rfl) (Nat.le_of_ble_eq_true rfl) (Nat.le_refl _) ?_
  show awp _ 0 _ _ ⟨45, [(0, eG g), (1, .I lv), (2, .I f), (3, .I t)], [], 16⟩
  refine rx (s := ?s1) [1, 2, 3, 4] [] [16] rfl ?o1 ?q1
  case o1 => simp; rfl
  refine awp_seq ?_
  refine rx (s := ?s2) [1, 2, 3, 4, 9] [] [] rfl ?o2 ?q2
  case o2 => simp; rfl
  refine awp_block ?_
  refine awp_loop (ι := Nat) (fun i => ⟨45, [(1, .I lv), (2, .I f), (3, .I t), (4, .pv (gC g)), (9, .I i)], [], 40⟩) (fun i => i ≤ g.edges.length ∧ ∀ k (h : k < g.edges.length), k < i → ¬ (g.edges[k].f = f ∧ g.edges[k].t = t ∧ lv ≤ g.edges[k].v)) (fun i => g.edges.length - i) 0 (by simp) (Le.go [] [] rfl rfl (by simp) (by simp)) ?_
  rintro i ⟨hi, hp⟩
  refine awp_seq ?_
  refine rx (s := ?s3) [1, 2, 3, 4, 9, 14] [] [] rfl ?o3 ?q3
  case o3 => simp; rfl
  refine awp_cond _ rfl (fun h4 => ?_) fun h4 => ?_
  · simp at h4
    have hw : IntKind.i64.wrap ((i : Int) + 1) = (i : Int) + 1 := w64 (by omega) (by omega)
    refine awp_skip ?_
    refine awp_seq ?_
    refine awp_block ?_
    refine awp_regc ⟨45, [(1, .I lv), (2, .I f), (3, .I t), (4, .pv (gC g)), (9, .I i), (44, .B (decide (g.edges[i].f = f ∧ g.edges[i].t = t ∧ lv ≤ g.edges[i].v)))], [], 400⟩ rfl ?_ ?_
    · simp [h4]
      repeat' first
        | (refine gcase (fun hb => ?_) (fun hb => ?_) <;> (try rw [hb]) <;> (try simp at hb) <;> simp [hb, h4])
      all_goals exact Le.snap [] rfl rfl (by simp <;> exact wkB (by (try simp at *); grind))
    refine awp_cond _ rfl (fun h7 => ?_) fun h7 => ?_
    · rw [decide_eq_true_eq] at h7
      refine rx (s := ?s8) [8] [] [] rfl ?o8 ?q8
      case o8 => simp; rfl
      refine awp_ret ?_
      have hy : EdgeAt g lv f t := ⟨_, List.getElem_mem h4, h7⟩
      exact ⟨.inr rfl, RetOk.one (by simp [hy])⟩
    rw [decide_eq_false_iff_not] at h7
    refine awp_skip ?_
    refine awp_run (s := ?s9) rfl ?o9 ?q9
    case o9 => simp; rfl
    refine ⟨i + 1, ⟨h4, fun k hk hki => ?_⟩, by omega, Le.go [] [] rfl rfl (by simp [hw]) (by simp)⟩
    rcases Nat.lt_succ_iff_lt_or_eq.1 hki with h | rfl
    · exact hp k hk h
    · exact h7
  simp at h4
  have hn : ¬ EdgeAt g lv f t := by
    rintro ⟨e, he, h⟩
    obtain ⟨k, hk, rfl⟩ := List.getElem_of_mem he
    exact hp k hk (by omega) h
  refine awp_exit ?_
  refine hit ?_
  refine rx (s := ?s10) [8] [] [] rfl ?o10 ?q10
  case o10 => simp; rfl
  refine awp_ret ?_
  exact ⟨.inr rfl, RetOk.one (by simp [hn])⟩
def WalkB (g : Gr) (lv : Int) (order w : List Int) (i : Nat) : Prop := ∀ h : i < w.length, (w[i] ∈ order ∧ w[i] ∉ w.take i) ∧ (0 < i → EdgeAt g lv w[i - 1] w[i])
theorem walkB_iff {g : Gr} {lv : Int} {seeds order w : List Int} : WalkP g lv seeds order w ↔ (∃ k, w.head? = some k ∧ k ∈ seeds) ∧ ∀ i, WalkB g lv order w i := by
  rw [← walkC_iff]
  unfold WalkC WalkAt WalkB
  simp only [mem_outs_level]
open Classical in
theorem ref44_path_ok (g : Gr) (p : Pol) (order w : List Int) (hl : g.edges.length ≤ 140737488355328) (hs : p.seeds.length ≤ 140737488355328) (ho : order.length ≤ 140737488355328) (hwl : w.length ≤ 140737488355328) :
    ACalls Tryz.prog nref44_path [eG g, eP p, ints order, ints w] [] (.B (decide (WalkP g p.lv p.seeds order w))) [] := by
  refine sref44_path.acalls (Nat.le_of_ble_eq_true rfl) (Nat.le_of_ble_eq_true rfl) (Nat.le_refl _) ?_
  show awp _ 0 _ _ ⟨65, [(0, eG g), (1, eP p), (2, ints order), (3, ints w)], [], 16⟩
  refine rx (s := ?s1) [2, 3, 4, 5] [] [16, 24] rfl ?o1 ?q1
  case o1 => simp; rfl
  refine awp_seq ?_
  refine awp_dregc ⟨65, [(2, ints order), (3, ints w), (4, .pv (gC g)), (5, .pv (pC p)), (21, .B (decide (¬ ∃ k, w.head? = some k ∧ k ∈ p.seeds)))], [], 200⟩ rfl ?_ ?_
  · cases w with
    | nil => simp; exact ⟨rfl, Le.snap [] rfl rfl (by simp [ints, Wk.refl])⟩
    | cons a w =>
      have hz : ((w.length : Int) + 1 == 0) = false := by rw [beq_eq_false_iff_ne]; omega
      simp [hz]
      refine call0e (has24_ok p.seeds a hs) (by simp) ?_
      simp
      exact ⟨rfl, Le.snap [] rfl rfl (by simp [ints, Wk.refl])⟩
  refine awp_cond _ rfl (fun h3 => ?_) fun h3 => ?_
  · rw [decide_eq_true_eq] at h3
    refine rx (s := ?s4) [8] [] [] rfl ?o4 ?q4
    case o4 => simp; rfl
    refine awp_ret ?_
    have hn : ¬ WalkP g p.lv p.seeds order w := fun h => h3 (walkB_iff.1 h).1
    exact ⟨.inr rfl, RetOk.one (by simp [hn])⟩
  rw [decide_eq_false_iff_not, Decidable.not_not] at h3
  refine awp_skip ?_
  refine awp_seq ?_
  refine rx (s := ?s5) [2, 3, 4, 5, 9] [] [] rfl ?o5 ?q5
  case o5 => simp; rfl
  refine awp_block ?_
  refine awp_loop (ι := Nat) (fun i => ⟨65, [(2, ints order), (3, ints w), (4, .pv (gC g)), (5, .pv (pC p)), (9, .I i)], [], 208⟩) (fun i => i ≤ w.length ∧ ∀ k, k < i → WalkB g p.lv order w k) (fun i => w.length - i) 0 (by simp) (Le.go [] [] rfl rfl (by simp) (by simp)) ?_
  rintro i ⟨hi, hp⟩
  refine awp_seq ?_
  refine rx (s := ?s6) [2, 3, 4, 5, 9, 25] [] [] rfl ?o6 ?q6
  case o6 => simp; rfl
  refine awp_cond _ rfl (fun h4 => ?_) fun h4 => ?_
  · simp at h4
    have hw1 : IntKind.i64.wrap ((i : Int) + 1) = (i : Int) + 1 := w64 (by omega) (by omega)
    have hwp : 0 < i → IntKind.i64.wrap ((i : Int) - 1) = ((i - 1 : Nat) : Int) := fun h => by rw [w64 (by omega) (by omega)]; omega
    have h4' : i - 1 < w.length := by omega
    have htl : (w.take i).length ≤ 140737488355328 := by rw [List.length_take]; omega
    have hc := has24_ok (w.take i) w[i] htl
    have hWB : WalkB g p.lv order w i ↔ (w[i] ∈ order ∧ w[i] ∉ w.take i) ∧ (0 < i → EdgeAt g p.lv w[i - 1] w[i]) := ⟨fun h => h h4, fun h _ => h⟩
    refine awp_skip ?_
    refine awp_seq ?_
    refine awp_block ?_
    refine awp_dregc ⟨65, [(2, ints order), (3, ints w), (4, .pv (gC g)), (5, .pv (pC p)), (9, .I i), (64, .B (decide (¬ WalkB g p.lv order w i)))], [], 600⟩ rfl ?_ ?_
    · simp [h4]
      refine call0e (has24_ok order w[i] ho) (by simp) ?_
      simp [h4]
      by_cases hA : w[i] ∈ order
      · simp [hA, h4, hi]
        refine call0e hc (by simp) ?_
        simp
        by_cases hB : w[i] ∈ w.take i
        · simp [hB]
          exact ⟨rfl, Le.snap [] rfl rfl (by simp <;> exact wkB (by simp [hWB, hB]))⟩
        · simp [hB]
          by_cases hi0 : 0 < i
          · simp [hi0, h4, h4', hwp hi0]
            refine call0e (ref44_edge_ok ⟨g.size, g.edges, g.gone⟩ p.lv w[i - 1] w[i] hl) (by simp) ?_
            simp
            exact ⟨rfl, Le.snap [] rfl rfl (by simp <;> exact wkB (by simp [hWB, hA, hB, hi0]))⟩
          · simp [hi0]
            exact ⟨rfl, Le.snap [] rfl rfl (by simp <;> exact wkB (by simp [hWB, hA, hB, hi0]))⟩
      · simp [hA]
        exact ⟨rfl, Le.snap [] rfl rfl (by simp <;> exact wkB (by simp [hWB, hA]))⟩
    refine awp_cond _ rfl (fun h7 => ?_) fun h7 => ?_
    · rw [decide_eq_true_eq] at h7
      refine rx (s := ?s8) [8] [] [] rfl ?o8 ?q8
      case o8 => simp; rfl
      refine awp_ret ?_
      have hn : ¬ WalkP g p.lv p.seeds order w := fun h => h7 ((walkB_iff.1 h).2 i)
      exact ⟨.inr rfl, RetOk.one (by simp [hn])⟩
    rw [decide_eq_false_iff_not, Decidable.not_not] at h7
    refine awp_skip ?_
    refine awp_run (s := ?s9) rfl ?o9 ?q9
    case o9 => simp; rfl
    refine ⟨i + 1, ⟨h4, fun k hk => ?_⟩, by omega, Le.go [] [] rfl rfl (by simp [hw1]) (by simp)⟩
    rcases Nat.lt_succ_iff_lt_or_eq.1 hk with h | rfl
    · exact hp k h
    · exact h7
  simp at h4
  have hy : WalkP g p.lv p.seeds order w := walkB_iff.2 ⟨h3, fun k hk => hp k (by omega) hk⟩
  refine awp_exit ?_
  refine hit ?_
  refine rx (s := ?s10) [8] [] [] rfl ?o10 ?q10
  case o10 => simp; rfl
  refine awp_ret ?_
  exact ⟨.inr rfl, RetOk.one (by simp [hy])⟩
theorem ref44_reached_ok (g : Gr) (p : Pol) (hg : GrOk g) (hs : p.seeds.length ≤ 1099511627776) :
    ACalls Tryz.prog nref44_reached [eG g, eP p] [] (.rs 0 0 (ordL (levelG g p.lv) p.seeds).length) [some ⟨1, rowsI (ordL (levelG g p.lv) p.seeds), 0⟩] := by
  refine sref44_reached.acalls (Nat.le_of_ble_eq_true rfl) (Nat.le_of_ble_eq_true rfl) (Nat.zero_le _) ?_
  show awp _ 0 _ _ ⟨12, [(0, eG g), (1, eP p)], [], 16⟩
  have hel := hg.edges_le
  have hgl := hg.gone_le
  have hord := ref12_Order_ok (g := levelG g p.lv) (S := p.seeds) (hg.level p.lv) hs
  refine rx (s := ?s1) [2, 3] [] [16, 24] rfl ?o1 ?q1
  case o1 => simp; rfl
  refine rkd (s := ?s2) [4] [88] rfl ?o2 ?q2
  case o2 =>
    simp
    refine call0e (ref11_Level_ok g p.lv (by omega) (by omega)) (by simp) ?_
    simp
    refine callN1 hord (by simp) ?_
    simp [Function.comp_def]
    refine ⟨rfl, ?_⟩
    rfl
  refine awp_ret ?_
  exact ⟨.inr rfl, RetOk.out [88] [] rfl (by simp) (by simp) (by simp) (by simp [Function.comp_def])⟩
end Go.Proofs.YtlhjelookgjmpaaGreat
namespace Go.Proofs.YtlhjelookgjmpaaGreat
open Go
open Classical in
theorem ref44_ahead_ok (order l : List Int) (key : Int) (ho : order.length ≤ 1000000) (hl : l.length ≤ 140737488355328) :
    ACalls Tryz.prog nref44_ahead [ints order, ints l, .I key] [] (.B (decide (BeforeP order l key))) [] := by
  refine sref44_ahead.acalls (Nat.le_of_ble_eq_true rfl) (Nat.le_of_ble_eq_true rfl) (Nat.le_refl _) ?_
  show awp _ 0 _ _ ⟨54, [(0, ints order), (1, ints l), (2, .I key)], [], 16⟩
  refine rx (s := ?s1) [0, 1, 2] [] [] rfl ?o1 ?q1
  case o1 => simp; rfl
  refine rx (s := ?s2) [0, 1, 2, 7] [] [] rfl ?o2 ?q2
  case o2 => simp; rfl
  refine awp_seq ?_
  refine rx (s := ?s3) [0, 1, 2, 7, 8] [] [] rfl ?o3 ?q3
  case o3 => simp; rfl
  refine awp_block ?_
  refine awp_loop (ι := Nat × Nat) (fun x => ⟨54, [(0, ints order), (1, ints l), (2, .I key), (7, .I x.2), (8, .I x.1)], [], 40⟩)
    (fun x => x.1 ≤ l.length ∧ x.2 ≤ order.length ∧ (BeforeP order l key ↔ (l.drop x.1).Sublist (aheadO (order.drop x.2) key))) (fun x => l.length - x.1) (0, 0) ⟨Nat.zero_le _, Nat.zero_le _, by unfold BeforeP; simp⟩ (Le.go [] [] rfl rfl (by simp) (by simp)) ?_
  rintro ⟨i, a⟩ ⟨hi, ha, hq⟩
  simp only at hi ha hq
  refine awp_seq ?_
  refine rx (s := ?s4) [0, 1, 2, 7, 8, 12] [] [] rfl ?o4 ?q4
  case o4 => simp; rfl
  refine awp_cond _ rfl (fun h5 => ?_) fun h5 => ?_
  · simp at h5
    have hw1 : IntKind.i64.wrap ((i : Int) + 1) = (i : Int) + 1 := w64 (by omega) (by omega)
    rw [List.drop_eq_getElem_cons h5] at hq
    refine awp_skip ?_
    refine awp_seq ?_
    refine awp_block ?_
    refine awp_cut (ι := Nat) (fun b => ⟨54, [(0, ints order), (1, ints l), (2, .I key), (7, .I b), (8, .I i)], [], 500⟩)
      (fun b => b ≤ order.length ∧ (BeforeP order l key ↔ (l[i] :: l.drop (i + 1)).Sublist (aheadO (order.drop b) key)) ∧ ∀ h : b < order.length, order[b] = l[i] ∨ order[b] = key) ?_ fun b hb => ?_
    · refine awp_block ?_
      refine awp_loop (ι := Nat) (fun b => ⟨54, [(0, ints order), (1, ints l), (2, .I key), (7, .I b), (8, .I i)], [], 72⟩)
        (fun b => b ≤ order.length ∧ (BeforeP order l key ↔ (l[i] :: l.drop (i + 1)).Sublist (aheadO (order.drop b) key))) (fun b => order.length - b) a ⟨ha, hq⟩ (Le.go [] [] rfl rfl (by simp) (by simp)) ?_
      rintro b ⟨hb, hqb⟩
      have hw2 : b < order.length → IntKind.i64.wrap ((b : Int) + 1) = (b : Int) + 1 := fun h => w64 (by omega) (by omega)
      refine awp_seq ?_
      refine awp_dregc ⟨54, [(0, ints order), (1, ints l), (2, .I key), (7, .I b), (8, .I i), (37, .B (decide (∃ h : b < order.length, order[b] ≠ l[i] ∧ order[b] ≠ key)))], [], 400⟩ rfl ?_ ?_
      · by_cases hb1 : b < order.length
        · simp [hb1, h5]
          repeat' first
            | (refine gcase (fun hb => ?_) (fun hb => ?_) <;> (try rw [hb]) <;> (try simp at hb) <;> simp [hb, hb1, h5])
          all_goals exact ⟨rfl, Le.snap [] rfl rfl (by simp <;> exact wkB (by (try simp at *); grind))⟩
        · have hno : ¬ ∃ h : b < order.length, order[b] ≠ l[i] ∧ order[b] ≠ key := fun ⟨h, _⟩ => hb1 h
          rw [decide_eq_false hno]
          simp [hb1]
          exact ⟨rfl, Le.snap [] rfl rfl (by simp)⟩
      refine awp_cond _ rfl (fun h7 => ?_) fun h7 => ?_
      · rw [decide_eq_true_eq] at h7
        obtain ⟨hb1, hb2, hb3⟩ := h7
        refine awp_skip ?_
        refine awp_block ?_
        refine awp_run (s := ?s6) rfl ?o6 ?q6
        case o6 => simp; rfl
        refine ⟨b + 1, ⟨hb1, ?_⟩, by omega, Le.go [] [] rfl rfl (by simp [hw2 hb1]) (by simp)⟩
        rw [hqb, List.drop_eq_getElem_cons hb1, aheadO_cons, if_neg hb3, sub_cons_iff, if_neg hb2]
      · rw [decide_eq_false_iff_not] at h7
        refine awp_exit ?_
        refine hit ?_
        refine ⟨b, ⟨hb, hqb, fun h => ?_⟩, Le.go [] [] rfl rfl (by simp) (by simp)⟩
        by_cases h1 : order[b] = l[i]
        · exact .inl h1
        · by_cases h2 : order[b] = key
          · exact .inr h2
          · exact absurd ⟨h, h1, h2⟩ h7
    obtain ⟨hb0, hqb, hst⟩ := hb
    refine awp_seq ?_
    refine awp_regc ⟨54, [(0, ints order), (1, ints l), (2, .I key), (7, .I b), (8, .I i), (51, .B (decide (b = order.length ∨ ∃ h : b < order.length, order[b] = key)))], [], 700⟩ rfl ?_ ?_
    · by_cases hb1 : b < order.length
      · simp [hb1]
        repeat' first
          | (refine gcase (fun hb => ?_) (fun hb => ?_) <;> (try rw [hb]) <;> (try simp at hb) <;> simp [hb, hb1])
        all_goals exact Le.snap [] rfl rfl (by simp <;> exact wkB (by (try simp at *); grind))
      · obtain rfl : b = order.length := by omega
        simp
        exact Le.snap [] rfl rfl (by simp)
    refine awp_cond _ rfl (fun h8 => ?_) fun h8 => ?_
    · rw [decide_eq_true_eq] at h8
      refine rx (s := ?s9) [6] [] [] rfl ?o9 ?q9
      case o9 => simp; rfl
      refine awp_ret ?_
      have hn : ¬ BeforeP order l key := by
        rw [hqb]
        rcases h8 with rfl | ⟨hb1, hb2⟩
        · rw [List.drop_length, aheadO_nil]; simp; exact h5
        · rw [List.drop_eq_getElem_cons hb1, aheadO_cons, if_pos hb2]; simp; exact h5
      exact ⟨.inr rfl, RetOk.one (by simp [hn])⟩
    rw [decide_eq_false_iff_not] at h8
    have hb1 : b < order.length := by
      rcases Nat.lt_or_eq_of_le hb0 with h | h
      · exact h
      · exact absurd (.inl h) h8
    have hb2 : order[b] ≠ key := fun h => h8 (.inr ⟨hb1, h⟩)
    have hb3 : order[b] = l[i] := (hst hb1).resolve_right hb2
    have hw3 : IntKind.i64.wrap ((b : Int) + 1) = (b : Int) + 1 := w64 (by omega) (by omega)
    refine awp_skip ?_
    refine awp_run (s := ?s10) rfl ?o10 ?q10
    case o10 => simp; rfl
    refine awp_run (s := ?s11) rfl ?o11 ?q11
    case o11 => simp; rfl
    refine ⟨(i + 1, b + 1), ⟨h5, hb1, ?_⟩, by simp only; omega, Le.go [] [] rfl rfl (by simp [hw1, hw3]) (by simp)⟩
    simp only
    rw [hqb, List.drop_eq_getElem_cons hb1, aheadO_cons, if_neg hb2, sub_cons_iff, if_pos hb3]
  simp at h5
  obtain rfl : i = l.length := by omega
  have hy : BeforeP order l key := hq.2 (by simp)
  refine awp_exit ?_
  refine hit ?_
  refine rx (s := ?s12) [6] [] [] rfl ?o12 ?q12
  case o12 => simp; rfl
  refine awp_ret ?_
  exact ⟨.inr rfl, RetOk.one (by simp [hy])⟩
end Go.Proofs.YtlhjelookgjmpaaGreat
namespace Go.Proofs.YtlhjelookgjmpaaGreat
open Go
def cntR (f : Int → Int) : List (List AV) := (List.range 64).map fun (k : Nat) => [AV.I (f (k : Int))]
@[simp] theorem cntR_len (f : Int → Int) : (cntR f).length = 64 := by simp [cntR]
theorem cntR_zero : cntR (fun _ => 0) = List.replicate 64 [AV.I 0] := by simp [cntR, List.map_const']
@[simp] theorem cntR_at {f : Int → Int} {k : Nat} (h : k < (cntR f).length) : (cntR f)[k] = [AV.I (f k)] := by simp [cntR]
theorem cntR_set (f : Int → Int) {k : Nat} (v : Int) : (cntR f).set k [AV.I v] = cntR fun j => if j = k then v else f j := by
  apply List.ext_getElem?
  intro i
  rw [List.getElem?_set]
  by_cases h : k = i
  · subst h
    rw [if_pos rfl]
    by_cases hk : k < 64
    · rw [if_pos (by rw [cntR_len]; exact hk)]
      simp [cntR, hk]
    · rw [if_neg (by rw [cntR_len]; exact hk)]
      simp [cntR, hk]
  · rw [if_neg h]
    unfold cntR
    simp only [List.getElem?_map]
    by_cases hi : i < 64
    · simp [hi, show ¬ ((i : Int) = k) by omega]
    · simp [hi]
@[simp] theorem conv_cntR {ρ : List (Nat × Nat)} {sn : List Nat} {h : Nat → Option Ent} {f : Int → Int} : (cntR f).map (·.map (conv ρ sn h 4)) = cntR f := by
  unfold cntR
  rw [List.map_map]
  rfl
@[simp] theorem entUp_cntR {nl : List (Nat × Nat)} {f : Int → Int} : EntUp nl ⟨1, cntR f, 0⟩ ⟨1, cntR f, 0⟩ := EntUp.rfl' (Nat.zero_le _)
def PathsR (g : Gr) (p : Pol) (P : List (List Int)) (ends : List Int) : Prop :=
  (GrOk g ∧ PolOk g.size p) ∧ ServesR g p.lv p.seeds (ordL (levelG g p.lv) p.seeds) (capsL g p) P ends
set_option maxRecDepth 100000 in
set_option maxHeartbeats 4000000 in
open Classical in
theorem ref44_Paths_ok (g : Gr) (p : Pol) (P : List (List Int)) (ends : List Int) (hl : g.edges.length ≤ 140737488355328) (hl2 : g.gone.length ≤ 140737488355328) (hs : p.seeds.length ≤ 1099511627776) (ht : p.table.length ≤ 140737488355328)
    (hP : P.length ≤ 100000) (hPw : ∀ w ∈ P, w.length ≤ 100000) (hE : ends.length ≤ 1099511627776) :
    ACalls Tryz.prog nref44_Paths [eG g, eP p, pathsV P, ints ends] [] (.B (decide (PathsR g p P ends))) [] := by
  refine sref44_Paths.acalls (Nat.le_of_ble_eq_true rfl) (Nat.le_of_ble_eq_true rfl) (Nat.le_refl _) ?_
  show awp _ 0 _ _ ⟨144, [(0, eG g), (1, eP p), (2, pathsV P), (3, ints ends)], [], 16⟩
  have hchk := ref13_Check_ok g p hl hl2 (by omega) ht
  refine rx (s := ?s1) [2, 3, 4, 5] [] [16, 24] rfl ?o1 ?q1
  case o1 => simp; rfl
  refine awp_seq ?_
  refine awp_regc ⟨144, [(2, pathsV P), (3, ints ends), (4, .pv (gC g)), (5, .pv (pC p)), (30, .B (decide (¬ ((GrOk g ∧ PolOk g.size p) ∧ P.length = ends.length))))], [], 128⟩ rfl ?_ ?_
  · by_cases hg : GrOk g
    · by_cases hp : PolOk g.size p
      · rw [if_pos hg, if_pos hp] at hchk
        simp
        refine call0e hchk (by simp) ?_
        simp
        exact Le.snap [] rfl rfl (by simp [hg, hp] <;> exact wkB (by rw [Bool.eq_iff_iff]; simp; omega))
      · rw [if_pos hg, if_neg hp] at hchk
        simp
        refine call0e hchk (by simp) ?_
        simp
        exact Le.snap [] rfl rfl (by simp [hp])
    · rw [if_neg hg] at hchk
      simp
      refine call0e hchk (by simp) ?_
      simp
      exact Le.snap [] rfl rfl (by simp [hg])
  refine awp_cond _ rfl (fun h3 => ?_) fun h3 => ?_
  · rw [decide_eq_true_eq] at h3
    refine rx (s := ?s4) [8] [] [] rfl ?o4 ?q4
    case o4 => simp; rfl
    refine awp_ret ?_
    have hn : ¬ PathsR g p P ends := fun h => h3 ⟨h.1, h.2.1⟩
    exact ⟨.inr rfl, RetOk.one (by simp [hn])⟩
  rw [decide_eq_false_iff_not, Decidable.not_not] at h3
  obtain ⟨⟨hg, hp⟩, hPE⟩ := h3
  have hsz := hg.1.1
  have hsz2 := hg.1.2.1
  have hel := hg.edges_le
  have hre := ref44_reached_ok g p hg hs
  have hcap := ref13_All_ok g p hg hs
  have hcb := capsL_bound (g := g) hp
  have hcl : (capsL g p).length = g.size.toNat := capsL_len
  rw [← hcl] at hcap
  have hol := ordL_len (g := levelG g p.lv) (S := p.seeds) hsz
  have hor : ∀ k ∈ ordL (levelG g p.lv) p.seeds, 0 ≤ k ∧ k < 64 := fun k hk => by have := ordL_range hk; have : (levelG g p.lv).size = g.size := rfl; omega
  have hPR : PathsR g p P ends ↔ ServesR g p.lv p.seeds (ordL (levelG g p.lv) p.seeds) (capsL g p) P ends := ⟨fun h => h.2, fun h => ⟨⟨hg, hp⟩, h⟩⟩
  rw [show (levelG g p.lv).size = g.size from rfl] at hol
  obtain ⟨O, hO⟩ : ∃ O, O = ordL (levelG g p.lv) p.seeds := ⟨_, rfl⟩
  obtain ⟨C, hC⟩ : ∃ C, C = capsL g p := ⟨_, rfl⟩
  rw [← hO] at hre hol hor hPR
  rw [← hC] at hcap hcb hcl hPR
  simp only [hPR]
  refine awp_skip ?_
  refine awp_regc ⟨144, [(2, pathsV P), (3, ints ends), (4, .pv (gC g)), (5, .pv (pC p)), (9, ints O)], [], 160⟩ rfl ?_ ?_
  · simp
    refine callN1 hre (by simp) ?_
    simp [Function.comp_def]
    exact Le.snap [144] rfl rfl (by simp [Function.comp_def, take_map_len])
  refine awp_regc ⟨144, [(2, pathsV P), (3, ints ends), (4, .pv (gC g)), (5, .pv (pC p)), (9, ints O), (10, ints C)], [], 192⟩ rfl ?_ ?_
  · simp
    refine callN1 hcap (by simp) ?_
    simp [Function.comp_def]
    exact Le.snap [176] rfl rfl (by simp [Function.comp_def, take_map_len])
  refine awp_regc ⟨144, [(2, pathsV P), (3, ints ends), (4, .pv (gC g)), (5, .pv (pC p)), (9, ints O), (10, ints C), (11, .rs 192 0 64)], [(192, some ⟨1, cntR fun _ => 0, 0⟩)], 208⟩ rfl ?_ ?_
  · rw [cntR_zero]
    simp
    exact Le.keep rfl (Nat.le_refl _) (by simp) (by simp)
  refine awp_regc ⟨144, [(2, pathsV P), (3, ints ends), (4, .pv (gC g)), (5, .pv (pC p)), (9, ints O), (10, ints C), (11, .rs 192 0 64), (12, .rs 208 0 64)], [(192, some ⟨1, cntR fun _ => 0, 0⟩), (208, some ⟨1, cntR fun _ => 0, 0⟩)], 224⟩ rfl ?_ ?_
  · rw [cntR_zero]
    simp
    exact Le.keep rfl (Nat.le_refl _) (by simp) (by simp)
  refine rk (s := ?s9) [2, 3, 4, 5, 9, 10, 11, 12, 13] [192, 208] rfl ?o9 ?q9
  case o9 => simp; rfl
  refine awp_seq ?_
  refine rk (s := ?s10) [2, 3, 4, 5, 9, 10, 11, 12, 13, 14] [192, 208] rfl ?o10 ?q10
  case o10 => simp; rfl
  refine awp_block ?_
  refine awp_loop (ι := Nat) (fun i => ⟨144, [(2, pathsV P), (3, ints ends), (4, .pv (gC g)), (5, .pv (pC p)), (9, ints O), (10, ints C), (11, .rs 192 0 64), (12, .rs 208 0 64), (13, .nilS), (14, .I i)], [(192, some ⟨1, cntR fun _ => 0, 0⟩), (208, some ⟨1, cntR fun _ => 0, 0⟩)], 240⟩)
    (fun i => i ≤ ends.length ∧ ∀ k (h : k < ends.length), k < i → ends[k] ∉ ends.take k) (fun i => ends.length - i) 0 (by simp) (Le.keep rfl (Nat.le_refl _) (by simp) (by simp)) ?_
  rintro i ⟨hi, hq⟩
  refine awp_seq ?_
  refine rk (s := ?s11) [2, 3, 4, 5, 9, 10, 11, 12, 13, 14, 42] [192, 208] rfl ?o11 ?q11
  case o11 => simp; rfl
  refine awp_cond _ rfl (fun h7 => ?_) fun h7 => ?_
  · simp at h7
    have hw : IntKind.i64.wrap ((i : Int) + 1) = (i : Int) + 1 := w64 (by omega) (by omega)
    have htl : (ends.take i).length ≤ 140737488355328 := by rw [List.length_take]; omega
    refine awp_skip ?_
    refine awp_seq ?_
    refine awp_block ?_
    refine rkd (s := ?s12) [2, 3, 4, 5, 9, 10, 11, 12, 13, 14, 52] [192, 208] rfl ?o12 ?q12
    case o12 =>
      simp [h7, hi]
      refine call0e (has24_ok (ends.take i) ends[i] htl) (by simp) ?_
      simp
      refine ⟨rfl, ?_⟩
      rfl
    refine awp_cond _ rfl (fun h8 => ?_) fun h8 => ?_
    · rw [decide_eq_true_eq] at h8
      refine rx (s := ?s13) [8] [] [] rfl ?o13 ?q13
      case o13 => simp; rfl
      refine awp_ret ?_
      have hn : ¬ ServesR g p.lv p.seeds O C P ends := fun h => nodup_take.1 h.2.1 i h7 h8
      exact ⟨.inr rfl, RetOk.one (by simp [hn])⟩
    rw [decide_eq_false_iff_not] at h8
    refine awp_skip ?_
    refine awp_run (s := ?s14) rfl ?o14 ?q14
    case o14 => simp; rfl
    refine ⟨i + 1, ⟨h7, fun k hk hki => ?_⟩, by omega, Le.go [(192, 192), (208, 208)] [] rfl rfl (by simp [hw]) (by simp)⟩
    rcases Nat.lt_succ_iff_lt_or_eq.1 hki with h | rfl
    · exact hq k hk h
    · exact h8
  simp at h7
  have hnd : ends.Nodup := nodup_take.2 fun k hk => hq k hk (by omega)
  clear hq
  refine awp_exit ?_
  refine hit ?_
  refine awp_seq ?_
  refine rk (s := ?s15) [2, 3, 4, 5, 9, 10, 11, 12, 13, 15] [192, 208] rfl ?o15 ?q15
  case o15 => simp; rfl
  refine awp_block ?_
  obtain ⟨B, hB0, hBs, hBP, hBb⟩ : ∃ B : Nat → Int → Int, B 0 = (fun _ => 0) ∧ (∀ i (h : i < P.length) k, B (i + 1) k = B i k + if P[i].head? = some k then 1 else 0) ∧ (∀ k, B P.length k = begC P k) ∧ (∀ i k, 0 ≤ B i k ∧ B i k ≤ 100000) :=
    ⟨fun i k => begC (P.take i) k, by funext k; simp [begC], fun i h k => by simp only [begC_succ P i h k]; split <;> simp, fun k => by simp, fun i k => by have := begC_len (P.take i) k; have := List.length_take_le' i P; simp only; omega⟩
  obtain ⟨U, hU0, hUs, hUP, hUb⟩ : ∃ U : Nat → Int → Int, U 0 = (fun _ => 0) ∧ (∀ i (h : i < P.length) k, U (i + 1) k = U i k + (P[i].dropLast.count k : Nat)) ∧ (∀ k, U P.length k = useC P k) ∧ (∀ i k, 0 ≤ U i k ∧ U i k ≤ 10000000000) :=
    ⟨fun i k => useC (P.take i) k, by funext k; simp [useC], fun i h k => by simp only [useC_succ P i h k]; simp, fun k => by simp, fun i k => by
      have h1 := useC_len (P := P.take i) (m := 100000) (fun x hx => hPw x (List.mem_of_mem_take hx)) k
      have h2 := List.length_take_le' i P
      have h4 : 100000 * (P.take i).length ≤ 100000 * P.length := Nat.mul_le_mul_left _ h2
      have h5 : 100000 * P.length ≤ 100000 * 100000 := Nat.mul_le_mul_left _ hP
      simp only
      omega⟩
  obtain ⟨L, hL0, hLs, hLP, hLl, hLsub⟩ : ∃ L : Nat → List Int, L 0 = [] ∧ (∀ i (h : i < P.length) (hne : P[i] ≠ []), L (i + 1) = L i ++ [P[i].getLast hne]) ∧ L P.length = lasts P ∧ (∀ i, (L i).length ≤ P.length) ∧ (∀ i, (L i).Sublist (lasts P)) :=
    ⟨fun i => lasts (P.take i), by simp [lasts], fun i h hne => lasts_succ P i h hne, by simp, fun i => Nat.le_trans (List.length_filterMap_le ..) (List.length_take_le' i P), fun i => (List.take_sublist i P).filterMap _⟩
  refine awp_loop (ι := Nat) (fun i => ⟨144, [(2, pathsV P), (3, ints ends), (4, .pv (gC g)), (5, .pv (pC p)), (9, ints O), (10, ints C), (11, .rs 192 0 64), (12, .rs 208 0 64), (13, .rs 16 0 (L i).length), (15, .I i)], [(192, some ⟨1, cntR (B i), 0⟩), (208, some ⟨1, cntR (U i), 0⟩), (16, some ⟨1, rowsI (L i), 0⟩)], 280⟩)
    (fun i => i ≤ P.length ∧ (∀ w ∈ P.take i, WalkP g p.lv p.seeds O w) ∧ (∀ k ∈ L i, k ∈ ends) ∧ (L i).Nodup) (fun i => P.length - i) 0 (by simp [hL0]) (Le.lst [(192, 192), (208, 208)] [] [(16, 1)] rfl (by simp) (by simp) (by simp) (by simp) (by simp) (by simp) (by simp) (by simp [Up, hL0]) (by simp [hB0, hU0, hL0])) ?_
  rintro i ⟨hi, hq1, hq2, hq3⟩
  have hLi := hLl i
  refine awp_seq ?_
  refine rk (s := ?s17) [2, 3, 4, 5, 9, 10, 11, 12, 13, 15, 56] [192, 208, 16] rfl ?o17 ?q17
  case o17 => simp; rfl
  refine awp_cond _ rfl (fun h18 => ?_) fun h18 => ?_
  · simp at h18
    have hw1 : IntKind.i64.wrap ((i : Int) + 1) = (i : Int) + 1 := w64 (by omega) (by omega)
    obtain ⟨w, hwd⟩ : ∃ w, w = P[i] := ⟨_, rfl⟩
    have hwl : w.length ≤ 100000 := by rw [hwd]; exact hPw _ (List.getElem_mem h18)
    refine awp_skip ?_
    refine awp_seq ?_
    refine awp_block ?_
    refine rk (s := ?s19) [2, 3, 4, 5, 9, 10, 11, 12, 13, 15, 16] [192, 208, 16] rfl ?o19 ?q19
    case o19 => simp [h18, ← hwd]; rfl
    refine awp_seq ?_
    refine rk (s := ?s20) [2, 3, 4, 5, 9, 10, 11, 12, 13, 15, 16, 68] [192, 208, 16] rfl ?o20 ?q20
    case o20 =>
      simp
      refine call0e (ref44_path_ok g p O w hl (by omega) (by omega) (by omega)) (by simp) ?_
      simp
      rfl
    refine awp_cond _ rfl (fun h21 => ?_) fun h21 => ?_
    · refine rk (s := ?s22) [8] [] rfl ?o22 ?q22
      case o22 => simp; rfl
      refine awp_ret ?_
      have hn : ¬ ServesR g p.lv p.seeds O C P ends := fun h => by simp at h21; exact h21 (hwd ▸ h.2.2.1 _ (List.getElem_mem h18))
      exact ⟨.inr rfl, RetOk.one (by simp [hn])⟩
    simp at h21
    have hne : w ≠ [] := h21.ne
    have hpos : 0 < w.length := List.length_pos_iff.2 hne
    have hk64 : ∀ j (h : j < w.length), 0 ≤ w[j] ∧ w[j] < 64 := fun j h => hor _ (h21.2.1 _ (List.getElem_mem h))
    have hwm : IntKind.i64.wrap ((w.length : Int) - 1) = ((w.length - 1 : Nat) : Int) := by rw [w64 (by omega) (by omega)]; omega
    obtain ⟨z, hz⟩ : ∃ z, z = w.getLast hne := ⟨_, rfl⟩
    have hgl : w[w.length - 1]'(by omega) = z := by rw [hz]; exact (List.getLast_eq_getElem hne).symm
    have hLn : L (i + 1) = L i ++ [z] := by
      have := hLs i h18 (hwd ▸ hne)
      rw [this]
      congr 2
      rw [hz]
      congr 1
      exact hwd.symm
    have hti : ∀ f : Int → List AV, List.take (L i).length (List.map f (L i)) = List.map f (L i) := fun f => List.take_of_length_le (by simp)
    refine awp_skip ?_
    refine rk (s := ?s23) [2, 3, 4, 5, 9, 10, 11, 12, 13, 15, 16, 17] [192, 208, 16] rfl ?o23 ?q23
    case o23 => simp [hwm, hne, show w.length - 1 < w.length by omega, hgl]; rfl
    refine awp_seq ?_
    refine awp_regc ⟨144, [(2, pathsV P), (3, ints ends), (4, .pv (gC g)), (5, .pv (pC p)), (9, ints O), (10, ints C), (11, .rs 192 0 64), (12, .rs 208 0 64), (13, .rs 16 0 (L i).length), (15, .I i), (16, ints w), (17, .I z), (83, .B (decide (¬ (z ∈ ends ∧ z ∉ L i))))], [(192, some ⟨1, cntR (B i), 0⟩), (208, some ⟨1, cntR (U i), 0⟩), (16, some ⟨1, rowsI (L i), 0⟩)], 528⟩ rfl ?_ ?_
    · simp
      refine call0e (has24_ok ends z (by omega)) (by simp) ?_
      simp
      by_cases hz1 : z ∈ ends
      · simp [hz1]
        refine call0s [16] (has24_ok (L i) z (by omega)) (by simp [hti]) (.sc _) ?_
        simp
        exact Le.go [(192, 192), (208, 208), (16, 16)] [] rfl rfl (by simp [hz1]) (by simp [Function.comp_def])
      · simp [hz1]
        exact Le.go [(192, 192), (208, 208), (16, 16)] [] rfl rfl (by simp [hz1]) (by simp [Function.comp_def])
    refine awp_cond _ rfl (fun h25 => ?_) fun h25 => ?_
    · rw [decide_eq_true_eq] at h25
      refine rk (s := ?s26) [8] [] rfl ?o26 ?q26
      case o26 => simp; rfl
      refine awp_ret ?_
      have hsub := hLsub (i + 1)
      have hn : ¬ ServesR g p.lv p.seeds O C P ends := fun h => by
        have hzm : z ∈ lasts P := hsub.subset (by rw [hLn]; simp)
        refine h25 ⟨h.2.2.2.1 z hzm, fun hzL => ?_⟩
        have hd := h.2.2.2.2.1.sublist hsub
        rw [hLn, List.nodup_append] at hd
        exact hd.2.2 z hzL z (by simp) rfl
      exact ⟨.inr rfl, RetOk.one (by simp [hn])⟩
    rw [decide_eq_false_iff_not, Decidable.not_not] at h25
    obtain ⟨k0, hk0, hk0'⟩ : ∃ k0 : Nat, w[0] = k0 ∧ k0 < 64 := ⟨w[0].toNat, by have := hk64 0 hpos; omega, by have := hk64 0 hpos; omega⟩
    have hhd : w.head? = some (k0 : Int) := by rw [List.head?_eq_getElem?, List.getElem?_eq_getElem hpos, hk0]
    have hBk := hBb i k0
    have hk0i : (k0 : Int) < 64 := by omega
    have hwB : IntKind.i64.wrap (B i k0 + 1) = B i k0 + 1 := w64 (by omega) (by omega)
    have hBn : (cntR (B i)).set k0 [AV.I (B i k0 + 1)] = cntR (B (i + 1)) := by
      rw [cntR_set]
      congr 1
      funext j
      rw [hBs i h18 j, ← hwd, hhd]
      by_cases h : j = (k0 : Int)
      · subst h; simp
      · simp [h, Ne.symm h]
    refine awp_skip ?_
    refine awp_regc ⟨144, [(2, pathsV P), (3, ints ends), (4, .pv (gC g)), (5, .pv (pC p)), (9, ints O), (10, ints C), (11, .rs 192 0 64), (12, .rs 208 0 64), (13, .rs 16 0 (L (i + 1)).length), (15, .I i), (16, ints w)], [(192, some ⟨1, cntR (B i), 0⟩), (208, some ⟨1, cntR (U i), 0⟩), (16, some ⟨1, rowsI (L (i + 1)), 0⟩)], 568⟩ rfl ?_ ?_
    · simp [hti]
      refine ⟨by omega, by omega, ?_⟩
      exact Le.go [(192, 192), (208, 208), (552, 16)] [] rfl rfl (by simp [hLn]) (by simp [hLn, Function.comp_def])
    refine awp_regc ⟨144, [(2, pathsV P), (3, ints ends), (4, .pv (gC g)), (5, .pv (pC p)), (9, ints O), (10, ints C), (11, .rs 192 0 64), (12, .rs 208 0 64), (13, .rs 16 0 (L (i + 1)).length), (15, .I i), (16, ints w)], [(192, some ⟨1, cntR (B (i + 1)), 0⟩), (208, some ⟨1, cntR (U i), 0⟩), (16, some ⟨1, rowsI (L (i + 1)), 0⟩)], 640⟩ rfl ?_ ?_
    · simp [hpos, hk0, hk0i, hk0', hwB, hBn]
      exact Le.keep rfl (Nat.le_refl _) (by simp) (by simp)
    obtain ⟨d, hd⟩ : ∃ d, d = w.dropLast := ⟨_, rfl⟩
    have hdl : d.length = w.length - 1 := by rw [hd, List.length_dropLast]
    refine rk (s := ?s29) [2, 3, 4, 5, 9, 10, 11, 12, 13, 15, 16, 18] [192, 208, 16] rfl ?o29 ?q29
    case o29 => simp; rfl
    refine awp_block ?_
    let V : Nat → Int → Int := fun j k => U i k + ((d.take j).count k : Nat)
    have hV0 : V 0 = U i := by funext k; simp [V]
    refine awp_loop (ι := Nat) (fun j => ⟨144, [(2, pathsV P), (3, ints ends), (4, .pv (gC g)), (5, .pv (pC p)), (9, ints O), (10, ints C), (11, .rs 192 0 64), (12, .rs 208 0 64), (13, .rs 16 0 (L (i + 1)).length), (15, .I i), (16, ints w), (18, .I j)], [(192, some ⟨1, cntR (B (i + 1)), 0⟩), (208, some ⟨1, cntR (V j), 0⟩), (16, some ⟨1, rowsI (L (i + 1)), 0⟩)], 648⟩)
      (fun j => j ≤ d.length) (fun j => d.length - j) 0 (Nat.zero_le _) (Le.keep rfl (Nat.le_refl _) (by simp) (by simp [hV0])) ?_
    intro j hj
    refine awp_seq ?_
    refine rk (s := ?s30) [2, 3, 4, 5, 9, 10, 11, 12, 13, 15, 16, 18, 100] [192, 208, 16] rfl ?o30 ?q30
    case o30 => simp [hwm]; rfl
    refine awp_cond _ rfl (fun h31 => ?_) fun h31 => ?_
    · simp at h31
      have h31' : j < d.length := by omega
      have hw2 : IntKind.i64.wrap ((j : Int) + 1) = (j : Int) + 1 := w64 (by omega) (by omega)
      have hjw : j < w.length := by omega
      have hdj : d[j] = w[j] := by simp [hd]
      obtain ⟨k1, hk1, hk1'⟩ : ∃ k1 : Nat, w[j] = k1 ∧ k1 < 64 := ⟨w[j].toNat, by have := hk64 j (by omega); omega, by have := hk64 j (by omega); omega⟩
      have hk1i : (k1 : Int) < 64 := by omega
      have hVle : 0 ≤ V j k1 ∧ V j k1 ≤ 100000000000000 := by
        have h1 := hUb i k1
        have h3 : (d.take j).count (k1 : Int) ≤ d.length := Nat.le_trans List.count_le_length (List.length_take_le' j d)
        simp only [V]
        omega
      have hwV : IntKind.i64.wrap (V j k1 + 1) = V j k1 + 1 := w64 (by omega) (by omega)
      have hVn : (cntR (V j)).set k1 [AV.I (V j k1 + 1)] = cntR (V (j + 1)) := by
        rw [cntR_set]
        congr 1
        funext k
        simp only [V]
        rw [count_take_succ d j h31' k, hdj, hk1]
        by_cases h : k = (k1 : Int)
        · subst h; simp; omega
        · simp [h, Ne.symm h]
      refine awp_skip ?_
      refine awp_seq ?_
      refine awp_block ?_
      refine awp_run (s := ?s31) rfl ?o31 ?q31
      case o31 => simp [hjw, hk1, hk1i, hk1', hwV, hVn]; rfl
      refine awp_run (s := ?s32) rfl ?o32 ?q32
      case o32 => simp; rfl
      exact ⟨j + 1, by omega, by omega, Le.go [(192, 192), (208, 208), (16, 16)] [] rfl rfl (by simp [hw2]) (by simp [Function.comp_def])⟩
    simp at h31
    obtain rfl : j = d.length := by omega
    have hVe : V d.length = U (i + 1) := by
      funext k
      simp only [V]
      rw [hUs i h18 k, ← hwd, ← hd, List.take_of_length_le (Nat.le_refl _)]
    refine awp_exit ?_
    refine hit ?_
    refine awp_run (s := ?s33) rfl ?o33 ?q33
    case o33 => simp; rfl
    refine ⟨i + 1, ⟨h18, fun x hx => ?_, fun k hk => ?_, ?_⟩, by omega, Le.go [(192, 192), (208, 208), (16, 16)] [] rfl rfl (by simp [hw1]) (by simp [Function.comp_def, hVe])⟩
    · rw [List.take_succ_eq_append_getElem h18] at hx
      rcases List.mem_append.1 hx with hx | hx
      · exact hq1 x hx
      · rw [List.mem_singleton] at hx
        rw [hx, ← hwd]
        exact h21
    · rw [hLn] at hk
      rcases List.mem_append.1 hk with hk | hk
      · exact hq2 k hk
      · rw [List.mem_singleton] at hk
        rw [hk]
        exact h25.1
    · rw [hLn, List.nodup_append]
      refine ⟨hq3, by simp, fun x hx y hy => ?_⟩
      rw [List.mem_singleton] at hy
      subst hy
      rintro rfl
      exact h25.2 hx
  simp at h18
  obtain rfl : i = P.length := by omega
  rw [hLP] at hq2 hq3 ⊢
  have hBf : B P.length = fun k => (begC P k : Int) := funext hBP
  have hUf : U P.length = fun k => (useC P k : Int) := funext hUP
  rw [hBf, hUf]
  have hq1' : ∀ w ∈ P, WalkP g p.lv p.seeds O w := fun w hw => hq1 w (by simpa using hw)
  refine awp_exit ?_
  refine hit ?_
  refine awp_seq ?_
  refine rk (s := ?s40) [10, 11, 12, 19] [192, 208] rfl ?o40 ?q40
  case o40 => simp; rfl
  refine awp_block ?_
  refine awp_loop (ι := Nat) (fun k => ⟨144, [(10, ints C), (11, .rs 192 0 64), (12, .rs 208 0 64), (19, .I k)], [(192, some ⟨1, cntR fun k => (begC P k : Int), 0⟩), (208, some ⟨1, cntR fun k => (useC P k : Int), 0⟩)], 320⟩)
    (fun k => k ≤ C.length ∧ ∀ x, x < k → capAt C P x) (fun k => C.length - k) 0 (by simp) (Le.keep rfl (Nat.le_refl _) (by simp) (by simp)) ?_
  rintro k ⟨hk, hq⟩
  refine awp_seq ?_
  refine awp_regc ⟨144, [(10, ints C), (11, .rs 192 0 64), (12, .rs 208 0 64), (19, .I k), (119, .B (decide (k < C.length)))], [(192, some ⟨1, cntR fun k => (begC P k : Int), 0⟩), (208, some ⟨1, cntR fun k => (useC P k : Int), 0⟩)], 384⟩ rfl ?_ ?_
  · simp
    by_cases hkC : k < C.length
    · simp [hkC]
      exact Le.go [(192, 192), (208, 208)] [] rfl rfl (by simp [hkC]; exact wkB (by simp; omega)) (by simp)
    · simp [hkC]
      exact Le.go [(192, 192), (208, 208)] [] rfl rfl (by simp [hkC]) (by simp)
  refine awp_cond _ rfl (fun h7 => ?_) fun h7 => ?_
  · rw [decide_eq_true_eq] at h7
    have hw3 : IntKind.i64.wrap ((k : Int) + 1) = (k : Int) + 1 := w64 (by omega) (by omega)
    have hck := hcb _ (List.getElem_mem h7)
    have hwc : IntKind.i64.wrap (C[k] - 1) = C[k] - 1 := w64 (by omega) (by omega)
    have hk64' : k < 64 := by omega
    have hk64i : (k : Int) < 64 := by omega
    have hcp : capAt C P k ↔ ((begC P k : Int) ≤ C[k] ∧ (useC P k : Int) ≤ max 0 (C[k] - 1)) := ⟨fun h => h h7, fun h _ => h⟩
    refine awp_skip ?_
    refine awp_seq ?_
    refine awp_block ?_
    refine awp_dregc ⟨144, [(10, ints C), (11, .rs 192 0 64), (12, .rs 208 0 64), (19, .I k), (143, .B (decide (¬ capAt C P k)))], [(192, some ⟨1, cntR fun k => (begC P k : Int), 0⟩), (208, some ⟨1, cntR fun k => (useC P k : Int), 0⟩)], 700⟩ rfl ?_ ?_
    · simp [hk64', hk64i, h7]
      refine gcase (fun hb => ?_) (fun hb => ?_) <;> (try rw [hb]) <;> (try simp at hb) <;> simp [hb, hk64', hk64i, h7, hwc]
      · exact ⟨rfl, Le.go [(192, 192), (208, 208)] [] rfl rfl (by simp <;> exact wkB (by rw [Bool.eq_iff_iff]; simp [hcp]; omega)) (by simp)⟩
      · exact ⟨rfl, Le.go [(192, 192), (208, 208)] [] rfl rfl (by simp <;> exact wkB (by rw [Bool.eq_iff_iff]; simp [hcp, hb]; split <;> omega)) (by simp)⟩
    refine awp_cond _ rfl (fun h8 => ?_) fun h8 => ?_
    · rw [decide_eq_true_eq] at h8
      refine rk (s := ?s43) [8] [] rfl ?o43 ?q43
      case o43 => simp; rfl
      refine awp_ret ?_
      have hn : ¬ ServesR g p.lv p.seeds O C P ends := fun h => h8 (roomP_iff.1 h.2.2.2.2.2 k)
      exact ⟨.inr rfl, RetOk.one (by simp [hn])⟩
    rw [decide_eq_false_iff_not, Decidable.not_not] at h8
    refine awp_skip ?_
    refine awp_run (s := ?s44) rfl ?o44 ?q44
    case o44 => simp; rfl
    refine ⟨k + 1, ⟨h7, fun x hx => ?_⟩, by omega, Le.go [(192, 192), (208, 208)] [] rfl rfl (by simp [hw3]) (by simp)⟩
    rcases Nat.lt_succ_iff_lt_or_eq.1 hx with h | rfl
    · exact hq x h
    · exact h8
  rw [decide_eq_false_iff_not] at h7
  have hy : ServesR g p.lv p.seeds O C P ends := ⟨hPE, hnd, hq1', hq2, hq3, roomP_iff.2 fun x hx => hq x (by omega) hx⟩
  refine awp_exit ?_
  refine hit ?_
  refine rk (s := ?s45) [8] [] rfl ?o45 ?q45
  case o45 => simp; rfl
  refine awp_ret ?_
  exact ⟨.inr rfl, RetOk.one (by simp [hy])⟩
end Go.Proofs.YtlhjelookgjmpaaGreat
namespace Go.Proofs.YtlhjelookgjmpaaGreat
open Go
abbrev xE (x : Expl) : List AV := [.I x.key, .B x.acc, ints x.before, pathsV x.paths, ints x.side]
abbrev eX (x : Expl) : AV := .agg (xE x)
theorem servesE_iff {g : Gr} {lv : Int} {seeds order c : List Int} {P : List (List Int)} {ends : List Int} : ServesE (levelG g lv) seeds order c P ends ↔ ServesC g lv seeds order c P ends := by
  unfold ServesE ServesC
  simp only [walkC_iff]
theorem rise_join {a : List Int} {n : Int} (h : ∀ k ∈ a, 0 ≤ k ∧ k < n) : Rise (joinL a) 0 (n - 1) := by
  intro i hi
  have hm := mem_joinL.1 (List.getElem_mem hi)
  have := h _ hm.1
  refine ⟨by omega, by omega, fun hp => ?_⟩
  exact (List.pairwise_iff_getElem.1 (joinL_lt a)) (i - 1) i (by omega) hi (by omega)
theorem joinL_len (a : List Int) : (joinL a).length ≤ 64 := Nat.le_trans (List.length_filter_le ..) (by simp)
def FormX (order : List Int) (x : Expl) : Prop := ¬ BeforeP order x.before x.key ∨ (x.acc = true ∧ x.side ≠ []) ∨ (x.acc = false ∧ x.paths ≠ [])
structure SmallX (x : Expl) : Prop where
  b : x.before.length ≤ 100000
  p : x.paths.length ≤ 100000
  w : ∀ w ∈ x.paths, w.length ≤ 100000
  s : x.side.length ≤ 100000
theorem netArcs_len (g : Gr) (p : Pol) (sinks : List Int) (hg : GrOk g) (hs : p.seeds.length ≤ 64) (hsl : sinks.length ≤ 64) : (netArcs g p (capsL g p) sinks).length ≤ 1000 := by
  rw [netArcs_flat]
  have h1 := flat_len _ (arc1_len (capsL g p)) p.seeds
  have h2 := flat_len _ (arc2_len (capsL g p)) (List.range (capsL g p).length)
  have h3 := flat_len _ (arc3_len (capsL g p)) sinks
  have h4 := flat_len _ (arc4_len (capsL g p)) (levelG g p.lv).edges
  have h5 : (levelG g p.lv).edges.length ≤ g.edges.length := List.length_filter_le ..
  have h6 := hg.edges_le
  have h7 := hg.1.2.1
  have h8 := hg.1.1
  rw [List.length_range] at h2
  have h9 : (capsL g p).length = g.size.toNat := capsL_len
  simp only [List.length_append]
  omega
set_option maxRecDepth 100000 in
set_option maxHeartbeats 1000000 in
open Classical in
theorem engine_check_ok (g : Gr) (p : Pol) (x : Expl) (hg : GrOk g) (hp : PolOk g.size p) (hN : g.size < 20) (hs : p.seeds.length ≤ 64) (hx : SmallX x) :
    ACalls Tryz.prog nchecker_engine_check [engP g p, eG g, eP p, eX x] [] (.I (checkC g p x)) [] := by
  refine schecker_engine_check.acalls (Nat.le_of_ble_eq_true rfl) (Nat.le_of_ble_eq_true rfl) (Nat.le_refl _) ?_
  show awp _ 0 _ _ ⟨82, [(0, eEng (levelG g p.lv) p.seeds (capsL g p) (ordL (levelG g p.lv) p.seeds)), (1, eG g), (2, eP p), (3, eX x)], [], 16⟩
  have hsz := hg.1.1
  have hol := ordL_len (g := levelG g p.lv) (S := p.seeds) hsz
  rw [show (levelG g p.lv).size = g.size from rfl] at hol
  have hor : ∀ k ∈ ordL (levelG g p.lv) p.seeds, 0 ≤ k ∧ k < g.size := fun k hk => by have h := ordL_range hk; exact h
  have hno := ordL_nodup (levelG g p.lv) p.seeds
  have hcb := capsL_bound (g := g) hp
  have hcl : (capsL g p).length = g.size.toNat := capsL_len
  have hge : (levelG g p.lv).edges.length ≤ 500 := (hg.level p.lv).edges_le
  have hsrv := fun (ends : List Int) (hE : ends.length ≤ 1099511627776) => engine_serve_ok (levelG g p.lv) p.seeds (capsL g p) (ordL (levelG g p.lv) p.seeds) x.paths ends hge (by omega) (by omega) (fun k hk => by have := hor k hk; omega) (by omega) hcb hx.p hx.w hE
  have hbef := fun hk => engine_before_ok (levelG g p.lv) p.seeds (capsL g p) (ordL (levelG g p.lv) p.seeds) x.before x.key (by omega) (by have := hx.b; omega) hk
  have hcon := contains_ok (ordL (levelG g p.lv) p.seeds) x.key (by omega)
  have hnet := fun (sinks : List Int) h1 h2 => split_Network_ok g p sinks hg hp h1 hs h2
  unfold checkC
  simp only [← servesE_iff]
  obtain ⟨O, hO⟩ : ∃ O, O = ordL (levelG g p.lv) p.seeds := ⟨_, rfl⟩
  obtain ⟨G, hG⟩ : ∃ G, G = levelG g p.lv := ⟨_, rfl⟩
  simp only [← hG] at hO hol hor hno hge hsrv hbef hcon ⊢
  simp only [← hO] at hol hor hno hsrv hbef hcon ⊢
  obtain ⟨C, hC⟩ : ∃ C, C = capsL g p := ⟨_, rfl⟩
  simp only [← hC] at hcb hcl hsrv hbef hnet ⊢
  refine rx (s := ?s1) [4, 5, 6, 7] [] [16, 24, 32, 40] rfl ?o1 ?q1
  case o1 => simp; rfl
  refine awp_seq ?_
  refine rx (s := ?s2) [4, 5, 6, 7, 17] [] [] rfl ?o2 ?q2
  case o2 => simp; refine call0e hcon (by simp) ?_; simp; rfl
  refine awp_cond _ rfl (fun h3 => ?_) fun h3 => ?_
  · simp at h3
    refine rx (s := ?s4) [8] [] [] rfl ?o4 ?q4
    case o4 => simp; rfl
    refine awp_ret ?_
    exact ⟨.inr rfl, RetOk.one (by simp [h3])⟩
  simp at h3
  refine awp_skip ?_
  refine awp_seq ?_
  refine awp_regc ⟨82, [(4, .pv (xC G p.seeds C O)), (5, .pv (gC g)), (6, .pv (pC p)), (7, .pv (xE x)), (45, .B (decide (FormX O x)))], [], 328⟩ rfl ?_ ?_
  · simp
    refine call0e (hbef h3) (by simp) ?_
    simp
    by_cases hb : BeforeP O x.before x.key
    · simp [hb]
      cases hac : x.acc with
      | true =>
        simp
        by_cases hsd : x.side.length = 0
        · have hs0 : x.side = [] := List.length_eq_zero_iff.1 hsd
          have hF : ¬ FormX O x := by simp [FormX, hb, hac, hs0]
          rw [decide_eq_false hF]
          simp [hsd]
          exact Le.snap [] rfl rfl (by simp [hac, xE, Wk.refl])
        · have hs0 : x.side ≠ [] := fun h => hsd (by rw [h]; rfl)
          have hF : FormX O x := by simp [FormX, hac, hs0]
          have h0 : 0 < x.side.length := by omega
          rw [decide_eq_true hF]
          simp [h0]
          exact Le.snap [] rfl rfl (by simp [hac, xE, Wk.refl])
      | false =>
        simp
        by_cases hsd : x.paths.length = 0
        · have hs0 : x.paths = [] := List.length_eq_zero_iff.1 hsd
          have hF : ¬ FormX O x := by simp [FormX, hb, hac, hs0]
          rw [decide_eq_false hF]
          simp [hsd]
          exact Le.snap [] rfl rfl (by simp [hac, xE, Wk.refl])
        · have hs0 : x.paths ≠ [] := fun h => hsd (by rw [h]; rfl)
          have hF : FormX O x := by simp [FormX, hac, hs0]
          have h0 : 0 < x.paths.length := by omega
          rw [decide_eq_true hF]
          simp [h0]
          exact Le.snap [] rfl rfl (by simp [hac, xE, Wk.refl])
    · simp [hb]
      exact Le.snap [] rfl rfl (by simp [FormX, hb])
  refine awp_cond _ rfl (fun h6 => ?_) fun h6 => ?_
  · rw [decide_eq_true_eq] at h6
    refine rx (s := ?s7) [8] [] [] rfl ?o7 ?q7
    case o7 => simp; rfl
    refine awp_ret ?_
    refine ⟨.inr rfl, RetOk.one ?_⟩
    unfold FormX at h6
    rw [if_neg (not_not_intro h3), if_pos h6]
    simp
  rw [decide_eq_false_iff_not] at h6
  unfold FormX at h6
  rw [if_neg (not_not_intro h3), if_neg h6]
  have hb : BeforeP O x.before x.key := Classical.byContradiction fun h => h6 (.inl h)
  have hnd := hb.nodup hno
  have hra : ∀ k ∈ x.before ++ [x.key], 0 ≤ k ∧ k < g.size := fun k hk => by
    rcases List.mem_append.1 hk with hk | hk
    · exact hor k ((List.takeWhile_sublist _).subset (hb.subset hk))
    · rw [List.mem_singleton] at hk
      rw [hk]
      exact hor _ h3
  have hbl := hx.b
  refine awp_skip ?_
  obtain ⟨A, hA⟩ : ∃ A, A = x.before ++ [x.key] := ⟨_, rfl⟩
  have hAl : A.length = x.before.length + 1 := by rw [hA]; simp
  rw [← hA] at hnd hra ⊢
  refine awp_dregc ⟨82, [(4, .pv (xC G p.seeds C O)), (5, .pv (gC g)), (6, .pv (pC p)), (7, .pv (xE x)), (9, ints A)], [], 392⟩ rfl ?_ ?_
  · simp
    refine callN1 (cloneI_ok x.before (by omega)) (by simp) ?_
    simp [Function.comp_def, take_map_len]
    refine ⟨by omega, by omega, rfl, Le.snap [376] rfl rfl (by simp [Function.comp_def, hA, ints, Wk.refl, List.take_of_length_le])⟩
  refine awp_seq ?_
  refine rx (s := ?s9) [4, 5, 6, 7, 9, 54] [] [] rfl ?o9 ?q9
  case o9 => simp; rfl
  refine awp_cond _ rfl (fun h10 => ?_) fun h10 => ?_
  · rw [if_pos h10]
    refine awp_seq ?_
    refine rx (s := ?s11) [60] [] [] rfl ?o11 ?q11
    case o11 => simp; refine call0e (hsrv A (by omega)) (by simp) ?_; simp; rfl
    refine awp_cond _ rfl (fun h12 => ?_) fun h12 => ?_
    · simp at h12
      refine rx (s := ?s13) [8] [] [] rfl ?o13 ?q13
      case o13 => simp; rfl
      refine awp_ret ?_
      exact ⟨.inr rfl, RetOk.one (by simp [h12])⟩
    simp at h12
    refine awp_skip ?_
    refine rx (s := ?s14) [8] [] [] rfl ?o14 ?q14
    case o14 => simp; rfl
    refine awp_ret ?_
    exact ⟨.inr rfl, RetOk.one (by simp [h12])⟩
  rw [if_neg (by simp [h10])]
  have hsj : srt A = joinL A := srt_join hnd fun k hk => by have := hra k hk; omega
  have hsS : (sorted A : List Int) = srt A := rfl
  have hSl : (srt A).length ≤ 64 := by rw [hsj]; exact joinL_len A
  have hn2 := hnet (srt A) (by rw [hsj]; exact rise_join hra) hSl
  have harc := netArcs_len g p (srt A) hg hs hSl
  rw [← hC] at harc
  obtain ⟨S, hS⟩ : ∃ S, S = srt A := ⟨_, rfl⟩
  have hSA : S.length = A.length := by rw [hS, ← hsS, sorted_len]
  have hsrt := Sorted_ok A (by omega)
  rw [hsS, ← hS] at hsrt
  rw [← hS] at hn2 harc hSl ⊢
  obtain ⟨n, hn⟩ : ∃ n : Net, n = ⟨2 + 2 * g.size, netArcs g p C S⟩ := ⟨_, rfl⟩
  rw [← hn] at hn2 ⊢
  have hna : n.arcs.length ≤ 1000 := by rw [hn]; exact harc
  have hsidel := hx.s
  refine awp_skip ?_
  refine awp_dregc ⟨82, [(7, .pv (xE x)), (10, .pv (nC n)), (11, .I 0)], [], 504⟩ rfl ?_ ?_
  · simp
    refine call0e (Values_ok A) (by simp) ?_
    simp
    refine callN1 hsrt (by simp) ?_
    simp [Function.comp_def]
    refine call0k [440] (by simp) hn2 (by simp [← hSA, take_map_len]) ?_
    simp
    refine ⟨rfl, Le.snap [480] rfl rfl (by simp)⟩
  refine awp_seq ?_
  refine awp_regc ⟨82, [(81, .B (decide (¬ ProvesP n x.side x.before.length)))], [], 600⟩ rfl ?_ ?_
  · simp
    refine call0e (cut_Proves_ok n x.side x.before.length (by omega) (by omega)) (by simp) ?_
    simp
    exact Le.snap [] rfl rfl (by simp)
  refine awp_cond _ rfl (fun h17 => ?_) fun h17 => ?_
  · rw [decide_eq_true_eq] at h17
    refine rx (s := ?s18) [8] [] [] rfl ?o18 ?q18
    case o18 => simp; rfl
    refine awp_ret ?_
    exact ⟨.inr rfl, RetOk.one (by simp [h17])⟩
  rw [decide_eq_false_iff_not, Decidable.not_not] at h17
  refine awp_skip ?_
  refine rx (s := ?s19) [8] [] [] rfl ?o19 ?q19
  case o19 => simp; rfl
  refine awp_ret ?_
  exact ⟨.inr rfl, RetOk.one (by simp [h17])⟩
end Go.Proofs.YtlhjelookgjmpaaGreat
namespace Go.Proofs.YtlhjelookgjmpaaGreat
open Go
def Rp (x y : AV) : Prop := ∀ (T : Nat → Nat) (w : World) (M : GM) (v : Value), Rep T w M x v → Rep T w M y v
theorem Rp.wk {x y : AV} (h : Wk x y) : Rp x y := fun _ _ _ _ hr => h.rep hr
theorem Rp.refl (x : AV) : Rp x x := fun _ _ _ _ h => h
theorem Rp.agg (xs ys : List AV) (hl : xs.length = ys.length) (h : ∀ i : Nat, i < xs.length → Rp (xs.getD i .dead) (ys.getD i .dead)) : Rp (.agg xs) (.agg ys) := by
  intro T w M v hr
  cases hr with
  | agg _ _ us hus h1 hh => exact .agg _ _ _ (hus.trans hl) (fun i hi => h1 i (hl ▸ hi)) fun i hi => h i (hl ▸ hi) _ _ _ _ (hh i (hl ▸ hi))
theorem Rp.vs {s : Nat} {rows rows' : List (List AV)} (hl : rows.length = rows'.length) (hw : ∀ row ∈ rows', row.length = s) (h : ∀ i j : Nat, i < rows.length → j < s → Rp ((rows.getD i []).getD j .dead) ((rows'.getD i []).getD j .dead)) :
    Rp (.vs s false rows) (.vs s false rows') := by
  intro T w M v hr
  cases hr with
  | vs _ _ _ _ a cap c hf hle hw' hb h1 hh =>
    rw [hl]
    refine .vs _ _ _ _ a cap c (fun e => by cases e) (hl ▸ hle) hw (fun hne => ?_) (fun i j hi hj => h1 i j (hl ▸ hi) hj) fun i j hi hj => h i j (hl ▸ hi) hj _ _ _ _ (hh i j (hl ▸ hi) hj)
    obtain ⟨b, off, cells, ty, fz, ha, h1, h2, h3⟩ := hb (fun e => hne (List.eq_nil_of_length_eq_zero (by rw [← hl, e]; rfl)))
    exact ⟨b, off, cells, ty, fz, ha, h1, by rw [← hl]; exact h2, fun i j hi hj => h3 i j (hl ▸ hi) hj⟩
theorem acalls_rp {P : Program} {f : FuncId} {xs ys : List AV} {hs : List Ent} {res : AV} {hs' : List (Option Ent)} (hl : xs.length = ys.length) (hw : ∀ i, i < ys.length → Rp (xs.getD i .dead) (ys.getD i .dead)) (h : ACalls P f ys hs res hs') : ACalls P f xs hs res hs' :=
  ⟨h.1, h.2.1, fun T M w vs h1 h2 h3 hr => h.2.2 T M w vs h1 h2 h3 ⟨hr.1.trans hl, fun i hi => hw i hi _ _ _ _ (hr.2 i (hl ▸ hi))⟩⟩
section
variable {H : Type} {P : Program} {tI tIs tPs tB tX : TypeId}
theorem bulk_one (d : DataW H) : 1 ≤ Rows.uptoBulk d := by
  cases d with
  | lit l => cases l <;> simp [Rows.uptoBulk]
  | _ => simp [Rows.uptoBulk]
theorem bulk_mem {d : DataW H} {l : List (DataW H)} (h : d ∈ l) : Rows.uptoBulk d ≤ Rows.uptoBulkAll l := by
  induction l with
  | nil => cases h
  | cons x r ih =>
    simp only [Rows.uptoBulkAll]
    rcases List.mem_cons.1 h with rfl | e
    · omega
    · have := ih e; omega
theorem bulk_len (l : List (DataW H)) : l.length ≤ Rows.uptoBulkAll l := by
  induction l with
  | nil => simp
  | cons x r ih => have := bulk_one x; simp only [Rows.uptoBulkAll, List.length_cons]; omega
theorem list_ofB {α : Type} {f : DataW H → Option (List AV)} (R : α → DataW H → List AV → Prop) : ∀ {ds : List (DataW H)} {rows : List (List AV)}, (∀ d ∈ ds, ∀ row, f d = some row → ∃ a, R a d row) → ds.mapM f = some rows →
    ∃ l : List α, l.length = ds.length ∧ rows.length = l.length ∧ ∀ (i : Nat) (h1 : i < l.length) (h2 : i < ds.length) (h3 : i < rows.length), R l[i] ds[i] rows[i]
  | [], rows, _, h => by simp at h; subst h; exact ⟨[], rfl, rfl, fun i hi => by cases hi⟩
  | d :: ds, rows, hf, h => by
    simp only [List.mapM_cons] at h
    cases h1 : f d with
    | none => simp [h1] at h
    | some row =>
      cases h2 : ds.mapM f with
      | none => simp [h1, h2] at h
      | some rows' =>
        simp [h1, h2] at h
        subst h
        obtain ⟨a, ha⟩ := hf d (List.mem_cons_self ..) row h1
        obtain ⟨l, l1, l2, l3⟩ := list_ofB R (fun x hx => hf x (List.mem_cons_of_mem _ hx)) h2
        refine ⟨a :: l, by simp [l1], by simp [l2], fun i q1 q2 q3 => ?_⟩
        cases i with
        | zero => exact ha
        | succ i => exact l3 i (by simpa using q1) (by simpa using q2) (by simpa using q3)
theorem ints_ofB {n : Nat} (hI : P.underlying tI = some (.int .i64)) (hIs : P.underlying tIs = some (.slice tI)) (cI : P.cellsOf tI = 1) {d : DataW H} {cs : List AV} (h : avs P (n + 2) tIs d = some cs) :
    ∃ (l : List Int) (x : AV), cs = [x] ∧ Wk x (ints l) ∧ l.length ≤ Rows.uptoBulk d := by
  cases d <;> simp [avs, hIs] at h
  · subst h; exact ⟨[], _, rfl, .nil _ _, Nat.zero_le _⟩
  · rename_i es sp
    obtain ⟨rows, h, rfl⟩ := h
    obtain ⟨l, l1, l2, l3⟩ := list_ofB (fun (k : Int) _ row => row = [AV.I k]) (fun d _ row h => by obtain ⟨x, h, _⟩ := int_of hI h; exact ⟨x, h⟩) h
    have : rows = rowsI l := List.ext_getElem (by simp [l2]) fun i h1 h2 => by rw [l3 i (by omega) (by omega) h1]; simp
    subst this
    have := bulk_len es
    refine ⟨l, _, rfl, by rw [cI]; exact .refl _, ?_⟩
    simp only [Rows.uptoBulk]
    omega
theorem paths_ofB {n : Nat} (hI : P.underlying tI = some (.int .i64)) (hIs : P.underlying tIs = some (.slice tI)) (cI : P.cellsOf tI = 1) (hPs : P.underlying tPs = some (.slice tIs)) (cIs : P.cellsOf tIs = 1) {d : DataW H} {cs : List AV} (h : avs P (n + 3) tPs d = some cs) :
    ∃ (Q : List (List Int)) (x : AV), cs = [x] ∧ Rp x (pathsV Q) ∧ Q.length ≤ Rows.uptoBulk d ∧ ∀ w ∈ Q, w.length ≤ Rows.uptoBulk d := by
  cases d <;> simp [avs, hPs] at h
  · subst h; exact ⟨[], _, rfl, .wk (.nil _ _), Nat.zero_le _, by simp⟩
  · rename_i es sp
    obtain ⟨rows, h, rfl⟩ := h
    obtain ⟨l, l1, l2, l3⟩ := list_ofB (fun (w : List Int) d row => ∃ x : AV, row = [x] ∧ Wk x (ints w) ∧ w.length ≤ Rows.uptoBulk d) (fun d _ row h => ints_ofB hI hIs cI h) h
    have hb := bulk_len es
    refine ⟨l, _, rfl, ?_, ?_, ?_⟩
    · rw [cIs]
      refine .vs (by simp [l2]) (by simp) fun i j hi hj => ?_
      obtain rfl : j = 0 := by omega
      obtain ⟨x, e, w, _⟩ := l3 i (by omega) (by omega) hi
      have e1 : rows.getD i [] = [x] := by rw [List.getD, List.getElem?_eq_getElem hi, e]; rfl
      rw [e1]
      have hi' : i < l.length := by omega
      have e2 : (l.map fun w => [ints w]).getD i [] = [ints l[i]] := by simp [List.getD, hi']
      rw [e2]
      exact .wk w
    · simp only [Rows.uptoBulk]; omega
    · intro w hw
      obtain ⟨i, hi, rfl⟩ := List.getElem_of_mem hw
      obtain ⟨x, _, _, hl⟩ := l3 i hi (by omega) (by omega)
      have := bulk_mem (List.getElem_mem (l := es) (n := i) (by omega))
      simp only [Rows.uptoBulk]
      omega
theorem bool_of {n : Nat} (hB : P.underlying tB = some .bool) {d : DataW H} {cs : List AV} (h : avs P (n + 1) tB d = some cs) : ∃ b, cs = [.B b] := by
  cases d <;> simp [avs, hB] at h
  rename_i l
  cases l <;> simp at h
  subst h
  exact ⟨_, rfl⟩
def St5 (P : Program) (t a b c d e : TypeId) : Prop := ∃ f1 f2 f3 f4 f5 : Field, P.underlying t = some (.struct #[f1, f2, f3, f4, f5]) ∧ f1.type = a ∧ f2.type = b ∧ f3.type = c ∧ f4.type = d ∧ f5.type = e
theorem five_of {n : Nat} {t a b c e f : TypeId} (ht : St5 P t a b c e f) {d : DataW H} {cs : List AV} (h : avs P (n + 1) t d = some cs) : ∃ (d1 d2 d3 d4 d5 : DataW H) (c1 c2 c3 c4 c5 : List AV),
    avs P n a d1 = some c1 ∧ avs P n b d2 = some c2 ∧ avs P n c d3 = some c3 ∧ avs P n e d4 = some c4 ∧ avs P n f d5 = some c5 ∧ cs = c1 ++ (c2 ++ (c3 ++ (c4 ++ c5))) ∧
    Rows.uptoBulk d3 ≤ Rows.uptoBulk d ∧ Rows.uptoBulk d4 ≤ Rows.uptoBulk d ∧ Rows.uptoBulk d5 ≤ Rows.uptoBulk d := by
  obtain ⟨f1, f2, f3, f4, f5, hu, rfl, rfl, rfl, rfl, rfl⟩ := ht
  cases d <;> simp [avs, hu] at h
  rename_i ds
  obtain ⟨hl, l, h, rfl⟩ := h
  match ds, hl with
  | [d1, d2, d3, d4, d5], _ =>
    simp only [List.zip_cons_cons, List.zip_nil_right, List.zip_nil_left, List.mapM_cons, List.mapM_nil] at h
    cases h1 : avs P n f1.type d1 with
    | none => simp [h1] at h
    | some c1 =>
      cases h2 : avs P n f2.type d2 with
      | none => simp [h1, h2] at h
      | some c2 =>
        cases h3 : avs P n f3.type d3 with
        | none => simp [h1, h2, h3] at h
        | some c3 =>
          cases h4 : avs P n f4.type d4 with
          | none => simp [h1, h2, h3, h4] at h
          | some c4 =>
            cases h5 : avs P n f5.type d5 with
            | none => simp [h1, h2, h3, h4, h5] at h
            | some c5 =>
              simp [h1, h2, h3, h4, h5] at h
              subst h
              exact ⟨d1, d2, d3, d4, d5, c1, c2, c3, c4, c5, h1, h2, h3, h4, h5, by simp, by simp only [Rows.uptoBulk, Rows.uptoBulkAll]; omega, by simp only [Rows.uptoBulk, Rows.uptoBulkAll]; omega, by simp only [Rows.uptoBulk, Rows.uptoBulkAll]; omega⟩
structure ExplLe (x : Expl) (m : Nat) : Prop where
  b : x.before.length ≤ m
  p : x.paths.length ≤ m
  w : ∀ w ∈ x.paths, w.length ≤ m
  s : x.side.length ≤ m
theorem expl_of {n : Nat} (hI : P.underlying tI = some (.int .i64)) (hIs : P.underlying tIs = some (.slice tI)) (cI : P.cellsOf tI = 1) (hPs : P.underlying tPs = some (.slice tIs)) (cIs : P.cellsOf tIs = 1) (hB : P.underlying tB = some .bool) (hX : St5 P tX tI tB tIs tPs tIs)
    {d : DataW H} {x : AV} (h : argAV P (n + 4) tX d = some x) : ∃ e : Expl, Rp x (eX e) ∧ ExplLe e (Rows.uptoBulk d) := by
  have h' : ∃ cs, avs P (n + 4) tX d = some cs ∧ .agg cs = x := by
    obtain ⟨f1, f2, f3, f4, f5, hu, _⟩ := hX
    simpa only [argAV, hu, Option.map_eq_some_iff] using h
  clear h
  obtain ⟨cs, h, rfl⟩ := h'
  obtain ⟨d1, d2, d3, d4, d5, c1, c2, c3, c4, c5, h1, h2, h3, h4, h5, rfl, b3, b4, b5⟩ := five_of hX h
  obtain ⟨k, rfl, _⟩ := int_of hI h1
  obtain ⟨a, rfl⟩ := bool_of hB h2
  obtain ⟨l3, x3, rfl, w3, m3⟩ := ints_ofB hI hIs cI h3
  obtain ⟨Q, x4, rfl, w4, m4, m4'⟩ := paths_ofB hI hIs cI hPs cIs h4
  obtain ⟨l5, x5, rfl, w5, m5⟩ := ints_ofB hI hIs cI h5
  refine ⟨⟨k, a, l3, Q, l5⟩, .agg _ _ rfl fun i _ => ?_, by dsimp only; omega, by dsimp only; omega, fun w hw => Nat.le_trans (m4' w hw) b4, by dsimp only; omega⟩
  match i with
  | 0 => exact .refl _
  | 1 => exact .refl _
  | 2 => exact .wk w3
  | 3 => exact w4
  | 4 => exact .wk w5
  | _ + 5 => exact .refl _
theorem intsArg_ofB {n : Nat} (hI : P.underlying tI = some (.int .i64)) (hIs : P.underlying tIs = some (.slice tI)) (cI : P.cellsOf tI = 1) {d : DataW H} {x : AV} (h : argAV P (n + 2) tIs d = some x) : ∃ l : List Int, Wk x (ints l) ∧ l.length ≤ Rows.uptoBulk d := by
  simp only [argAV, hIs, Option.bind_eq_some_iff] at h
  obtain ⟨cs, h1, h2⟩ := h
  obtain ⟨l, y, rfl, hw, hb⟩ := ints_ofB hI hIs cI h1
  simp at h2
  subst h2
  exact ⟨l, hw, hb⟩
end
end Go.Proofs.YtlhjelookgjmpaaGreat
namespace Go.Proofs.YtlhjelookgjmpaaGreat
open Go
section
variable {P : Program} {np id : Nat} {h : Nat → Option Ent} {K : AV → List Nat → List (Nat × Option Ent) → Prop} {f : FuncId} {first capt args args' : List AV} {res : AV}
theorem callN1w2 {e : Ent} (hc : ACalls P f args' [] res [some e]) (he : WkL ((first ++ args ++ capt).map (conv [] [] h 4)) args')
    (hk : K (conv (swp [] id) [] (fun _ => none) 4 res) [] [(id, some (convE (swp [] id) [] (fun _ => none) 4 e))]) : aK P np id .call (.fn (.func f) first capt :: args) h K :=
  ⟨[], [], true, args', [], res, [some e], by simp, by simp, by simp, by rw [List.zipIdx_nil]; exact he, rfl, hc, by simp, .inl rfl, hk⟩
end
open Classical in
noncomputable def checkAll (g : Gr) (p : Pol) (x : Expl) : Int := if GrOk g then if PolOk g.size p then checkC g p x else 15 else 14
open Classical in
theorem checker_Check_ok (g : Gr) (p : Pol) (x : Expl) (hl : g.edges.length ≤ 140737488355328) (hl2 : g.gone.length ≤ 140737488355328) (ht : p.table.length ≤ 140737488355328) (hN : g.size < 20) (hs : p.seeds.length ≤ 64) (hx : SmallX x) :
    ACalls Tryz.prog nchecker_Check [eG g, eP p, eX x] [] (.I (checkAll g p x)) [] := by
  refine schecker_Check.acalls (Nat.le_of_ble_eq_true rfl) (Nat.le_of_ble_eq_true rfl) (Nat.le_refl _) ?_
  show awp _ 0 _ _ ⟨21, [(0, eG g), (1, eP p), (2, eX x)], [], 16⟩
  have hchk := capacity_Check_ok g p hl hl2 (by omega) ht
  obtain ⟨e, he⟩ : ∃ e : Int, e = if GrOk g then if PolOk g.size p then 0 else 15 else 14 := ⟨_, rfl⟩
  rw [← he] at hchk
  refine rx (s := ?s1) [3, 4, 5] [] [16, 24, 32] rfl ?o1 ?q1
  case o1 => simp; rfl
  refine awp_seq ?_
  refine rx (s := ?s2) [3, 4, 5, 7] [] [] rfl ?o2 ?q2
  case o2 => simp; refine call0e hchk (by simp) ?_; simp; rfl
  refine rx (s := ?s3) [3, 4, 5, 7, 12] [] [] rfl ?o3 ?q3
  case o3 => simp; rfl
  refine awp_cond _ rfl (fun h4 => ?_) fun h4 => ?_
  · simp at h4
    refine rx (s := ?s5) [6] [] [] rfl ?o5 ?q5
    case o5 => simp; rfl
    refine awp_ret ?_
    have : checkAll g p x = e := by
      unfold checkAll
      rw [he]
      by_cases hg : GrOk g
      · by_cases hp : PolOk g.size p
        · rw [if_pos hg, if_pos hp] at he; exact absurd he h4
        · rw [if_pos hg, if_pos hg, if_neg hp, if_neg hp]
      · rw [if_neg hg, if_neg hg]
    exact ⟨.inr rfl, RetOk.one (by simp [this])⟩
  simp at h4
  have hgp : GrOk g ∧ PolOk g.size p := by
    rw [h4] at he
    by_cases hg : GrOk g
    · by_cases hp : PolOk g.size p
      · exact ⟨hg, hp⟩
      · rw [if_pos hg, if_neg hp] at he; cases he
    · rw [if_neg hg] at he; cases he
  have hof := checker_of_ok g p hgp.1 hN (by omega)
  have hec := engine_check_ok g p x hgp.1 hgp.2 hN hs hx
  have : checkAll g p x = checkC g p x := by unfold checkAll; rw [if_pos hgp.1, if_pos hgp.2]
  rw [this]
  refine awp_skip ?_
  refine rxd (s := ?s6) [6] [] [] rfl ?o6 ?q6
  case o6 =>
    simp
    refine call0e hof (by simp) ?_
    simp
    refine call0e hec (by simp) ?_
    simp
    refine ⟨rfl, ?_⟩
    rfl
  refine awp_ret ?_
  exact ⟨.inr rfl, RetOk.one (by simp)⟩
set_option maxRecDepth 100000 in
set_option maxHeartbeats 1000000 in
open Classical in
theorem ref44_Check_ok (g : Gr) (p : Pol) (x : Expl) (hl : g.edges.length ≤ 140737488355328) (hl2 : g.gone.length ≤ 140737488355328) (ht : p.table.length ≤ 140737488355328) (hs : p.seeds.length ≤ 64) (hx : SmallX x) :
    ACalls Tryz.prog nref44_Check [eG g, eP p, eX x] [] (.I (checkAll g p x)) [] := by
  refine sref44_Check.acalls (Nat.le_of_ble_eq_true rfl) (Nat.le_of_ble_eq_true rfl) (Nat.le_refl _) ?_
  show awp _ 0 _ _ ⟨91, [(0, eG g), (1, eP p), (2, eX x)], [], 16⟩
  have hchk := ref13_Check_ok g p hl hl2 (by omega) ht
  obtain ⟨e, he⟩ : ∃ e : Int, e = if GrOk g then if PolOk g.size p then 0 else 15 else 14 := ⟨_, rfl⟩
  rw [← he] at hchk
  refine rx (s := ?s1) [3, 4, 5] [] [16, 24, 32] rfl ?o1 ?q1
  case o1 => simp; rfl
  refine awp_seq ?_
  refine rx (s := ?s2) [3, 4, 5, 7] [] [] rfl ?o2 ?q2
  case o2 => simp; refine call0e hchk (by simp) ?_; simp; rfl
  refine rx (s := ?s3) [3, 4, 5, 7, 16] [] [] rfl ?o3 ?q3
  case o3 => simp; rfl
  refine awp_cond _ rfl (fun h4 => ?_) fun h4 => ?_
  · simp at h4
    refine rx (s := ?s5) [6] [] [] rfl ?o5 ?q5
    case o5 => simp; rfl
    refine awp_ret ?_
    have : checkAll g p x = e := by
      unfold checkAll
      rw [he]
      by_cases hg : GrOk g
      · by_cases hp : PolOk g.size p
        · rw [if_pos hg, if_pos hp] at he; exact absurd he h4
        · rw [if_pos hg, if_pos hg, if_neg hp, if_neg hp]
      · rw [if_neg hg, if_neg hg]
    exact ⟨.inr rfl, RetOk.one (by simp [this])⟩
  simp at h4
  have hgp : GrOk g ∧ PolOk g.size p := by
    rw [h4] at he
    by_cases hg : GrOk g
    · by_cases hp : PolOk g.size p
      · exact ⟨hg, hp⟩
      · rw [if_pos hg, if_neg hp] at he; cases he
    · rw [if_neg hg] at he; cases he
  obtain ⟨hg, hp⟩ := hgp
  have hsz := hg.1.1
  have hsz2 := hg.1.2.1
  have hol := ordL_len (g := levelG g p.lv) (S := p.seeds) hsz
  rw [show (levelG g p.lv).size = g.size from rfl] at hol
  have hor : ∀ k ∈ ordL (levelG g p.lv) p.seeds, 0 ≤ k ∧ k < g.size := fun k hk => by have h := ordL_range hk; exact h
  have hno := ordL_nodup (levelG g p.lv) p.seeds
  have hre := ref44_reached_ok g p hg (by omega)
  have hpth := fun (ends : List Int) (hE : ends.length ≤ 1099511627776) => ref44_Paths_ok g p x.paths ends hl hl2 (by omega) ht hx.p hx.w hE
  have hbef := ref44_ahead_ok (ordL (levelG g p.lv) p.seeds) x.before x.key (by omega) (by have := hx.b; omega)
  have hcon := has24_ok (ordL (levelG g p.lv) p.seeds) x.key (by omega)
  have hnet := fun (sinks : List Int) h1 h2 => ref14_Network_ok g p sinks hg hp h1 hs h2
  have hca : checkAll g p x = checkR g p x := by unfold checkAll; rw [if_pos hg, if_pos hp, check_same hsz2]
  rw [hca]
  unfold checkR
  have hPR : ∀ ends, ServesR g p.lv p.seeds (ordL (levelG g p.lv) p.seeds) (capsL g p) x.paths ends ↔ PathsR g p x.paths ends := fun ends => ⟨fun h => ⟨⟨hg, hp⟩, h⟩, fun h => h.2⟩
  simp only [hPR]
  obtain ⟨O, hO⟩ : ∃ O, O = ordL (levelG g p.lv) p.seeds := ⟨_, rfl⟩
  simp only [← hO] at hol hor hno hre hbef hcon ⊢
  obtain ⟨C, hC⟩ : ∃ C, C = capsL g p := ⟨_, rfl⟩
  simp only [← hC] at hnet ⊢
  refine awp_skip ?_
  refine awp_regc ⟨91, [(3, .pv (gC g)), (4, .pv (pC p)), (5, .pv (xE x)), (8, ints O)], [], 128⟩ rfl ?_ ?_
  · simp
    refine callN1 hre (by simp) ?_
    simp [Function.comp_def]
    exact Le.snap [112] rfl rfl (by simp [Function.comp_def, take_map_len])
  refine awp_seq ?_
  refine rx (s := ?s7) [3, 4, 5, 8, 25] [] [] rfl ?o7 ?q7
  case o7 => simp; refine call0e hcon (by simp) ?_; simp; rfl
  refine awp_cond _ rfl (fun h3 => ?_) fun h3 => ?_
  · simp at h3
    refine rx (s := ?s9) [6] [] [] rfl ?o9 ?q9
    case o9 => simp; rfl
    refine awp_ret ?_
    exact ⟨.inr rfl, RetOk.one (by simp [h3])⟩
  simp at h3
  refine awp_skip ?_
  refine awp_seq ?_
  refine awp_regc ⟨91, [(3, .pv (gC g)), (4, .pv (pC p)), (5, .pv (xE x)), (53, .B (decide (FormX O x)))], [], 392⟩ rfl ?_ ?_
  · simp
    refine call0e hbef (by simp) ?_
    simp
    by_cases hb : BeforeP O x.before x.key
    · simp [hb]
      cases hac : x.acc with
      | true =>
        simp [hac]
        by_cases hsd : x.side.length = 0
        · have hs0 : x.side = [] := List.length_eq_zero_iff.1 hsd
          have hF : ¬ FormX O x := by simp [FormX, hb, hac, hs0]
          rw [decide_eq_false hF]
          simp [hsd, hac]
          exact Le.snap [] rfl rfl (by simp [hac, xE, Wk.refl])
        · have hs0 : x.side ≠ [] := fun h => hsd (by rw [h]; rfl)
          have hF : FormX O x := by simp [FormX, hac, hs0]
          have h0 : 0 < x.side.length := by omega
          rw [decide_eq_true hF]
          simp [h0, hac]
          exact Le.snap [] rfl rfl (by simp [hac, xE, Wk.refl])
      | false =>
        simp [hac]
        by_cases hsd : x.paths.length = 0
        · have hs0 : x.paths = [] := List.length_eq_zero_iff.1 hsd
          have hF : ¬ FormX O x := by simp [FormX, hb, hac, hs0]
          rw [decide_eq_false hF]
          simp [hsd, hac]
          exact Le.snap [] rfl rfl (by simp [hac, xE, Wk.refl])
        · have hs0 : x.paths ≠ [] := fun h => hsd (by rw [h]; rfl)
          have hF : FormX O x := by simp [FormX, hac, hs0]
          have h0 : 0 < x.paths.length := by omega
          rw [decide_eq_true hF]
          simp [h0, hac]
          exact Le.snap [] rfl rfl (by simp [hac, xE, Wk.refl])
    · simp [hb]
      exact Le.snap [] rfl rfl (by simp [FormX, hb])
  refine awp_cond _ rfl (fun h6 => ?_) fun h6 => ?_
  · rw [decide_eq_true_eq] at h6
    refine rx (s := ?s12) [6] [] [] rfl ?o12 ?q12
    case o12 => simp; rfl
    refine awp_ret ?_
    refine ⟨.inr rfl, RetOk.one ?_⟩
    unfold FormX at h6
    rw [if_neg (not_not_intro h3), if_pos h6]
    simp
  rw [decide_eq_false_iff_not] at h6
  unfold FormX at h6
  rw [if_neg (not_not_intro h3), if_neg h6]
  have hb : BeforeP O x.before x.key := Classical.byContradiction fun h => h6 (.inl h)
  have hra : ∀ k ∈ x.before ++ [x.key], 0 ≤ k ∧ k < g.size := fun k hk => by
    rcases List.mem_append.1 hk with hk | hk
    · exact hor k ((List.takeWhile_sublist _).subset (hb.subset hk))
    · rw [List.mem_singleton] at hk
      rw [hk]
      exact hor _ h3
  have hbl := hx.b
  refine awp_skip ?_
  obtain ⟨A, hA⟩ : ∃ A, A = x.before ++ [x.key] := ⟨_, rfl⟩
  have hAl : A.length = x.before.length + 1 := by rw [hA]; simp
  rw [← hA] at hra ⊢
  refine awp_dregc ⟨91, [(3, .pv (gC g)), (4, .pv (pC p)), (5, .pv (xE x)), (9, ints A)], [], 464⟩ rfl ?_ ?_
  · simp
    refine ⟨by omega, by omega, by omega, by omega, rfl, Le.snap [448] rfl rfl (by simp [Function.comp_def, hA, ints, Wk.refl, List.take_of_length_le])⟩
  refine awp_seq ?_
  refine rx (s := ?s14) [3, 4, 5, 9, 63] [] [] rfl ?o14 ?q14
  case o14 => simp; rfl
  refine awp_cond _ rfl (fun h10 => ?_) fun h10 => ?_
  · rw [if_pos h10]
    refine awp_seq ?_
    refine rx (s := ?s16) [70] [] [] rfl ?o16 ?q16
    case o16 => simp; refine call0e (hpth A (by omega)) (by simp) ?_; simp; rfl
    refine awp_cond _ rfl (fun h12 => ?_) fun h12 => ?_
    · simp at h12
      refine rx (s := ?s18) [6] [] [] rfl ?o18 ?q18
      case o18 => simp; rfl
      refine awp_ret ?_
      exact ⟨.inr rfl, RetOk.one (by simp [h12])⟩
    simp at h12
    refine awp_skip ?_
    refine rx (s := ?s19) [6] [] [] rfl ?o19 ?q19
    case o19 => simp; rfl
    refine awp_ret ?_
    exact ⟨.inr rfl, RetOk.one (by simp [h12])⟩
  rw [if_neg (by simp [h10])]
  have hSl := joinL_len A
  have hn2 := hnet (joinL A) (rise_join hra) hSl
  have harc := netArcs_len g p (joinL A) hg hs hSl
  rw [← hC] at harc
  have hjn := join24_ok A [] (by omega) (by simp)
  rw [List.append_nil] at hjn
  obtain ⟨S, hS⟩ : ∃ S, S = joinL A := ⟨_, rfl⟩
  rw [← hS] at hn2 harc hSl hjn ⊢
  obtain ⟨n, hn⟩ : ∃ n : Net, n = ⟨2 + 2 * g.size, netArcs g p C S⟩ := ⟨_, rfl⟩
  rw [← hn] at hn2 ⊢
  have hna : n.arcs.length ≤ 1000 := by rw [hn]; exact harc
  have hsidel := hx.s
  refine awp_skip ?_
  refine awp_dregc ⟨91, [(5, .pv (xE x)), (10, .pv (nC n)), (11, .I 0)], [], 568⟩ rfl ?_ ?_
  · simp
    refine callN1w2 hjn (by simp [Wk.refl, ints, Wk.nil]) ?_
    simp [Function.comp_def]
    refine call0k [504] (by simp) hn2 (by simp [take_map_len]) ?_
    simp
    exact ⟨rfl, Le.snap [544] rfl rfl (by simp)⟩
  refine awp_seq ?_
  refine awp_regc ⟨91, [(90, .B (decide (¬ ProvesP n x.side x.before.length)))], [], 664⟩ rfl ?_ ?_
  · simp
    refine call0e (ref16_Proves_ok n x.side x.before.length (by omega) (by omega)) (by simp) ?_
    simp
    exact Le.snap [] rfl rfl (by simp)
  refine awp_cond _ rfl (fun h17 => ?_) fun h17 => ?_
  · rw [decide_eq_true_eq] at h17
    refine rx (s := ?s23) [6] [] [] rfl ?o23 ?q23
    case o23 => simp; rfl
    refine awp_ret ?_
    exact ⟨.inr rfl, RetOk.one (by simp [h17])⟩
  rw [decide_eq_false_iff_not, Decidable.not_not] at h17
  refine awp_skip ?_
  refine rx (s := ?s24) [6] [] [] rfl ?o24 ?q24
  case o24 => simp; rfl
  refine awp_ret ?_
  exact ⟨.inr rfl, RetOk.one (by simp [h17])⟩
end Go.Proofs.YtlhjelookgjmpaaGreat
namespace Go.Proofs.YtlhjelookgjmpaaGreat
open Go
def lowN : List Int → Int → Nat
  | [], _ => 0
  | x :: l, k => if x < k then lowN l k + 1 else 0
def putL (l : List Int) (k : Int) : List Int := if l[lowN l k]? = some k then l else l.take (lowN l k) ++ k :: l.drop (lowN l k)
theorem lowN_le : ∀ (l : List Int) (k : Int), lowN l k ≤ l.length
  | [], _ => Nat.le_refl _
  | x :: l, k => by unfold lowN; have := lowN_le l k; split <;> simp <;> omega
theorem lowN_lt : ∀ {l : List Int} {k : Int} {i : Nat} (h : i < l.length), i < lowN l k → l[i] < k
  | x :: l, k, 0, _, h => by
    unfold lowN at h
    split at h
    · simpa
    · omega
  | x :: l, k, i + 1, hi, h => by
    unfold lowN at h
    split at h
    · simpa using lowN_lt (l := l) (by simpa using hi) (by omega)
    · omega
theorem lowN_stop : ∀ {l : List Int} {k : Int} (h : lowN l k < l.length), ¬ l[lowN l k] < k
  | x :: l, k, h => by
    by_cases hx : x < k
    · have e : lowN (x :: l) k = lowN l k + 1 := by simp [lowN, hx]
      simp only [e, List.getElem_cons_succ]
      exact lowN_stop (by rw [e] at h; simpa using h)
    · have e : lowN (x :: l) k = 0 := by simp [lowN, hx]
      simp only [e, List.getElem_cons_zero]
      exact hx
theorem lowN_eq {l : List Int} {k : Int} {i : Nat} (hi : i ≤ l.length) (h1 : ∀ j (h : j < l.length), j < i → l[j] < k) (h2 : ∀ h : i < l.length, ¬ l[i] < k) : lowN l k = i := by
  rcases Nat.lt_trichotomy (lowN l k) i with h | h | h
  · exact absurd (h1 _ (by omega) h) (lowN_stop (by omega))
  · exact h
  · have hl := lowN_le l k
    exact absurd (lowN_lt (by omega) h) (h2 (by omega))
theorem putL_len (l : List Int) (k : Int) : (putL l k).length ≤ l.length + 1 := by
  unfold putL
  split
  · omega
  · simp; have := lowN_le l k; omega
theorem mem_putL {l : List Int} {k x : Int} : x ∈ putL l k ↔ x ∈ l ∨ x = k := by
  unfold putL
  split
  · rename_i h
    constructor
    · exact .inl
    · rintro (h1 | rfl)
      · exact h1
      · exact List.mem_of_getElem? h
  · rw [List.mem_append, List.mem_cons]
    conv => rhs; rw [← List.take_append_drop (lowN l k) l, List.mem_append]
    constructor
    · rintro (h | rfl | h)
      · exact .inl (.inl h)
      · exact .inr rfl
      · exact .inl (.inr h)
    · rintro ((h | h) | rfl)
      · exact .inl h
      · exact .inr (.inr h)
      · exact .inr (.inl rfl)
theorem putL_pair {l : List Int} {k : Int} (h : l.Pairwise (· < ·)) : (putL l k).Pairwise (· < ·) := by
  unfold putL
  split
  · exact h
  · rename_i hne
    have hd : ∀ y ∈ l.drop (lowN l k), k < y := by
      intro y hy
      obtain ⟨i, hi, rfl⟩ := List.getElem_of_mem hy
      rw [List.length_drop] at hi
      rw [List.getElem_drop]
      have h0 : lowN l k < l.length := by omega
      have h1 := lowN_stop h0
      have h2 : l[lowN l k] ≠ k := fun e => hne (by rw [List.getElem?_eq_getElem h0, e])
      rcases Nat.eq_zero_or_pos i with rfl | hp
      · simp only [Nat.add_zero]; omega
      · have := (List.pairwise_iff_getElem.1 h) (lowN l k) (lowN l k + i) h0 (by omega) (by omega)
        omega
    have ht : ∀ y ∈ l.take (lowN l k), y < k := by
      intro y hy
      obtain ⟨i, hi, rfl⟩ := List.getElem_of_mem hy
      rw [List.length_take] at hi
      rw [List.getElem_take]
      exact lowN_lt (by omega) (by omega)
    rw [List.pairwise_append, List.pairwise_cons]
    refine ⟨h.sublist (List.take_sublist ..), ⟨hd, h.sublist (List.drop_sublist ..)⟩, fun x hx y hy => ?_⟩
    rcases List.mem_cons.1 hy with rfl | hy
    · exact ht x hx
    · have := ht x hx; have := hd y hy; omega
theorem rise_of_pair {l : List Int} {n : Int} (h : l.Pairwise (· < ·)) (hr : ∀ k ∈ l, 0 ≤ k ∧ k < n) : Rise l 0 (n - 1) := by
  intro i hi
  have := hr _ (List.getElem_mem hi)
  refine ⟨by omega, by omega, fun hp => ?_⟩
  exact (List.pairwise_iff_getElem.1 h) (i - 1) i (by omega) hi (by omega)
theorem Put_ok (l : List Int) (k : Int) (hl : l.length ≤ 1000000) : ACalls Tryz.prog nref11_Put [ints l, .I k] [] (.rs 0 0 (putL l k).length) [some ⟨1, rowsI (putL l k), 0⟩] := by
  refine sref11_Put.acalls (Nat.le_of_ble_eq_true rfl) (Nat.le_of_ble_eq_true rfl) (Nat.zero_le _) ?_
  show awp _ 0 _ _ ⟨45, [(0, ints l), (1, .I k)], [], 16⟩
  refine rx (s := ?s1) [0, 1] [] [] rfl ?o1 ?q1
  case o1 => simp; rfl
  refine rx (s := ?s2) [0, 1, 5] [] [] rfl ?o2 ?q2
  case o2 => simp; rfl
  refine awp_cut (ι := Nat) (fun i => ⟨45, [(0, ints l), (1, .I k), (5, .I i)], [], 200⟩) (fun i => i = lowN l k) ?_ fun i hil => ?_
  · refine awp_block ?_
    refine awp_loop (ι := Nat) (fun i => ⟨45, [(0, ints l), (1, .I k), (5, .I i)], [], 32⟩) (fun i => i ≤ l.length ∧ ∀ j (h : j < l.length), j < i → l[j] < k) (fun i => l.length - i) 0 (by simp) (Le.go [] [] rfl rfl (by simp) (by simp)) ?_
    rintro i ⟨hi, hp⟩
    refine awp_seq ?_
    refine awp_regc ⟨45, [(0, ints l), (1, .I k), (5, .I i), (17, .B (decide (∃ h : i < l.length, l[i] < k)))], [], 200⟩ rfl ?_ ?_
    · by_cases h1 : i < l.length
      · simp [h1]
        exact Le.snap [] rfl rfl (by simp [h1])
      · have hno : ¬ ∃ h : i < l.length, l[i] < k := fun ⟨h, _⟩ => h1 h
        rw [decide_eq_false hno]
        simp [h1]
        exact Le.snap [] rfl rfl (by simp)
    refine awp_cond _ rfl (fun h2 => ?_) fun h2 => ?_
    · rw [decide_eq_true_eq] at h2
      obtain ⟨h1, h2⟩ := h2
      have hw : IntKind.i64.wrap ((i : Int) + 1) = (i : Int) + 1 := w64 (by omega) (by omega)
      refine awp_skip ?_
      refine awp_block ?_
      refine awp_run (s := ?s5) rfl ?o5 ?q5
      case o5 => simp; rfl
      refine ⟨i + 1, ⟨h1, fun j hj hji => ?_⟩, by omega, Le.go [] [] rfl rfl (by simp [hw]) (by simp)⟩
      rcases Nat.lt_succ_iff_lt_or_eq.1 hji with h | rfl
      · exact hp j hj h
      · exact h2
    · rw [decide_eq_false_iff_not] at h2
      refine awp_exit ?_
      refine hit ?_
      exact ⟨i, (lowN_eq hi hp fun h h3 => h2 ⟨h, h3⟩).symm, Le.go [] [] rfl rfl (by simp) (by simp)⟩
  have hlo := lowN_le l k
  rw [← hil] at hlo
  refine awp_seq ?_
  refine awp_regc ⟨45, [(0, ints l), (1, .I k), (5, .I i), (31, .B (decide (l[i]? = some k)))], [], 400⟩ rfl ?_ ?_
  · by_cases h1 : i < l.length
    · simp [h1]
      exact Le.snap [] rfl rfl (by simp [h1]; exact wkB (by rw [Bool.eq_iff_iff]; simp))
    · have hno : ¬ l[i]? = some k := by rw [List.getElem?_eq_none (by omega)]; simp
      rw [decide_eq_false hno]
      simp [h1]
      exact Le.snap [] rfl rfl (by simp)
  refine awp_cond _ rfl (fun h2 => ?_) fun h2 => ?_
  · rw [decide_eq_true_eq] at h2
    have hput : putL l k = l := by unfold putL; rw [← hil, if_pos h2]
    rw [hput]
    refine rk (s := ?s6) [4] [408] rfl ?o6 ?q6
    case o6 => simp; refine ⟨by omega, by omega, ?_⟩; rfl
    refine awp_ret ?_
    exact ⟨.inr rfl, RetOk.out [408] [] rfl (by simp) (by simp) (by simp) (by simp [Function.comp_def])⟩
  rw [decide_eq_false_iff_not] at h2
  have hput : putL l k = l.take i ++ k :: l.drop i := by unfold putL; rw [← hil, if_neg h2]
  have hpl : (putL l k).length = l.length + 1 := by rw [hput]; simp; omega
  have hpl2 : (putL l k).length = i + 1 + (l.length - i) := by omega
  refine awp_skip ?_
  refine awp_dregc ⟨45, [(4, .rs 480 0 (putL l k).length)], [(480, some ⟨1, rowsI (putL l k), 0⟩)], 600⟩ rfl ?_ ?_
  · simp [hlo]
    refine ⟨by omega, by omega, by omega, by omega, by omega, by omega, rfl, Le.go [(480, 480)] [] rfl rfl (by simp [hpl2]) (by simp [hput, Function.comp_def, List.take_of_length_le, hlo])⟩
  refine awp_ret ?_
  exact ⟨.inr rfl, RetOk.out [480] [] rfl (by simp) (by simp) (by simp) (by simp [Function.comp_def])⟩
theorem mk_Light_ok (L : List Int) : ACalls Tryz.prog ntrustflowmill_Light [ints L] [] (.B (decide (L.length ≤ 400))) [] := by
  refine strustflowmill_Light.acalls (Nat.le_of_ble_eq_true rfl) (Nat.le_of_ble_eq_true rfl) (Nat.le_refl _) ?_
  show awp _ 0 _ _ ⟨6, [(0, ints L)], [], 16⟩
  refine rx (s := ?s1) [0] [] [] rfl ?o1 ?q1
  case o1 => simp; rfl
  refine rx (s := ?s2) [2] [] [] rfl ?o2 ?q2
  case o2 => simp; rfl
  refine awp_ret ?_
  exact ⟨.inr rfl, RetOk.one (by simp; exact wkB (by rw [Bool.eq_iff_iff]; simp; omega))⟩
theorem mk_Mod_ok (n m : Int) (hm : m ≤ 9223372036854775807) : ACalls Tryz.prog ntrustflowmill_Mod [.I n, .I m] [] (.I (modI n m)) [] := by
  refine strustflowmill_Mod.acalls (Nat.le_of_ble_eq_true rfl) (Nat.le_of_ble_eq_true rfl) (Nat.le_refl _) ?_
  show awp _ 0 _ _ ⟨8, [(0, .I n), (1, .I m)], [], 16⟩
  refine rx (s := ?s1) [0, 1] [] [] rfl ?o1 ?q1
  case o1 => simp; rfl
  refine rx (s := ?s2) [4] [] [] rfl ?o2 ?q2
  case o2 => simp; refine call0e (Mod_ok n m hm) (by simp) ?_; simp; rfl
  refine awp_ret ?_
  exact ⟨.inr rfl, RetOk.one (by simp)⟩
end Go.Proofs.YtlhjelookgjmpaaGreat
