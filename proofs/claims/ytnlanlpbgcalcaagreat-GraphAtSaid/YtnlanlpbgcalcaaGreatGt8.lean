/- Texts of this claim, merged. -/
import Derived.Test.YtnlanlpbgcalcaaGreatGt7
set_option linter.unusedSimpArgs false
set_option linter.unusedVariables false
set_option linter.unusedSectionVars false
namespace Go.Proofs.YtnlanlpbgcalcaaGreat
open Go
def Flat (R : List (List AV)) : Prop := ∀ ρ sn h n, R.map (List.map (conv ρ sn h (n + 1))) = R
set_option maxRecDepth 100000 in
theorem insE_ok (R : List (List AV)) (row : List AV) (n k : Nat) (hn : R.length = n) (hk : k ≤ n) (hR : Flat R) (hr : Flat [row]) (hl : (n + 1) * 24 ≤ 140737488355328) :
    ACalls Tryz.prog nslices_Insert_Lapi_Edge_api_Edge [.rs 0 0 n, .I k, .vs 3 false [row]] [⟨3, R, 0⟩] (.rs 1 0 (n + 1)) [none, some ⟨3, R.take k ++ row :: R.drop k, 0⟩] := by
  have hrow : ∀ ρ sn h n, row.map (conv ρ sn h (n + 1)) = row := fun ρ sn h n => by simpa using hr ρ sn h n
  have hflat : ∀ ρ sn h n, (R.take k ++ row :: R.drop k).map (List.map (conv ρ sn h (n + 1))) = R.take k ++ row :: R.drop k := fun ρ sn h n => by
    have := hR ρ sn h n
    rw [List.map_append, List.map_cons, List.map_take, List.map_drop, this, hrow]
  refine acalls_cap fun c hc => ?_
  refine sslices_Insert_Lapi_Edge_api_Edge.acalls (Nat.le_of_ble_eq_true rfl) (Nat.le_of_ble_eq_true rfl) (Nat.le_of_ble_eq_true rfl) ?_
  show awp _ 1 _ _ ⟨95, [(0, .rk 0 0 n c), (1, .I k), (2, .vs 3 false [row])], [(0, some ⟨3, R, 0⟩)], 16⟩
  obtain ⟨n1, hn1⟩ : ∃ n1, n1 = n + 1 := ⟨_, rfl⟩
  obtain ⟨k1, hk1⟩ : ∃ k1, k1 = k + 1 := ⟨_, rfl⟩
  obtain ⟨d, hd⟩ : ∃ d, d = n1 - k := ⟨_, rfl⟩
  have hw1 : IntKind.i64.wrap ((n : Int) + 1) = (n1 : Int) := by rw [w64 (by omega) (by omega)]; omega
  have hw2 : IntKind.i64.wrap ((k : Int) + 1) = (k1 : Int) := by rw [w64 (by omega) (by omega)]; omega
  have hw3 : IntKind.i64.wrap ((n1 : Int) - (k : Int)) = (d : Int) := by rw [w64 (by omega) (by omega)]; omega
  have fin : ∀ (t : List (Nat × AV)) (m : Nat), awp Tryz.prog 1 .ret (fun e st => (e = .normal ∨ e = .ret) ∧ RetOk [(6, none)] 1 st (.rs 1 0 (n + 1)) [none, some ⟨3, R.take k ++ row :: R.drop k, 0⟩]) ⟨95, [(6, .rs 16 0 n1)], [(16, some ⟨3, R.take k ++ row :: R.drop k, 0⟩)], 24⟩ := by
    intro t m
    refine awp_ret ⟨.inr rfl, ?_⟩
    refine RetOk.m1 (vs := [.rs 16 0 n1]) 16 (by omega) rfl (by simp [hn1]) rfl ?_
    show Option.map _ (some _) = _
    rw [Option.map_some]
    unfold convE
    simp only [hflat]
  refine awp_regc ⟨95, [(0, .rk 0 0 n c), (1, .I k), (2, .vs 3 false [row])], [(0, some ⟨3, R, 0⟩)], 24⟩ rfl ?_ ?_
  · simp
    exact Le.keep rfl (Nat.le_refl _) (by simp) (by simp)
  refine awp_regc ⟨95, [(0, .rk 0 0 n c), (1, .I k), (2, .vs 3 false [row])], [(0, some ⟨3, R, 0⟩)], 48⟩ rfl ?_ ?_
  · simp [hk, hc]
    exact Le.keep rfl (Nat.le_refl _) (by simp) (by simp)
  refine awp_regc ⟨95, [(0, .rk 0 0 n c), (1, .I k), (2, .vs 3 false [row]), (7, .I 1)], [(0, some ⟨3, R, 0⟩)], 72⟩ rfl ?_ ?_
  · simp
    exact Le.keep rfl (Nat.le_refl _) (by simp) (by simp)
  refine awp_seq ?_
  refine awp_regc ⟨95, [(0, .rk 0 0 n c), (1, .I k), (2, .vs 3 false [row]), (7, .I 1), (16, .B false)], [(0, some ⟨3, R, 0⟩)], 88⟩ rfl ?_ ?_
  · simp
    exact Le.keep rfl (Nat.le_refl _) (by simp) (by simp)
  refine awp_cond _ rfl (fun h => by cases h) fun _ => awp_skip ?_
  refine awp_regc ⟨95, [(0, .rk 0 0 n c), (1, .I k), (2, .vs 3 false [row]), (7, .I 1), (8, .I n)], [(0, some ⟨3, R, 0⟩)], 112⟩ rfl ?_ ?_
  · simp
    exact Le.keep rfl (Nat.le_refl _) (by simp) (by simp)
  refine awp_seq ?_
  refine awp_regc ⟨95, [(0, .rk 0 0 n c), (1, .I k), (2, .vs 3 false [row]), (7, .I 1), (8, .I n), (22, .B (decide (k = n)))], [(0, some ⟨3, R, 0⟩)], 136⟩ rfl ?_ ?_
  · simp
    exact Le.keep rfl (Nat.le_refl _) (by simp <;> rw [Bool.eq_iff_iff] <;> simp <;> omega) (by simp)
  refine awp_cond _ rfl (fun h => ?_) fun h => awp_skip ?_
  ·
    simp at h
    subst h
    have hT : R.take k = R := List.take_of_length_le (by omega)
    have hD : R.drop k = [] := List.drop_eq_nil_of_le (by omega)
    have hD1 : R.drop n1 = [] := List.drop_eq_nil_of_le (by omega)
    simp only [hT, hD] at fin hflat ⊢
    refine awp_regc ⟨95, [(6, .rs 16 0 n1)], [(16, some ⟨3, R ++ [row], 0⟩)], 24⟩ rfl ?_ (fin [] 0)
    simp [hn, ← hn1, hT, hD1]
    refine ⟨by omega, by omega, ?_⟩
    split
    · exact Le.mv1 0 16 rfl rfl (Nat.le_of_ble_eq_true rfl) (by omega) rfl (by simp only [convE, hflat]) (Nat.zero_le _) (by simp)
    · exact Le.mv1 152 16 rfl rfl (Nat.le_of_ble_eq_true rfl) (by omega) rfl (by simp only [convE, hflat]) (Nat.zero_le _) (by simp)
  simp at h
  have hkn : k < n := by omega
  refine awp_seq ?_
  refine awp_regc ⟨95, [(0, .rk 0 0 n c), (1, .I k), (2, .vs 3 false [row]), (7, .I 1), (8, .I n), (31, .B (decide (c < n1)))], [(0, some ⟨3, R, 0⟩)], 184⟩ rfl ?_ ?_
  · simp [hw1]
    exact Le.keep rfl (Nat.le_refl _) (by simp) (by simp)
  refine awp_cond _ rfl (fun h => ?_) fun h => awp_skip ?_
  ·
    simp at h
    have hdn : n - k + 1 = d := by omega
    refine awp_regc ⟨95, [(0, .rk 0 0 n c), (1, .I k), (2, .vs 3 false [row]), (7, .I 1), (8, .I n), (9, .rs 248 0 n1)], [(0, some ⟨3, R, 0⟩), (248, some ⟨3, R.take k ++ List.replicate d [.I 0, .I 0, .I 0], 0⟩)], 264⟩ rfl ?_ ?_
    · have hkd : k + d = n1 := by omega
      simp [hw1, hw3, hkd]
      exact ⟨by omega, by omega, by omega, h, by omega, by omega, Le.keep rfl (Nat.le_refl _) (by simp) (by simp)⟩
    refine awp_regc ⟨95, [(0, .rk 0 0 n c), (1, .I k), (2, .vs 3 false [row]), (7, .I 1), (8, .I n), (9, .rs 248 0 n1)], [(0, some ⟨3, R, 0⟩), (248, some ⟨3, R.take k ++ row :: List.replicate (n - k) [.I 0, .I 0, .I 0], 0⟩)], 304⟩ rfl ?_ ?_
    · have hm : min 1 (n1 - k) = 1 := by omega
      have hl0 : (R.take k).length = k := by simp; omega
      have h1 : (R.take k ++ List.replicate d [AV.I 0, AV.I 0, AV.I 0]).take k = R.take k := by
        rw [List.take_append_of_le_length (by omega), List.take_take]
        congr 1; omega
      have h2 : (R.take k ++ List.replicate d [AV.I 0, AV.I 0, AV.I 0]).drop (k + 1) = List.replicate (n - k) [AV.I 0, AV.I 0, AV.I 0] := by
        rw [List.drop_append, hl0, List.drop_eq_nil_of_le (by omega), List.drop_replicate]
        simp
        omega
      simp [show k ≤ n1 by omega, hm]
      exact ⟨by omega, Le.keep rfl (Nat.le_refl _) (by simp) (by simp [h1, h2])⟩
    refine awp_dregc ⟨95, [(9, .rs 248 0 n1)], [(248, some ⟨3, R.take k ++ row :: R.drop k, 0⟩)], 376⟩ rfl ?_ ?_
    · have hl0 : (R.take k).length = k := by simp; omega
      have hx : List.take (n - k) (List.drop k R) = List.drop k R := List.take_of_length_le (by simp; omega)
      have hxl : (List.drop k R).length = n - k := by simp; omega
      have hm : min (n - k) (n1 - k1) = n - k := by omega
      have h1 : (R.take k ++ row :: List.replicate (n - k) [AV.I 0, AV.I 0, AV.I 0]).take k1 = R.take k ++ [row] := by
        rw [List.take_append, hl0, List.take_of_length_le (by omega), hk1, show k + 1 - k = 1 by omega]
        rfl
      have h2 : (R.take k ++ row :: List.replicate (n - k) [AV.I 0, AV.I 0, AV.I 0]).drop (k1 + (n - k)) = [] := List.drop_eq_nil_of_le (by simp; omega)
      simp [hw2]
      refine ⟨by omega, by omega, by omega, by omega, _, ⟨by omega, hx⟩, rfl, ?_⟩
      rw [hxl, hm, h1, h2, hx]
      exact Le.keep rfl (Nat.le_refl _) (by simp) (by simp)
    refine awp_regc ⟨95, [(6, .rs 16 0 n1)], [(16, some ⟨3, R.take k ++ row :: R.drop k, 0⟩)], 24⟩ rfl ?_ (fin [] 0)
    simp
    exact Le.mv1 248 16 rfl rfl (Nat.le_of_ble_eq_true rfl) (by omega) rfl (by simp only [convE, hflat]) (Nat.zero_le _) (by simp)
  simp at h
  refine awp_regc ⟨95, [(0, .rk 0 0 n1 c), (1, .I k), (2, .vs 3 false [row]), (7, .I 1), (8, .I n)], [(0, some ⟨3, R, 0⟩)], 232⟩ rfl ?_ ?_
  · simp [hw1, h]
    exact Le.keep rfl (Nat.le_refl _) (by simp) (by simp)
  refine awp_seq ?_
  refine awp_regc ⟨95, [(0, .rk 0 0 n1 c), (1, .I k), (2, .vs 3 false [row]), (7, .I 1), (8, .I n), (68, .B true)], [(0, some ⟨3, R, 0⟩)], 296⟩ rfl ?_ ?_
  · simp [hw2, h, show k1 ≤ n1 by omega]
    exact Le.keep rfl (Nat.le_refl _) (by simp) (by simp)
  refine awp_cond _ rfl (fun _ => ?_) fun h => by cases h
  have hmin : min (n1 - k) (n1 - k1) = n - k := by omega
  have hRk : (R.drop k).take (n - k) = R.drop k := List.take_of_length_le (by simp; omega)
  refine awp_dregc ⟨95, [(0, .rk 0 0 n1 c), (1, .I k), (2, .vs 3 false [row]), (7, .I 1), (8, .I n)], [(0, some ⟨3, R.take k1 ++ R.drop k, 0⟩)], 368⟩ rfl ?_ ?_
  · simp [hw2, h, show k1 ≤ n1 by omega, show k ≤ n1 by omega, hmin, hn, show k + (n - k) ≤ n by omega, show k1 ≤ n by omega, hRk, Nat.min_eq_left (show n - k ≤ n1 - k by omega)]
    refine ⟨rfl, Le.keep rfl (Nat.le_refl _) (by simp) (by simp; omega)⟩
  refine awp_regc ⟨95, [(0, .rk 0 0 n1 c)], [(0, some ⟨3, R.take k ++ row :: R.drop k, 0⟩)], 408⟩ rfl ?_ ?_
  · have hm : min 1 (n1 - k) = 1 := by omega
    have h1 : (R.take k1 ++ R.drop k).take k = R.take k := by
      rw [List.take_append_of_le_length (by simp; omega), List.take_take]
      congr 1; omega
    have h2 : (R.take k1 ++ R.drop k).drop (k + 1) = R.drop k := by
      rw [← hk1, List.drop_append_of_le_length (by simp; omega)]
      rw [List.drop_eq_nil_of_le (by simp; omega)]; rfl
    simp [h, show k ≤ n1 by omega, hm, hn]
    exact ⟨by omega, Le.keep rfl (Nat.le_refl _) (by simp) (by simp [h1, h2])⟩
  refine awp_regc ⟨95, [(6, .rs 16 0 n1)], [(16, some ⟨3, R.take k ++ row :: R.drop k, 0⟩)], 24⟩ rfl ?_ (fin [] 0)
  simp
  exact Le.mv1 0 16 rfl rfl (Nat.le_of_ble_eq_true rfl) (by omega) rfl (by simp only [convE, hflat]) (Nat.zero_le _) (by simp)
set_option maxRecDepth 100000 in
theorem delE_ok (R : List (List AV)) (n k k1 : Nat) (hn : R.length = n) (hk : k < n) (hk1 : k1 = k + 1) (hR : Flat R) (hl : (n + 1) * 24 ≤ 140737488355328) :
    ACalls Tryz.prog nslices_Delete_Lapi_Edge_api_Edge [.rs 0 0 n, .I k, .I k1] [⟨3, R, 0⟩] (.rs 0 0 (n - 1)) [some ⟨3, R.take k ++ R.drop k1 ++ [[.I 0, .I 0, .I 0]], 0⟩] := by
  refine acalls_cap fun c hc => ?_
  refine sslices_Delete_Lapi_Edge_api_Edge.acalls (Nat.le_of_ble_eq_true rfl) (Nat.le_of_ble_eq_true rfl) (Nat.le_of_ble_eq_true rfl) ?_
  show awp _ 1 _ _ ⟨33, [(0, .rk 0 0 n c), (1, .I k), (2, .I k1)], [(0, some ⟨3, R, 0⟩)], 16⟩
  obtain ⟨nm, hnm⟩ : ∃ nm, nm = n - 1 := ⟨_, rfl⟩
  refine awp_regc ⟨33, [(0, .rk 0 0 n c), (1, .I k), (2, .I k1)], [(0, some ⟨3, R, 0⟩)], 24⟩ rfl ?_ ?_
  · simp
    exact Le.keep rfl (Nat.le_refl _) (by simp) (by simp)
  refine awp_regc ⟨33, [(0, .rk 0 0 n c), (1, .I k), (2, .I k1)], [(0, some ⟨3, R, 0⟩)], 72⟩ rfl ?_ ?_
  · simp
    exact ⟨by omega, by omega, by omega, Le.keep rfl (Nat.le_refl _) (by simp) (by simp)⟩
  refine awp_seq ?_
  refine awp_regc ⟨33, [(0, .rk 0 0 n c), (1, .I k), (2, .I k1), (16, .B false)], [(0, some ⟨3, R, 0⟩)], 96⟩ rfl ?_ ?_
  · simp
    exact Le.keep rfl (Nat.le_refl _) (by simp; omega) (by simp)
  refine awp_cond _ rfl (fun h => by cases h) fun _ => awp_skip ?_
  refine awp_regc ⟨33, [(0, .rk 0 0 n c), (1, .I k), (2, .I k1), (7, .I n)], [(0, some ⟨3, R, 0⟩)], 120⟩ rfl ?_ ?_
  · simp
    exact Le.keep rfl (Nat.le_refl _) (by simp) (by simp)
  have hx : List.take (n - k1) (List.drop k1 R) = List.drop k1 R := List.take_of_length_le (by simp; omega)
  have hxl : (List.drop k1 R).length = n - k1 := by simp; omega
  have hl0 : (R.take k).length = k := by simp; omega
  refine awp_dregc ⟨33, [(0, .rk 0 0 nm c), (7, .I n)], [(0, some ⟨3, R.take k ++ R.drop k1 ++ R.drop nm, 0⟩)], 184⟩ rfl ?_ ?_
  · simp
    have hkn : k + (n - k1) = nm := by omega
    refine ⟨by omega, by omega, by omega, _, ⟨by omega, hx⟩, by omega, ?_⟩
    rw [hxl, hkn]
    refine ⟨by omega, by omega, ?_⟩
    rw [if_pos (by omega)]
    exact ⟨rfl, Le.keep rfl (Nat.le_refl _) (by simp) (by simp)⟩
  have h1 : (R.take k ++ R.drop k1 ++ R.drop nm).take nm = R.take k ++ R.drop k1 := by
    rw [List.take_append_of_le_length (by simp; omega), List.take_of_length_le (by simp; omega)]
  refine awp_regc ⟨33, [(0, .rk 0 0 nm c)], [(0, some ⟨3, R.take k ++ R.drop k1 ++ [[.I 0, .I 0, .I 0]], 0⟩)], 232⟩ rfl ?_ ?_
  · rw [List.append_assoc] at h1
    have h2 : (R.take k ++ (R.drop k1 ++ R.drop nm)).drop (nm + (n - nm)) = [] := List.drop_eq_nil_of_le (by simp; omega)
    have h3 : n - nm = 1 := by omega
    simp
    refine ⟨by omega, by omega, by omega, ?_⟩
    rw [h1, h2, h3]
    exact Le.keep rfl (Nat.le_refl _) (by simp) (by simp [List.replicate])
  refine awp_seq ?_
  refine awp_run (s := ?s9) rfl ?o9 ?q9
  case o9 => simp; rfl
  refine awp_ret ?_
  refine ⟨.inr rfl, ⟨[.rk 0 0 nm c], rfl, [], [], by simp [List.range, List.range.loop], by simp, by simp, ?_, ?_⟩⟩
  · simp [List.range, List.range.loop, ← hnm]
  · have hflat : ∀ ρ sn h n, (R.take k ++ (R.drop k1 ++ [[AV.I 0, AV.I 0, AV.I 0]])).map (List.map (conv ρ sn h (n + 1))) = R.take k ++ R.drop k1 ++ [[AV.I 0, AV.I 0, AV.I 0]] := fun ρ sn h n => by
      have := hR ρ sn h n
      rw [List.map_append, List.map_append, List.map_take, List.map_drop, this]
      simp
    show [Option.map _ (some _)] = _
    rw [Option.map_some]
    unfold convE
    simp only [List.append_assoc, hflat]
end Go.Proofs.YtnlanlpbgcalcaaGreat
namespace Go.Proofs.YtnlanlpbgcalcaaGreat
open Go
theorem flatE (l : List Ed) : Flat (l.map fun e => [AV.I e.f, AV.I e.t, AV.I e.v]) := by
  intro ρ sn h n
  simp [Function.comp_def]
theorem GrOk.lt {g : Gr} (h : GrOk g) : ∀ (j i : Nat) (hi : i < g.edges.length) (hj : j < g.edges.length), i < j → Bef g.edges[i] g.edges[j]
  | 0, _, _, _, h0 => by omega
  | j + 1, i, hi, hj, hij => by
    have h1 : Bef g.edges[j] g.edges[j + 1] := cmpE_lt.1 ((h.2 (j + 1) hj).2.2.2 (by omega))
    rcases Nat.lt_or_ge i j with h2 | h2
    · have h3 := GrOk.lt h j i hi (by omega) h2
      unfold Bef at *
      omega
    · obtain rfl : i = j := by omega
      exact h1
theorem GrOk.mono {g : Gr} (h : GrOk g) (e : Ed) : ∀ (i j : Nat) (hi : i < g.edges.length) (hj : j < g.edges.length), i ≤ j → Bef g.edges[j] e → Bef g.edges[i] e := by
  intro i j hi hj hij hb
  rcases Nat.lt_or_ge i j with h2 | h2
  · have h3 := h.lt j i hi hj h2
    unfold Bef at *
    omega
  · obtain rfl : i = j := by omega
    exact hb
theorem idxE_same (l : List Ed) (e : Ed) : idxE l e = idxE l ⟨e.f, e.t, 0⟩ := rfl
section
variable {P : Program} {np id : Nat} {h : Nat → Option Ent} {K : AV → List Nat → List (Nat × Option Ent) → Prop} {f : FuncId} {first capt args args' : List AV} {res : AV}
theorem callM1s {i j : Nat} {e e' ej : Ent} {hs' : List (Option Ent)} (hij : j ≠ i) (hnp : np ≤ j) (hi : h i = some e) (hj : h j = some ej) (hee : convE [(i, 0)] [j] h 4 e = e') (hc : ACalls P f args' [e'] res hs') (h8 : hs'.length ≤ 9) (he : (first ++ args ++ capt).map (conv [(i, 0)] [j] h 4) = args')
    (hk : K (conv (swp [i] id) [] (fun _ => none) 4 res) [i, j] ((hs'.zipIdx.map fun (e, k) => ((i :: (List.range 8).map (id + ·)).getD k 0, e.map (convE (swp [i] id) [] (fun _ => none) 4))) ++ [(j, some { ej with ro := ej.rows.length })])) : aK P np id .call (.fn (.func f) first capt :: args) h K :=
  ⟨[i], [j], true, args', [e'], res, hs', by simp, by simpa using hij, by simpa using hnp, by rw [show [i].zipIdx = [(i, 0)] from rfl, he]; exact wkL_refl _, by rw [show [i].zipIdx = [(i, 0)] from rfl]; simpa [hi] using hee, hc, by simpa using h8, .inl rfl, by simpa [swp, hj] using hk⟩
end
open Classical in
set_option maxRecDepth 100000 in
theorem graph_With_ok (g : Gr) (e : Ed) (hl : g.edges.length * 24 ≤ 140737488355328) (hl2 : g.gone.length * 8 ≤ 140737488355328) : ACalls Tryz.prog ngraph_With [eG g, eE e] [] (.tup [eG (withR g e).1, .I (withR g e).2]) [] := by
  refine sgraph_With.acalls (Nat.le_of_ble_eq_true rfl) (Nat.le_of_ble_eq_true rfl) (Nat.le_refl _) ?_
  show awp _ 0 _ _ ⟨51, [(0, eG g), (1, eE e)], [], 16⟩
  refine awp_regc ⟨51, [(2, .pv (gC g)), (3, .pv (eC e)), (4, .pt 32 0 0)], [(32, some ⟨3, [[.I 0, .nilS, .nilS]], 0⟩)], 40⟩ rfl ?_ ?_
  · simp
    exact Le.var1 32 [16, 24] rfl rfl (Nat.le_of_ble_eq_true rfl) (by decide) rfl (by simp) (by simp) (by simp)
  refine awp_seq ?_
  refine awp_seq ?_
  refine awp_run (s := ?s1) rfl ?o1 ?q1
  case o1 => simp; refine call0e (graph_Check_ok g (by omega) (by omega)) rfl ?_; simp; rfl
  refine awp_cond _ rfl (fun h2 => ?_) fun h2 => ?_
  · have hg : ¬ GrOk g := by
      intro hg
      simp [hg] at h2
    refine awp_seq ?_
    refine awp_run (s := ?s3) rfl ?o3 ?q3
    case o3 => simp; rfl
    refine awp_ret ?_
    refine ⟨.inr rfl, ?_⟩
    show RetOk [(4, some (true, 3)), (5, none)] 0 _ _ _
    refine RetOk.out (vs := [.agg [.I 0, .nilS, .nilS], .I 14]) [] [] (by simp) (by simp) (by simp) ?_ (by simp)
    have hr : withR g e = (emptyG, 14) := by grind [withR]
    simp [hr, emptyG]
    exact wkT2 (wkA3 (.refl _) (.nil _ _) (.nil _ _)) (.refl _)
  have hg : GrOk g := by
    rcases Classical.em (GrOk g) with h | h
    · exact h
    · simp [h] at h2
  have h500 : g.edges.length ≤ 500 := hg.1.2.2.1
  refine awp_skip ?_
  refine awp_seq ?_
  refine awp_run (s := ?s4) rfl ?o4 ?q4
  case o4 => simp; refine call0e (BinarySearch_ok g.edges e (Nat.le_trans hg.1.2.2.1 (by omega)) (hg.mono e)) rfl ?_; simp [idxE_same]; rfl
  refine awp_seq ?_
  refine awp_block ?_
  refine awp_seq ?_
  refine awp_run (s := ?s5) rfl ?o5 ?q5
  case o5 => simp; refine call0e (graph_fits_ok g e hg.1.1 hg.1.2.1 (by omega)) rfl ?_; simp; rfl
  refine awp_cond _ rfl (fun h6 => ?_) fun h6 => ?_
  · try simp at h6
    refine awp_seq ?_
    refine awp_run (s := ?s7) rfl ?o7 ?q7
    case o7 => simp; rfl
    refine awp_ret ?_
    refine ⟨.inr rfl, ?_⟩
    show RetOk [(4, some (true, 3)), (5, none)] 0 _ _ _
    refine RetOk.out (vs := [.agg [.I 0, .nilS, .nilS], .I 4]) [] [] (by simp) (by simp) (by simp) ?_ (by simp)
    have hr : withR g e = (emptyG, 4) := by grind [withR]
    simp [hr, emptyG]
    exact wkT2 (wkA3 (.refl _) (.nil _ _) (.nil _ _)) (.refl _)
  try simp at h6
  refine awp_seq ?_
  refine awp_run (s := ?s8) rfl ?o8 ?q8
  case o8 => simp; refine call0e (lists_In_ok ..) rfl ?_; simp; rfl
  refine awp_cond _ rfl (fun h9 => ?_) fun h9 => ?_
  · try simp at h9
    refine awp_seq ?_
    refine awp_run (s := ?s10) rfl ?o10 ?q10
    case o10 => simp; rfl
    refine awp_ret ?_
    refine ⟨.inr rfl, ?_⟩
    show RetOk [(4, some (true, 3)), (5, none)] 0 _ _ _
    refine RetOk.out (vs := [.agg [.I 0, .nilS, .nilS], .I 2]) [] [] (by simp) (by simp) (by simp) ?_ (by simp)
    have hr : withR g e = (emptyG, 2) := by grind [withR]
    simp [hr, emptyG]
    exact wkT2 (wkA3 (.refl _) (.nil _ _) (.nil _ _)) (.refl _)
  try simp at h9
  refine awp_seq ?_
  refine awp_run (s := ?s11) rfl ?o11 ?q11
  case o11 => simp; rfl
  refine awp_cond _ rfl (fun h12 => ?_) fun h12 => ?_
  · try simp at h12
    refine awp_seq ?_
    refine awp_run (s := ?s13) rfl ?o13 ?q13
    case o13 => simp; rfl
    refine awp_ret ?_
    refine ⟨.inr rfl, ?_⟩
    show RetOk [(4, some (true, 3)), (5, none)] 0 _ _ _
    refine RetOk.out (vs := [.agg [.I 0, .nilS, .nilS], .I 19]) [] [] (by simp) (by simp) (by simp) ?_ (by simp)
    have hr : withR g e = (emptyG, 19) := by grind [withR]
    simp [hr, emptyG]
    exact wkT2 (wkA3 (.refl _) (.nil _ _) (.nil _ _)) (.refl _)
  try simp at h12
  refine awp_seq ?_
  refine awp_run (s := ?s14) rfl ?o14 ?q14
  case o14 => simp; rfl
  refine awp_cond _ rfl (fun h15 => ?_) fun h15 => ?_
  · try simp at h15
    refine awp_seq ?_
    refine awp_run (s := ?s16) rfl ?o16 ?q16
    case o16 => simp; rfl
    refine awp_ret ?_
    refine ⟨.inr rfl, ?_⟩
    show RetOk [(4, some (true, 3)), (5, none)] 0 _ _ _
    refine RetOk.out (vs := [.agg [.I 0, .nilS, .nilS], .I 3]) [] [] (by simp) (by simp) (by simp) ?_ (by simp)
    have hr : withR g e = (emptyG, 3) := by grind [withR]
    simp [hr, emptyG]
    exact wkT2 (wkA3 (.refl _) (.nil _ _) (.nil _ _)) (.refl _)
  try simp at h15
  refine awp_skip ?_
  refine awp_regc ⟨51, [(3, .pv (eC e)), (4, .pt 32 0 0), (6, .I (idxE g.edges ⟨e.f, e.t, 0⟩)), (8, .pt 288 0 0)], [(32, some ⟨3, [[.I 0, .nilS, .nilS]], 0⟩), (288, some ⟨3, [[.I g.size, .rs 280 0 g.edges.length, .rs 281 0 g.gone.length]], 0⟩), (280, some ⟨3, g.edges.map fun e : Ed => [AV.I e.f, AV.I e.t, AV.I e.v], 0⟩), (281, some ⟨1, g.gone.map fun n => [AV.I n], 0⟩)], 304⟩ rfl ?_ ?_
  · simp
    refine callN2 (graph_copied_ok g hl hl2) rfl ?_
    simp [Function.comp_def]
    exact Le.keep rfl (Nat.le_refl _) (by simp) (by simp)
  have hle := idxE_le g.edges ⟨e.f, e.t, 0⟩
  have hr : withR g e = (plusE g e, 0) := by grind [withR]
  rw [hr]
  unfold plusE
  have hk : ∃ k, k = idxE g.edges ⟨e.f, e.t, 0⟩ := ⟨_, rfl⟩
  obtain ⟨k, hk⟩ := hk
  rw [← hk] at hle ⊢
  obtain ⟨R, hR⟩ : ∃ R, R = g.edges.map fun e : Ed => [AV.I e.f, AV.I e.t, AV.I e.v] := ⟨_, rfl⟩
  rw [← hR]
  have hRl : R.length = g.edges.length := by simp [hR]
  have hRf : Flat R := by rw [hR]; exact flatE _
  obtain ⟨E, hE⟩ : ∃ E, E = g.edges.take k ++ e :: g.edges.drop k := ⟨_, rfl⟩
  have hEl : E.length = g.edges.length + 1 := by subst hE; simp; omega
  have hrows : R.take k ++ [AV.I e.f, AV.I e.t, AV.I e.v] :: R.drop k = E.map fun e : Ed => [AV.I e.f, AV.I e.t, AV.I e.v] := by subst hE hR; simp [List.map_take, List.map_drop]
  have hins := insE_ok R [AV.I e.f, AV.I e.t, AV.I e.v] g.edges.length k hRl hle hRf (flatE [e]) (by omega)
  rw [hrows, ← hEl] at hins
  rw [← hE]
  refine awp_regc ⟨51, [(4, .pt 32 0 0), (8, .pt 288 0 0)], [(32, some ⟨3, [[.I 0, .nilS, .nilS]], 0⟩), (288, some ⟨3, [[.I g.size, .rs 344 0 E.length, .rs 281 0 g.gone.length]], 0⟩), (344, some ⟨3, E.map fun e : Ed => [AV.I e.f, AV.I e.t, AV.I e.v], 0⟩), (281, some ⟨1, g.gone.map fun n => [AV.I n], 0⟩)], 368⟩ rfl ?_ ?_
  · simp
    refine callM1s (i := 280) (j := 336) (by decide) (Nat.zero_le _) rfl rfl ?_ hins (by simp) ?_ ?_
    · have := hRf [(280, 0)] [336]
      simp only [convE, this]
    · simp
    simp [Function.comp_def]
    exact Le.keep rfl (Nat.le_refl _) (by simp) (by simp)
  refine awp_seq ?_
  refine awp_run (s := ?s21) rfl ?o21 ?q21
  case o21 => simp; rfl
  refine awp_ret ?_
  refine ⟨.inr rfl, ?_⟩
  show RetOk [(4, some (true, 3)), (5, none)] 0 _ _ _
  refine RetOk.out (vs := [.agg [.I g.size, .rs 344 0 E.length, .rs 281 0 g.gone.length], .I 0]) [] [344, 281] (by simp) (by simp) (by simp) ?_ (by simp)
  simp [Function.comp_def, take_map_len]
end Go.Proofs.YtnlanlpbgcalcaaGreat
namespace Go.Proofs.YtnlanlpbgcalcaaGreat
open Go
end Go.Proofs.YtnlanlpbgcalcaaGreat
namespace Go.Proofs.YtnlanlpbgcalcaaGreat
open Go
theorem EntUp.eq {nl : List (Nat × Nat)} {e e' : Ent} (h : e = e') (hr : e'.ro ≤ e'.rows.length) : EntUp nl e e' := by
  subst h
  exact EntUp.rfl' hr
theorem EntUp.row {nl : List (Nat × Nat)} {s ro : Nat} {e : Ent} {r r' : List AV} (h : e = ⟨s, [r], ro⟩) (hr : ro ≤ 1) (hu : UpL nl r r') : EntUp nl e ⟨s, [r'], ro⟩ := by
  subst h
  exact ⟨rfl, Nat.le_refl _, hr, .inr ⟨r, r', rfl, rfl, hu⟩⟩
theorem Le.ents {np : Nat} {st st' : St} (ρ : List (Nat × Nat)) (sn : List Nat) (hsz : st'.sz = st.sz)
    (h0 : (ρ.map (·.1)).Nodup) (h1 : (ρ.map (·.2)).Nodup) (h2 : ∀ p ∈ ρ, p.2 < st'.n ∧ (p.2 < np → p.1 = p.2)) (h4 : ∀ i ∈ sn, np ≤ i ∧ i ∉ ρ.map (·.1)) (h5 : np ≤ st'.n)
    (ht : ∀ p ∈ st'.t, Wk (conv ρ sn st.hp 4 (st.get p.1)) p.2)
    (hh : ∀ p ∈ st'.h, ∃ q e e', p.2 = some e' ∧ (q, p.1) ∈ ρ ∧ st.hp q = some e ∧ EntUp [] (convE ρ sn st.hp 4 e) e') : Le np st st' :=
  Le.lst ρ sn [] hsz h0 h1 h2 (by simp) h4 h5 (by simp) (fun p hp => .inl (ht p hp)) fun p hp e' he' => by
    obtain ⟨q, e, e2, h1, h2, h3, h4⟩ := hh p hp
    rw [he'] at h1
    cases h1
    exact .inl ⟨(q, p.1), h2, rfl, e, h3, h4⟩
abbrev zG : Ent := ⟨3, [[.I 0, .nilS, .nilS]], 0⟩
end Go.Proofs.YtnlanlpbgcalcaaGreat
namespace Go.Proofs.YtnlanlpbgcalcaaGreat
open Go
abbrev rowsK (k : IntKind) (l : List Int) : List (List AV) := l.map fun x => [AV.sc (.int k x)]
abbrev bys (l : List Int) : AV := .vs 1 false (rowsK .u8 l)
section
variable {P : Program} {np id : Nat} {h : Nat → Option Ent} {K : AV → List Nat → List (Nat × Option Ent) → Prop} {f : FuncId} {first capt args args' : List AV} {res : AV}
theorem callN1q (sn : List Nat) {e : Ent} (hc : ACalls P f args' [] res [some e]) (he : (first ++ args ++ capt).map (conv [] sn h 4) = args') (hp : Plain res) (hpe : PlainE e)
    (hk : K (conv (swp [] id) [] (fun _ => none) 4 res) sn [(id, some (convE (swp [] id) [] (fun _ => none) 4 e))]) : aK P np id .call (.fn (.func f) first capt :: args) h K :=
  ⟨[], sn, false, args', [], res, [some e], by simp, by simp, by simp, by rw [List.zipIdx_nil, he]; exact wkL_refl _, rfl, hc, by simp, .inr ⟨hp, fun e' he' => by simp at he'; subst he'; exact hpe⟩, by simpa [swp] using hk⟩
theorem callN1w {e : Ent} (hc : ACalls P f args' [] res [some e]) (he : WkL ((first ++ args ++ capt).map (conv [] [] h 4)) args')
    (hk : K (conv (swp [] id) [] (fun _ => none) 4 res) [] [(id, some (convE (swp [] id) [] (fun _ => none) 4 e))]) : aK P np id .call (.fn (.func f) first capt :: args) h K :=
  ⟨[], [], true, args', [], res, [some e], by simp, by simp, by simp, by rw [List.zipIdx_nil]; exact he, rfl, hc, by simp, .inl rfl, hk⟩
end
theorem plainK {k : IntKind} {l : List Int} : PlainE ⟨1, rowsK k l, 0⟩ := by
  intro row hrow x hx
  simp only [List.mem_map] at hrow
  obtain ⟨y, _, rfl⟩ := hrow
  simp at hx
  subst hx
  exact .sc _
theorem rowsK_flat (k : IntKind) (l : List Int) (ρ sn h m) : (rowsK k l).map (List.map (conv ρ sn h (m + 1))) = rowsK k l := by simp [Function.comp_def]
theorem rowsK_len (k : IntKind) (l : List Int) : (rowsK k l).length = l.length := by simp
theorem Le.K1 {st st' : St} {k : IntKind} {l : List Int} (i j : Nat) (sn : List Nat) (hsz : st'.sz = st.sz) (hh : st'.h = [(j, some ⟨1, rowsK k l, 0⟩)]) (hi : j < st'.n) (hs : ∀ j ∈ sn, j ≠ i) (h0 : st.hp i = some ⟨1, rowsK k l, 0⟩)
    (ht : ∀ p ∈ st'.t, Wk (conv [(i, j)] sn st.hp 4 (st.get p.1)) p.2) : Le 0 st st' :=
  Le.ren1 i j sn hsz hh hi hs h0 (by simp only [convE, rowsK_flat]) (Nat.zero_le _) ht
def byteN (v : Int) (k : Nat) : Int := IntKind.u8.wrap (v.fdiv (2 ^ (min (8 * k) 64)))
def intYn (v : Int) (n : Nat) : List Int := (List.range n).map fun j => byteN v (7 - j)
def intY (v : Int) : List Int := intYn v 8
theorem intYn_len (v : Int) (n : Nat) : (intYn v n).length = n := by simp [intYn]
theorem intY_len (v : Int) : (intY v).length = 8 := intYn_len v 8
theorem intYn_succ (v : Int) (n : Nat) : intYn v (n + 1) = intYn v n ++ [byteN v (7 - n)] := by simp [intYn, List.range_succ]
set_option maxRecDepth 100000 in
theorem ref02_Int_ok (b : List Int) (v : Int) (n : Nat) (hn : n = b.length + 8) (hl : b.length ≤ 1099511627776) : ACalls Tryz.prog nref02_Int [bys b, .I v] [] (.rs 0 0 n) [some ⟨1, rowsK .u8 (b ++ intY v), 0⟩] := by
  refine sref02_Int.acalls (Nat.le_of_ble_eq_true rfl) (Nat.le_of_ble_eq_true rfl) (Nat.zero_le _) ?_
  show awp _ 0 _ _ ⟨23, [(0, bys b), (1, .I v)], [], 16⟩
  refine awp_regc ⟨23, [(0, bys b), (1, .I v)], [], 24⟩ rfl (by simp; exact Le.snap [] rfl rfl (by simp)) ?_
  let Y : Nat → List Int := fun j => b ++ intYn v j
  have hYl : ∀ j, (Y j).length = b.length + j := fun j => by simp only [Y]; rw [List.length_append, intYn_len]
  have hYs : ∀ j, Y (j + 1) = Y j ++ [byteN v (7 - j)] := fun j => by simp only [Y]; rw [intYn_succ, List.append_assoc]
  have hY0 : Y 0 = b := by simp [Y, intYn]
  have hY8 : b ++ intY v = Y 8 := rfl
  rw [hY8, hn]
  refine awp_regc ⟨23, [(1, .I v), (5, .rs 32 0 (b.length + 0))], [(32, some ⟨1, rowsK .u8 (Y 0), 0⟩)], 48⟩ rfl ?_ ?_
  · simp [hY0]
    repeat' apply And.intro
    all_goals first | omega | exact Le.keep rfl (Nat.le_refl _) (by simp) (by simp)
  clear_value Y
  refine awp_seq ?_
  refine awp_regc ⟨23, [(1, .I v), (5, .rs 32 0 (b.length + 0)), (6, .I (7 - (0 : Nat)))], [(32, some ⟨1, rowsK .u8 (Y 0), 0⟩)], 56⟩ rfl ?_ ?_
  · simp
    exact Le.keep rfl (Nat.le_refl _) (by simp) (by simp)
  refine awp_block ?_
  refine awp_loop (ι := Nat) (fun j => ⟨23, [(1, .I v), (5, .rs 32 0 (b.length + j)), (6, .I (7 - (j : Int)))], [(32, some ⟨1, rowsK .u8 (Y j), 0⟩)], 56⟩) (fun j => j ≤ 8) (fun j => 8 - j) 0 (by omega) (Le.refl _ _) ?_
  intro j hj
  refine awp_seq ?_
  refine awp_regc ⟨23, [(1, .I v), (5, .rs 32 0 (b.length + j)), (6, .I (7 - (j : Int))), (10, .B (decide (j < 8)))], [(32, some ⟨1, rowsK .u8 (Y j), 0⟩)], 72⟩ rfl ?_ ?_
  · simp
    exact Le.keep rfl (Nat.le_refl _) (by simp; omega) (by simp)
  refine awp_cond _ rfl (fun h => awp_skip ?_) fun h => awp_exit (hit ?_)
  · simp only [decide_eq_true_eq] at h
    have hl1 := hYl j
    have hs := hYs j
    refine awp_cut (ι := Unit) (fun _ => ⟨23, [(1, .I v), (5, .rs 32 0 (b.length + (j + 1))), (6, .I (7 - (j : Int)))], [(32, some ⟨1, rowsK .u8 (Y (j + 1)), 0⟩)], 152⟩) (fun _ => True) ?_ fun _ _ => ?_
    · rw [hs]
      generalize Y j = A at *
      obtain ⟨k, hk⟩ : ∃ k : Nat, 7 - (j : Int) = k := ⟨7 - j, by omega⟩
      have hk2 : 7 - j = k := by omega
      have hw1 : IntKind.i64.wrap (8 * (k : Int)) = ((8 * k : Nat) : Int) := by rw [w64 (by omega) (by omega)]; omega
      have hw2 : IntKind.u64.wrap ((8 * k : Nat) : Int) = ((8 * k : Nat) : Int) := by rw [IntKind.wrap_u64]; omega
      have hb : byteN v k = IntKind.u8.wrap (v.fdiv (2 ^ (min (8 * k) 64))) := rfl
      rw [hk, hk2]
      generalize byteN v k = y at hb ⊢
      obtain ⟨s, hse⟩ : ∃ s, s = 8 * k := ⟨_, rfl⟩
      rw [← hse] at hw1 hw2 hb
      have htk : List.take (b.length + j) (rowsK .u8 A) = rowsK .u8 A := List.take_of_length_le (by rw [rowsK_len]; omega)
      refine awp_block ?_
      refine awp_reg rfl ?_
      simp [hw1, hw2, IntKind.bits, ← hb, hl1]
      repeat' apply And.intro
      all_goals first | omega | exact Le.ren1 136 32 [] rfl rfl (by simp) (by simp) rfl (by simp only [convE]; simp [htk, Function.comp_def]) (by simp) (by simp; exact wkE (by simp; omega))
    have hwj : IntKind.i64.wrap (7 - (j : Int) - 1) = 7 - ((j + 1 : Nat) : Int) := by rw [w64 (by omega) (by omega)]; omega
    refine awp_reg rfl ?_
    simp [hwj]
    exact ⟨j + 1, by omega, by omega, Le.K1 32 32 [] rfl rfl (by simp) (by simp) rfl (by simp)⟩
  simp only [decide_eq_false_iff_not] at h
  obtain rfl : j = 8 := by omega
  refine awp_seq ?_
  refine awp_run (s := ?z9) rfl ?p9 ?r9
  case p9 => simp; rfl
  refine awp_ret ?_
  exact ⟨.inr rfl, RetOk.out [32] [] rfl (by simp) (by simp) (by simp) (by simp [Function.comp_def])⟩
def strY (s : ByteArray) : List Int := s.data.toList.map fun b => (b.toNat : Int)
theorem strY_len (s : ByteArray) : (strY s).length = s.size := by
  show (s.data.toList.map _).length = s.data.size
  simp
theorem byteRows_eq (s : ByteArray) : byteRows s = rowsK .u8 (strY s) := by
  unfold byteRows strY
  rw [rowsK, List.map_map]
  rfl
def textY (s : ByteArray) : List Int := intY s.size ++ strY s
theorem textY_len (s : ByteArray) : (textY s).length = s.size + 8 := by rw [textY, List.length_append, intY_len, strY_len]; omega
set_option maxRecDepth 100000 in
theorem ref02_Text_ok (b : List Int) (s : ByteArray) (n : Nat) (hn : n = b.length + (s.size + 8)) (hl : b.length ≤ 1099511627776) (hs : s.size ≤ 1099511627776) : ACalls Tryz.prog nref02_Text [bys b, .sc (.string s)] [] (.rs 0 0 n) [some ⟨1, rowsK .u8 (b ++ textY s), 0⟩] := by
  refine sref02_Text.acalls (Nat.le_of_ble_eq_true rfl) (Nat.le_of_ble_eq_true rfl) (Nat.zero_le _) ?_
  show awp _ 0 _ _ ⟨11, [(0, bys b), (1, .sc (.string s))], [], 16⟩
  refine awp_regc ⟨11, [(0, bys b), (1, .sc (.string s))], [], 24⟩ rfl (by simp; exact Le.snap [] rfl rfl (by simp)) ?_
  have hI := ref02_Int_ok b s.size _ rfl hl
  have e : b ++ textY s = (b ++ intY s.size) ++ strY s := by rw [textY, List.append_assoc]
  have hYl : (b ++ intY s.size).length = b.length + 8 := by rw [List.length_append, intY_len]
  rw [e]
  generalize b ++ intY s.size = Y at *
  have htk : List.take (b.length + 8) (rowsK .u8 Y) = rowsK .u8 Y := List.take_of_length_le (by rw [rowsK_len]; omega)
  refine awp_regc ⟨11, [(4, .rs 64 0 n)], [(64, some ⟨1, rowsK .u8 (Y ++ strY s), 0⟩)], 80⟩ rfl ?_ ?_
  · simp
    refine callN1 hI rfl ?_
    simp [Function.comp_def, byteRows_eq, hYl]
    refine ⟨_, _, _, ⟨htk, rfl, rfl⟩, ?_⟩
    simp [hYl]
    repeat' apply And.intro
    all_goals first | omega | exact Le.keep rfl (Nat.le_refl _) (by simp; omega) (by simp)
  refine awp_ret ?_
  exact ⟨.inr rfl, RetOk.out [64] [] rfl (by simp) (by simp) (by simp) (by simp [Function.comp_def])⟩
def intsY (l : List Int) : List Int := intY l.length ++ l.flatMap intY
theorem flatI_len (l : List Int) : (l.flatMap intY).length = 8 * l.length := by
  induction l with
  | nil => rfl
  | cons x l ih => rw [List.flatMap_cons, List.length_append, ih, intY_len]; simp; omega
theorem intsY_len (l : List Int) : (intsY l).length = 8 * l.length + 8 := by rw [intsY, List.length_append, intY_len, flatI_len]; omega
set_option maxRecDepth 100000 in
theorem ref02_Ints_ok (b l : List Int) (n : Nat) (hn : n = b.length + (8 * l.length + 8)) (hl : b.length ≤ 1000000000) (hll : l.length ≤ 1000000) : ACalls Tryz.prog nref02_Ints [bys b, ints l] [] (.rs 0 0 n) [some ⟨1, rowsK .u8 (b ++ intsY l), 0⟩] := by
  refine sref02_Ints.acalls (Nat.le_of_ble_eq_true rfl) (Nat.le_of_ble_eq_true rfl) (Nat.zero_le _) ?_
  show awp _ 0 _ _ ⟨24, [(0, bys b), (1, ints l)], [], 16⟩
  refine awp_regc ⟨24, [(0, bys b), (1, ints l)], [], 24⟩ rfl (by simp; exact Le.snap [] rfl rfl (by simp)) ?_
  have hI := ref02_Int_ok b l.length _ rfl (by omega)
  obtain ⟨B, hB⟩ : ∃ B, B = b ++ intY l.length := ⟨_, rfl⟩
  have hBl : B.length = b.length + 8 := by rw [hB, List.length_append, intY_len]
  rw [← hB] at hI
  have e : ∀ j, b ++ intsY (l.take j) = b ++ intsY (l.take j) := fun _ => rfl
  let Y : Nat → List Int := fun j => B ++ (l.take j).flatMap intY
  have hYl : ∀ j, j ≤ l.length → (Y j).length = b.length + 8 + 8 * j := fun j hj => by
    simp only [Y]
    rw [List.length_append, flatI_len, hBl, List.length_take]
    congr 2
    omega
  have hYs : ∀ j (h : j < l.length), Y (j + 1) = Y j ++ intY l[j] := fun j h => by
    simp only [Y]
    rw [List.take_succ_eq_append_getElem h, List.flatMap_append]
    simp
  have hY0 : Y 0 = B := by simp [Y]
  have hYn : Y l.length = b ++ intsY l := by simp [Y, hB, intsY]
  rw [← hYn, hn]
  refine awp_regc ⟨24, [(1, ints l), (5, .rs 48 0 (b.length + 8 + 8 * 0))], [(48, some ⟨1, rowsK .u8 (Y 0), 0⟩)], 64⟩ rfl ?_ ?_
  · simp
    refine callN1 hI rfl ?_
    simp [Function.comp_def]
    exact Le.keep rfl (Nat.le_refl _) (by simp) (by simp [hY0])
  clear_value Y
  refine awp_seq ?_
  refine awp_regc ⟨24, [(1, ints l), (5, .rs 48 0 (b.length + 8 + 8 * 0)), (6, .I (0 : Nat))], [(48, some ⟨1, rowsK .u8 (Y 0), 0⟩)], 72⟩ rfl ?_ ?_
  · simp
    exact Le.keep rfl (Nat.le_refl _) (by simp) (by simp)
  refine awp_block ?_
  refine awp_loop (ι := Nat) (fun j => ⟨24, [(1, ints l), (5, .rs 48 0 (b.length + 8 + 8 * j)), (6, .I j)], [(48, some ⟨1, rowsK .u8 (Y j), 0⟩)], 72⟩) (fun j => j ≤ l.length) (fun j => l.length - j) 0 (by omega) (Le.refl _ _) ?_
  intro j hj
  refine awp_seq ?_
  refine awp_regc ⟨24, [(1, ints l), (5, .rs 48 0 (b.length + 8 + 8 * j)), (6, .I j), (14, .B (decide (j < l.length)))], [(48, some ⟨1, rowsK .u8 (Y j), 0⟩)], 104⟩ rfl ?_ ?_
  · simp
    exact Le.keep rfl (Nat.le_refl _) (by simp) (by simp)
  refine awp_cond _ rfl (fun h => awp_skip ?_) fun h => awp_exit (hit ?_)
  · simp only [decide_eq_true_eq] at h
    have hs := hYs j h
    have hl1 := hYl j hj
    have hl2 := hYl (j + 1) h
    have hI2 := ref02_Int_ok (Y j) l[j] _ rfl (by omega)
    rw [← hs] at hI2
    have hg : l[j]? = some l[j] := List.getElem?_eq_getElem h
    refine awp_cut (ι := Unit) (fun _ => ⟨24, [(1, ints l), (5, .rs 48 0 (b.length + 8 + 8 * (j + 1))), (6, .I j)], [(48, some ⟨1, rowsK .u8 (Y (j + 1)), 0⟩)], 160⟩) (fun _ => True) ?_ fun _ _ => ?_
    · generalize Y (j + 1) = Z at *
      generalize Y j = A at *
      refine awp_block ?_
      refine awp_reg rfl ?_
      simp [h, hg]
      refine callN1q [48] hI2 (by simp [Function.comp_def, ← hl1, take_map_len]) (.rs _ _ _) plainK ?_
      simp [Function.comp_def]
      exact Le.K1 144 48 [] rfl rfl (by simp) (by simp) (by simp [Function.comp_def]) (by simp; exact wkE (by simp; omega))
    have hwj : IntKind.i64.wrap ((j : Int) + 1) = ((j + 1 : Nat) : Int) := by rw [w64 (by omega) (by omega)]; omega
    refine awp_reg rfl ?_
    simp [hwj]
    exact ⟨j + 1, by omega, by omega, Le.K1 48 48 [] rfl rfl (by simp) (by simp) rfl (by simp)⟩
  simp only [decide_eq_false_iff_not] at h
  obtain rfl : j = l.length := by omega
  refine awp_seq ?_
  refine awp_run (s := ?z9) rfl ?p9 ?r9
  case p9 => simp; rfl
  refine awp_ret ?_
  exact ⟨.inr rfl, RetOk.out [48] [] rfl (by simp) (by simp) (by simp; exact wkE (by simp; omega)) (by simp [Function.comp_def])⟩
end Go.Proofs.YtnlanlpbgcalcaaGreat
namespace Go.Proofs.YtnlanlpbgcalcaaGreat
open Go
abbrev wds (l : List Int) : AV := .vs 1 false (rowsK .u32 l)
abbrev wd (x : Int) : AV := .sc (.int .u32 x)
def u2 (op : BinOp) (a b : Int) : Int := match binV op (.int .u32 a) (.int .u32 b) with | some (.int _ n) => n | _ => 0
def sh (op : BinOp) (a n : Int) : Int := match binV op (.int .u32 a) (.int .u64 n) with | some (.int _ n) => n | _ => 0
def nt (a : Int) : Int := match unV .xor (.int .u32 a) with | some (.int _ n) => n | _ => 0
def turnF (x n : Int) : Int := u2 .or (sh .shr x n) (sh .shl x (32 - n))
section
variable {P : Program} {np id : Nat} {h : Nat → Option Ent} {K : AV → List Nat → List (Nat × Option Ent) → Prop}
theorem k_u2 (op : BinOp) (ho : op = .add ∨ op = .xor ∨ op = .and ∨ op = .or) {a b : Int} : aK P np id (.bin op) [.sc (.int .u32 a), .sc (.int .u32 b)] h K = K (.sc (.int .u32 (u2 op a b))) [] [] := by
  refine propext ?_
  rcases ho with rfl | rfl | rfl | rfl
  all_goals
    constructor
    · rintro ⟨v, hv, hk⟩
      cases hv
      exact hk
    · exact fun hk => ⟨_, rfl, hk⟩
@[simp high] theorem k_uadd {a b : Int} : aK P np id (.bin .add) [.sc (.int .u32 a), .sc (.int .u32 b)] h K = K (.sc (.int .u32 (u2 .add a b))) [] [] := k_u2 _ (.inl rfl)
@[simp high] theorem k_uxor {a b : Int} : aK P np id (.bin .xor) [.sc (.int .u32 a), .sc (.int .u32 b)] h K = K (.sc (.int .u32 (u2 .xor a b))) [] [] := k_u2 _ (.inr (.inl rfl))
@[simp high] theorem k_uand {a b : Int} : aK P np id (.bin .and) [.sc (.int .u32 a), .sc (.int .u32 b)] h K = K (.sc (.int .u32 (u2 .and a b))) [] [] := k_u2 _ (.inr (.inr (.inl rfl)))
@[simp high] theorem k_uor {a b : Int} : aK P np id (.bin .or) [.sc (.int .u32 a), .sc (.int .u32 b)] h K = K (.sc (.int .u32 (u2 .or a b))) [] [] := k_u2 _ (.inr (.inr (.inr rfl)))
theorem k_sh (op : BinOp) (ho : op = .shl ∨ op = .shr) {a n : Int} (hn : 0 ≤ n) : aK P np id (.bin op) [.sc (.int .u32 a), .sc (.int .u64 n)] h K = K (.sc (.int .u32 (sh op a n))) [] [] := by
  refine propext ?_
  have e : binV op (.int .u32 a) (.int .u64 n) = some (.int .u32 (sh op a n)) := by
    rcases ho with rfl | rfl <;> simp [binV, sh, hn]
  constructor
  · rintro ⟨v, hv, hk⟩
    rw [e] at hv
    cases hv
    exact hk
  · exact fun hk => ⟨_, e, hk⟩
@[simp high] theorem k_ushl {a n : Int} (hn : 0 ≤ n) : aK P np id (.bin .shl) [.sc (.int .u32 a), .sc (.int .u64 n)] h K = K (.sc (.int .u32 (sh .shl a n))) [] [] := k_sh _ (.inl rfl) hn
@[simp high] theorem k_ushr {a n : Int} (hn : 0 ≤ n) : aK P np id (.bin .shr) [.sc (.int .u32 a), .sc (.int .u64 n)] h K = K (.sc (.int .u32 (sh .shr a n))) [] [] := k_sh _ (.inr rfl) hn
@[simp high] theorem k_unt {a : Int} : aK P np id (.un .xor) [.sc (.int .u32 a)] h K = K (.sc (.int .u32 (nt a))) [] [] := by
  refine propext ⟨?_, fun hk => ⟨_, rfl, hk⟩⟩
  rintro ⟨v, hv, hk⟩
  cases hv
  exact hk
end
theorem ref01_turn_ok (x n : Int) (h0 : 0 ≤ n) (h1 : n ≤ 32) : ACalls Tryz.prog nref01_turn [wd x, .sc (.int .u64 n)] [] (wd (turnF x n)) [] := by
  refine sref01_turn.acalls (Nat.le_of_ble_eq_true rfl) (Nat.le_of_ble_eq_true rfl) (Nat.le_refl _) ?_
  show awp _ 0 _ _ ⟨13, [(0, wd x), (1, .sc (.int .u64 n))], [], 16⟩
  have hw : IntKind.u64.wrap (32 - n) = 32 - n := by rw [IntKind.wrap_u64]; omega
  have h2 : 0 ≤ 32 - n := by omega
  refine awp_seq ?_
  refine awp_run (s := ?s0) rfl ?o0 ?q0
  case o0 => simp; rfl
  refine awp_regc ⟨13, [(4, wd (turnF x n))], [], 96⟩ rfl ?_ ?_
  · simp [h0, h1, h2, hw]
    exact Le.snap [] rfl rfl (by simp [turnF])
  refine awp_ret ?_
  exact ⟨.inr rfl, RetOk.one (by simp)⟩
def conK : List Int := [1116352408, 1899447441, 3049323471, 3921009573, 961987163, 1508970993, 2453635748, 2870763221, 3624381080, 310598401, 607225278, 1426881987, 1925078388, 2162078206, 2614888103, 3248222580, 3835390401, 4022224774, 264347078, 604807628, 770255983, 1249150122, 1555081692, 1996064986, 2554220882, 2821834349, 2952996808, 3210313671, 3336571891, 3584528711, 113926993, 338241895, 666307205, 773529912, 1294757372, 1396182291, 1695183700, 1986661051, 2177026350, 2456956037, 2730485921, 2820302411, 3259730800, 3345764771, 3516065817, 3600352804, 4094571909, 275423344, 430227734, 506948616, 659060556, 883997877, 958139571, 1322822218, 1537002063, 1747873779, 1955562222, 2024104815, 2227730452, 2361852424, 2428436474, 2756734187, 3204031479, 3329325298]
theorem conK_len : conK.length = 64 := rfl
theorem conK_ok : ACalls Tryz.prog nref01_constants [] [] (.rs 0 0 64) [some ⟨1, rowsK .u32 conK, 0⟩] := by
  refine sref01_constants.acalls (Nat.le_of_ble_eq_true rfl) (Nat.le_of_ble_eq_true rfl) (Nat.zero_le _) ?_
  show awp _ 0 _ _ ⟨2, [], [], 16⟩
  refine awp_seq ?_
  refine awp_run (s := ?s0) rfl ?o0 ?q0
  case o0 => simp; rfl
  refine awp_seq ?_
  refine awp_run (s := ?s1) rfl ?o1 ?q1
  case o1 => simp; rfl
  refine awp_ret ?_
  exact ⟨.inr rfl, RetOk.out [24] [] rfl (by simp) (by simp) (by simp) (by simp [conK])⟩
abbrev gt (l : List Int) (i : Nat) : Int := l.getD i 0
theorem gt_of {l : List Int} {i n : Nat} (hl : l.length = n) (h : i < n) : ∃ (h : i < l.length), l[i] = gt l i := by
  have h2 : i < l.length := by omega
  exact ⟨h2, by simp [gt, h2]⟩
theorem gt_row {k : IntKind} {l : List Int} {i n : Nat} (hl : l.length = n) (h : i < n) : (rowsK k l)[i]? = some [AV.sc (.int k (gt l i))] := by
  have h2 : i < l.length := by omega
  simp [gt, h2]
def wordF (a b c d : Int) : Int := u2 .or (u2 .or (u2 .or (sh .shl (IntKind.u32.wrap a) 24) (sh .shl (IntKind.u32.wrap b) 16)) (sh .shl (IntKind.u32.wrap c) 8)) (IntKind.u32.wrap d)
def s0F (x : Int) : Int := u2 .xor (u2 .xor (turnF x 7) (turnF x 18)) (sh .shr x 3)
def s1F (x : Int) : Int := u2 .xor (u2 .xor (turnF x 17) (turnF x 19)) (sh .shr x 10)
def w0F (B : List Int) : Nat → List Int
  | 0 => List.replicate 64 0
  | i + 1 => (w0F B i).set i (wordF (gt B (4 * i)) (gt B (4 * i + 1)) (gt B (4 * i + 2)) (gt B (4 * i + 3)))
def w1F (B : List Int) : Nat → List Int
  | 0 => w0F B 16
  | i + 1 => (w1F B i).set (i + 16) (u2 .add (u2 .add (u2 .add (gt (w1F B i) i) (s0F (gt (w1F B i) (i + 1)))) (gt (w1F B i) (i + 9))) (s1F (gt (w1F B i) (i + 14))))
def r3 (x a b c : Int) : Int := u2 .xor (u2 .xor (turnF x a) (turnF x b)) (turnF x c)
def xF (v : List Int) (k w : Int) : Int := u2 .add (u2 .add (u2 .add (u2 .add (gt v 7) (r3 (gt v 4) 6 11 25)) (u2 .xor (u2 .and (gt v 4) (gt v 5)) (u2 .and (nt (gt v 4)) (gt v 6)))) k) w
def mF (v : List Int) : Int := u2 .xor (u2 .xor (u2 .and (gt v 0) (gt v 1)) (u2 .and (gt v 0) (gt v 2))) (u2 .and (gt v 1) (gt v 2))
def vF (H B C : List Int) : Nat → List Int
  | 0 => H
  | i + 1 =>
    let v := vF H B C i
    let x := xF v (gt C i) (gt (w1F B 48) i)
    [u2 .add (u2 .add x (r3 (gt v 0) 2 13 22)) (mF v), gt v 0, gt v 1, gt v 2, u2 .add (gt v 3) x, gt v 4, gt v 5, gt v 6]
def oF (H B C : List Int) : Nat → List Int
  | 0 => vF H B C 64
  | i + 1 => (oF H B C i).set i (u2 .add (gt (oF H B C i) i) (gt H i))
def blockF (H B C : List Int) : List Int := oF H B C 8
theorem w0F_len (B : List Int) : ∀ i, (w0F B i).length = 64
  | 0 => by simp [w0F]
  | i + 1 => by rw [w0F, List.length_set, w0F_len B i]
theorem w1F_len (B : List Int) : ∀ i, (w1F B i).length = 64
  | 0 => w0F_len B 16
  | i + 1 => by rw [w1F, List.length_set, w1F_len B i]
theorem vF_len {H B C : List Int} (hH : H.length = 8) : ∀ i, (vF H B C i).length = 8
  | 0 => hH
  | i + 1 => rfl
theorem oF_len {H B C : List Int} (hH : H.length = 8) : ∀ i, (oF H B C i).length = 8
  | 0 => vF_len hH 64
  | i + 1 => by rw [oF, List.length_set, oF_len hH i]
end Go.Proofs.YtnlanlpbgcalcaaGreat
namespace Go.Proofs.YtnlanlpbgcalcaaGreat
open Go
theorem Le.X1 {st st' : St} {X : List (List AV)} (hflat : ∀ ρ sn h m, X.map (List.map (conv ρ sn h (m + 1))) = X) (i j : Nat) (sn : List Nat) (hsz : st'.sz = st.sz) (hh : st'.h = [(j, some ⟨1, X, 0⟩)]) (hi : j < st'.n) (hs : ∀ j ∈ sn, j ≠ i) (h0 : st.hp i = some ⟨1, X, 0⟩)
    (ht : ∀ p ∈ st'.t, Wk (conv [(i, j)] sn st.hp 4 (st.get p.1)) p.2) : Le 0 st st' :=
  Le.ren1 i j sn hsz hh hi hs h0 (by simp only [convE, hflat]) (Nat.zero_le _) ht
set_option maxHeartbeats 8000000 in
set_option maxRecDepth 100000 in
theorem ref01_block_ok (H B C : List Int) (hH : H.length = 8) (hB : B.length = 64) (hC : C.length = 64) : ACalls Tryz.prog nref01_block [wds H, bys B, wds C] [] (.rs 0 0 8) [some ⟨1, rowsK .u32 (blockF H B C), 0⟩] := by
  refine sref01_block.acalls (Nat.le_of_ble_eq_true rfl) (Nat.le_of_ble_eq_true rfl) (Nat.zero_le _) ?_
  show awp _ 0 _ _ ⟨256, [(0, wds H), (1, bys B), (2, wds C)], [], 16⟩
  have hfl : ∀ (l : List Int) ρ sn h m, (rowsK .u32 l).map (List.map (conv ρ sn h (m + 1))) = rowsK .u32 l := fun l => rowsK_flat .u32 l
  refine awp_regc ⟨256, [(0, wds H), (1, bys B), (2, wds C)], [], 24⟩ rfl (by simp; exact Le.snap [] rfl rfl (by simp)) ?_
  refine awp_regc ⟨256, [(0, wds H), (1, bys B), (2, wds C), (7, .rs 24 0 64)], [(24, some ⟨1, rowsK .u32 (w0F B 0), 0⟩)], 40⟩ rfl ?_ ?_
  · simp
    exact Le.keep rfl (Nat.le_refl _) (by simp) (by simp [w0F])
  refine awp_seq ?_
  refine awp_regc ⟨256, [(0, wds H), (1, bys B), (2, wds C), (7, .rs 24 0 64), (8, .I (0 : Nat))], [(24, some ⟨1, rowsK .u32 (w0F B 0), 0⟩)], 48⟩ rfl ?_ ?_
  · simp
    exact Le.keep rfl (Nat.le_refl _) (by simp) (by simp)
  refine awp_block ?_
  refine awp_loop (ι := Nat) (fun i => ⟨256, [(0, wds H), (1, bys B), (2, wds C), (7, .rs 24 0 64), (8, .I i)], [(24, some ⟨1, rowsK .u32 (w0F B i), 0⟩)], 48⟩) (fun i => i ≤ 16) (fun i => 16 - i) 0 (by omega) (Le.refl _ _) ?_
  intro i hi
  refine awp_seq ?_
  refine awp_regc ⟨256, [(0, wds H), (1, bys B), (2, wds C), (7, .rs 24 0 64), (8, .I i), (21, .B (decide (i < 16)))], [(24, some ⟨1, rowsK .u32 (w0F B i), 0⟩)], 64⟩ rfl ?_ ?_
  · simp
    exact Le.keep rfl (Nat.le_refl _) (by simp <;> omega) (by simp)
  refine awp_cond _ rfl (fun h => awp_skip ?_) fun h => awp_exit (hit ?_)
  · simp only [decide_eq_true_eq] at h
    refine awp_cut (ι := Unit) (fun _ => ⟨256, [(0, wds H), (1, bys B), (2, wds C), (7, .rs 24 0 64), (8, .I i)], [(24, some ⟨1, rowsK .u32 (w0F B (i + 1)), 0⟩)], 360⟩) (fun _ => True) ?_ fun _ _ => ?_
    · obtain ⟨p, hp⟩ : ∃ p, p = 4 * i := ⟨_, rfl⟩
      obtain ⟨p1, hp1⟩ : ∃ q, q = p + 1 := ⟨_, rfl⟩
      obtain ⟨p2, hp2⟩ : ∃ q, q = p + 2 := ⟨_, rfl⟩
      obtain ⟨p3, hp3⟩ : ∃ q, q = p + 3 := ⟨_, rfl⟩
      have hw0 : IntKind.i64.wrap (4 * (i : Int)) = (p : Int) := by rw [w64 (by omega) (by omega)]; omega
      have hw1 : IntKind.i64.wrap ((p : Int) + 1) = (p1 : Int) := by rw [w64 (by omega) (by omega)]; omega
      have hw2 : IntKind.i64.wrap ((p : Int) + 2) = (p2 : Int) := by rw [w64 (by omega) (by omega)]; omega
      have hw3 : IntKind.i64.wrap ((p : Int) + 3) = (p3 : Int) := by rw [w64 (by omega) (by omega)]; omega
      obtain ⟨l0, g0⟩ := gt_of hB (show p < 64 by omega)
      obtain ⟨l1, g1⟩ := gt_of hB (show p1 < 64 by omega)
      obtain ⟨l2, g2⟩ := gt_of hB (show p2 < 64 by omega)
      obtain ⟨l3, g3⟩ := gt_of hB (show p3 < 64 by omega)
      have hs : rowsK .u32 (w0F B (i + 1)) = (rowsK .u32 (w0F B i)).set i [wd (wordF (gt B p) (gt B p1) (gt B p2) (gt B p3))] := by rw [w0F, rowsK, List.map_set, hp1, hp2, hp3, hp]
      obtain ⟨z, hz⟩ : ∃ z, z = wordF (gt B p) (gt B p1) (gt B p2) (gt B p3) := ⟨_, rfl⟩
      rw [← hz] at hs
      rw [hs]
      have hg := gt_row (k := .u32) (w0F_len B i) (show i < 64 by omega)
      have hX := hfl (w0F B i)
      generalize rowsK .u32 (w0F B i) = X at *
      generalize gt (w0F B i) i = o at *
      have hXl : ∀ ρ sn h m, (X.set i [wd z]).map (List.map (conv ρ sn h (m + 1))) = X.set i [wd z] := fun ρ sn h m => by rw [List.map_set, hX]; simp
      generalize hc0 : gt B p = c0 at *
      generalize hc1 : gt B p1 = c1 at *
      generalize hc2 : gt B p2 = c2 at *
      generalize hc3 : gt B p3 = c3 at *
      refine awp_block ?_
      refine awp_drw rfl ?_
      simp [hw0, hw1, hw2, hw3, l0, l1, l2, l3, g0, g1, g2, g3, h, hg, show (i : Int) < 64 by omega, show i < 64 by omega, splice]
      have hz2 : u2 .or (u2 .or (u2 .or (sh .shl (IntKind.u32.wrap c0) 24) (sh .shl (IntKind.u32.wrap c1) 16)) (sh .shl (IntKind.u32.wrap c2) 8)) (IntKind.u32.wrap c3) = z := hz.symm
      simp only [hz2]
      exact ⟨rfl, Le.X1 hXl 24 24 [] rfl rfl (by simp) (by simp) rfl (by simp)⟩
    have hwi : IntKind.i64.wrap ((i : Int) + 1) = ((i + 1 : Nat) : Int) := by rw [w64 (by omega) (by omega)]; omega
    refine awp_reg rfl ?_
    simp [hwi]
    exact ⟨i + 1, by omega, by omega, Le.K1 24 24 [] rfl rfl (by simp) (by simp) rfl (by simp)⟩
  simp only [decide_eq_false_iff_not] at h
  obtain rfl : i = 16 := by omega
  refine awp_seq ?_
  refine awp_regc ⟨256, [(0, wds H), (2, wds C), (7, .rs 24 0 64), (9, .I (0 + 16 : Nat))], [(24, some ⟨1, rowsK .u32 (w1F B 0), 0⟩)], 72⟩ rfl ?_ ?_
  · simp [w1F]
    exact Le.keep rfl (Nat.le_refl _) (by simp) (by simp)
  refine awp_block ?_
  refine awp_loop (ι := Nat) (fun i => ⟨256, [(0, wds H), (2, wds C), (7, .rs 24 0 64), (9, .I (i + 16 : Nat))], [(24, some ⟨1, rowsK .u32 (w1F B i), 0⟩)], 72⟩) (fun i => i ≤ 48) (fun i => 48 - i) 0 (by omega) (Le.refl _ _) ?_
  intro i hi
  obtain ⟨m, hm⟩ : ∃ m, m = i + 16 := ⟨_, rfl⟩
  rw [← hm]
  refine awp_seq ?_
  refine awp_regc ⟨256, [(0, wds H), (2, wds C), (7, .rs 24 0 64), (9, .I m), (61, .B (decide (i < 48)))], [(24, some ⟨1, rowsK .u32 (w1F B i), 0⟩)], 88⟩ rfl ?_ ?_
  · simp
    exact Le.keep rfl (Nat.le_refl _) (by simp; omega) (by simp)
  refine awp_cond _ rfl (fun h => awp_skip ?_) fun h => awp_exit (hit ?_)
  · simp only [decide_eq_true_eq] at h
    refine awp_cut (ι := Unit) (fun _ => ⟨256, [(0, wds H), (2, wds C), (7, .rs 24 0 64), (9, .I m)], [(24, some ⟨1, rowsK .u32 (w1F B (i + 1)), 0⟩)], 576⟩) (fun _ => True) ?_ fun _ _ => ?_
    · have hw15 : IntKind.i64.wrap ((m : Int) - 15) = ((i + 1 : Nat) : Int) := by rw [w64 (by omega) (by omega)]; omega
      have hw2 : IntKind.i64.wrap ((m : Int) - 2) = ((i + 14 : Nat) : Int) := by rw [w64 (by omega) (by omega)]; omega
      have hw16 : IntKind.i64.wrap ((m : Int) - 16) = ((i : Nat) : Int) := by rw [w64 (by omega) (by omega)]; omega
      have hw7 : IntKind.i64.wrap ((m : Int) - 7) = ((i + 9 : Nat) : Int) := by rw [w64 (by omega) (by omega)]; omega
      have hlen := w1F_len B i
      have g15 := gt_row (k := .u32) hlen (show i + 1 < 64 by omega)
      have g2 := gt_row (k := .u32) hlen (show i + 14 < 64 by omega)
      have g16 := gt_row (k := .u32) hlen (show i < 64 by omega)
      have g7 := gt_row (k := .u32) hlen (show i + 9 < 64 by omega)
      have gm := gt_row (k := .u32) hlen (show m < 64 by omega)
      have hs : rowsK .u32 (w1F B (i + 1)) = (rowsK .u32 (w1F B i)).set m [wd (u2 .add (u2 .add (u2 .add (gt (w1F B i) i) (s0F (gt (w1F B i) (i + 1)))) (gt (w1F B i) (i + 9))) (s1F (gt (w1F B i) (i + 14))))] := by rw [w1F, rowsK, List.map_set, hm]
      have hX := hfl (w1F B i)
      generalize gt (w1F B i) (i + 1) = a15 at *
      generalize gt (w1F B i) (i + 14) = a2 at *
      generalize gt (w1F B i) i = a16 at *
      generalize gt (w1F B i) (i + 9) = a7 at *
      generalize gt (w1F B i) m = am at *
      generalize rowsK .u32 (w1F B i) = X at *
      obtain ⟨q15, hq15⟩ : ∃ q, q = i + 1 := ⟨_, rfl⟩
      obtain ⟨q2, hq2⟩ : ∃ q, q = i + 14 := ⟨_, rfl⟩
      obtain ⟨q7, hq7⟩ : ∃ q, q = i + 9 := ⟨_, rfl⟩
      rw [← hq15] at hw15 g15
      rw [← hq2] at hw2 g2
      rw [← hq7] at hw7 g7
      obtain ⟨b15, hb15⟩ : ∃ b, b = s0F a15 := ⟨_, rfl⟩
      obtain ⟨b2, hb2⟩ : ∃ b, b = s1F a2 := ⟨_, rfl⟩
      rw [← hb15, ← hb2] at hs
      obtain ⟨z, hz⟩ : ∃ z, z = u2 .add (u2 .add (u2 .add a16 b15) a7) b2 := ⟨_, rfl⟩
      rw [← hz] at hs
      rw [hs]
      have hXl : ∀ ρ sn h m', (X.set m [wd z]).map (List.map (conv ρ sn h (m' + 1))) = X.set m [wd z] := fun ρ sn h m' => by rw [List.map_set, hX]; simp
      refine awp_block ?_
      refine awp_dregc ⟨256, [(0, wds H), (2, wds C), (7, .rs 24 0 64), (9, .I m), (10, wd b15)], [(24, some ⟨1, X, 0⟩)], 256⟩ rfl ?_ ?_
      · simp [hw15, g15, show q15 < 64 by omega, show (q15 : Int) < 64 by omega]
        refine call0e (ref01_turn_ok a15 7 (by decide) (by decide)) rfl ?_
        simp [hw15, g15, show q15 < 64 by omega, show (q15 : Int) < 64 by omega]
        refine call0e (ref01_turn_ok a15 18 (by decide) (by decide)) rfl ?_
        simp [hw15, g15, show q15 < 64 by omega, show (q15 : Int) < 64 by omega]
        exact ⟨rfl, Le.keep rfl (Nat.le_refl _) (by simp [hb15, s0F]) (by simp)⟩
      refine awp_dregc ⟨256, [(0, wds H), (2, wds C), (7, .rs 24 0 64), (9, .I m), (10, wd b15), (11, wd b2)], [(24, some ⟨1, X, 0⟩)], 424⟩ rfl ?_ ?_
      · simp [hw2, g2, show q2 < 64 by omega, show (q2 : Int) < 64 by omega]
        refine call0e (ref01_turn_ok a2 17 (by decide) (by decide)) rfl ?_
        simp [hw2, g2, show q2 < 64 by omega, show (q2 : Int) < 64 by omega]
        refine call0e (ref01_turn_ok a2 19 (by decide) (by decide)) rfl ?_
        simp [hw2, g2, show q2 < 64 by omega, show (q2 : Int) < 64 by omega]
        exact ⟨rfl, Le.keep rfl (Nat.le_refl _) (by simp [hb2, s1F]) (by simp)⟩
      refine awp_drw rfl ?_
      simp [hw16, hw7, g16, g7, gm, show q7 < 64 by omega, show i < 64 by omega, show m < 64 by omega, show (q7 : Int) < 64 by omega, show (i : Int) < 64 by omega, show (m : Int) < 64 by omega, splice, ← hz]
      exact ⟨rfl, Le.X1 hXl 24 24 [] rfl rfl (by simp) (by simp) rfl (by simp)⟩
    have hwi : IntKind.i64.wrap ((m : Int) + 1) = ((i + 1 + 16 : Nat) : Int) := by rw [w64 (by omega) (by omega)]; omega
    refine awp_reg rfl ?_
    simp [hwi]
    exact ⟨i + 1, by omega, by omega, Le.K1 24 24 [] rfl rfl (by simp) (by simp) rfl (by simp)⟩
  simp only [decide_eq_false_iff_not] at h
  obtain rfl : i = 48 := by omega
  obtain ⟨W, hW⟩ : ∃ W, W = w1F B 48 := ⟨_, rfl⟩
  have hWl : W.length = 64 := by rw [hW]; exact w1F_len B 48
  rw [← hW]
  refine awp_regc ⟨256, [(0, wds H), (2, wds C), (7, wds W), (12, .rs 96 0 8)], [(96, some ⟨1, rowsK .u32 (vF H B C 0), 0⟩)], 112⟩ rfl ?_ ?_
  · simp [hH]
    have htk : List.take 64 (rowsK .u32 W) = rowsK .u32 W := List.take_of_length_le (by rw [rowsK_len]; omega)
    exact Le.ren1 96 96 [24] rfl rfl (by simp) (by simp) rfl (by simp [vF, Function.comp_def]) (by simp) (by simp [Function.comp_def, hWl]; rw [List.take_of_length_le (by simp; omega)]; exact .refl _)
  refine awp_seq ?_
  refine awp_regc ⟨256, [(0, wds H), (2, wds C), (7, wds W), (12, .rs 96 0 8), (13, .I (0 : Nat))], [(96, some ⟨1, rowsK .u32 (vF H B C 0), 0⟩)], 120⟩ rfl ?_ ?_
  · simp
    exact Le.keep rfl (Nat.le_refl _) (by simp) (by simp)
  refine awp_block ?_
  refine awp_loop (ι := Nat) (fun i => ⟨256, [(0, wds H), (2, wds C), (7, wds W), (12, .rs 96 0 8), (13, .I i)], [(96, some ⟨1, rowsK .u32 (vF H B C i), 0⟩)], 120⟩) (fun i => i ≤ 64) (fun i => 64 - i) 0 (by omega) (Le.refl _ _) ?_
  intro i hi
  refine awp_seq ?_
  refine awp_regc ⟨256, [(0, wds H), (2, wds C), (7, wds W), (12, .rs 96 0 8), (13, .I i), (125, .B (decide (i < 64)))], [(96, some ⟨1, rowsK .u32 (vF H B C i), 0⟩)], 136⟩ rfl ?_ ?_
  · simp
    exact Le.keep rfl (Nat.le_refl _) (by simp <;> omega) (by simp)
  refine awp_cond _ rfl (fun h => awp_skip ?_) fun h => awp_exit (hit ?_)
  · simp only [decide_eq_true_eq] at h
    refine awp_cut (ι := Unit) (fun _ => ⟨256, [(0, wds H), (2, wds C), (7, wds W), (12, .rs 96 0 8), (13, .I i)], [(96, some ⟨1, rowsK .u32 (vF H B C (i + 1)), 0⟩)], 1088⟩) (fun _ => True) ?_ fun _ _ => ?_
    · have hvl := vF_len (B := B) (C := C) hH i
      have hs : vF H B C (i + 1) = [u2 .add (u2 .add (xF (vF H B C i) (gt C i) (gt W i)) (r3 (gt (vF H B C i) 0) 2 13 22)) (mF (vF H B C i)), gt (vF H B C i) 0, gt (vF H B C i) 1, gt (vF H B C i) 2, u2 .add (gt (vF H B C i) 3) (xF (vF H B C i) (gt C i) (gt W i)), gt (vF H B C i) 4, gt (vF H B C i) 5, gt (vF H B C i) 6] := by rw [hW]; rfl
      rw [hs]
      generalize vF H B C i = v at *
      have g0 := gt_row (k := .u32) hvl (show 0 < 8 by omega)
      have g1 := gt_row (k := .u32) hvl (show 1 < 8 by omega)
      have g2 := gt_row (k := .u32) hvl (show 2 < 8 by omega)
      have g3 := gt_row (k := .u32) hvl (show 3 < 8 by omega)
      have g4 := gt_row (k := .u32) hvl (show 4 < 8 by omega)
      have g5 := gt_row (k := .u32) hvl (show 5 < 8 by omega)
      have g6 := gt_row (k := .u32) hvl (show 6 < 8 by omega)
      have g7 := gt_row (k := .u32) hvl (show 7 < 8 by omega)
      obtain ⟨lc, gc⟩ := gt_of hC h
      obtain ⟨lw, gw⟩ := gt_of hWl h
      have hxF : xF v (gt C i) (gt W i) = u2 .add (u2 .add (u2 .add (u2 .add (gt v 7) (r3 (gt v 4) 6 11 25)) (u2 .xor (u2 .and (gt v 4) (gt v 5)) (u2 .and (nt (gt v 4)) (gt v 6)))) (gt C i)) (gt W i) := rfl
      have hmF : mF v = u2 .xor (u2 .xor (u2 .and (gt v 0) (gt v 1)) (u2 .and (gt v 0) (gt v 2))) (u2 .and (gt v 1) (gt v 2)) := rfl
      have hX := hfl v
      generalize gt C i = ck at *
      generalize gt W i = wk at *
      generalize rowsK .u32 v = X at *
      generalize gt v 0 = v0 at *
      generalize gt v 1 = v1 at *
      generalize gt v 2 = v2 at *
      generalize gt v 3 = v3 at *
      generalize gt v 4 = v4 at *
      generalize gt v 5 = v5 at *
      generalize gt v 6 = v6 at *
      generalize gt v 7 = v7 at *
      obtain ⟨s, hsd⟩ : ∃ s, s = r3 v4 6 11 25 := ⟨_, rfl⟩
      obtain ⟨c, hcd⟩ : ∃ c, c = u2 .xor (u2 .and v4 v5) (u2 .and (nt v4) v6) := ⟨_, rfl⟩
      obtain ⟨x, hxd⟩ : ∃ x, x = xF v ck wk := ⟨_, rfl⟩
      obtain ⟨s', hsd'⟩ : ∃ s, s = r3 v0 2 13 22 := ⟨_, rfl⟩
      obtain ⟨y, hyd⟩ : ∃ y, y = mF v := ⟨_, rfl⟩
      rw [← hsd, ← hcd, ← hxd] at hxF
      rw [← hyd] at hmF
      rw [← hxd, ← hsd', ← hyd]
      clear hxd hyd
      refine awp_block ?_
      refine awp_dregc ⟨256, [(0, wds H), (2, wds C), (7, wds W), (12, .rs 96 0 8), (13, .I i), (14, wd s)], [(96, some ⟨1, X, 0⟩)], 256⟩ rfl ?_ ?_
      · simp [g4]
        refine call0e (ref01_turn_ok v4 6 (by decide) (by decide)) rfl ?_
        simp [g4]
        refine call0e (ref01_turn_ok v4 11 (by decide) (by decide)) rfl ?_
        simp [g4]
        refine call0e (ref01_turn_ok v4 25 (by decide) (by decide)) rfl ?_
        simp
        exact ⟨rfl, Le.keep rfl (Nat.le_refl _) (by simp [hsd, r3]) (by simp)⟩
      refine awp_dregc ⟨256, [(0, wds H), (2, wds C), (7, wds W), (12, .rs 96 0 8), (13, .I i), (14, wd s), (15, wd c)], [(96, some ⟨1, X, 0⟩)], 392⟩ rfl ?_ ?_
      · simp [g4, g5, g6]
        exact ⟨rfl, Le.keep rfl (Nat.le_refl _) (by simp [hcd]) (by simp)⟩
      refine awp_dregc ⟨256, [(0, wds H), (2, wds C), (7, wds W), (12, .rs 96 0 8), (13, .I i), (16, wd x)], [(96, some ⟨1, X, 0⟩)], 536⟩ rfl ?_ ?_
      · simp [g7, lc, gc, lw, gw]
        exact ⟨rfl, Le.keep rfl (Nat.le_refl _) (by simp [hxF]) (by simp)⟩
      refine awp_dregc ⟨256, [(0, wds H), (2, wds C), (7, wds W), (12, .rs 96 0 8), (13, .I i), (16, wd x), (14, wd s')], [(96, some ⟨1, X, 0⟩)], 656⟩ rfl ?_ ?_
      · simp [g0]
        refine call0e (ref01_turn_ok v0 2 (by decide) (by decide)) rfl ?_
        simp [g0]
        refine call0e (ref01_turn_ok v0 13 (by decide) (by decide)) rfl ?_
        simp [g0]
        refine call0e (ref01_turn_ok v0 22 (by decide) (by decide)) rfl ?_
        simp
        exact ⟨rfl, Le.keep rfl (Nat.le_refl _) (by simp [hsd', r3]) (by simp)⟩
      refine awp_dregc ⟨256, [(0, wds H), (2, wds C), (7, wds W), (12, .rs 96 0 8), (13, .I i), (16, wd x), (14, wd s'), (17, wd y)], [(96, some ⟨1, X, 0⟩)], 848⟩ rfl ?_ ?_
      · simp [g0, g1, g2]
        exact ⟨rfl, Le.keep rfl (Nat.le_refl _) (by simp [hmF]) (by simp)⟩
      refine awp_drw rfl ?_
      simp [g0, g1, g2, g3, g4, g5, g6]
      exact ⟨rfl, Le.ren1 1072 96 [] rfl rfl (by simp) (by simp) rfl (by simp) (by simp) (by simp)⟩
    have hwi : IntKind.i64.wrap ((i : Int) + 1) = ((i + 1 : Nat) : Int) := by rw [w64 (by omega) (by omega)]; omega
    refine awp_reg rfl ?_
    simp [hwi]
    exact ⟨i + 1, by omega, by omega, Le.K1 96 96 [] rfl rfl (by simp) (by simp) rfl (by simp)⟩
  simp only [decide_eq_false_iff_not] at h
  obtain rfl : i = 64 := by omega
  refine awp_seq ?_
  refine awp_regc ⟨256, [(0, wds H), (12, .rs 96 0 8), (18, .I (0 : Nat))], [(96, some ⟨1, rowsK .u32 (oF H B C 0), 0⟩)], 144⟩ rfl ?_ ?_
  · simp
    exact Le.keep rfl (Nat.le_refl _) (by simp) (by simp [oF])
  refine awp_block ?_
  refine awp_loop (ι := Nat) (fun i => ⟨256, [(0, wds H), (12, .rs 96 0 8), (18, .I i)], [(96, some ⟨1, rowsK .u32 (oF H B C i), 0⟩)], 144⟩) (fun i => i ≤ 8) (fun i => 8 - i) 0 (by omega) (Le.refl _ _) ?_
  intro i hi
  refine awp_seq ?_
  refine awp_regc ⟨256, [(0, wds H), (12, .rs 96 0 8), (18, .I i), (242, .B (decide (i < 8)))], [(96, some ⟨1, rowsK .u32 (oF H B C i), 0⟩)], 160⟩ rfl ?_ ?_
  · simp
    exact Le.keep rfl (Nat.le_refl _) (by simp <;> omega) (by simp)
  refine awp_cond _ rfl (fun h => awp_skip ?_) fun h => awp_exit (hit ?_)
  · simp only [decide_eq_true_eq] at h
    refine awp_cut (ι := Unit) (fun _ => ⟨256, [(0, wds H), (12, .rs 96 0 8), (18, .I i)], [(96, some ⟨1, rowsK .u32 (oF H B C (i + 1)), 0⟩)], 248⟩) (fun _ => True) ?_ fun _ _ => ?_
    · have hol := oF_len (B := B) (C := C) hH i
      have hg := gt_row (k := .u32) hol h
      obtain ⟨lh, gh⟩ := gt_of hH h
      obtain ⟨z, hz⟩ : ∃ z, z = u2 .add (gt (oF H B C i) i) (gt H i) := ⟨_, rfl⟩
      have hs : rowsK .u32 (oF H B C (i + 1)) = (rowsK .u32 (oF H B C i)).set i [wd z] := by rw [oF, rowsK, List.map_set, hz]
      rw [hs]
      have hX := hfl (oF H B C i)
      generalize gt (oF H B C i) i = a at *
      generalize gt H i = b at *
      generalize rowsK .u32 (oF H B C i) = X at *
      have hXl : ∀ ρ sn h m, (X.set i [wd z]).map (List.map (conv ρ sn h (m + 1))) = X.set i [wd z] := fun ρ sn h m => by rw [List.map_set, hX]; simp
      refine awp_block ?_
      refine awp_drw rfl ?_
      simp [hg, lh, gh, h, show (i : Int) < 8 by omega, splice, ← hz]
      exact ⟨rfl, Le.X1 hXl 96 96 [] rfl rfl (by simp) (by simp) rfl (by simp)⟩
    have hwi : IntKind.i64.wrap ((i : Int) + 1) = ((i + 1 : Nat) : Int) := by rw [w64 (by omega) (by omega)]; omega
    refine awp_reg rfl ?_
    simp [hwi]
    exact ⟨i + 1, by omega, by omega, Le.K1 96 96 [] rfl rfl (by simp) (by simp) rfl (by simp)⟩
  simp only [decide_eq_false_iff_not] at h
  obtain rfl : i = 8 := by omega
  refine awp_seq ?_
  refine awp_run (s := ?z9) rfl ?p9 ?r9
  case p9 => simp; rfl
  refine awp_ret ?_
  exact ⟨.inr rfl, RetOk.out [96] [] rfl (by simp) (by simp) (by simp) (by simp [blockF, Function.comp_def])⟩
end Go.Proofs.YtnlanlpbgcalcaaGreat
namespace Go.Proofs.YtnlanlpbgcalcaaGreat
open Go
section
variable {P : Program} {np id : Nat} {h : Nat → Option Ent} {K : AV → List Nat → List (Nat × Option Ent) → Prop} {s s' : Nat} {f : Bool} {rows : List (List AV)} {k l : Nat}
@[simp] theorem k_slvlh : aK P np id (.slc s true true false) [.vs s' f rows, .sc (.int .i64 (l : Int)), .sc (.int .i64 (k : Int))] h K = (l ≤ k ∧ k ≤ rows.length ∧ s' = s ∧ K (.vs s false ((rows.drop l).take (k - l))) [] []) := by
  rw [k_slc]
  refine propext ⟨?_, ?_⟩
  · rintro ⟨l', r, m, n, h1, h2, h4, h5, h6, h7, h3, h10, h8, h9⟩
    simp at h4 h1
    subst h1
    obtain ⟨rfl, rfl⟩ : l = l' ∧ k = r := by omega
    exact ⟨h2, h3, h8, by simpa using h9⟩
  · rintro ⟨h1, h2, h3, h4⟩
    exact ⟨l, k, 0, rows.length, rfl, h1, by simp, (fun h => by cases h), (fun h => by cases h), (fun h => by cases h), h2, (fun h => by cases h), h3, by simpa using h4⟩
end
theorem bytesOf_rows (l : List Int) : bytesOfRows (rowsK .u8 l) = some (l.map fun n => UInt8.ofNat n.toNat) := by
  induction l with
  | nil => rfl
  | cons x l ih =>
    show (bytesOfRows (rowsK .u8 l)).map _ = _
    rw [ih]
    rfl
def h0W : List Int := [1779033703, 3144134277, 1013904242, 2773480762, 1359893119, 2600822924, 528734635, 1541459225]
def zerosN (L : Nat) : Nat := (120 - (L + 1) % 64) % 64
def bitsN (L : Nat) : Int := IntKind.u64.wrap (IntKind.u64.wrap (L : Int) * 8)
def padY (b : List Int) : List Int := b ++ [128] ++ List.replicate (zerosN b.length) 0 ++ intY (bitsN b.length)
def hF (M : List Int) : Nat → List Int
  | 0 => h0W
  | i + 1 => blockF (hF M i) ((M.drop (64 * i)).take 64) conK
def four (x : Int) : List Int := [IntKind.u8.wrap (sh .shr x 24), IntKind.u8.wrap (sh .shr x 16), IntKind.u8.wrap (sh .shr x 8), IntKind.u8.wrap x]
def outYn (h : List Int) : Nat → List Int
  | 0 => []
  | i + 1 => outYn h i ++ four (gt h i)
def sumB (b : List Int) : ByteArray := ⟨((outYn (hF (padY b) ((padY b).length / 64)) 8).map fun n => UInt8.ofNat n.toNat).toArray⟩
theorem outYn_len (h : List Int) : ∀ i, (outYn h i).length = 4 * i
  | 0 => rfl
  | i + 1 => by rw [outYn, List.length_append, outYn_len h i]; simp [four]; omega
theorem sumB_size (b : List Int) : (sumB b).size = 32 := by
  show ((outYn _ 8).map _).toArray.size = 32
  simp [outYn_len]
theorem blockF_len {H B C : List Int} (hH : H.length = 8) : (blockF H B C).length = 8 := oF_len hH 8
theorem hF_len (M : List Int) : ∀ i, (hF M i).length = 8
  | 0 => rfl
  | i + 1 => blockF_len (hF_len M i)
theorem padY_len (b : List Int) : (padY b).length = b.length + 1 + zerosN b.length + 8 := by simp [padY, intY_len]; omega
theorem padY_mod (b : List Int) : (padY b).length % 64 = 0 := by rw [padY_len]; unfold zerosN; omega
set_option maxHeartbeats 8000000 in
set_option maxRecDepth 100000 in
theorem ref01_Sum_ok (b : List Int) (hl : b.length ≤ 1073741824) : ACalls Tryz.prog nref01_Sum [bys b] [] (.sc (.string (sumB b))) [] := by
  refine sref01_Sum.acalls (Nat.le_of_ble_eq_true rfl) (Nat.le_of_ble_eq_true rfl) (Nat.le_refl _) ?_
  show awp _ 0 _ _ ⟨87, [(0, bys b)], [], 16⟩
  obtain ⟨L, hL⟩ : ∃ L, L = b.length := ⟨_, rfl⟩
  obtain ⟨Z, hZ⟩ : ∃ Z, Z = zerosN L := ⟨_, rfl⟩
  have hZ2 : Z = (120 - (L + 1) % 64) % 64 := hZ
  have hfl : ∀ (k : IntKind) (l : List Int) ρ sn h m, (rowsK k l).map (List.map (conv ρ sn h (m + 1))) = rowsK k l := rowsK_flat
  refine awp_regc ⟨87, [(0, bys b)], [], 24⟩ rfl (by simp; exact Le.snap [] rfl rfl (by simp)) ?_
  refine awp_regc ⟨87, [(0, bys b), (3, .rs 24 0 8)], [(24, some ⟨1, rowsK .u32 h0W, 0⟩)], 40⟩ rfl ?_ ?_
  · simp
    exact Le.keep rfl (Nat.le_refl _) (by simp) (by simp [h0W])
  let m : Nat → List Int := fun z => b ++ [128] ++ List.replicate z 0
  have hml : ∀ z, (m z).length = L + 1 + z := fun z => by simp [m, hL]; omega
  have hms : ∀ z, m (z + 1) = m z ++ [0] := fun z => by simp [m, List.replicate_succ']
  have hmZ : b ++ [128] ++ List.replicate (zerosN b.length) 0 = m Z := by rw [hZ, hL]
  refine awp_regc ⟨87, [(0, bys b), (3, .rs 24 0 8), (4, .rs 64 0 (L + 1 + 0))], [(24, some ⟨1, rowsK .u32 h0W, 0⟩), (64, some ⟨1, rowsK .u8 (m 0), 0⟩)], 80⟩ rfl ?_ ?_
  · simp [← hL]
    repeat' apply And.intro
    all_goals first | omega | exact Le.keep rfl (Nat.le_refl _) (by simp) (by simp [m, hL, take_map_len])
  clear_value m
  refine awp_seq ?_
  refine awp_block ?_
  refine awp_loop (ι := Nat) (fun z => ⟨87, [(0, bys b), (3, .rs 24 0 8), (4, .rs 64 0 (L + 1 + z))], [(24, some ⟨1, rowsK .u32 h0W, 0⟩), (64, some ⟨1, rowsK .u8 (m z), 0⟩)], 80⟩) (fun z => z ≤ Z) (fun z => Z - z) 0 (by omega) (Le.refl _ _) ?_
  intro z hz
  obtain ⟨N, hN⟩ : ∃ N, N = L + 1 + z := ⟨_, rfl⟩
  have hrem : Int.tmod (N : Int) 64 = ((N % 64 : Nat) : Int) := rfl
  have hml1 := hml z
  rw [← hN] at hml1
  rw [← hN]
  refine awp_seq ?_
  refine awp_regc ⟨87, [(0, bys b), (3, .rs 24 0 8), (4, .rs 64 0 N), (19, .B (decide (z < Z)))], [(24, some ⟨1, rowsK .u32 h0W, 0⟩), (64, some ⟨1, rowsK .u8 (m z), 0⟩)], 112⟩ rfl ?_ ?_
  · simp [hrem, -Int.natCast_emod]
    exact Le.keep rfl (Nat.le_refl _) (by simp [-Int.natCast_emod]; rw [Bool.eq_iff_iff]; simp [-Int.natCast_emod]; omega) (by simp)
  refine awp_cond _ rfl (fun h => awp_skip ?_) fun h => awp_exit (hit ?_)
  · simp only [decide_eq_true_eq] at h
    have hNb : N ≤ 1073741900 := by omega
    have hs := hms z
    have hX := hfl .u8 (m (z + 1))
    have hXe : rowsK .u8 (m (z + 1)) = rowsK .u8 (m z) ++ [[.sc (.int .u8 0)]] := by rw [hs, rowsK, List.map_append]; rfl
    have hrl : (rowsK .u8 (m z)).length = N := by rw [rowsK_len, hml1]
    refine awp_block ?_
    refine awp_reg rfl ?_
    simp [hml1]
    refine ⟨by omega, z + 1, by omega, by omega, ?_⟩
    refine Le.ents [(24, 24), (128, 64)] [] rfl (by simp) (by simp) (by simp) (by simp) (by simp) (by simp; exact wkE (by simp; omega)) fun p hp => ?_
    simp only [List.mem_cons, List.not_mem_nil, or_false] at hp
    rcases hp with rfl | rfl
    · exact ⟨24, _, _, rfl, by simp, rfl, EntUp.eq (by simp only [convE, hfl]) (by simp)⟩
    · exact ⟨128, _, _, rfl, by simp, rfl, EntUp.eq (by
        show convE _ _ _ _ ⟨1, List.take N (rowsK .u8 (m z)) ++ [[.sc (.int .u8 0)]], 0⟩ = _
        rw [List.take_of_length_le (by omega), ← hXe]
        simp only [convE, hfl]) (by simp)⟩
  simp only [decide_eq_false_iff_not] at h
  obtain rfl : z = Z := by omega
  obtain ⟨M0, hM0⟩ : ∃ M0, M0 = m z := ⟨_, rfl⟩
  rw [← hM0] at hml1 hmZ ⊢
  obtain ⟨bt, hbt⟩ : ∃ bt, bt = bitsN L := ⟨_, rfl⟩
  refine awp_regc ⟨87, [(3, .rs 24 0 8), (4, .rs 64 0 N), (5, .sc (.int .u64 bt))], [(24, some ⟨1, rowsK .u32 h0W, 0⟩), (64, some ⟨1, rowsK .u8 M0, 0⟩)], 152⟩ rfl ?_ ?_
  · simp [← hL]
    exact Le.keep rfl (Nat.le_refl _) (by simp [hbt, bitsN]) (by simp)
  let q : Nat → List Int := fun j => M0 ++ intYn bt j
  have hql : ∀ j, (q j).length = N + j := fun j => by simp only [q]; rw [List.length_append, intYn_len, hml1]
  have hqs : ∀ j, q (j + 1) = q j ++ [byteN bt (7 - j)] := fun j => by simp only [q]; rw [intYn_succ, List.append_assoc]
  have hq0 : q 0 = M0 := by simp [q, intYn]
  have hq8 : q 8 = padY b := by
    simp only [q]
    rw [padY, hmZ, hbt, hL]
    rfl
  refine awp_seq ?_
  refine awp_regc ⟨87, [(3, .rs 24 0 8), (4, .rs 64 0 (N + 0)), (5, .sc (.int .u64 bt)), (6, .I (7 - (0 : Nat)))], [(24, some ⟨1, rowsK .u32 h0W, 0⟩), (64, some ⟨1, rowsK .u8 (q 0), 0⟩)], 160⟩ rfl ?_ ?_
  · simp [hq0]
    exact Le.keep rfl (Nat.le_refl _) (by simp) (by simp)
  clear_value q
  refine awp_block ?_
  refine awp_loop (ι := Nat) (fun j => ⟨87, [(3, .rs 24 0 8), (4, .rs 64 0 (N + j)), (5, .sc (.int .u64 bt)), (6, .I (7 - (j : Int)))], [(24, some ⟨1, rowsK .u32 h0W, 0⟩), (64, some ⟨1, rowsK .u8 (q j), 0⟩)], 160⟩) (fun j => j ≤ 8) (fun j => 8 - j) 0 (by omega) (Le.refl _ _) ?_
  intro j hj
  refine awp_seq ?_
  refine awp_regc ⟨87, [(3, .rs 24 0 8), (4, .rs 64 0 (N + j)), (5, .sc (.int .u64 bt)), (6, .I (7 - (j : Int))), (28, .B (decide (j < 8)))], [(24, some ⟨1, rowsK .u32 h0W, 0⟩), (64, some ⟨1, rowsK .u8 (q j), 0⟩)], 176⟩ rfl ?_ ?_
  · simp
    exact Le.keep rfl (Nat.le_refl _) (by simp; omega) (by simp)
  refine awp_cond _ rfl (fun h => awp_skip ?_) fun h => awp_exit (hit ?_)
  · simp only [decide_eq_true_eq] at h
    refine awp_cut (ι := Unit) (fun _ => ⟨87, [(3, .rs 24 0 8), (4, .rs 64 0 (N + (j + 1))), (5, .sc (.int .u64 bt)), (6, .I (7 - (j : Int)))], [(24, some ⟨1, rowsK .u32 h0W, 0⟩), (64, some ⟨1, rowsK .u8 (q (j + 1)), 0⟩)], 256⟩) (fun _ => True) ?_ fun _ _ => ?_
    · have hs := hqs j
      have hl1 := hql j
      rw [hs]
      generalize q j = Y at *
      obtain ⟨k, hk⟩ : ∃ k : Nat, 7 - (j : Int) = k := ⟨7 - j, by omega⟩
      have hk2 : 7 - j = k := by omega
      have hw1 : IntKind.i64.wrap (8 * (k : Int)) = ((8 * k : Nat) : Int) := by rw [w64 (by omega) (by omega)]; omega
      have hw2 : IntKind.u64.wrap ((8 * k : Nat) : Int) = ((8 * k : Nat) : Int) := by rw [IntKind.wrap_u64]; omega
      have hb : byteN bt k = IntKind.u8.wrap (bt.fdiv (2 ^ (min (8 * k) 64))) := rfl
      rw [hk, hk2]
      generalize byteN bt k = y at hb ⊢
      obtain ⟨s, hse⟩ : ∃ s, s = 8 * k := ⟨_, rfl⟩
      rw [← hse] at hw1 hw2 hb
      refine awp_block ?_
      refine awp_reg rfl ?_
      simp [hw1, hw2, IntKind.bits, ← hb, hl1]
      have htk : List.take (N + j) (rowsK .u8 Y) = rowsK .u8 Y := List.take_of_length_le (by rw [rowsK_len]; omega)
      refine ⟨by omega, ?_⟩
      refine Le.ents [(24, 24), (240, 64)] [] rfl (by simp) (by simp) (by simp) (by simp) (by simp) (by simp; exact wkE (by simp; omega)) fun p hp => ?_
      simp only [List.mem_cons, List.not_mem_nil, or_false] at hp
      rcases hp with rfl | rfl
      · exact ⟨24, _, _, rfl, by simp, rfl, EntUp.eq (by simp only [convE, hfl]) (by simp)⟩
      · exact ⟨240, _, _, rfl, by simp, rfl, EntUp.eq (by
          show convE _ _ _ _ ⟨1, List.take (N + j) (rowsK .u8 Y) ++ [[.sc (.int .u8 y)]], 0⟩ = _
          rw [htk]
          simp [convE, Function.comp_def]) (by simp)⟩
    have hwj : IntKind.i64.wrap (7 - (j : Int) - 1) = 7 - ((j + 1 : Nat) : Int) := by rw [w64 (by omega) (by omega)]; omega
    refine awp_reg rfl ?_
    simp [hwj]
    refine ⟨j + 1, by omega, by omega, ?_⟩
    refine Le.ents [(24, 24), (64, 64)] [] rfl (by simp) (by simp) (by simp) (by simp) (by simp) (by simp) fun p hp => ?_
    simp only [List.mem_cons, List.not_mem_nil, or_false] at hp
    rcases hp with rfl | rfl
    · exact ⟨24, _, _, rfl, by simp, rfl, EntUp.eq (by simp only [convE, hfl]) (by simp)⟩
    · exact ⟨64, _, _, rfl, by simp, rfl, EntUp.eq (by simp only [convE, hfl]) (by simp)⟩
  simp only [decide_eq_false_iff_not] at h
  obtain rfl : j = 8 := by omega
  obtain ⟨M, hM⟩ : ∃ M, M = padY b := ⟨_, rfl⟩
  have hMl : M.length = N + 8 := by rw [hM, ← hq8]; exact hql 8
  have hM64 : M.length % 64 = 0 := by rw [hM]; exact padY_mod b
  obtain ⟨nb, hnb⟩ : ∃ nb, nb = M.length / 64 := ⟨_, rfl⟩
  have hsum : sumB b = ⟨((outYn (hF M nb) 8).map fun n => UInt8.ofNat n.toNat).toArray⟩ := by rw [hnb, hM]; rfl
  rw [hq8, ← hM, ← hMl, hsum]
  refine awp_regc ⟨87, [(3, wds (hF M 0)), (4, bys M), (7, wds conK)], [], 192⟩ rfl ?_ ?_
  · simp
    refine callN1 conK_ok rfl ?_
    simp [Function.comp_def]
    exact Le.snap [24, 64, 176] rfl rfl (by simp [Function.comp_def, hF, h0W, take_map_len, conK_len, List.take_of_length_le] <;> exact .refl _)
  refine awp_seq ?_
  refine awp_regc ⟨87, [(3, wds (hF M 0)), (4, bys M), (7, wds conK), (8, .I (64 * 0 : Nat))], [], 200⟩ rfl (by simp; exact Le.snap [] rfl rfl (by simp)) ?_
  refine awp_block ?_
  refine awp_loop (ι := Nat) (fun i => ⟨87, [(3, wds (hF M i)), (4, bys M), (7, wds conK), (8, .I (64 * i : Nat))], [], 200⟩) (fun i => i ≤ nb) (fun i => nb - i) 0 (by omega) (Le.refl _ _) ?_
  intro i hi
  obtain ⟨c, hc⟩ : ∃ c, c = 64 * i := ⟨_, rfl⟩
  rw [← hc]
  refine awp_seq ?_
  refine awp_regc ⟨87, [(3, wds (hF M i)), (4, bys M), (7, wds conK), (8, .I c), (44, .B (decide (i < nb)))], [], 232⟩ rfl ?_ ?_
  · simp
    exact Le.snap [] rfl rfl (by simp <;> exact wkB (by rw [Bool.eq_iff_iff]; simp; omega))
  refine awp_cond _ rfl (fun h => awp_skip ?_) fun h => awp_exit (hit ?_)
  · simp only [decide_eq_true_eq] at h
    have hbl := ref01_block_ok (hF M i) ((M.drop c).take 64) conK (hF_len M i) (by simp; omega) conK_len
    have hhs : hF M (i + 1) = blockF (hF M i) ((M.drop c).take 64) conK := by rw [hF, hc]
    rw [← hhs] at hbl
    have hhl := hF_len M (i + 1)
    obtain ⟨c2, hc2⟩ : ∃ c2, c2 = c + 64 := ⟨_, rfl⟩
    have hwc : IntKind.i64.wrap ((c : Int) + 64) = (c2 : Int) := by rw [w64 (by omega) (by omega)]; omega
    have hc2c : c2 - c = 64 := by omega
    have hwc2 : IntKind.i64.wrap ((c : Int) + 64) = ((64 * (i + 1) : Nat) : Int) := by rw [w64 (by omega) (by omega)]; omega
    refine awp_cut (ι := Unit) (fun _ => ⟨87, [(3, wds (hF M (i + 1))), (4, bys M), (7, wds conK), (8, .I c)], [], 304⟩) (fun _ => True) ?_ fun _ _ => ?_
    · refine awp_block ?_
      refine awp_reg rfl ?_
      simp [hwc, hc2c]
      refine ⟨by omega, by omega, ?_⟩
      refine callN1 hbl (by simp [List.map_drop, List.map_take]) ?_
      simp [Function.comp_def]
      exact Le.snap [288] rfl rfl (by simp [Function.comp_def, hhl]; exact wkE (congrArg _ (List.take_of_length_le (by simp; omega))))
    refine awp_reg rfl ?_
    simp [hwc2]
    exact ⟨i + 1, by omega, by omega, Le.snap [] rfl rfl (by simp)⟩
  simp only [decide_eq_false_iff_not] at h
  obtain rfl : i = nb := by omega
  obtain ⟨H, hH⟩ : ∃ H, H = hF M i := ⟨_, rfl⟩
  have hHl : H.length = 8 := by rw [hH]; exact hF_len M i
  rw [← hH]
  refine awp_regc ⟨87, [(3, wds H), (9, .sc (.slice none 0 0))], [], 240⟩ rfl (by simp; exact Le.snap [] rfl rfl (by simp)) ?_
  refine awp_seq ?_
  refine awp_regc ⟨87, [(3, wds H), (9, .sc (.slice none 0 0)), (10, .I (0 : Nat))], [], 248⟩ rfl (by simp; exact Le.snap [] rfl rfl (by simp)) ?_
  refine awp_block ?_
  refine awp_loop (ι := Nat) (fun i => ⟨87, [(3, wds H), (9, .rs 16 0 (4 * i)), (10, .I i)], [(16, some ⟨1, rowsK .u8 (outYn H i), 0⟩)], 248⟩) (fun i => i ≤ 8) (fun i => 8 - i) 0 (by omega) (Le.lst [] [] [(16, 1)] rfl (by simp) (by simp) (by simp) (by simp) (by simp) (by simp) (by simp) (by simp [Up, outYn]) (by simp [outYn])) ?_
  intro i hi
  refine awp_seq ?_
  refine awp_regc ⟨87, [(3, wds H), (9, .rs 16 0 (4 * i)), (10, .I i), (56, .B (decide (i < 8)))], [(16, some ⟨1, rowsK .u8 (outYn H i), 0⟩)], 264⟩ rfl ?_ ?_
  · simp
    exact Le.keep rfl (Nat.le_refl _) (by simp <;> omega) (by simp)
  refine awp_cond _ rfl (fun h => awp_skip ?_) fun h => awp_exit (hit ?_)
  · simp only [decide_eq_true_eq] at h
    refine awp_cut (ι := Unit) (fun _ => ⟨87, [(3, wds H), (9, .rs 16 0 (4 * (i + 1))), (10, .I i)], [(16, some ⟨1, rowsK .u8 (outYn H (i + 1)), 0⟩)], 480⟩) (fun _ => True) ?_ fun _ _ => ?_
    · obtain ⟨lh, gh⟩ := gt_of hHl h
      have hol := outYn_len H i
      have hs : outYn H (i + 1) = outYn H i ++ four (gt H i) := rfl
      rw [hs]
      generalize gt H i = x at *
      generalize outYn H i = Y at *
      have htk : List.take (4 * i) (rowsK .u8 Y) = rowsK .u8 Y := List.take_of_length_le (by rw [rowsK_len]; omega)
      obtain ⟨c, hc⟩ : ∃ c, c = 4 * i := ⟨_, rfl⟩
      rw [← hc] at hol htk ⊢
      refine awp_block ?_
      refine awp_drw rfl ?_
      simp [lh, gh, hol]
      refine ⟨by omega, rfl, ?_⟩
      exact Le.ren1 464 16 [] rfl rfl (by simp) (by simp) rfl (by simp only [convE]; simp [htk, Function.comp_def, four]) (by simp) (by simp; exact wkE (by simp; omega))
    have hwi : IntKind.i64.wrap ((i : Int) + 1) = ((i + 1 : Nat) : Int) := by rw [w64 (by omega) (by omega)]; omega
    refine awp_reg rfl ?_
    simp [hwi]
    exact ⟨i + 1, by omega, by omega, Le.K1 16 16 [] rfl rfl (by simp) (by simp) rfl (by simp)⟩
  simp only [decide_eq_false_iff_not] at h
  obtain rfl : i = 8 := by omega
  have hol := outYn_len H 8
  have hby := bytesOf_rows (outYn H 8)
  refine awp_regc ⟨87, [(2, .sc (.string ⟨((outYn H 8).map fun n => UInt8.ofNat n.toNat).toArray⟩))], [], 288⟩ rfl ?_ ?_
  · have htk : List.take 32 (rowsK .u8 (outYn H 8)) = rowsK .u8 (outYn H 8) := List.take_of_length_le (by rw [rowsK_len]; omega)
    generalize outYn H 8 = Y at *
    generalize hR : rowsK .u8 Y = R at *
    have hRl : R.length = 32 := by rw [← hR, rowsK_len, hol]
    simp [hRl, htk, hby]
    exact Le.snap [] rfl rfl (by simp)
  refine awp_ret ?_
  exact ⟨.inr rfl, RetOk.out [] [] rfl (by simp) (by simp) (by simp) (by simp)⟩
end Go.Proofs.YtnlanlpbgcalcaaGreat
namespace Go.Proofs.YtnlanlpbgcalcaaGreat
open Go
structure Pn where
  a : Int
  h : Int
  d : ByteArray
abbrev pC (p : Pn) : List AV := [.I p.a, .I p.h, .sc (.string p.d)]
abbrev pns (l : List Pn) : AV := .vs 3 false (l.map pC)
structure Stm where
  au : Int
  nu : Int
  pr : ByteArray
  ti : Int
  ki : Int
  a : Int
  b : Int
  c : Int
  li : List Int
  pi : List Pn
  bo : ByteArray
  sk : Int
  sd : ByteArray
abbrev sC (s : Stm) : List AV := [.I s.au, .I s.nu, .sc (.string s.pr), .I s.ti, .I s.ki, .I s.a, .I s.b, .I s.c, ints s.li, pns s.pi, .sc (.string s.bo), .I s.sk, .sc (.string s.sd)]
abbrev eS (s : Stm) : AV := .agg (sC s)
abbrev sts (l : List Stm) : AV := .vs 13 false (l.map sC)
def StB (s : Stm) : Prop := s.pr.size ≤ 5000 ∧ s.bo.size ≤ 5000 ∧ s.li.length ≤ 100 ∧ s.pi.length ≤ 100 ∧ ∀ p ∈ s.pi, p.d.size ≤ 5000
def pinY (p : Pn) : List Int := intY p.a ++ intY p.h ++ textY p.d
def pinsY (l : List Pn) : List Int := l.flatMap pinY
def fives (s : Stm) : List Int := [s.ti, s.ki, s.a, s.b, s.c]
def headY (s : Stm) : List Int := intY s.au ++ intY s.nu ++ textY s.pr
def bytesS (s : Stm) : List Int := headY s ++ (fives s).flatMap intY ++ intsY s.li ++ intY s.pi.length ++ pinsY s.pi ++ textY s.bo
theorem pinY_len (p : Pn) : (pinY p).length = 24 + p.d.size := by simp [pinY, intY_len, textY_len]; omega
theorem pinsY_le : ∀ (l : List Pn), (∀ p ∈ l, p.d.size ≤ 5000) → (pinsY l).length ≤ 5024 * l.length
  | [], _ => by simp [pinsY]
  | p :: l, h => by
    have h1 := pinsY_le l fun q hq => h q (List.mem_cons_of_mem _ hq)
    have h2 := h p List.mem_cons_self
    unfold pinsY at *
    rw [List.flatMap_cons, List.length_append, pinY_len, List.length_cons]
    omega
theorem headY_len (s : Stm) : (headY s).length = 24 + s.pr.size := by simp [headY, intY_len, textY_len]; omega
set_option maxHeartbeats 4000000 in
set_option maxRecDepth 100000 in
theorem ref03_Bytes_ok (s : Stm) (hs : StB s) : ACalls Tryz.prog nref03_Bytes [eS s] [] (.rs 0 0 (bytesS s).length) [some ⟨1, rowsK .u8 (bytesS s), 0⟩] := by
  refine sref03_Bytes.acalls (Nat.le_of_ble_eq_true rfl) (Nat.le_of_ble_eq_true rfl) (Nat.zero_le _) ?_
  show awp _ 0 _ _ ⟨71, [(0, eS s)], [], 16⟩
  obtain ⟨hb1, hb2, hb3, hb4, hb5⟩ := hs
  have hhl := headY_len s
  refine awp_regc ⟨71, [(1, .pv (sC s))], [], 32⟩ rfl ?_ ?_
  · simp
    exact Le.snap [16] rfl rfl (by simp)
  have i1 := ref02_Int_ok [] s.au _ rfl (by simp)
  have i2 := ref02_Int_ok ([] ++ intY s.au) s.nu _ rfl (by simp [intY_len])
  have i3 := ref02_Text_ok ([] ++ intY s.au ++ intY s.nu) s.pr (headY s).length (by simp [headY_len, intY_len]; omega) (by simp [intY_len]) (by omega)
  have e3 : [] ++ intY s.au ++ intY s.nu ++ textY s.pr = headY s := by simp [headY]
  rw [e3] at i3
  have l1 : ([] ++ intY s.au).length = 8 := by simp [intY_len]
  have l2 : ([] ++ intY s.au ++ intY s.nu).length = 16 := by simp [intY_len]
  generalize [] ++ intY s.au ++ intY s.nu = A2 at *
  generalize [] ++ intY s.au = A1 at *
  have t1 : List.take 8 (rowsK .u8 A1) = rowsK .u8 A1 := List.take_of_length_le (by rw [rowsK_len]; omega)
  have t2 : List.take 16 (rowsK .u8 A2) = rowsK .u8 A2 := List.take_of_length_le (by rw [rowsK_len]; omega)
  refine awp_dregc ⟨71, [(1, .pv (sC s)), (3, .rs 96 0 (headY s).length)], [(96, some ⟨1, rowsK .u8 (headY s), 0⟩)], 112⟩ rfl ?_ ?_
  · simp
    refine callN1w i1 (by simp; exact .nil _ _) ?_
    simp [Function.comp_def]
    refine callN1q [48] i2 (by simp [Function.comp_def, l1, t1]) (.rs _ _ _) plainK ?_
    simp [Function.comp_def, l1]
    refine callN1q [72] i3 (by simp [Function.comp_def, l1, l2, t2]) (.rs _ _ _) plainK ?_
    simp [Function.comp_def]
    exact ⟨rfl, Le.keep rfl (Nat.le_refl _) (by simp) (by simp)⟩
  obtain ⟨F, hF⟩ : ∃ F, F = fives s := ⟨_, rfl⟩
  have hFl : F.length = 5 := by rw [hF]; rfl
  refine awp_seq ?_
  let Y : Nat → List Int := fun j => headY s ++ (F.take j).flatMap intY
  have hYl : ∀ j, j ≤ 5 → (Y j).length = (headY s).length + 8 * j := fun j hj => by
    simp only [Y]
    rw [List.length_append, flatI_len, List.length_take]
    omega
  have hYs : ∀ j (h : j < F.length), Y (j + 1) = Y j ++ intY F[j] := fun j h => by
    simp only [Y]
    rw [List.take_succ_eq_append_getElem h, List.flatMap_append]
    simp
  have hY0 : headY s = Y 0 := by simp [Y]
  have hY5 : headY s ++ (fives s).flatMap intY = Y 5 := by simp [Y, ← hF, ← hFl]
  obtain ⟨L, hL⟩ : ∃ L, L = (headY s).length := ⟨_, rfl⟩
  rw [← hL] at hYl hhl ⊢
  rw [hY0]
  refine awp_regc ⟨71, [(1, .pv (sC s)), (3, .rs 96 0 (L + 8 * 0)), (27, ints F), (28, .I 5), (29, .I (0 : Nat))], [(96, some ⟨1, rowsK .u8 (Y 0), 0⟩)], 216⟩ rfl ?_ ?_
  · simp
    exact Le.K1 96 96 [192] rfl rfl (by simp) (by simp) rfl (by simp [hF, fives] <;> exact .refl _)
  clear_value Y
  refine awp_block ?_
  refine awp_loop (ι := Nat) (fun j => ⟨71, [(1, .pv (sC s)), (3, .rs 96 0 (L + 8 * j)), (27, ints F), (28, .I 5), (29, .I j)], [(96, some ⟨1, rowsK .u8 (Y j), 0⟩)], 216⟩) (fun j => j ≤ 5) (fun j => 5 - j) 0 (by omega) (Le.refl _ _) ?_
  intro j hj
  refine awp_regc ⟨71, [(1, .pv (sC s)), (3, .rs 96 0 (L + 8 * j)), (27, ints F), (28, .I 5), (29, .I j), (30, .B (decide (j < 5)))], [(96, some ⟨1, rowsK .u8 (Y j), 0⟩)], 224⟩ rfl ?_ ?_
  · simp
    exact Le.keep rfl (Nat.le_refl _) (by simp <;> omega) (by simp)
  refine awp_seq ?_
  refine awp_cond _ rfl (fun h => awp_skip ?_) fun h => awp_exit (hit ?_)
  · simp only [decide_eq_true_eq] at h
    have hjl : j < F.length := by omega
    have hs := hYs j hjl
    have q1 := hYl j hj
    have q2 := hYl (j + 1) h
    have hI2 := ref02_Int_ok (Y j) F[j] _ rfl (by omega)
    rw [← hs] at hI2
    have hg : F[j]? = some F[j] := List.getElem?_eq_getElem hjl
    refine awp_cut (ι := Unit) (fun _ => ⟨71, [(1, .pv (sC s)), (3, .rs 96 0 (L + 8 * (j + 1))), (27, ints F), (28, .I 5), (29, .I j)], [(96, some ⟨1, rowsK .u8 (Y (j + 1)), 0⟩)], 280⟩) (fun _ => True) ?_ fun _ _ => ?_
    · generalize Y (j + 1) = B at *
      generalize Y j = A at *
      generalize F[j] = x at *
      refine awp_block ?_
      refine awp_regc ⟨71, [(1, .pv (sC s)), (3, .rs 96 0 (L + 8 * j)), (27, ints F), (28, .I 5), (29, .I j), (5, .I x)], [(96, some ⟨1, rowsK .u8 A, 0⟩)], 248⟩ rfl ?_ ?_
      · simp [hg]
        exact Le.keep rfl (Nat.le_refl _) (by simp) (by simp)
      refine awp_reg rfl ?_
      simp
      refine callN1q [96] hI2 (by simp [Function.comp_def, ← q1, take_map_len]) (.rs _ _ _) plainK ?_
      simp [Function.comp_def]
      exact Le.K1 264 96 [] rfl rfl (by simp) (by simp) (by simp [Function.comp_def]) (by simp; exact wkE (by simp; omega))
    have hwj : IntKind.i64.wrap ((j : Int) + 1) = ((j + 1 : Nat) : Int) := by rw [w64 (by omega) (by omega)]; omega
    refine awp_reg rfl ?_
    simp [hwj]
    exact ⟨j + 1, by omega, by omega, Le.K1 96 96 [] rfl rfl (by simp) (by simp) rfl (by simp)⟩
  simp only [decide_eq_false_iff_not] at h
  obtain rfl : j = 5 := by omega
  have q5 := hYl 5 (by omega)
  have i4 := ref02_Ints_ok (Y 5) s.li _ rfl (by omega) (by omega)
  have i5 := ref02_Int_ok (Y 5 ++ intsY s.li) s.pi.length (L + 40 + (8 * s.li.length + 8) + 8) (by rw [List.length_append, q5, intsY_len]) (by rw [List.length_append, q5, intsY_len]; omega)
  obtain ⟨C, hC⟩ : ∃ C, C = Y 5 ++ intsY s.li ++ intY s.pi.length := ⟨_, rfl⟩
  obtain ⟨c, hc⟩ : ∃ c, c = L + 40 + (8 * s.li.length + 8) + 8 := ⟨_, rfl⟩
  have hCl : C.length = c := by rw [hC, List.length_append, List.length_append, q5, intsY_len, intY_len, hc]
  rw [← hC, ← hc] at i5
  have lA : (Y 5 ++ intsY s.li).length = L + 8 * 5 + (8 * s.li.length + 8) := by rw [List.length_append, q5, intsY_len]
  generalize hA3 : Y 5 ++ intsY s.li = A3 at *
  have tA : List.take (L + 8 * 5 + (8 * s.li.length + 8)) (rowsK .u8 A3) = rowsK .u8 A3 := List.take_of_length_le (by rw [rowsK_len]; omega)
  have tY : List.take (L + 8 * 5) (rowsK .u8 (Y 5)) = rowsK .u8 (Y 5) := List.take_of_length_le (by rw [rowsK_len]; omega)
  have htot : C ++ pinsY s.pi ++ textY s.bo = bytesS s := by rw [hC, ← hA3, ← hY5]; rfl
  generalize Y 5 = Y5 at *
  refine awp_dregc ⟨71, [(1, .pv (sC s)), (3, .rs 280 0 c)], [(280, some ⟨1, rowsK .u8 C, 0⟩)], 296⟩ rfl ?_ ?_
  · simp
    refine callN1q [96] i4 (by simp [Function.comp_def, q5] <;> exact tY) (.rs _ _ _) plainK ?_
    simp [Function.comp_def, q5]
    refine callN1q [248] i5 (by simp [Function.comp_def, lA] <;> exact tA) (.rs _ _ _) plainK ?_
    simp [Function.comp_def]
    exact ⟨rfl, Le.keep rfl (Nat.le_refl _) (by simp) (by simp)⟩
  let Z : Nat → List Int := fun j => C ++ pinsY (s.pi.take j)
  have hZle : ∀ j, j ≤ s.pi.length → (Z j).length ≤ 1000000 := fun j hj => by
    simp only [Z]
    have := pinsY_le (s.pi.take j) fun p hp => hb5 p (List.mem_of_mem_take hp)
    rw [List.length_append, hCl]
    rw [List.length_take] at this
    omega
  have hZs : ∀ j (h : j < s.pi.length), Z (j + 1) = Z j ++ pinY s.pi[j] := fun j h => by
    simp only [Z, pinsY]
    rw [List.take_succ_eq_append_getElem h, List.flatMap_append]
    simp
  have hZ0 : C = Z 0 := by simp [Z, pinsY]
  have hZn : C ++ pinsY s.pi = Z s.pi.length := by simp [Z]
  rw [← hCl]
  rw [hZ0]
  rw [hZn] at htot
  refine awp_seq ?_
  refine awp_regc ⟨71, [(1, .pv (sC s)), (3, .rs 280 0 (Z 0).length), (6, .I (0 : Nat))], [(280, some ⟨1, rowsK .u8 (Z 0), 0⟩)], 304⟩ rfl ?_ ?_
  · simp
    exact Le.keep rfl (Nat.le_refl _) (by simp) (by simp)
  clear_value Z
  refine awp_block ?_
  refine awp_loop (ι := Nat) (fun j => ⟨71, [(1, .pv (sC s)), (3, .rs 280 0 (Z j).length), (6, .I j)], [(280, some ⟨1, rowsK .u8 (Z j), 0⟩)], 304⟩) (fun j => j ≤ s.pi.length) (fun j => s.pi.length - j) 0 (by omega) (Le.refl _ _) ?_
  intro j hj
  refine awp_seq ?_
  refine awp_regc ⟨71, [(1, .pv (sC s)), (3, .rs 280 0 (Z j).length), (6, .I j), (49, .B (decide (j < s.pi.length)))], [(280, some ⟨1, rowsK .u8 (Z j), 0⟩)], 344⟩ rfl ?_ ?_
  · simp
    exact Le.keep rfl (Nat.le_refl _) (by simp) (by simp)
  refine awp_cond _ rfl (fun h => awp_skip ?_) fun h => awp_exit (hit ?_)
  · simp only [decide_eq_true_eq] at h
    have hs := hZs j h
    have q1 := hZle j hj
    have hp5 := hb5 s.pi[j] (List.getElem_mem h)
    have hg : s.pi[j]? = some s.pi[j] := List.getElem?_eq_getElem h
    generalize s.pi[j] = p at *
    have i1 := ref02_Int_ok (Z j) p.a _ rfl (by omega)
    have i2 := ref02_Int_ok (Z j ++ intY p.a) p.h _ rfl (by rw [List.length_append, intY_len]; omega)
    have i3 := ref02_Text_ok (Z j ++ intY p.a ++ intY p.h) p.d (Z (j + 1)).length (by rw [hs]; simp [pinY, intY_len, textY_len]; omega) (by simp [intY_len]; omega) (by omega)
    have e3 : Z j ++ intY p.a ++ intY p.h ++ textY p.d = Z (j + 1) := by rw [hs]; simp [pinY]
    rw [e3] at i3
    have l1 : (Z j ++ intY p.a).length = (Z j).length + 8 := by simp [intY_len]
    have l2 : (Z j ++ intY p.a ++ intY p.h).length = (Z j).length + 8 + 8 := by simp [intY_len]
    generalize Z j ++ intY p.a ++ intY p.h = A2 at *
    generalize Z j ++ intY p.a = A1 at *
    refine awp_cut (ι := Unit) (fun _ => ⟨71, [(1, .pv (sC s)), (3, .rs 280 0 (Z (j + 1)).length), (6, .I j)], [(280, some ⟨1, rowsK .u8 (Z (j + 1)), 0⟩)], 488⟩) (fun _ => True) ?_ fun _ _ => ?_
    · generalize Z (j + 1) = B at *
      generalize Z j = A at *
      obtain ⟨n0, hn0⟩ : ∃ n0, n0 = A.length := ⟨_, rfl⟩
      rw [← hn0] at i1 l1 l2 ⊢
      rw [l1] at i2
      have t0 : List.take n0 (rowsK .u8 A) = rowsK .u8 A := List.take_of_length_le (by rw [rowsK_len]; omega)
      have t1 : List.take (n0 + 8) (rowsK .u8 A1) = rowsK .u8 A1 := List.take_of_length_le (by rw [rowsK_len]; omega)
      have t2 : List.take (n0 + 8 + 8) (rowsK .u8 A2) = rowsK .u8 A2 := List.take_of_length_le (by rw [rowsK_len]; omega)
      refine awp_block ?_
      refine awp_regc ⟨71, [(1, .pv (sC s)), (3, .rs 280 0 n0), (6, .I j), (7, .pv (pC p))], [(280, some ⟨1, rowsK .u8 A, 0⟩)], 400⟩ rfl ?_ ?_
      · simp [hg, splice]
        exact Le.K1 280 280 [384] rfl rfl (by simp) (by simp) rfl (by simp)
      refine awp_drw rfl ?_
      simp
      refine callN1q [280] i1 (by simp [Function.comp_def, ← hn0] <;> exact t0) (.rs _ _ _) plainK ?_
      simp [Function.comp_def]
      refine callN1q [424] i2 (by simp [Function.comp_def, l1] <;> exact t1) (.rs _ _ _) plainK ?_
      simp [Function.comp_def]
      refine callN1q [448] i3 (by simp [Function.comp_def, l2] <;> exact t2) (.rs _ _ _) plainK ?_
      simp [Function.comp_def]
      exact ⟨rfl, Le.K1 472 280 [] rfl rfl (by simp) (by simp) (by simp [Function.comp_def]) (by simp)⟩
    have hwj : IntKind.i64.wrap ((j : Int) + 1) = ((j + 1 : Nat) : Int) := by rw [w64 (by omega) (by omega)]; omega
    refine awp_reg rfl ?_
    simp [hwj]
    exact ⟨j + 1, by omega, by omega, Le.K1 280 280 [] rfl rfl (by simp) (by simp) rfl (by simp)⟩
  simp only [decide_eq_false_iff_not] at h
  obtain rfl : j = s.pi.length := by omega
  have qn := hZle s.pi.length (Nat.le_refl _)
  have i6 := ref02_Text_ok (Z s.pi.length) s.bo (bytesS s).length (by rw [← htot, List.length_append, textY_len]) (by omega) (by omega)
  rw [htot] at i6
  generalize Z s.pi.length = A at *
  have t0 : List.take A.length (rowsK .u8 A) = rowsK .u8 A := List.take_of_length_le (by rw [rowsK_len]; exact Nat.le_refl _)
  refine awp_regc ⟨71, [(2, .rs 368 0 (bytesS s).length)], [(368, some ⟨1, rowsK .u8 (bytesS s), 0⟩)], 384⟩ rfl ?_ ?_
  · simp
    refine callN1q [280] i6 (by simp [Function.comp_def] <;> exact t0) (.rs _ _ _) plainK ?_
    simp [Function.comp_def]
    exact Le.keep rfl (Nat.le_refl _) (by simp) (by simp)
  refine awp_ret ?_
  exact ⟨.inr rfl, RetOk.out [368] [] rfl (by simp) (by simp) (by simp) (by simp [Function.comp_def])⟩
theorem bytesS_le {s : Stm} (hs : StB s) : (bytesS s).length ≤ 1000000 := by
  obtain ⟨hb1, hb2, hb3, hb4, hb5⟩ := hs
  have := pinsY_le s.pi hb5
  unfold bytesS
  simp only [List.length_append, headY_len, flatI_len, intsY_len, intY_len, textY_len]
  simp [fives]
  omega
def digS (s : Stm) : ByteArray := sumB (bytesS s)
theorem digS_size (s : Stm) : (digS s).size = 32 := sumB_size _
theorem ref03_Digest_ok (s : Stm) (hs : StB s) : ACalls Tryz.prog nref03_Digest [eS s] [] (.sc (.string (digS s))) [] := by
  refine sref03_Digest.acalls (Nat.le_of_ble_eq_true rfl) (Nat.le_of_ble_eq_true rfl) (Nat.zero_le _) ?_
  show awp _ 0 _ _ ⟨6, [(0, eS s)], [], 16⟩
  have hl := bytesS_le hs
  refine awp_regc ⟨6, [(1, .pv (sC s))], [], 32⟩ rfl ?_ ?_
  · simp
    exact Le.snap [16] rfl rfl (by simp)
  refine awp_regc ⟨6, [(2, .sc (.string (digS s)))], [], 64⟩ rfl ?_ ?_
  · simp
    refine callN1 (ref03_Bytes_ok s hs) (by simp) ?_
    simp [Function.comp_def]
    refine call0s [40] (ref01_Sum_ok (bytesS s) (by omega)) (by simp [Function.comp_def, take_map_len]) (.sc _) ?_
    simp
    exact Le.snap [] rfl rfl (by simp; exact .refl _)
  refine awp_ret ?_
  exact ⟨.inr rfl, RetOk.out [] [] rfl (by simp) (by simp) (by simp) (by simp)⟩
end Go.Proofs.YtnlanlpbgcalcaaGreat
namespace Go.Proofs.YtnlanlpbgcalcaaGreat
open Go
theorem ref03_key_ok (x : Int) : ACalls Tryz.prog nref03_key [.I x] [] (.B (decide (0 ≤ x ∧ x < 64))) [] := by
  refine sref03_key.acalls (Nat.le_of_ble_eq_true rfl) (Nat.le_of_ble_eq_true rfl) (Nat.le_refl _) ?_
  show awp _ 0 _ _ ⟨9, [(0, .I x)], [], 16⟩
  refine awp_regc ⟨9, [(0, .I x)], [], 24⟩ rfl (by simp; exact Le.snap [] rfl rfl (by simp)) ?_
  refine awp_regc ⟨9, [(2, .B (decide (0 ≤ x ∧ x < 64)))], [], 80⟩ rfl ?_ ?_
  · by_cases h : 0 ≤ x
    · simp [h]
      exact Le.snap [] rfl rfl (by simp)
    · simp [h]
      exact Le.snap [] rfl rfl (by simp)
  refine awp_ret ?_
  exact ⟨.inr rfl, RetOk.one (by simp)⟩
theorem ref03_in_ok (x m : Int) : ACalls Tryz.prog nref03_in [.I x, .I m] [] (.B (decide (0 ≤ x ∧ x ≤ m))) [] := by
  refine sref03_in.acalls (Nat.le_of_ble_eq_true rfl) (Nat.le_of_ble_eq_true rfl) (Nat.le_refl _) ?_
  show awp _ 0 _ _ ⟨12, [(0, .I x), (1, .I m)], [], 16⟩
  refine awp_regc ⟨12, [(0, .I x), (1, .I m)], [], 24⟩ rfl (by simp; exact Le.snap [] rfl rfl (by simp)) ?_
  refine awp_regc ⟨12, [(4, .B (decide (0 ≤ x ∧ x ≤ m)))], [], 88⟩ rfl ?_ ?_
  · by_cases h : 0 ≤ x
    · simp [h]
      exact Le.snap [] rfl rfl (by simp)
    · simp [h]
      exact Le.snap [] rfl rfl (by simp)
  refine awp_ret ?_
  exact ⟨.inr rfl, RetOk.one (by simp)⟩
def PinAt (l : List Pn) (i : Nat) : Prop := ∀ h : i < l.length, (0 ≤ l[i].a ∧ l[i].a < 64) ∧ (0 < i → l[i - 1].a < l[i].a) ∧ 1 ≤ l[i].h ∧ l[i].h ≤ 200 ∧ l[i].d.size = 32
def PinsOk (l : List Pn) : Prop := ∀ i, PinAt l i
open Classical in
set_option maxHeartbeats 1000000 in
set_option maxRecDepth 100000 in
theorem ref03_PinsOK_ok (l : List Pn) (hl : l.length ≤ 1000000) : ACalls Tryz.prog nref03_PinsOK [pns l] [] (.B (decide (PinsOk l))) [] := by
  refine sref03_PinsOK.acalls (Nat.le_of_ble_eq_true rfl) (Nat.le_of_ble_eq_true rfl) (Nat.le_refl _) ?_
  show awp _ 0 _ _ ⟨50, [(0, pns l)], [], 16⟩
  refine awp_regc ⟨50, [(0, pns l)], [], 24⟩ rfl (by simp; exact Le.snap [] rfl rfl (by simp)) ?_
  refine awp_seq ?_
  refine awp_regc ⟨50, [(0, pns l), (3, .I (0 : Nat))], [], 32⟩ rfl (by simp; exact Le.snap [] rfl rfl (by simp)) ?_
  refine awp_block ?_
  refine awp_loop (ι := Nat) (fun k => ⟨50, [(0, pns l), (3, .I k)], [], 32⟩) (fun k => k ≤ l.length ∧ ∀ i, i < k → PinAt l i) (fun k => l.length - k) 0 ⟨Nat.zero_le _, fun i hi => by omega⟩ (Le.refl _ _) ?_
  rintro k ⟨hk, hp⟩
  refine awp_seq ?_
  refine awp_regc ⟨50, [(0, pns l), (3, .I k), (8, .B (decide (k < l.length)))], [], 64⟩ rfl (by simp; exact Le.snap [] rfl rfl (by simp)) ?_
  refine awp_cond _ rfl (fun h => awp_skip ?_) fun h => awp_exit (hit ?_)
  · simp only [decide_eq_true_eq] at h
    obtain ⟨p, hpe⟩ : ∃ p, l[k] = p := ⟨_, rfl⟩
    have hg : l[k]? = some p := by rw [List.getElem?_eq_getElem h, hpe]
    have hwk : IntKind.i64.wrap ((k : Int) + 1) = ((k + 1 : Nat) : Int) := by rw [w64 (by omega) (by omega)]; omega
    have hat : PinAt l k ↔ ((0 ≤ p.a ∧ p.a < 64) ∧ (0 < k → (l[k - 1]).a < p.a) ∧ 1 ≤ p.h ∧ p.h ≤ 200 ∧ p.d.size = 32) := by
      unfold PinAt
      constructor
      · intro hq
        have := hq h
        rwa [hpe] at this
      · intro hq _
        rwa [hpe]
    refine awp_cut (ι := Unit) (fun _ => ⟨50, [(0, pns l), (3, .I k)], [], 400⟩) (fun _ => PinAt l k) ?_ fun _ hok => ?_
    · refine awp_block ?_
      refine awp_regc ⟨50, [(0, pns l), (3, .I k), (4, .pv (pC p))], [], 112⟩ rfl ?_ ?_
      · simp [hg, splice]
        exact Le.snap [96] rfl rfl (by simp)
      refine awp_dregc ⟨50, [(0, pns l), (3, .I k), (49, .B (decide (¬ PinAt l k)))], [], 400⟩ rfl ?_ ?_
      · simp
        refine call0e (ref03_key_ok p.a) rfl ?_
        by_cases c1 : 0 ≤ p.a ∧ p.a < 64
        · cases k with
          | zero =>
            simp [c1]
            by_cases c3 : p.h < 1
            · simp [c3]
              exact ⟨rfl, Le.snap [] rfl rfl (by simp <;> exact wkB (by simp [hat]; first | omega | grind))⟩
            by_cases c4 : 200 < p.h
            · simp [c3, c4]
              exact ⟨rfl, Le.snap [] rfl rfl (by simp <;> exact wkB (by simp [hat]; first | omega | grind))⟩
            by_cases c5 : (p.d.size : Int) = 32
            · simp [c3, c4, c5]
              exact ⟨rfl, Le.snap [] rfl rfl (by simp <;> exact wkB (by simp [hat]; first | omega | grind))⟩
            · simp [c3, c4, c5]
              exact ⟨rfl, Le.snap [] rfl rfl (by simp <;> exact wkB (by simp [hat]; first | omega | grind))⟩
          | succ j =>
            have hjl : j < l.length := by omega
            obtain ⟨q, hq⟩ : ∃ q, l[j] = q := ⟨_, rfl⟩
            have hgj : l[j]? = some q := by rw [List.getElem?_eq_getElem hjl, hq]
            have hw : IntKind.i64.wrap (((j + 1 : Nat) : Int) - 1) = (j : Int) := by rw [w64 (by omega) (by omega)]; omega
            have hat2 : PinAt l (j + 1) ↔ ((0 ≤ p.a ∧ p.a < 64) ∧ q.a < p.a ∧ 1 ≤ p.h ∧ p.h ≤ 200 ∧ p.d.size = 32) := by
              rw [hat]
              simp [hq]
            clear hat
            obtain ⟨J, hJ⟩ : ∃ J, J = j + 1 := ⟨_, rfl⟩
            rw [← hJ] at hw hat2 ⊢
            have hJ0 : 0 < J := by omega
            by_cases c2 : p.a ≤ q.a
            · simp [c1, hJ0, hw, hgj, c2]
              exact ⟨rfl, Le.snap [] rfl rfl (by simp <;> exact wkB (by simp [hat2]; first | omega | grind))⟩
            by_cases c3 : p.h < 1
            · simp [c1, hJ0, hw, hgj, c2, c3]
              exact ⟨rfl, Le.snap [] rfl rfl (by simp <;> exact wkB (by simp [hat2]; first | omega | grind))⟩
            by_cases c4 : 200 < p.h
            · simp [c1, hJ0, hw, hgj, c2, c3, c4]
              exact ⟨rfl, Le.snap [] rfl rfl (by simp <;> exact wkB (by simp [hat2]; first | omega | grind))⟩
            by_cases c5 : (p.d.size : Int) = 32
            · simp [c1, hJ0, hw, hgj, c2, c3, c4, c5]
              exact ⟨rfl, Le.snap [] rfl rfl (by simp <;> exact wkB (by simp [hat2]; first | omega | grind))⟩
            · simp [c1, hJ0, hw, hgj, c2, c3, c4, c5]
              exact ⟨rfl, Le.snap [] rfl rfl (by simp <;> exact wkB (by simp [hat2]; first | omega | grind))⟩
        · have c1' : decide (0 ≤ p.a ∧ p.a < 64) = false := decide_eq_false c1
          rw [c1']
          simp
          exact ⟨rfl, Le.snap [] rfl rfl (by simp <;> exact wkB (by simp only [hat]; simp; omega))⟩
      refine awp_cond _ rfl (fun h5 => ?_) fun h5 => awp_skip ?_
      · have hno : ¬ PinsOk l := fun hq => (of_decide_eq_true h5) (hq k)
        rw [decide_eq_false hno]
        refine awp_seq ?_
        refine awp_run (s := ?s3) rfl ?o3 ?q3
        case o3 => simp; rfl
        refine awp_ret ?_
        exact ⟨.inr rfl, RetOk.one (by simp)⟩
      · exact ⟨(), Classical.not_not.1 (of_decide_eq_false h5), Le.snap [] rfl rfl (by simp)⟩
    refine awp_reg rfl ?_
    simp [hwk]
    refine ⟨k + 1, ⟨by omega, fun i hi => ?_⟩, by omega, Le.snap [] rfl rfl (by simp)⟩
    rcases Nat.lt_succ_iff_lt_or_eq.1 hi with h | rfl
    · exact hp i h
    · exact hok
  simp only [decide_eq_false_iff_not] at h
  have hy : PinsOk l := fun i hi => hp i (by omega) hi
  rw [decide_eq_true hy]
  refine awp_seq ?_
  refine awp_run (s := ?s9) rfl ?o9 ?q9
  case o9 => simp; rfl
  refine awp_ret ?_
  exact ⟨.inr rfl, RetOk.one (by simp)⟩
end Go.Proofs.YtnlanlpbgcalcaaGreat
