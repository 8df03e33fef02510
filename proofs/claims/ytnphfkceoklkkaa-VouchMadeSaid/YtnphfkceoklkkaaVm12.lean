/- Texts of this claim, merged. -/
import Derived.Test.YtnphfkceoklkkaaVm11
set_option linter.unusedSimpArgs false
set_option linter.unusedVariables false
set_option linter.unusedSectionVars false
namespace Go.Proofs.Ytnphfkceoklkkaa
open Go
def BW (w : Nat) : List (List Vch) → Prop
  | [] => True
  | s :: r => srtV s ∧ 0 < s.length ∧ s.length ≤ w ∧ (r ≠ [] → s.length = w) ∧ BW w r
theorem BW.two {w : Nat} {r : List (List Vch)} (h : BW w r) (hl : 2 * w ≤ r.flatten.length) (hw : 0 < w) : ∃ s t r', r = s :: t :: r' ∧ s.length = w ∧ t.length = w ∧ srtV s ∧ srtV t ∧ BW w r' := by
  match r, h with
  | [], _ => simp at hl; omega
  | [s], h => simp at hl; have := h.2.2.1; omega
  | s :: t :: r', h =>
    obtain ⟨h1, h2, h3, h4, h5, h6, h7, h8, h9⟩ := h
    refine ⟨s, t, r', rfl, h4 (by simp), ?_, h1, h5, h9⟩
    by_cases hr : r' = []
    · subst hr
      have := h4 (by simp)
      simp at hl
      omega
    · exact h8 hr
theorem BW.tail {w : Nat} {r : List (List Vch)} (h : BW w r) (hl : r.flatten.length < 2 * w) : (∃ s t, r = [s, t] ∧ s.length = w ∧ 0 < t.length ∧ srtV s ∧ srtV t) ∨ (r.flatten.length ≤ w ∧ srtV r.flatten) := by
  match r, h with
  | [], _ => exact .inr ⟨by simp, by simp [srtV]⟩
  | [s], h => exact .inr ⟨by simpa using h.2.2.1, by simpa using h.1⟩
  | s :: t :: r', h =>
    obtain ⟨h1, h2, h3, h4, h5, h6, h7, h8, h9⟩ := h
    have h10 := h4 (by simp)
    by_cases hr : r' = []
    · subst hr
      exact .inl ⟨s, t, rfl, h10, h6, h1, h5⟩
    · have := h8 hr
      simp at hl
      omega
theorem BW.one {w : Nat} {r : List (List Vch)} (h : BW w r) (hl : r.flatten.length ≤ w) (hw : 0 < w) : srtV r.flatten := by
  rcases h.tail (by omega) with ⟨s, t, rfl, h1, h2, _⟩ | ⟨_, h⟩
  · simp at hl; omega
  · exact h
theorem BW.mk {w : Nat} (hw : 0 < w) {t : List Vch} (ht : srtV t) (hl : t.length ≤ w) : ∀ d : List (List Vch), (∀ s ∈ d, srtV s ∧ s.length = w) → ∃ r, BW w r ∧ r.flatten = d.flatten ++ t ∧ (d ≠ [] ∨ t ≠ [] → r ≠ [])
  | [], _ => by
    by_cases h : t = []
    · exact ⟨[], trivial, by simp [h], by simp [h]⟩
    · exact ⟨[t], ⟨ht, List.length_pos_iff.2 h, hl, fun h => absurd rfl h, trivial⟩, by simp, by simp⟩
  | s :: d, h => by
    obtain ⟨r, h1, h2, h3⟩ := BW.mk hw ht hl d fun x hx => h x (List.mem_cons_of_mem _ hx)
    have hs := h s List.mem_cons_self
    exact ⟨s :: r, ⟨hs.1, by omega, by omega, fun _ => hs.2, h1⟩, by simp [h2], by simp⟩
theorem isortV_perm (M : List Vch) : (isortV cmpV M).Perm M := (List.reverse_perm _).trans (isortRevV_perm cmpV M)
set_option maxHeartbeats 4000000 in
set_option maxRecDepth 100000 in
theorem stableVG_ok (f : FuncId) (capt : List AV) (hs : StillV capt) (hc : ∀ x y, ACalls Try.prog f (eV x :: eV y :: capt) [] (.I (cmpV x y)) []) (l : List Vch) (n : Nat) (hn : l.length = n) (hl : n ≤ 1000000) : ∃ R : List Vch, (R.Perm l ∧ srtV R) ∧
    ACalls Try.prog nslices_stableCmpFunc_api_Vouch [.rs 0 0 n, .I n, .fn (.func f) [] capt] [⟨7, rowsV l, 0⟩] (.tup []) [some ⟨7, rowsV R, 0⟩] := by
  have hs2 : ∀ ρ sn h, capt.map (conv ρ sn h 2) = capt := fun _ _ _ => hs _ _ _ 1
  have hs3 : ∀ ρ sn h, capt.map (conv ρ sn h 3) = capt := fun _ _ _ => hs _ _ _ 2
  have hs4 : ∀ ρ sn h, capt.map (conv ρ sn h 4) = capt := fun _ _ _ => hs _ _ _ 3
  refine sslices_stableCmpFunc_api_Vouch.acallsX (fun _ => .tup []) (fun R => [some ⟨7, rowsV R, 0⟩]) (fun R => R.Perm l ∧ srtV R) (Nat.le_of_ble_eq_true rfl) (Nat.le_of_ble_eq_true rfl) (fun _ => Nat.le_refl _) ?_
  show awp _ 1 _ _ ⟨63, [(0, .rs 0 0 n), (1, .I n), (2, .fn (.func f) [] capt)], [(0, some ⟨7, rowsV l, 0⟩)], 16⟩
  refine rk (s := ?s1) [0, 1, 2, 6] [0] rfl ?o1 ?q1
  case o1 => simp; rfl
  refine rk (s := ?s2) [0, 1, 2, 6, 7, 8] [0] rfl ?o2 ?q2
  case o2 => simp; rfl
  refine awp_seq ?_
  refine awp_block ?_
  refine awp_loop (ι := (List (List Vch) × List Vch) × (Nat × Nat)) (fun p => ⟨63, [(0, .rs 0 0 n), (1, .I n), (2, .fn (.func f) [] capt), (6, .I 20), (7, .I p.2.1), (8, .I p.2.2)], [(0, some ⟨7, rowsV (p.1.1.flatten ++ p.1.2), 0⟩)], 500⟩)
    (fun p => (p.1.1.flatten ++ p.1.2).Perm l ∧ p.1.1.flatten.length = p.2.1 ∧ p.2.1 + p.1.2.length = n ∧ p.2.2 = p.2.1 + 20 ∧ ∀ s ∈ p.1.1, srtV s ∧ s.length = 20) (fun p => n - p.2.1) (([], l), (0, 20)) ⟨by simp, by simp, by simpa using hn, by simp, by simp⟩ (Le.keep rfl (by simp) (by simp) (by simp)) ?_
  rintro ⟨⟨d, r⟩, a, b⟩ ⟨i1, i2, i3, i4, i5⟩
  simp only at i1 i2 i3 i4 i5
  have hf1 := rowsV_flat (d.flatten ++ r)
  obtain ⟨Z, hZ⟩ : ∃ Z, Z = rowsV (d.flatten ++ r) := ⟨_, rfl⟩
  simp only
  rw [← hZ] at hf1 ⊢
  refine awp_seq ?_
  refine rk (s := ?s3) [0, 1, 2, 6, 7, 8, 13] [0] rfl ?o3 ?q3
  case o3 => simp; rfl
  refine awp_cond _ rfl (fun h4 => awp_skip ?_) fun h4 => awp_exit (hit ?_)
  · simp only [decide_eq_true_eq, Int.ofNat_le] at h4
    have hrl : r = r.take 20 ++ r.drop 20 := (List.take_append_drop 20 r).symm
    have h20 : (r.take 20).length = 20 := by rw [List.length_take]; omega
    have hdl : (r.drop 20).length = r.length - 20 := by rw [List.length_drop]
    generalize r.take 20 = M at *
    generalize r.drop 20 = B at *
    subst hrl
    have hsort := insertionV_ok f capt cmpV d.flatten M B n a b (by simp only [List.length_append] at i3 ⊢; omega) i2 (by omega) hl hs fun x _ y _ => hc x y
    rw [List.append_assoc, ← hZ] at hsort
    have hf2 := rowsV_flat (d.flatten ++ isortV cmpV M ++ B)
    obtain ⟨Z2, hZ2⟩ : ∃ Z2, Z2 = rowsV (d.flatten ++ isortV cmpV M ++ B) := ⟨_, rfl⟩
    rw [← hZ2] at hf2 hsort
    refine awp_block ?_
    refine awp_cut (ι := Unit) (fun _ => ⟨63, [(0, .rs 0 0 n), (1, .I n), (2, .fn (.func f) [] capt), (6, .I 20), (8, .I b)], [(0, some ⟨7, Z2, 0⟩)], 1000⟩) (fun _ => True) ?_ fun _ _ => ?_
    · refine awp_reg rfl ?_
      simp
      refine callM1 (i := 0) rfl (e' := ⟨7, Z, 0⟩) (by simp [hf1]) hsort (by simp) (by simp [hs2, hs3, hs4]) ?_
      simp [hf2]
      exact Le.keep rfl (by simp) (by simp) (by simp)
    refine rk (s := ?s5) [0, 1, 2, 6, 7, 8] [0] rfl ?o5 ?q5
    case o5 => simp; rfl
    obtain ⟨b2, hb2⟩ : ∃ b2, b2 = b + 20 := ⟨_, rfl⟩
    have hwb : IntKind.i64.wrap ((b : Int) + 20) = (b2 : Int) := by rw [w64 (by omega) (by omega)]; omega
    refine awp_reg rfl ?_
    simp [hwb]
    have hpm : (isortV cmpV M).Perm M := isortV_perm M
    have hml : (isortV cmpV M).length = 20 := by rw [hpm.length_eq]; exact h20
    refine ⟨d ++ [isortV cmpV M], B, b, b2, ⟨?_, ?_, ?_, hb2, ?_⟩, by omega, Le.N1 hf2 rfl (by simp) (by simp [hZ2]) rfl (by simp [hs2, hs3, hs4])⟩
    · refine List.Perm.trans ?_ i1
      rw [List.flatten_append, List.flatten_singleton, List.append_assoc]
      exact List.Perm.append_left _ (List.Perm.append_right _ hpm)
    · rw [← List.length_flatten, List.flatten_append, List.flatten_singleton, List.length_append]; omega
    · simp only [List.length_append] at i3; omega
    · intro s hs'
      rcases List.mem_append.1 hs' with hs' | hs'
      · exact i5 s hs'
      · obtain rfl := List.mem_singleton.1 hs'
        exact ⟨isortV_sorted M, hml⟩
  simp only [decide_eq_false_iff_not, Int.ofNat_le] at h4
  have hsort := insertionV_ok f capt cmpV d.flatten r [] n a n (by rw [List.append_nil, List.length_append]; omega) i2 i3 hl hs fun x _ y _ => hc x y
  rw [List.append_nil, List.append_nil, ← hZ] at hsort
  have hpr : (isortV cmpV r).Perm r := isortV_perm r
  obtain ⟨Bs, hB1, hB2, _⟩ := BW.mk (w := 20) (by decide) (isortV_sorted r) (by rw [hpr.length_eq]; omega) d i5
  rw [← hB2] at hsort
  have hBp : Bs.flatten.Perm l := by rw [hB2]; exact (List.Perm.append_left _ hpr).trans i1
  refine awp_cut (ι := Unit) (fun _ => ⟨63, [(0, .rs 0 0 n), (1, .I n), (2, .fn (.func f) [] capt), (6, .I 20)], [(0, some ⟨7, rowsV Bs.flatten, 0⟩)], 1000⟩) (fun _ => True) ?_ fun _ _ => ?_
  · have hf2 := rowsV_flat Bs.flatten
    generalize rowsV Bs.flatten = Z2 at *
    refine awp_reg rfl ?_
    simp
    refine callM1 (i := 0) rfl (e' := ⟨7, Z, 0⟩) (by simp [hf1]) hsort (by simp) (by simp [hs2, hs3, hs4]) ?_
    simp [hf2]
    exact Le.keep rfl (by simp) (by simp) (by simp)
  clear hsort hZ hf1 hB2 hpr i1 i2 i3 i4 i5 h4
  refine awp_block ?_
  refine awp_loop (ι := List (List Vch) × Nat) (fun p => ⟨63, [(0, .rs 0 0 n), (1, .I n), (2, .fn (.func f) [] capt), (6, .I p.2)], [(0, some ⟨7, rowsV p.1.flatten, 0⟩)], 1000⟩)
    (fun p => BW p.2 p.1 ∧ p.1.flatten.Perm l ∧ 20 ≤ p.2 ∧ p.2 ≤ 4000000) (fun p => n - p.2) (Bs, 20) ⟨hB1, hBp, by simp, by simp⟩ (Le.refl _ _) ?_
  rintro ⟨Bs, w⟩ ⟨hB1, hBp, hw1, hw2⟩
  simp only at hB1 hBp hw1 hw2
  have hf1 := rowsV_flat Bs.flatten
  obtain ⟨Z, hZ⟩ : ∃ Z, Z = rowsV Bs.flatten := ⟨_, rfl⟩
  simp only
  rw [← hZ] at hf1 ⊢
  refine awp_seq ?_
  refine rk (s := ?s6) [0, 1, 2, 6, 30] [0] rfl ?o6 ?q6
  case o6 => simp; rfl
  have hBl : Bs.flatten.length = n := by rw [hBp.length_eq]; exact hn
  refine awp_cond _ rfl (fun h7 => awp_skip ?_) fun h7 => awp_exit (hit ?_)
  · simp only [decide_eq_true_eq, Int.ofNat_lt] at h7
    obtain ⟨w2, hw2e⟩ : ∃ w2, w2 = 2 * w := ⟨_, rfl⟩
    have hww : IntKind.i64.wrap (2 * (w : Int)) = (w2 : Int) := by rw [w64 (by omega) (by omega)]; omega
    refine awp_block ?_
    refine rk (s := ?s8) [0, 1, 2, 6, 7, 8] [0] rfl ?o8 ?q8
    case o8 => simp [hww]; rfl
    refine awp_seq ?_
    refine awp_block ?_
    refine awp_loop (ι := (List (List Vch) × List (List Vch)) × (Nat × Nat)) (fun p => ⟨63, [(0, .rs 0 0 n), (1, .I n), (2, .fn (.func f) [] capt), (6, .I w), (7, .I p.2.1), (8, .I p.2.2)], [(0, some ⟨7, rowsV (p.1.1.flatten ++ p.1.2.flatten), 0⟩)], 1500⟩)
      (fun p => (p.1.1.flatten ++ p.1.2.flatten).Perm l ∧ p.1.1.flatten.length = p.2.1 ∧ p.2.1 + p.1.2.flatten.length = n ∧ p.2.2 = p.2.1 + w2 ∧ (∀ s ∈ p.1.1, srtV s ∧ s.length = w2) ∧ BW w p.1.2) (fun p => n - p.2.1) (([], Bs), (0, w2)) ⟨by simpa using hBp, by simp, by simpa using hBl, by simp, by simp, hB1⟩ (Le.keep rfl (by simp) (by simp) (by simp [hZ])) ?_
    rintro ⟨⟨d, r⟩, a, b⟩ ⟨i1, i2, i3, i4, i5, i6⟩
    simp only at i1 i2 i3 i4 i5 i6
    have hf1 := rowsV_flat (d.flatten ++ r.flatten)
    obtain ⟨Z, hZ⟩ : ∃ Z, Z = rowsV (d.flatten ++ r.flatten) := ⟨_, rfl⟩
    simp only
    rw [← hZ] at hf1 ⊢
    refine awp_seq ?_
    refine rk (s := ?s9) [0, 1, 2, 6, 7, 8, 35] [0] rfl ?o9 ?q9
    case o9 => simp; rfl
    refine awp_cond _ rfl (fun h10 => awp_skip ?_) fun h10 => awp_exit (hit ?_)
    · simp only [decide_eq_true_eq, Int.ofNat_le] at h10
      obtain ⟨s, t, r', rfl, hsl, htl, hss, hts, hr'⟩ := i6.two (by omega) (by omega)
      obtain ⟨m, hm⟩ : ∃ m, m = a + w := ⟨_, rfl⟩
      have hwm : IntKind.i64.wrap ((a : Int) + (w : Int)) = (m : Int) := by rw [w64 (by omega) (by omega)]; omega
      have hfl : (s :: t :: r').flatten = s ++ (t ++ r'.flatten) := by simp
      rw [hfl] at hZ i1 i3
      simp only [List.length_append] at i3
      obtain ⟨R, hR1, hR2, hR3⟩ := symMergeV_ok f capt hs hc _ d.flatten s t r'.flatten n a m b rfl (by simp only [List.length_append]; omega) i2 (by omega) (by omega) (by omega) (by omega) hl hss hts
      rw [← hZ] at hR3
      have hf2 := rowsV_flat (d.flatten ++ (R ++ r'.flatten))
      obtain ⟨Z2, hZ2⟩ : ∃ Z2, Z2 = rowsV (d.flatten ++ (R ++ r'.flatten)) := ⟨_, rfl⟩
      rw [← hZ2] at hf2 hR3
      refine awp_block ?_
      refine awp_cut (ι := Unit) (fun _ => ⟨63, [(0, .rs 0 0 n), (1, .I n), (2, .fn (.func f) [] capt), (6, .I w), (8, .I b)], [(0, some ⟨7, Z2, 0⟩)], 2000⟩) (fun _ => True) ?_ fun _ _ => ?_
      · refine awp_reg rfl ?_
        simp [hwm]
        refine callM1 (i := 0) rfl (e' := ⟨7, Z, 0⟩) (by simp [hf1]) hR3 (by simp) (by simp [hs2, hs3, hs4]) ?_
        simp [hf2]
        exact Le.keep rfl (by simp) (by simp) (by simp)
      refine rk (s := ?s11) [0, 1, 2, 6, 7, 8] [0] rfl ?o11 ?q11
      case o11 => simp; rfl
      obtain ⟨b2, hb2⟩ : ∃ b2, b2 = b + w2 := ⟨_, rfl⟩
      have hwb : IntKind.i64.wrap ((b : Int) + (w2 : Int)) = (b2 : Int) := by rw [w64 (by omega) (by omega)]; omega
      have hRl : R.length = w2 := by rw [hR1.length_eq, List.length_append]; omega
      refine awp_reg rfl ?_
      simp [hww, hwb]
      refine ⟨d ++ [R], r', b, b2, ⟨?_, ?_, ?_, hb2, ?_, hr'⟩, by omega, Le.N1 hf2 rfl (by simp) (by simp [hZ2]) rfl (by simp [hs2, hs3, hs4])⟩
      · refine List.Perm.trans ?_ i1
        rw [List.flatten_append, List.flatten_singleton, List.append_assoc, ← List.append_assoc s]
        exact List.Perm.append_left _ (List.Perm.append_right _ hR1)
      · rw [← List.length_flatten, List.flatten_append, List.flatten_singleton, List.length_append]; omega
      · rw [← List.length_flatten]; omega
      · intro s hs'
        rcases List.mem_append.1 hs' with hs' | hs'
        · exact i5 s hs'
        · obtain rfl := List.mem_singleton.1 hs'
          exact ⟨hR2, hRl⟩
    simp only [decide_eq_false_iff_not, Int.ofNat_le] at h10
    obtain ⟨m, hm⟩ : ∃ m, m = a + w := ⟨_, rfl⟩
    have hwm : IntKind.i64.wrap ((a : Int) + (w : Int)) = (m : Int) := by rw [w64 (by omega) (by omega)]; omega
    refine awp_cut (ι := List (List Vch)) (fun Bs => ⟨63, [(0, .rs 0 0 n), (1, .I n), (2, .fn (.func f) [] capt), (6, .I w)], [(0, some ⟨7, rowsV Bs.flatten, 0⟩)], 3000⟩) (fun Bs => BW w2 Bs ∧ Bs.flatten.Perm l) ?_ ?_
    · refine rk (s := ?s12) [0, 1, 2, 6, 7, 9] [0] rfl ?o12 ?q12
      case o12 => simp [hwm]; rfl
      refine rk (s := ?s13) [0, 1, 2, 6, 7, 9, 54] [0] rfl ?o13 ?q13
      case o13 => simp; rfl
      refine awp_cond _ rfl (fun h14 => ?_) fun h14 => awp_skip ?_
      · simp only [decide_eq_true_eq, Int.ofNat_lt] at h14
        rcases i6.tail (by omega) with ⟨s, t, rfl, hsl, htl, hss, hts⟩ | ⟨h15, _⟩
        · have hfl : [s, t].flatten = s ++ (t ++ []) := by simp
          rw [hfl] at hZ i1 i3
          simp only [List.length_append, List.length_nil] at i3
          obtain ⟨R, hR1, hR2, hR3⟩ := symMergeV_ok f capt hs hc _ d.flatten s t [] n a m n rfl (by simp only [List.length_append, List.length_nil]; omega) i2 (by omega) (by omega) (by omega) htl hl hss hts
          rw [← hZ, List.append_nil] at hR3
          have hRl : R.length ≤ w2 := by rw [hR1.length_eq, List.length_append]; omega
          obtain ⟨Bs2, hC1, hC2, _⟩ := BW.mk (w := w2) (by omega) hR2 hRl d i5
          rw [← hC2] at hR3
          have hf2 := rowsV_flat Bs2.flatten
          obtain ⟨Z2, hZ2⟩ : ∃ Z2, Z2 = rowsV Bs2.flatten := ⟨_, rfl⟩
          rw [← hZ2] at hf2 hR3
          refine awp_reg rfl ?_
          simp
          refine callM1 (i := 0) rfl (e' := ⟨7, Z, 0⟩) (by simp [hf1]) hR3 (by simp) (by simp [hs2, hs3, hs4]) ?_
          simp [hf2]
          refine ⟨Bs2, ⟨hC1, ?_⟩, Le.keep rfl (by simp) (by simp) (by simp [hZ2])⟩
          rw [hC2]
          refine List.Perm.trans ?_ i1
          rw [List.append_nil]
          exact List.Perm.append_left _ hR1
        · exact absurd h14 (by omega)
      · simp only [decide_eq_false_iff_not, Int.ofNat_lt] at h14
        have hrs : srtV r.flatten := by
          rcases i6.tail (by omega) with ⟨s, t, rfl, hsl, htl, hss, hts⟩ | ⟨_, h15⟩
          · simp only [List.flatten_cons, List.length_append] at i3
            omega
          · exact h15
        obtain ⟨Bs2, hC1, hC2, _⟩ := BW.mk (w := w2) (by omega) hrs (by omega) d i5
        exact ⟨Bs2, ⟨hC1, by rw [hC2]; exact i1⟩, Le.keep rfl (by simp) (by simp) (by simp [hZ, hC2])⟩
    · rintro Bs2 ⟨hC1, hC2⟩
      have hf2 := rowsV_flat Bs2.flatten
      obtain ⟨Z2, hZ2⟩ : ∃ Z2, Z2 = rowsV Bs2.flatten := ⟨_, rfl⟩
      rw [← hZ2] at hf2 ⊢
      have hww' : IntKind.i64.wrap ((w : Int) * 2) = (w2 : Int) := by rw [w64 (by omega) (by omega)]; omega
      refine awp_reg rfl ?_
      simp [hww']
      exact ⟨Bs2, w2, ⟨hC1, hC2, by omega, by omega⟩, by omega, Le.N1 hf2 rfl (by simp) (by simp [hZ2]) rfl (by simp [hs2, hs3, hs4])⟩
  simp only [decide_eq_false_iff_not, Int.ofNat_lt] at h7
  exact PostX.mk (.inl rfl) Bs.flatten ⟨hBp, hB1.one (by omega) (by omega)⟩ (outV (rowsV_flat _) (by simp [hZ]))
set_option maxRecDepth 100000 in
theorem SortStableVG_ok (f : FuncId) (capt : List AV) (hs : StillV capt) (hc : ∀ x y, ACalls Try.prog f (eV x :: eV y :: capt) [] (.I (cmpV x y)) []) (l : List Vch) (n : Nat) (hn : l.length = n) (hl : n ≤ 1000000) : ∃ R : List Vch, (R.Perm l ∧ srtV R) ∧
    ACalls Try.prog nslices_SortStableFunc_Lapi_Vouch_api_Vouch [.rs 0 0 n, .fn (.func f) [] capt] [⟨7, rowsV l, 0⟩] (.tup []) [some ⟨7, rowsV R, 0⟩] := by
  have hs2 : ∀ ρ sn h, capt.map (conv ρ sn h 2) = capt := fun _ _ _ => hs _ _ _ 1
  have hs3 : ∀ ρ sn h, capt.map (conv ρ sn h 3) = capt := fun _ _ _ => hs _ _ _ 2
  have hs4 : ∀ ρ sn h, capt.map (conv ρ sn h 4) = capt := fun _ _ _ => hs _ _ _ 3
  obtain ⟨R, hR, hst⟩ := stableVG_ok f capt hs hc l n hn hl
  refine ⟨R, hR, ?_⟩
  refine sslices_SortStableFunc_Lapi_Vouch_api_Vouch.acalls (Nat.le_of_ble_eq_true rfl) (Nat.le_of_ble_eq_true rfl) (Nat.le_of_ble_eq_true rfl) ?_
  have hf1 := rowsV_flat l
  have hf2 := rowsV_flat R
  generalize rowsV l = Z at *
  generalize rowsV R = Z2 at *
  show awp _ 1 _ _ ⟨9, [(0, .rs 0 0 n), (1, .fn (.func f) [] capt)], [(0, some ⟨7, Z, 0⟩)], 16⟩
  refine awp_reg rfl ?_
  simp
  refine callM1 (i := 0) rfl (e' := ⟨7, Z, 0⟩) (by simp [hf1]) hst (by simp) (by simp [hs2, hs3, hs4]) ?_
  simp [hf2]
  exact ⟨_, rfl, [], [], by simp, by simp, by simp, .refl _, by simp [hf2, List.range, List.range.loop]⟩
theorem srtV_unique : ∀ {a b : List Vch}, (∀ x ∈ a, ∀ y ∈ a, ¬ ltV x y → ¬ ltV y x → x = y) → a.Perm b → srtV a → srtV b → a = b
  | [], b, _, h, _, _ => (List.nil_perm.1 h).symm
  | x :: a, [], _, h, _, _ => absurd h.length_eq (by simp)
  | x :: a, y :: b, ht, h, ha, hb => by
    unfold srtV at ha hb
    rw [List.pairwise_cons] at ha hb
    have hxy : x = y := by
      have h1 : x ∈ y :: b := h.mem_iff.1 List.mem_cons_self
      have h2 : y ∈ x :: a := h.mem_iff.2 List.mem_cons_self
      rcases List.mem_cons.1 h1 with h1 | h1
      · exact h1
      rcases List.mem_cons.1 h2 with h2 | h2
      · exact h2.symm
      exact ht x List.mem_cons_self y (List.mem_cons_of_mem _ h2) (hb.1 x h1) (ha.1 y h2)
    subst hxy
    rw [srtV_unique (fun u hu v hv => ht u (List.mem_cons_of_mem _ hu) v (List.mem_cons_of_mem _ hv)) ((List.perm_cons x).1 h) ha.2 hb.2]
theorem GoodL.tot {l : List Stm} (h : GoodL l) {x y : Vch} (hx : x ∈ rawV l l) (hy : y ∈ rawV l l) (h1 : ¬ ltV x y) (h2 : ¬ ltV y x) : x = y := by
  obtain ⟨s, hs, _, rfl⟩ := mem_rawV hx
  obtain ⟨t, ht, _, rfl⟩ := mem_rawV hy
  have hau : s.au = t.au ∧ s.nu = t.nu := by
    simp only [ltV, vOf] at h1 h2
    omega
  obtain ⟨i, hi, rfl⟩ := List.mem_iff_getElem.1 hs
  obtain ⟨j, hj, rfl⟩ := List.mem_iff_getElem.1 ht
  have ho := List.pairwise_iff_getElem.1 h.ord
  rcases Nat.lt_trichotomy i j with hij | rfl | hij
  · have := ho i j hi hj hij
    unfold OrdS at this
    omega
  · rfl
  · have := ho j i hj hi hij
    unfold OrdS at this
    omega
theorem GoodL.sort {l : List Stm} (h : GoodL l) (hl : l.length ≤ 100000) : SortH l := by
  obtain ⟨R, ⟨hR1, hR2⟩, hR3⟩ := SortStableVG_ok nvouch_Of_c1 [] (fun ρ sn h n => rfl) (fun x y => vouch_Of_c1_ok x y) (rawV l l) _ rfl (Nat.le_trans (rawV_le l l) (by omega))
  have hp := isortV_perm (rawV l l)
  have e : R = ofV l := srtV_unique (fun x hx y hy => h.tot (hR1.mem_iff.1 hx) (hR1.mem_iff.1 hy)) (hR1.trans hp.symm) hR2 (isortV_sorted _)
  unfold SortH
  rw [← e]
  exact hR3
end Go.Proofs.Ytnphfkceoklkkaa
namespace Go.Proofs.Ytnphfkceoklkkaa
open Go
set_option maxHeartbeats 1000000 in
set_option maxRecDepth 100000 in
theorem law10_VouchMade_ok (L : List Int) (tm n0 n1 : Int) : ACalls Try.prog nlaw10_VouchMade [ints L, .I tm, .agg [.I n0, .I n1]] [] (.B true) [] := by
  refine slaw10_VouchMade.acalls (Nat.le_of_ble_eq_true rfl) (Nat.le_of_ble_eq_true rfl) (Nat.le_refl _) ?_
  show awp _ 0 _ _ ⟨42, [(0, ints L), (1, .I tm), (2, .agg [.I n0, .I n1])], [], 16⟩
  refine rx (s := ?s1) [0, 1, 5] [] [16] rfl ?o1 ?q1
  case o1 => simp; rfl
  refine awp_seq ?_
  refine awp_regc ⟨42, [(0, ints L), (1, .I tm), (5, .pv [.I n0, .I n1]), (12, .B (decide (¬ L.length ≤ 400)))], [], 56⟩ rfl ?_ ?_
  · simp
    refine call0e (Light_ok L) rfl ?_
    simp
    exact Le.snap [] rfl rfl (by simp <;> exact wkB (by rw [Bool.eq_iff_iff]; simp))
  refine awp_cond _ rfl (fun h => ?_) fun h => awp_skip ?_
  · refine rx (s := ?s2) [6] [] [] rfl ?o2 ?q2
    case o2 => simp; refine call0e law10_awake_ok rfl ?_; simp; rfl
    exact awp_ret ⟨.inr rfl, RetOk.one (by simp)⟩
  have hl : L.length ≤ 400 := by simpa using h
  obtain ⟨⟨s, b⟩, ⟨hs1, hs2, hb⟩, hst⟩ := Store_any L 0 6 hl (Nat.zero_le _) (by decide)
  simp only at hs1 hs2 hb hst
  obtain ⟨c, ⟨hc1, hc2⟩, hct⟩ := StoreCounted_any s (by omega) fun x hx => (hs1 x hx).b
  have hag : ∀ f to t, ACalls Try.prog nlaw10_agree [sts c, .I f, .I to, .I t] [] (.B true) [] := fun f to t => law10_agree_ok c f to t (hc1.agree (by omega) (hc1.sort (by omega)) t)
  refine awp_regc ⟨42, [(1, .I tm), (5, .pv [.I n0, .I n1]), (7, .pt 64 0 0)], [(64, some (dice L 0))], 100⟩ rfl ?_ ?_
  · simp
    refine callN1 (Roll_ok L) rfl ?_
    simp [Function.comp_def]
    exact Le.keep rfl (by simp) (by simp) (by simp)
  have htk : List.take c.length (c.map sC) = c.map sC := List.take_of_length_le (by simp)
  refine awp_regc ⟨42, [(1, .I tm), (5, .pv [.I n0, .I n1]), (7, .pt 64 0 0), (8, sts c)], [(64, some (dice L b))], 200⟩ rfl ?_ ?_
  · simp
    refine callM1 (i := 64) rfl (e' := dice L 0) (by simp) hst (by simp) (by simp) ?_
    simp
    refine callN1 hct (by simp) ?_
    simp [Function.comp_def]
    exact Le.go [(64, 64)] [116] rfl rfl (by simp [Function.comp_def]; exact wkE (congrArg _ htk)) (by simp)
  refine awp_seq ?_
  refine rx (s := ?s5) [1, 5, 7, 8, 9] [64] [] rfl ?o5 ?q5
  case o5 => simp; rfl
  refine awp_block ?_
  refine awp_loop (ι := Nat × Nat) (fun p => ⟨42, [(1, .I tm), (5, .pv [.I n0, .I n1]), (7, .pt 64 0 0), (8, sts c), (9, .I p.2)], [(64, some (dice L p.1))], 300⟩) (fun p => p.1 ≤ L.length ∧ p.2 ≤ 4) (fun p => 4 - p.2) (b, 0) ⟨hb, by simp⟩ (Le.keep rfl (by simp) (by simp) (by simp)) ?_
  rintro ⟨b, k⟩ ⟨hb, hk⟩
  simp only at hb hk
  simp only
  refine awp_seq ?_
  refine rx (s := ?s6) [1, 5, 7, 8, 9, 20] [64] [] rfl ?o6 ?q6
  case o6 => simp; rfl
  refine awp_cond _ rfl (fun h2 => awp_skip ?_) fun h2 => awp_exit (hit ?_)
  · simp only [decide_eq_true_eq] at h2
    have hk4 : k < 4 := by omega
    obtain ⟨x, b1, ⟨hb1, _⟩, hn1⟩ := Next_any L b 5 hl hb (by decide)
    obtain ⟨y, b2, ⟨hb2, _⟩, hn2⟩ := Next_any L b1 6 hl hb1 (by decide)
    obtain ⟨z, b3, ⟨hb3, _⟩, hn3⟩ := Next_any L b2 80 hl hb2 (by decide)
    refine awp_cut (ι := Unit) (fun _ => ⟨42, [(1, .I tm), (5, .pv [.I n0, .I n1]), (7, .pt 64 0 0), (8, sts c), (9, .I k)], [(64, some (dice L b3))], 900⟩) (fun _ => True) ?_ fun _ _ => ?_
    · refine awp_block ?_
      refine awp_regc ⟨42, [(1, .I tm), (5, .pv [.I n0, .I n1]), (7, .pt 64 0 0), (8, sts c), (9, .I k), (31, .B false)], [(64, some (dice L b3))], 600⟩ rfl ?_ ?_
      · simp
        refine callM1 (i := 64) rfl (e' := dice L b) (by simp) hn1 (by simp) (by simp) ?_
        simp
        refine callM1 (i := 64) rfl (e' := dice L b1) (by simp) hn2 (by simp) (by simp) ?_
        simp
        refine callM1 (i := 64) rfl (e' := dice L b2) (by simp) hn3 (by simp) (by simp) ?_
        simp
        refine call0e (hag x y z) (by simp) ?_
        simp
        exact Le.keep rfl (by simp) (by simp) (by simp)
      refine awp_cond _ rfl (fun h => by cases h) fun _ => awp_skip ?_
      exact ⟨(), trivial, Le.keep rfl (by simp) (by simp) (by simp)⟩
    have hwk := wr1 hk4 (by omega)
    refine awp_reg rfl ?_
    simp [hwk]
    exact ⟨b3, k + 1, ⟨hb3, by omega⟩, by omega, Le.go [(64, 64)] [] rfl rfl (by simp) (by simp)⟩
  have ha := hag n0 n1 tm
  refine awp_regc ⟨42, [(6, .B true)], [], 900⟩ rfl ?_ (awp_ret ⟨.inr rfl, RetOk.one (by simp)⟩)
  simp
  refine call0e law10_awake_ok rfl ?_
  simp
  refine call0e ha (by simp) ?_
  simp
  exact Le.snap [] rfl rfl (by simp)
end Go.Proofs.Ytnphfkceoklkkaa
