/- Texts of this claim, merged. -/
import Derived.Test.YtnphfkceoklkkaaVo7
set_option linter.unusedSimpArgs false
set_option linter.unusedVariables false
set_option linter.unusedSectionVars false
namespace Go.Proofs.Ytnphfkceoklkkaa
open Go
structure Pn where
  a : Int
  h : Int
  d : ByteArray
abbrev pC (p : Pn) : List AV := [.I p.a, .I p.h, .sc (.string p.d)]
abbrev pns (l : List Pn) : AV := .vs 3 false (l.map pC)
structure Stm where
  au : Int
  nu : Int
  pr : ByteArray
  ti : Int
  ki : Int
  a : Int
  b : Int
  c : Int
  li : List Int
  pi : List Pn
  bo : ByteArray
  sk : Int
  sd : ByteArray
abbrev sC (s : Stm) : List AV := [.I s.au, .I s.nu, .sc (.string s.pr), .I s.ti, .I s.ki, .I s.a, .I s.b, .I s.c, ints s.li, pns s.pi, .sc (.string s.bo), .I s.sk, .sc (.string s.sd)]
abbrev eS (s : Stm) : AV := .agg (sC s)
abbrev sts (l : List Stm) : AV := .vs 13 false (l.map sC)
def StB (s : Stm) : Prop := s.pr.size ≤ 5000 ∧ s.bo.size ≤ 5000 ∧ s.li.length ≤ 100 ∧ s.pi.length ≤ 100 ∧ ∀ p ∈ s.pi, p.d.size ≤ 5000
def pinY (p : Pn) : List Int := intY p.a ++ intY p.h ++ textY p.d
def pinsY (l : List Pn) : List Int := l.flatMap pinY
def fives (s : Stm) : List Int := [s.ti, s.ki, s.a, s.b, s.c]
def headY (s : Stm) : List Int := intY s.au ++ intY s.nu ++ textY s.pr
def bytesS (s : Stm) : List Int := headY s ++ (fives s).flatMap intY ++ intsY s.li ++ intY s.pi.length ++ pinsY s.pi ++ textY s.bo
theorem pinY_len (p : Pn) : (pinY p).length = 24 + p.d.size := by simp [pinY, intY_len, textY_len]; omega
theorem pinsY_le : ∀ (l : List Pn), (∀ p ∈ l, p.d.size ≤ 5000) → (pinsY l).length ≤ 5024 * l.length
  | [], _ => by simp [pinsY]
  | p :: l, h => by
    have h1 := pinsY_le l fun q hq => h q (List.mem_cons_of_mem _ hq)
    have h2 := h p List.mem_cons_self
    unfold pinsY at *
    rw [List.flatMap_cons, List.length_append, pinY_len, List.length_cons]
    omega
theorem headY_len (s : Stm) : (headY s).length = 24 + s.pr.size := by simp [headY, intY_len, textY_len]; omega
set_option maxHeartbeats 4000000 in
set_option maxRecDepth 100000 in
theorem ref03_Bytes_ok (s : Stm) (hs : StB s) : ACalls Try.prog nref03_Bytes [eS s] [] (.rs 0 0 (bytesS s).length) [some ⟨1, rowsK .u8 (bytesS s), 0⟩] := by
  refine sref03_Bytes.acalls (Nat.le_of_ble_eq_true rfl) (Nat.le_of_ble_eq_true rfl) (Nat.zero_le _) ?_
  show awp _ 0 _ _ ⟨71, [(0, eS s)], [], 16⟩
  obtain ⟨hb1, hb2, hb3, hb4, hb5⟩ := hs
  have hhl := headY_len s
  refine awp_regc ⟨71, [(1, .pv (sC s))], [], 32⟩ rfl ?_ ?_
  · simp
    exact Le.snap [16] rfl rfl (by simp)
  have i1 := ref02_Int_ok [] s.au _ rfl (by simp)
  have i2 := ref02_Int_ok ([] ++ intY s.au) s.nu _ rfl (by simp [intY_len])
  have i3 := ref02_Text_ok ([] ++ intY s.au ++ intY s.nu) s.pr (headY s).length (by simp [headY_len, intY_len]; omega) (by simp [intY_len]) (by omega)
  have e3 : [] ++ intY s.au ++ intY s.nu ++ textY s.pr = headY s := by simp [headY]
  rw [e3] at i3
  have l1 : ([] ++ intY s.au).length = 8 := by simp [intY_len]
  have l2 : ([] ++ intY s.au ++ intY s.nu).length = 16 := by simp [intY_len]
  generalize [] ++ intY s.au ++ intY s.nu = A2 at *
  generalize [] ++ intY s.au = A1 at *
  have t1 : List.take 8 (rowsK .u8 A1) = rowsK .u8 A1 := List.take_of_length_le (by rw [rowsK_len]; omega)
  have t2 : List.take 16 (rowsK .u8 A2) = rowsK .u8 A2 := List.take_of_length_le (by rw [rowsK_len]; omega)
  refine awp_dregc ⟨71, [(1, .pv (sC s)), (3, .rs 96 0 (headY s).length)], [(96, some ⟨1, rowsK .u8 (headY s), 0⟩)], 112⟩ rfl ?_ ?_
  · simp
    refine callN1w i1 (by simp; exact .nil _ _) ?_
    simp [Function.comp_def]
    refine callN1q [48] i2 (by simp [Function.comp_def, l1, t1]) (.rs _ _ _) plainK ?_
    simp [Function.comp_def, l1]
    refine callN1q [72] i3 (by simp [Function.comp_def, l1, l2, t2]) (.rs _ _ _) plainK ?_
    simp [Function.comp_def]
    exact ⟨rfl, Le.keep rfl (Nat.le_refl _) (by simp) (by simp)⟩
  obtain ⟨F, hF⟩ : ∃ F, F = fives s := ⟨_, rfl⟩
  have hFl : F.length = 5 := by rw [hF]; rfl
  refine awp_seq ?_
  let Y : Nat → List Int := fun j => headY s ++ (F.take j).flatMap intY
  have hYl : ∀ j, j ≤ 5 → (Y j).length = (headY s).length + 8 * j := fun j hj => by
    simp only [Y]
    rw [List.length_append, flatI_len, List.length_take]
    omega
  have hYs : ∀ j (h : j < F.length), Y (j + 1) = Y j ++ intY F[j] := fun j h => by
    simp only [Y]
    rw [List.take_succ_eq_append_getElem h, List.flatMap_append]
    simp
  have hY0 : headY s = Y 0 := by simp [Y]
  have hY5 : headY s ++ (fives s).flatMap intY = Y 5 := by simp [Y, ← hF, ← hFl]
  obtain ⟨L, hL⟩ : ∃ L, L = (headY s).length := ⟨_, rfl⟩
  rw [← hL] at hYl hhl ⊢
  rw [hY0]
  refine awp_regc ⟨71, [(1, .pv (sC s)), (3, .rs 96 0 (L + 8 * 0)), (27, ints F), (28, .I 5), (29, .I (0 : Nat))], [(96, some ⟨1, rowsK .u8 (Y 0), 0⟩)], 216⟩ rfl ?_ ?_
  · simp
    exact Le.K1 96 96 [192] rfl rfl (by simp) (by simp) rfl (by simp [hF, fives] <;> exact .refl _)
  clear_value Y
  refine awp_block ?_
  refine awp_loop (ι := Nat) (fun j => ⟨71, [(1, .pv (sC s)), (3, .rs 96 0 (L + 8 * j)), (27, ints F), (28, .I 5), (29, .I j)], [(96, some ⟨1, rowsK .u8 (Y j), 0⟩)], 216⟩) (fun j => j ≤ 5) (fun j => 5 - j) 0 (by omega) (Le.refl _ _) ?_
  intro j hj
  refine awp_regc ⟨71, [(1, .pv (sC s)), (3, .rs 96 0 (L + 8 * j)), (27, ints F), (28, .I 5), (29, .I j), (30, .B (decide (j < 5)))], [(96, some ⟨1, rowsK .u8 (Y j), 0⟩)], 224⟩ rfl ?_ ?_
  · simp
    exact Le.keep rfl (Nat.le_refl _) (by simp <;> omega) (by simp)
  refine awp_seq ?_
  refine awp_cond _ rfl (fun h => awp_skip ?_) fun h => awp_exit (hit ?_)
  · simp only [decide_eq_true_eq] at h
    have hjl : j < F.length := by omega
    have hs := hYs j hjl
    have q1 := hYl j hj
    have q2 := hYl (j + 1) h
    have hI2 := ref02_Int_ok (Y j) F[j] _ rfl (by omega)
    rw [← hs] at hI2
    have hg : F[j]? = some F[j] := List.getElem?_eq_getElem hjl
    refine awp_cut (ι := Unit) (fun _ => ⟨71, [(1, .pv (sC s)), (3, .rs 96 0 (L + 8 * (j + 1))), (27, ints F), (28, .I 5), (29, .I j)], [(96, some ⟨1, rowsK .u8 (Y (j + 1)), 0⟩)], 280⟩) (fun _ => True) ?_ fun _ _ => ?_
    · generalize Y (j + 1) = B at *
      generalize Y j = A at *
      generalize F[j] = x at *
      refine awp_block ?_
      refine awp_regc ⟨71, [(1, .pv (sC s)), (3, .rs 96 0 (L + 8 * j)), (27, ints F), (28, .I 5), (29, .I j), (5, .I x)], [(96, some ⟨1, rowsK .u8 A, 0⟩)], 248⟩ rfl ?_ ?_
      · simp [hg]
        exact Le.keep rfl (Nat.le_refl _) (by simp) (by simp)
      refine awp_reg rfl ?_
      simp
      refine callN1q [96] hI2 (by simp [Function.comp_def, ← q1, take_map_len]) (.rs _ _ _) plainK ?_
      simp [Function.comp_def]
      exact Le.K1 264 96 [] rfl rfl (by simp) (by simp) (by simp [Function.comp_def]) (by simp; exact wkE (by simp; omega))
    have hwj : IntKind.i64.wrap ((j : Int) + 1) = ((j + 1 : Nat) : Int) := by rw [w64 (by omega) (by omega)]; omega
    refine awp_reg rfl ?_
    simp [hwj]
    exact ⟨j + 1, by omega, by omega, Le.K1 96 96 [] rfl rfl (by simp) (by simp) rfl (by simp)⟩
  simp only [decide_eq_false_iff_not] at h
  obtain rfl : j = 5 := by omega
  have q5 := hYl 5 (by omega)
  have i4 := ref02_Ints_ok (Y 5) s.li _ rfl (by omega) (by omega)
  have i5 := ref02_Int_ok (Y 5 ++ intsY s.li) s.pi.length (L + 40 + (8 * s.li.length + 8) + 8) (by rw [List.length_append, q5, intsY_len]) (by rw [List.length_append, q5, intsY_len]; omega)
  obtain ⟨C, hC⟩ : ∃ C, C = Y 5 ++ intsY s.li ++ intY s.pi.length := ⟨_, rfl⟩
  obtain ⟨c, hc⟩ : ∃ c, c = L + 40 + (8 * s.li.length + 8) + 8 := ⟨_, rfl⟩
  have hCl : C.length = c := by rw [hC, List.length_append, List.length_append, q5, intsY_len, intY_len, hc]
  rw [← hC, ← hc] at i5
  have lA : (Y 5 ++ intsY s.li).length = L + 8 * 5 + (8 * s.li.length + 8) := by rw [List.length_append, q5, intsY_len]
  generalize hA3 : Y 5 ++ intsY s.li = A3 at *
  have tA : List.take (L + 8 * 5 + (8 * s.li.length + 8)) (rowsK .u8 A3) = rowsK .u8 A3 := List.take_of_length_le (by rw [rowsK_len]; omega)
  have tY : List.take (L + 8 * 5) (rowsK .u8 (Y 5)) = rowsK .u8 (Y 5) := List.take_of_length_le (by rw [rowsK_len]; omega)
  have htot : C ++ pinsY s.pi ++ textY s.bo = bytesS s := by rw [hC, ← hA3, ← hY5]; rfl
  generalize Y 5 = Y5 at *
  refine awp_dregc ⟨71, [(1, .pv (sC s)), (3, .rs 280 0 c)], [(280, some ⟨1, rowsK .u8 C, 0⟩)], 296⟩ rfl ?_ ?_
  · simp
    refine callN1q [96] i4 (by simp [Function.comp_def, q5] <;> exact tY) (.rs _ _ _) plainK ?_
    simp [Function.comp_def, q5]
    refine callN1q [248] i5 (by simp [Function.comp_def, lA] <;> exact tA) (.rs _ _ _) plainK ?_
    simp [Function.comp_def]
    exact ⟨rfl, Le.keep rfl (Nat.le_refl _) (by simp) (by simp)⟩
  let Z : Nat → List Int := fun j => C ++ pinsY (s.pi.take j)
  have hZle : ∀ j, j ≤ s.pi.length → (Z j).length ≤ 1000000 := fun j hj => by
    simp only [Z]
    have := pinsY_le (s.pi.take j) fun p hp => hb5 p (List.mem_of_mem_take hp)
    rw [List.length_append, hCl]
    rw [List.length_take] at this
    omega
  have hZs : ∀ j (h : j < s.pi.length), Z (j + 1) = Z j ++ pinY s.pi[j] := fun j h => by
    simp only [Z, pinsY]
    rw [List.take_succ_eq_append_getElem h, List.flatMap_append]
    simp
  have hZ0 : C = Z 0 := by simp [Z, pinsY]
  have hZn : C ++ pinsY s.pi = Z s.pi.length := by simp [Z]
  rw [← hCl]
  rw [hZ0]
  rw [hZn] at htot
  refine awp_seq ?_
  refine awp_regc ⟨71, [(1, .pv (sC s)), (3, .rs 280 0 (Z 0).length), (6, .I (0 : Nat))], [(280, some ⟨1, rowsK .u8 (Z 0), 0⟩)], 304⟩ rfl ?_ ?_
  · simp
    exact Le.keep rfl (Nat.le_refl _) (by simp) (by simp)
  clear_value Z
  refine awp_block ?_
  refine awp_loop (ι := Nat) (fun j => ⟨71, [(1, .pv (sC s)), (3, .rs 280 0 (Z j).length), (6, .I j)], [(280, some ⟨1, rowsK .u8 (Z j), 0⟩)], 304⟩) (fun j => j ≤ s.pi.length) (fun j => s.pi.length - j) 0 (by omega) (Le.refl _ _) ?_
  intro j hj
  refine awp_seq ?_
  refine awp_regc ⟨71, [(1, .pv (sC s)), (3, .rs 280 0 (Z j).length), (6, .I j), (49, .B (decide (j < s.pi.length)))], [(280, some ⟨1, rowsK .u8 (Z j), 0⟩)], 344⟩ rfl ?_ ?_
  · simp
    exact Le.keep rfl (Nat.le_refl _) (by simp) (by simp)
  refine awp_cond _ rfl (fun h => awp_skip ?_) fun h => awp_exit (hit ?_)
  · simp only [decide_eq_true_eq] at h
    have hs := hZs j h
    have q1 := hZle j hj
    have hp5 := hb5 s.pi[j] (List.getElem_mem h)
    have hg : s.pi[j]? = some s.pi[j] := List.getElem?_eq_getElem h
    generalize s.pi[j] = p at *
    have i1 := ref02_Int_ok (Z j) p.a _ rfl (by omega)
    have i2 := ref02_Int_ok (Z j ++ intY p.a) p.h _ rfl (by rw [List.length_append, intY_len]; omega)
    have i3 := ref02_Text_ok (Z j ++ intY p.a ++ intY p.h) p.d (Z (j + 1)).length (by rw [hs]; simp [pinY, intY_len, textY_len]; omega) (by simp [intY_len]; omega) (by omega)
    have e3 : Z j ++ intY p.a ++ intY p.h ++ textY p.d = Z (j + 1) := by rw [hs]; simp [pinY]
    rw [e3] at i3
    have l1 : (Z j ++ intY p.a).length = (Z j).length + 8 := by simp [intY_len]
    have l2 : (Z j ++ intY p.a ++ intY p.h).length = (Z j).length + 8 + 8 := by simp [intY_len]
    generalize Z j ++ intY p.a ++ intY p.h = A2 at *
    generalize Z j ++ intY p.a = A1 at *
    refine awp_cut (ι := Unit) (fun _ => ⟨71, [(1, .pv (sC s)), (3, .rs 280 0 (Z (j + 1)).length), (6, .I j)], [(280, some ⟨1, rowsK .u8 (Z (j + 1)), 0⟩)], 488⟩) (fun _ => True) ?_ fun _ _ => ?_
    · generalize Z (j + 1) = B at *
      generalize Z j = A at *
      obtain ⟨n0, hn0⟩ : ∃ n0, n0 = A.length := ⟨_, rfl⟩
      rw [← hn0] at i1 l1 l2 ⊢
      rw [l1] at i2
      have t0 : List.take n0 (rowsK .u8 A) = rowsK .u8 A := List.take_of_length_le (by rw [rowsK_len]; omega)
      have t1 : List.take (n0 + 8) (rowsK .u8 A1) = rowsK .u8 A1 := List.take_of_length_le (by rw [rowsK_len]; omega)
      have t2 : List.take (n0 + 8 + 8) (rowsK .u8 A2) = rowsK .u8 A2 := List.take_of_length_le (by rw [rowsK_len]; omega)
      refine awp_block ?_
      refine awp_regc ⟨71, [(1, .pv (sC s)), (3, .rs 280 0 n0), (6, .I j), (7, .pv (pC p))], [(280, some ⟨1, rowsK .u8 A, 0⟩)], 400⟩ rfl ?_ ?_
      · simp [hg, splice]
        exact Le.K1 280 280 [384] rfl rfl (by simp) (by simp) rfl (by simp)
      refine awp_drw rfl ?_
      simp
      refine callN1q [280] i1 (by simp [Function.comp_def, ← hn0] <;> exact t0) (.rs _ _ _) plainK ?_
      simp [Function.comp_def]
      refine callN1q [424] i2 (by simp [Function.comp_def, l1] <;> exact t1) (.rs _ _ _) plainK ?_
      simp [Function.comp_def]
      refine callN1q [448] i3 (by simp [Function.comp_def, l2] <;> exact t2) (.rs _ _ _) plainK ?_
      simp [Function.comp_def]
      exact ⟨rfl, Le.K1 472 280 [] rfl rfl (by simp) (by simp) (by simp [Function.comp_def]) (by simp)⟩
    have hwj : IntKind.i64.wrap ((j : Int) + 1) = ((j + 1 : Nat) : Int) := by rw [w64 (by omega) (by omega)]; omega
    refine awp_reg rfl ?_
    simp [hwj]
    exact ⟨j + 1, by omega, by omega, Le.K1 280 280 [] rfl rfl (by simp) (by simp) rfl (by simp)⟩
  simp only [decide_eq_false_iff_not] at h
  obtain rfl : j = s.pi.length := by omega
  have qn := hZle s.pi.length (Nat.le_refl _)
  have i6 := ref02_Text_ok (Z s.pi.length) s.bo (bytesS s).length (by rw [← htot, List.length_append, textY_len]) (by omega) (by omega)
  rw [htot] at i6
  generalize Z s.pi.length = A at *
  have t0 : List.take A.length (rowsK .u8 A) = rowsK .u8 A := List.take_of_length_le (by rw [rowsK_len]; exact Nat.le_refl _)
  refine awp_regc ⟨71, [(2, .rs 368 0 (bytesS s).length)], [(368, some ⟨1, rowsK .u8 (bytesS s), 0⟩)], 384⟩ rfl ?_ ?_
  · simp
    refine callN1q [280] i6 (by simp [Function.comp_def] <;> exact t0) (.rs _ _ _) plainK ?_
    simp [Function.comp_def]
    exact Le.keep rfl (Nat.le_refl _) (by simp) (by simp)
  refine awp_ret ?_
  exact ⟨.inr rfl, RetOk.out [368] [] rfl (by simp) (by simp) (by simp) (by simp [Function.comp_def])⟩
theorem bytesS_le {s : Stm} (hs : StB s) : (bytesS s).length ≤ 1000000 := by
  obtain ⟨hb1, hb2, hb3, hb4, hb5⟩ := hs
  have := pinsY_le s.pi hb5
  unfold bytesS
  simp only [List.length_append, headY_len, flatI_len, intsY_len, intY_len, textY_len]
  simp [fives]
  omega
def digS (s : Stm) : ByteArray := sumB (bytesS s)
theorem digS_size (s : Stm) : (digS s).size = 32 := sumB_size _
theorem ref03_Digest_ok (s : Stm) (hs : StB s) : ACalls Try.prog nref03_Digest [eS s] [] (.sc (.string (digS s))) [] := by
  refine sref03_Digest.acalls (Nat.le_of_ble_eq_true rfl) (Nat.le_of_ble_eq_true rfl) (Nat.zero_le _) ?_
  show awp _ 0 _ _ ⟨6, [(0, eS s)], [], 16⟩
  have hl := bytesS_le hs
  refine awp_regc ⟨6, [(1, .pv (sC s))], [], 32⟩ rfl ?_ ?_
  · simp
    exact Le.snap [16] rfl rfl (by simp)
  refine awp_regc ⟨6, [(2, .sc (.string (digS s)))], [], 64⟩ rfl ?_ ?_
  · simp
    refine callN1 (ref03_Bytes_ok s hs) (by simp) ?_
    simp [Function.comp_def]
    refine call0s [40] (ref01_Sum_ok (bytesS s) (by omega)) (by simp [Function.comp_def, take_map_len]) (.sc _) ?_
    simp
    exact Le.snap [] rfl rfl (by simp; exact .refl _)
  refine awp_ret ?_
  exact ⟨.inr rfl, RetOk.out [] [] rfl (by simp) (by simp) (by simp) (by simp)⟩
end Go.Proofs.Ytnphfkceoklkkaa
namespace Go.Proofs.Ytnphfkceoklkkaa
open Go
theorem ref03_key_ok (x : Int) : ACalls Try.prog nref03_key [.I x] [] (.B (decide (0 ≤ x ∧ x < 64))) [] := by
  refine sref03_key.acalls (Nat.le_of_ble_eq_true rfl) (Nat.le_of_ble_eq_true rfl) (Nat.le_refl _) ?_
  show awp _ 0 _ _ ⟨9, [(0, .I x)], [], 16⟩
  refine awp_regc ⟨9, [(0, .I x)], [], 24⟩ rfl (by simp; exact Le.snap [] rfl rfl (by simp)) ?_
  refine awp_regc ⟨9, [(2, .B (decide (0 ≤ x ∧ x < 64)))], [], 80⟩ rfl ?_ ?_
  · by_cases h : 0 ≤ x
    · simp [h]
      exact Le.snap [] rfl rfl (by simp)
    · simp [h]
      exact Le.snap [] rfl rfl (by simp)
  refine awp_ret ?_
  exact ⟨.inr rfl, RetOk.one (by simp)⟩
theorem ref03_in_ok (x m : Int) : ACalls Try.prog nref03_in [.I x, .I m] [] (.B (decide (0 ≤ x ∧ x ≤ m))) [] := by
  refine sref03_in.acalls (Nat.le_of_ble_eq_true rfl) (Nat.le_of_ble_eq_true rfl) (Nat.le_refl _) ?_
  show awp _ 0 _ _ ⟨12, [(0, .I x), (1, .I m)], [], 16⟩
  refine awp_regc ⟨12, [(0, .I x), (1, .I m)], [], 24⟩ rfl (by simp; exact Le.snap [] rfl rfl (by simp)) ?_
  refine awp_regc ⟨12, [(4, .B (decide (0 ≤ x ∧ x ≤ m)))], [], 88⟩ rfl ?_ ?_
  · by_cases h : 0 ≤ x
    · simp [h]
      exact Le.snap [] rfl rfl (by simp)
    · simp [h]
      exact Le.snap [] rfl rfl (by simp)
  refine awp_ret ?_
  exact ⟨.inr rfl, RetOk.one (by simp)⟩
def PinAt (l : List Pn) (i : Nat) : Prop := ∀ h : i < l.length, (0 ≤ l[i].a ∧ l[i].a < 64) ∧ (0 < i → l[i - 1].a < l[i].a) ∧ 1 ≤ l[i].h ∧ l[i].h ≤ 200 ∧ l[i].d.size = 32
def PinsOk (l : List Pn) : Prop := ∀ i, PinAt l i
open Classical in
set_option maxHeartbeats 1000000 in
set_option maxRecDepth 100000 in
theorem ref03_PinsOK_ok (l : List Pn) (hl : l.length ≤ 1000000) : ACalls Try.prog nref03_PinsOK [pns l] [] (.B (decide (PinsOk l))) [] := by
  refine sref03_PinsOK.acalls (Nat.le_of_ble_eq_true rfl) (Nat.le_of_ble_eq_true rfl) (Nat.le_refl _) ?_
  show awp _ 0 _ _ ⟨50, [(0, pns l)], [], 16⟩
  refine awp_regc ⟨50, [(0, pns l)], [], 24⟩ rfl (by simp; exact Le.snap [] rfl rfl (by simp)) ?_
  refine awp_seq ?_
  refine awp_regc ⟨50, [(0, pns l), (3, .I (0 : Nat))], [], 32⟩ rfl (by simp; exact Le.snap [] rfl rfl (by simp)) ?_
  refine awp_block ?_
  refine awp_loop (ι := Nat) (fun k => ⟨50, [(0, pns l), (3, .I k)], [], 32⟩) (fun k => k ≤ l.length ∧ ∀ i, i < k → PinAt l i) (fun k => l.length - k) 0 ⟨Nat.zero_le _, fun i hi => by omega⟩ (Le.refl _ _) ?_
  rintro k ⟨hk, hp⟩
  refine awp_seq ?_
  refine awp_regc ⟨50, [(0, pns l), (3, .I k), (8, .B (decide (k < l.length)))], [], 64⟩ rfl (by simp; exact Le.snap [] rfl rfl (by simp)) ?_
  refine awp_cond _ rfl (fun h => awp_skip ?_) fun h => awp_exit (hit ?_)
  · simp only [decide_eq_true_eq] at h
    obtain ⟨p, hpe⟩ : ∃ p, l[k] = p := ⟨_, rfl⟩
    have hg : l[k]? = some p := by rw [List.getElem?_eq_getElem h, hpe]
    have hwk : IntKind.i64.wrap ((k : Int) + 1) = ((k + 1 : Nat) : Int) := by rw [w64 (by omega) (by omega)]; omega
    have hat : PinAt l k ↔ ((0 ≤ p.a ∧ p.a < 64) ∧ (0 < k → (l[k - 1]).a < p.a) ∧ 1 ≤ p.h ∧ p.h ≤ 200 ∧ p.d.size = 32) := by
      unfold PinAt
      constructor
      · intro hq
        have := hq h
        rwa [hpe] at this
      · intro hq _
        rwa [hpe]
    refine awp_cut (ι := Unit) (fun _ => ⟨50, [(0, pns l), (3, .I k)], [], 400⟩) (fun _ => PinAt l k) ?_ fun _ hok => ?_
    · refine awp_block ?_
      refine awp_regc ⟨50, [(0, pns l), (3, .I k), (4, .pv (pC p))], [], 112⟩ rfl ?_ ?_
      · simp [hg, splice]
        exact Le.snap [96] rfl rfl (by simp)
      refine awp_dregc ⟨50, [(0, pns l), (3, .I k), (49, .B (decide (¬ PinAt l k)))], [], 400⟩ rfl ?_ ?_
      · simp
        refine call0e (ref03_key_ok p.a) rfl ?_
        by_cases c1 : 0 ≤ p.a ∧ p.a < 64
        · cases k with
          | zero =>
            simp [c1]
            by_cases c3 : p.h < 1
            · simp [c3]
              exact ⟨rfl, Le.snap [] rfl rfl (by simp <;> exact wkB (by simp [hat]; first | omega | grind))⟩
            by_cases c4 : 200 < p.h
            · simp [c3, c4]
              exact ⟨rfl, Le.snap [] rfl rfl (by simp <;> exact wkB (by simp [hat]; first | omega | grind))⟩
            by_cases c5 : (p.d.size : Int) = 32
            · simp [c3, c4, c5]
              exact ⟨rfl, Le.snap [] rfl rfl (by simp <;> exact wkB (by simp [hat]; first | omega | grind))⟩
            · simp [c3, c4, c5]
              exact ⟨rfl, Le.snap [] rfl rfl (by simp <;> exact wkB (by simp [hat]; first | omega | grind))⟩
          | succ j =>
            have hjl : j < l.length := by omega
            obtain ⟨q, hq⟩ : ∃ q, l[j] = q := ⟨_, rfl⟩
            have hgj : l[j]? = some q := by rw [List.getElem?_eq_getElem hjl, hq]
            have hw : IntKind.i64.wrap (((j + 1 : Nat) : Int) - 1) = (j : Int) := by rw [w64 (by omega) (by omega)]; omega
            have hat2 : PinAt l (j + 1) ↔ ((0 ≤ p.a ∧ p.a < 64) ∧ q.a < p.a ∧ 1 ≤ p.h ∧ p.h ≤ 200 ∧ p.d.size = 32) := by
              rw [hat]
              simp [hq]
            clear hat
            obtain ⟨J, hJ⟩ : ∃ J, J = j + 1 := ⟨_, rfl⟩
            rw [← hJ] at hw hat2 ⊢
            have hJ0 : 0 < J := by omega
            by_cases c2 : p.a ≤ q.a
            · simp [c1, hJ0, hw, hgj, c2]
              exact ⟨rfl, Le.snap [] rfl rfl (by simp <;> exact wkB (by simp [hat2]; first | omega | grind))⟩
            by_cases c3 : p.h < 1
            · simp [c1, hJ0, hw, hgj, c2, c3]
              exact ⟨rfl, Le.snap [] rfl rfl (by simp <;> exact wkB (by simp [hat2]; first | omega | grind))⟩
            by_cases c4 : 200 < p.h
            · simp [c1, hJ0, hw, hgj, c2, c3, c4]
              exact ⟨rfl, Le.snap [] rfl rfl (by simp <;> exact wkB (by simp [hat2]; first | omega | grind))⟩
            by_cases c5 : (p.d.size : Int) = 32
            · simp [c1, hJ0, hw, hgj, c2, c3, c4, c5]
              exact ⟨rfl, Le.snap [] rfl rfl (by simp <;> exact wkB (by simp [hat2]; first | omega | grind))⟩
            · simp [c1, hJ0, hw, hgj, c2, c3, c4, c5]
              exact ⟨rfl, Le.snap [] rfl rfl (by simp <;> exact wkB (by simp [hat2]; first | omega | grind))⟩
        · have c1' : decide (0 ≤ p.a ∧ p.a < 64) = false := decide_eq_false c1
          rw [c1']
          simp
          exact ⟨rfl, Le.snap [] rfl rfl (by simp <;> exact wkB (by simp only [hat]; simp; omega))⟩
      refine awp_cond _ rfl (fun h5 => ?_) fun h5 => awp_skip ?_
      · have hno : ¬ PinsOk l := fun hq => (of_decide_eq_true h5) (hq k)
        rw [decide_eq_false hno]
        refine awp_seq ?_
        refine awp_run (s := ?s3) rfl ?o3 ?q3
        case o3 => simp; rfl
        refine awp_ret ?_
        exact ⟨.inr rfl, RetOk.one (by simp)⟩
      · exact ⟨(), Classical.not_not.1 (of_decide_eq_false h5), Le.snap [] rfl rfl (by simp)⟩
    refine awp_reg rfl ?_
    simp [hwk]
    refine ⟨k + 1, ⟨by omega, fun i hi => ?_⟩, by omega, Le.snap [] rfl rfl (by simp)⟩
    rcases Nat.lt_succ_iff_lt_or_eq.1 hi with h | rfl
    · exact hp i h
    · exact hok
  simp only [decide_eq_false_iff_not] at h
  have hy : PinsOk l := fun i hi => hp i (by omega) hi
  rw [decide_eq_true hy]
  refine awp_seq ?_
  refine awp_run (s := ?s9) rfl ?o9 ?q9
  case o9 => simp; rfl
  refine awp_ret ?_
  exact ⟨.inr rfl, RetOk.one (by simp)⟩
end Go.Proofs.Ytnphfkceoklkkaa
namespace Go.Proofs.Ytnphfkceoklkkaa
open Go
def K1 (s : Stm) : Prop := (0 ≤ s.a ∧ s.a < 64) ∧ s.a ≠ s.au ∧ 1 ≤ s.b ∧ s.b ≤ 3 ∧ s.ti ≤ s.c ∧ s.c ≤ 2147483648
def K2 (s : Stm) : Prop := (0 ≤ s.a ∧ s.a ≤ 199) ∧ s.b = 0 ∧ s.c = 0
def K3 (s : Stm) : Prop := s.a = 0 ∧ s.b = 0 ∧ s.c = 0
instance (s : Stm) : Decidable (K1 s) := by unfold K1; infer_instance
instance (s : Stm) : Decidable (K2 s) := by unfold K2; infer_instance
instance (s : Stm) : Decidable (K3 s) := by unfold K3; infer_instance
def KindOk (s : Stm) : Prop := (s.ki = 1 → K1 s) ∧ (s.ki = 2 → K2 s) ∧ (s.ki = 3 → K3 s)
instance (s : Stm) : Decidable (KindOk s) := by unfold KindOk; infer_instance
def InV (x : Int) : Prop := 0 ≤ x ∧ x ≤ 1099511627776
instance (x : Int) : Decidable (InV x) := by unfold InV; infer_instance
def NumOk (s : Stm) : Prop := (0 ≤ s.nu ∧ s.nu ≤ 199) ∧ InV s.a ∧ InV s.b ∧ InV s.c ∧ (∀ x ∈ s.li, InV x) ∧ KindOk s
instance (s : Stm) : Decidable (NumOk s) := by unfold NumOk; infer_instance
set_option maxHeartbeats 2000000 in
set_option maxRecDepth 100000 in
theorem ref03_numbers_ok (s : Stm) (hl : s.li.length ≤ 1000000) : ACalls Try.prog nref03_numbers [eS s] [] (.B (decide (NumOk s))) [] := by
  refine sref03_numbers.acalls (Nat.le_of_ble_eq_true rfl) (Nat.le_of_ble_eq_true rfl) (Nat.le_refl _) ?_
  show awp _ 0 _ _ ⟨106, [(0, eS s)], [], 16⟩
  refine awp_regc ⟨106, [(1, .pv (sC s))], [], 32⟩ rfl ?_ ?_
  · simp
    exact Le.snap [16] rfl rfl (by simp)
  obtain ⟨b1, hb1⟩ : ∃ b, b = decide (0 ≤ s.nu ∧ s.nu ≤ 199) := ⟨_, rfl⟩
  obtain ⟨b2, hb2⟩ : ∃ b, b = decide (0 ≤ s.a ∧ s.a ≤ 1099511627776) := ⟨_, rfl⟩
  obtain ⟨b3, hb3⟩ : ∃ b, b = decide (0 ≤ s.b ∧ s.b ≤ 1099511627776) := ⟨_, rfl⟩
  obtain ⟨b4, hb4⟩ : ∃ b, b = decide (0 ≤ s.c ∧ s.c ≤ 1099511627776) := ⟨_, rfl⟩
  have q1 := ref03_in_ok s.nu 199
  have q2 := ref03_in_ok s.a 1099511627776
  have q3 := ref03_in_ok s.b 1099511627776
  have q4 := ref03_in_ok s.c 1099511627776
  rw [← hb1] at q1
  rw [← hb2] at q2
  rw [← hb3] at q3
  rw [← hb4] at q4
  refine awp_seq ?_
  refine awp_regc ⟨106, [(1, .pv (sC s)), (25, .B (!(b1 && (b2 && (b3 && b4)))))], [], 208⟩ rfl ?_ ?_
  · simp
    refine call0e q1 rfl ?_
    cases b1
    · simp
      exact Le.snap [] rfl rfl (by simp)
    simp
    refine call0e q2 rfl ?_
    cases b2
    · simp
      exact Le.snap [] rfl rfl (by simp)
    simp
    refine call0e q3 rfl ?_
    cases b3
    · simp
      exact Le.snap [] rfl rfl (by simp)
    simp
    refine call0e q4 rfl ?_
    cases b4
    · simp
      exact Le.snap [] rfl rfl (by simp)
    simp
    exact Le.snap [] rfl rfl (by simp)
  refine awp_cond _ rfl (fun h => ?_) fun h => awp_skip ?_
  · have hno : ¬ NumOk s := fun hq => by
      obtain ⟨n1, n2, n3, n4, _⟩ := hq
      rw [decide_eq_true n1] at hb1
      rw [decide_eq_true (show _ ∧ _ from n2)] at hb2
      rw [decide_eq_true (show _ ∧ _ from n3)] at hb3
      rw [decide_eq_true (show _ ∧ _ from n4)] at hb4
      subst hb1 hb2 hb3 hb4
      cases h
    rw [decide_eq_false hno]
    refine awp_seq ?_
    refine awp_run (s := ?s3) rfl ?o3 ?q3
    case o3 => simp; rfl
    refine awp_ret ?_
    exact ⟨.inr rfl, RetOk.one (by simp)⟩
  have hn : (0 ≤ s.nu ∧ s.nu ≤ 199) ∧ InV s.a ∧ InV s.b ∧ InV s.c := by
    simp only [Bool.not_eq_false', Bool.and_eq_true] at h
    obtain ⟨e1, e2, e3, e4⟩ := h
    rw [e1] at hb1
    rw [e2] at hb2
    rw [e3] at hb3
    rw [e4] at hb4
    exact ⟨of_decide_eq_true hb1.symm, of_decide_eq_true hb2.symm, of_decide_eq_true hb3.symm, of_decide_eq_true hb4.symm⟩
  clear h q1 q2 q3 q4 hb1 hb2 hb3 hb4
  refine awp_seq ?_
  refine awp_regc ⟨106, [(1, .pv (sC s)), (3, .I (0 : Nat))], [], 216⟩ rfl (by simp; exact Le.snap [] rfl rfl (by simp)) ?_
  refine awp_block ?_
  refine awp_loop (ι := Nat) (fun k => ⟨106, [(1, .pv (sC s)), (3, .I k)], [], 216⟩) (fun k => k ≤ s.li.length ∧ ∀ x ∈ s.li.take k, InV x) (fun k => s.li.length - k) 0 ⟨Nat.zero_le _, by simp⟩ (Le.refl _ _) ?_
  rintro k ⟨hk, hp⟩
  refine awp_seq ?_
  refine awp_regc ⟨106, [(1, .pv (sC s)), (3, .I k), (30, .B (decide (k < s.li.length)))], [], 256⟩ rfl (by simp; exact Le.snap [] rfl rfl (by simp)) ?_
  refine awp_cond _ rfl (fun h => awp_skip ?_) fun h => awp_exit (hit ?_)
  · simp only [decide_eq_true_eq] at h
    obtain ⟨x, hx⟩ : ∃ x, s.li[k] = x := ⟨_, rfl⟩
    have hg : s.li[k]? = some x := by rw [List.getElem?_eq_getElem h, hx]
    obtain ⟨b, hb⟩ : ∃ b, b = decide (0 ≤ x ∧ x ≤ 1099511627776) := ⟨_, rfl⟩
    have q := ref03_in_ok x 1099511627776
    rw [← hb] at q
    have hwk : IntKind.i64.wrap ((k : Int) + 1) = ((k + 1 : Nat) : Int) := by rw [w64 (by omega) (by omega)]; omega
    refine awp_cut (ι := Unit) (fun _ => ⟨106, [(1, .pv (sC s)), (3, .I k)], [], 312⟩) (fun _ => InV x) ?_ fun _ hok => ?_
    · refine awp_block ?_
      refine awp_regc ⟨106, [(1, .pv (sC s)), (3, .I k), (39, .B (!b))], [], 312⟩ rfl ?_ ?_
      · simp [hg]
        refine call0e q rfl ?_
        simp
        exact Le.snap [] rfl rfl (by simp)
      refine awp_cond _ rfl (fun h5 => ?_) fun h5 => awp_skip ?_
      · have hno : ¬ NumOk s := fun hq => by
          have := hq.2.2.2.2.1 x (hx ▸ List.getElem_mem h)
          rw [decide_eq_true (show _ ∧ _ from this)] at hb
          subst hb
          cases h5
        rw [decide_eq_false hno]
        refine awp_seq ?_
        refine awp_run (s := ?s4) rfl ?o4 ?q4
        case o4 => simp; rfl
        refine awp_ret ?_
        exact ⟨.inr rfl, RetOk.one (by simp)⟩
      · simp only [Bool.not_eq_false'] at h5
        rw [h5] at hb
        exact ⟨(), of_decide_eq_true hb.symm, Le.snap [] rfl rfl (by simp)⟩
    refine awp_reg rfl ?_
    simp [hwk]
    refine ⟨k + 1, ⟨by omega, fun y hy => ?_⟩, by omega, Le.snap [] rfl rfl (by simp)⟩
    rw [List.take_succ_eq_append_getElem h, List.mem_append] at hy
    rcases hy with hy | hy
    · exact hp y hy
    · rw [List.mem_singleton.1 hy, hx]
      exact hok
  simp only [decide_eq_false_iff_not] at h
  obtain rfl : k = s.li.length := by omega
  rw [List.take_length] at hp
  have hiff : NumOk s ↔ KindOk s := ⟨fun hq => hq.2.2.2.2.2, fun hq => ⟨hn.1, hn.2.1, hn.2.2.1, hn.2.2.2, hp, hq⟩⟩
  have hdec : decide (NumOk s) = decide (KindOk s) := by
    rw [Bool.eq_iff_iff, decide_eq_true_eq, decide_eq_true_eq]
    exact hiff
  rw [hdec]
  refine awp_cut (ι := Unit) (fun _ => ⟨106, [], [], 1000⟩) (fun _ => KindOk s) ?_ fun _ hok => ?_
  · refine awp_regc ⟨106, [(1, .pv (sC s)), (41, .I s.ki)], [], 272⟩ rfl (by simp; exact Le.snap [] rfl rfl (by simp)) ?_
    refine awp_block ?_
    refine awp_regc ⟨106, [(1, .pv (sC s)), (41, .I s.ki), (42, .B (decide (s.ki = 1)))], [], 288⟩ rfl ?_ ?_
    · simp
      exact Le.snap [] rfl rfl (by simp <;> exact wkB (by rw [Bool.eq_iff_iff]; simp))
    refine awp_cond _ rfl (fun h1 => ?_) fun h1 => ?_
    · simp only [decide_eq_true_eq] at h1
      have hkk : decide (KindOk s) = decide (K1 s) := by
        rw [Bool.eq_iff_iff, decide_eq_true_eq, decide_eq_true_eq]
        exact ⟨fun hq => hq.1 h1, fun hq => ⟨fun _ => hq, fun h2 => by omega, fun h2 => by omega⟩⟩
      rw [hkk]
      obtain ⟨b, hb⟩ : ∃ b, b = decide (0 ≤ s.a ∧ s.a < 64) := ⟨_, rfl⟩
      have q := ref03_key_ok s.a
      rw [← hb] at q
      refine awp_regc ⟨106, [(2, .B (decide (K1 s)))], [], 552⟩ rfl ?_ ?_
      · simp
        refine call0e q rfl ?_
        cases b
        · have e : decide (K1 s) = false := decide_eq_false fun hq => by rw [decide_eq_true hq.1] at hb; cases hb
          simp [e]
          exact Le.snap [] rfl rfl (by simp)
        · have e0 := of_decide_eq_true hb.symm
          have e : decide (K1 s) = decide (s.a ≠ s.au ∧ 1 ≤ s.b ∧ s.b ≤ 3 ∧ s.ti ≤ s.c ∧ s.c ≤ 2147483648) := by
            rw [Bool.eq_iff_iff, decide_eq_true_eq, decide_eq_true_eq]
            exact ⟨fun hq => hq.2, fun hq => ⟨e0, hq⟩⟩
          rw [e]
          by_cases c1 : s.a = s.au
          · have c1' : (s.a != s.au) = false := by simp [c1]
            have e2 : decide (s.a ≠ s.au ∧ 1 ≤ s.b ∧ s.b ≤ 3 ∧ s.ti ≤ s.c ∧ s.c ≤ 2147483648) = false := decide_eq_false fun hq => hq.1 c1
            rw [e2]
            simp [c1']
            exact Le.snap [] rfl rfl (by simp)
          have c1' : (s.a != s.au) = true := by simp [c1]
          have e2 : decide (s.a ≠ s.au ∧ 1 ≤ s.b ∧ s.b ≤ 3 ∧ s.ti ≤ s.c ∧ s.c ≤ 2147483648) = decide (1 ≤ s.b ∧ s.b ≤ 3 ∧ s.ti ≤ s.c ∧ s.c ≤ 2147483648) := by
            rw [Bool.eq_iff_iff, decide_eq_true_eq, decide_eq_true_eq]
            exact ⟨fun hq => hq.2, fun hq => ⟨c1, hq⟩⟩
          rw [e2]
          clear c1 e e2
          by_cases c2 : 1 ≤ s.b
          · by_cases c3 : s.b ≤ 3
            · by_cases c4 : s.ti ≤ s.c
              · simp [c1', c2, c3, c4]
                exact Le.snap [] rfl rfl (by simp)
              · simp [c1', c2, c3, c4]
                exact Le.snap [] rfl rfl (by simp)
            · simp [c1', c2, c3]
              exact Le.snap [] rfl rfl (by simp)
          · simp [c1', c2]
            exact Le.snap [] rfl rfl (by simp)
      refine awp_ret ?_
      exact ⟨.inr rfl, RetOk.one (by simp)⟩
    simp only [decide_eq_false_iff_not] at h1
    refine awp_regc ⟨106, [(1, .pv (sC s)), (41, .I s.ki), (76, .B (decide (s.ki = 2)))], [], 304⟩ rfl ?_ ?_
    · simp
      exact Le.snap [] rfl rfl (by simp <;> exact wkB (by rw [Bool.eq_iff_iff]; simp))
    refine awp_cond _ rfl (fun h2 => ?_) fun h2 => ?_
    · simp only [decide_eq_true_eq] at h2
      have hkk : decide (KindOk s) = decide (K2 s) := by
        rw [Bool.eq_iff_iff, decide_eq_true_eq, decide_eq_true_eq]
        exact ⟨fun hq => hq.2.1 h2, fun hq => ⟨fun h => by omega, fun _ => hq, fun h => by omega⟩⟩
      rw [hkk]
      obtain ⟨b, hb⟩ : ∃ b, b = decide (0 ≤ s.a ∧ s.a ≤ 199) := ⟨_, rfl⟩
      have q := ref03_in_ok s.a 199
      rw [← hb] at q
      refine awp_regc ⟨106, [(2, .B (decide (K2 s)))], [], 420⟩ rfl ?_ ?_
      · simp
        refine call0e q rfl ?_
        cases b
        · have e : decide (K2 s) = false := decide_eq_false fun hq => by rw [decide_eq_true hq.1] at hb; cases hb
          simp [e]
          exact Le.snap [] rfl rfl (by simp)
        · have e0 := of_decide_eq_true hb.symm
          have e : decide (K2 s) = decide (s.b = 0 ∧ s.c = 0) := by
            rw [Bool.eq_iff_iff, decide_eq_true_eq, decide_eq_true_eq]
            exact ⟨fun hq => hq.2, fun hq => ⟨e0, hq⟩⟩
          rw [e]
          by_cases c2 : s.b = 0
          · have c2' : (s.b == 0) = true := by simp [c2]
            simp [c2']
            exact Le.snap [] rfl rfl (by simp <;> exact wkB (by rw [Bool.eq_iff_iff]; simp [c2]))
          · have c2' : (s.b == 0) = false := by simp [c2]
            simp [c2']
            exact Le.snap [] rfl rfl (by simp [c2])
      refine awp_ret ?_
      exact ⟨.inr rfl, RetOk.one (by simp)⟩
    simp only [decide_eq_false_iff_not] at h2
    refine awp_regc ⟨106, [(1, .pv (sC s)), (41, .I s.ki), (91, .B (decide (s.ki = 3)))], [], 320⟩ rfl ?_ ?_
    · simp
      exact Le.snap [] rfl rfl (by simp <;> exact wkB (by rw [Bool.eq_iff_iff]; simp))
    refine awp_cond _ rfl (fun h3 => ?_) fun h3 => awp_skip ?_
    · simp only [decide_eq_true_eq] at h3
      have hkk : decide (KindOk s) = decide (K3 s) := by
        rw [Bool.eq_iff_iff, decide_eq_true_eq, decide_eq_true_eq]
        exact ⟨fun hq => hq.2.2 h3, fun hq => ⟨fun h => by omega, fun h => by omega, fun _ => hq⟩⟩
      rw [hkk]
      have e : decide (K3 s) = decide (s.a = 0 ∧ s.b = 0 ∧ s.c = 0) := rfl
      rw [e]
      refine awp_regc ⟨106, [(2, .B (decide (s.a = 0 ∧ s.b = 0 ∧ s.c = 0)))], [], 440⟩ rfl ?_ ?_
      · by_cases c1 : s.a = 0
        · have c1' : (s.a == 0) = true := by simp [c1]
          by_cases c2 : s.b = 0
          · have c2' : (s.b == 0) = true := by simp [c2]
            simp [c1', c2']
            exact Le.snap [] rfl rfl (by simp <;> exact wkB (by rw [Bool.eq_iff_iff]; simp [c1, c2]))
          · have c2' : (s.b == 0) = false := by simp [c2]
            simp [c1', c2']
            exact Le.snap [] rfl rfl (by simp [c2])
        · have c1' : (s.a == 0) = false := by simp [c1]
          simp [c1']
          exact Le.snap [] rfl rfl (by simp [c1])
      refine awp_ret ?_
      exact ⟨.inr rfl, RetOk.one (by simp)⟩
    simp only [decide_eq_false_iff_not] at h3
    exact ⟨(), ⟨fun h => absurd h h1, fun h => absurd h h2, fun h => absurd h h3⟩, Le.snap [] rfl rfl (by simp)⟩
  rw [decide_eq_true hok]
  refine awp_seq ?_
  refine awp_run (s := ?s9) rfl ?o9 ?q9
  case o9 => simp; rfl
  refine awp_ret ?_
  exact ⟨.inr rfl, RetOk.one (by simp)⟩
end Go.Proofs.Ytnphfkceoklkkaa
namespace Go.Proofs.Ytnphfkceoklkkaa
open Go
set_option maxHeartbeats 1000000 in
set_option maxRecDepth 100000 in
theorem ref03_Copy_ok (s : Stm) (h1 : s.li.length ≤ 1000000) (h2 : s.pi.length ≤ 1000000) : ACalls Try.prog nref03_Copy [eS s] [] (eS s) [] := by
  refine sref03_Copy.acalls (Nat.le_of_ble_eq_true rfl) (Nat.le_of_ble_eq_true rfl) (Nat.zero_le _) ?_
  show awp _ 0 _ _ ⟨12, [(0, eS s)], [], 16⟩
  refine awp_seq ?_
  refine awp_run (s := ?s0) rfl ?o0 ?q0
  case o0 => simp; rfl
  refine awp_seq ?_
  refine awp_run (s := ?s1) rfl ?o1 ?q1
  case o1 => simp [splice]; repeat' apply And.intro
             all_goals first | omega | rfl
  refine awp_seq ?_
  refine awp_run (s := ?s2) rfl ?o2 ?q2
  case o2 => simp [splice]; repeat' apply And.intro
             all_goals first | omega | rfl
  refine awp_seq ?_
  refine awp_run (s := ?s3) rfl ?o3 ?q3
  case o3 => simp [splice]; rfl
  refine awp_ret ?_
  refine ⟨.inr rfl, ?_⟩
  show RetOk [(2, some (true, 13))] 0 _ _ _
  refine RetOk.out (vs := [.agg [.I s.au, .I s.nu, .sc (.string s.pr), .I s.ti, .I s.ki, .I s.a, .I s.b, .I s.c, .rs 48 0 s.li.length, .rs 88 0 s.pi.length, .sc (.string s.bo), .I s.sk, .sc (.string s.sd)]]) [] [48, 88] (by simp) (by simp) (by simp) ?_ (by simp)
  simp [Function.comp_def, take_map_len]
set_option maxHeartbeats 1000000 in
set_option maxRecDepth 100000 in
theorem ref03_Seal_ok (s : Stm) (hs : StB s) : ACalls Try.prog nref03_Seal [eS s] [] (eS { s with sk := s.au, sd := digS s }) [] := by
  refine sref03_Seal.acalls (Nat.le_of_ble_eq_true rfl) (Nat.le_of_ble_eq_true rfl) (Nat.zero_le _) ?_
  show awp _ 0 _ _ ⟨12, [(0, eS s)], [], 16⟩
  have hb3 := hs.2.2.1
  have hb4 := hs.2.2.2.1
  refine awp_seq ?_
  refine awp_run (s := ?s0) rfl ?o0 ?q0
  case o0 => simp; rfl
  refine awp_seq ?_
  refine awp_run (s := ?s1) rfl ?o1 ?q1
  case o1 => simp; refine call0e (ref03_Copy_ok s (by omega) (by omega)) (by simp) ?_; simp [splice]; rfl
  refine awp_seq ?_
  refine awp_drun (s := ?s2) (tr := ?t2) rfl ?o2 ?r2 ?q2
  case o2 => simp; refine call0e (ref03_Digest_ok s hs) (by simp) ?_; simp [splice]; constructor <;> rfl
  case r2 => rfl
  refine awp_seq ?_
  refine awp_run (s := ?s3) rfl ?o3 ?q3
  case o3 => simp [splice]; rfl
  refine awp_ret ?_
  refine ⟨.inr rfl, ?_⟩
  show RetOk [(2, some (true, 13))] 0 _ _ _
  refine RetOk.out (vs := [eS { s with sk := s.au, sd := digS s }]) [] [] (by simp) (by simp) (by simp) ?_ (by simp)
  simp
set_option maxRecDepth 100000 in
theorem ref03_Sealed_ok (s : Stm) (hs : StB s) : ACalls Try.prog nref03_Sealed [eS s] [] (.B (decide (s.sk = s.au ∧ s.sd.toList = (digS s).toList))) [] := by
  refine sref03_Sealed.acalls (Nat.le_of_ble_eq_true rfl) (Nat.le_of_ble_eq_true rfl) (Nat.zero_le _) ?_
  show awp _ 0 _ _ ⟨17, [(0, eS s)], [], 16⟩
  refine awp_regc ⟨17, [(1, .pv (sC s))], [], 32⟩ rfl ?_ ?_
  · simp
    exact Le.snap [16] rfl rfl (by simp)
  refine awp_dregc ⟨17, [(2, .B (decide (s.sk = s.au ∧ s.sd.toList = (digS s).toList)))], [], 152⟩ rfl ?_ ?_
  · by_cases c : s.sk = s.au
    · have c' : (s.sk == s.au) = true := by simp [c]
      simp [c']
      refine call0e (ref03_Digest_ok s hs) (by simp) ?_
      simp
      exact ⟨rfl, Le.snap [] rfl rfl (by simp <;> exact wkB (by rw [Bool.eq_iff_iff]; simp [c]))⟩
    · have c' : (s.sk == s.au) = false := by simp [c]
      simp [c']
      exact ⟨rfl, Le.snap [] rfl rfl (by simp [c])⟩
  refine awp_ret ?_
  exact ⟨.inr rfl, RetOk.one (by simp)⟩
def Limited (s : Stm) : Prop := s.li.length ≤ 64 ∧ s.pi.length ≤ 64 ∧ s.bo.size ≤ 4096
def Formed (s : Stm) : Prop := (s.nu = 0 → s.pr.toList = []) ∧ (0 < s.nu → s.pr.size = 32) ∧ PinsOk s.pi
def Plainly (s : Stm) : Prop := s.ki ≤ 3 → s.li.length = 0 ∧ s.pi.length = 0 ∧ s.bo.toList = []
def KindR (s : Stm) : Prop := 1 ≤ s.ki ∧ (s.ki ≤ 3 ∨ 10 ≤ s.ki) ∧ s.ki ≤ 31
def AuR (s : Stm) : Prop := 0 ≤ s.au ∧ s.au < 64
def TiR (s : Stm) : Prop := 0 ≤ s.ti ∧ s.ti ≤ 2147483648
instance (s : Stm) : Decidable (AuR s) := by unfold AuR; infer_instance
instance (s : Stm) : Decidable (TiR s) := by unfold TiR; infer_instance
instance (s : Stm) : Decidable (KindR s) := by unfold KindR; infer_instance
instance (s : Stm) : Decidable (Limited s) := by unfold Limited; infer_instance
instance (s : Stm) : Decidable (Plainly s) := by unfold Plainly; infer_instance
def StOk (s : Stm) : Prop := AuR s ∧ KindR s ∧ TiR s ∧ NumOk s ∧ Limited s ∧ Formed s ∧ Plainly s
def errB : Bool → Bool → Bool → Bool → Bool → Bool → Bool → Int
  | false, _, _, _, _, _, _ => 4
  | _, false, _, _, _, _, _ => 5
  | _, _, false, _, _, _, _ => 9
  | _, _, _, false, _, _, _ => 2
  | _, _, _, _, false, _, _ => 3
  | _, _, _, _, _, false, _ => 1
  | _, _, _, _, _, _, false => 1
  | true, true, true, true, true, true, true => 0
open Classical in
set_option maxHeartbeats 2000000 in
set_option maxRecDepth 100000 in
theorem check_ok (s : Stm) (h1 : s.li.length ≤ 1000000) (h2 : s.pi.length ≤ 1000000) (b1 b2 b3 b4 b5 b6 b7 : Bool) (hb1 : b1 = decide (AuR s)) (hb2 : b2 = decide (KindR s)) (hb3 : b3 = decide (TiR s)) (hb4 : b4 = decide (NumOk s)) (hb5 : b5 = decide (Limited s)) (hb6 : b6 = decide (Formed s)) (hb7 : b7 = decide (Plainly s)) :
    ACalls Try.prog nref03_Check [eS s] [] (.I (errB b1 b2 b3 b4 b5 b6 b7)) [] := by
  refine sref03_Check.acalls (Nat.le_of_ble_eq_true rfl) (Nat.le_of_ble_eq_true rfl) (Nat.le_refl _) ?_
  show awp _ 0 _ _ ⟨100, [(0, eS s)], [], 16⟩
  refine awp_regc ⟨100, [(1, .pv (sC s))], [], 32⟩ rfl ?_ ?_
  · simp
    exact Le.snap [16] rfl rfl (by simp)
  refine awp_cut (ι := Unit) (fun _ => ⟨100, [], [], 1000⟩) (fun _ => b1 = true ∧ b2 = true ∧ b3 = true ∧ b4 = true ∧ b5 = true ∧ b6 = true ∧ b7 = true) ?_ ?_
  · refine awp_block ?_
    have k1 := ref03_key_ok s.au
    rw [show decide (0 ≤ s.au ∧ s.au < 64) = b1 by rw [hb1]; rfl] at k1
    refine awp_regc ⟨100, [(1, .pv (sC s)), (3, .B (!b1))], [], 72⟩ rfl ?_ ?_
    · simp
      refine call0e k1 rfl ?_
      simp
      exact Le.snap [] rfl rfl (by simp)
    refine awp_cond _ rfl (fun h => ?_) fun h => ?_
    · obtain rfl : b1 = false := by simpa using h
      refine awp_seq ?_
      refine awp_run (s := ?s1) rfl ?o1 ?q1
      case o1 => simp; rfl
      refine awp_ret ?_
      exact ⟨.inr rfl, RetOk.one (by simp [errB])⟩
    obtain rfl : b1 = true := by simpa using h
    clear h k1
    refine awp_regc ⟨100, [(1, .pv (sC s)), (8, .B (!b2))], [], 224⟩ rfl ?_ ?_
    · by_cases c1 : s.ki < 1
      · have e : b2 = false := by rw [hb2]; exact decide_eq_false fun hq => by have := hq.1; omega
        simp [c1, e]
        exact Le.snap [] rfl rfl (by simp)
      by_cases c2 : 3 < s.ki
      · by_cases c3 : s.ki < 10
        · have e : b2 = false := by rw [hb2]; exact decide_eq_false fun hq => by have := hq.2.1; omega
          simp [c1, c2, c3, e]
          exact Le.snap [] rfl rfl (by simp)
        · have e : b2 = decide (s.ki ≤ 31) := by
            rw [hb2, Bool.eq_iff_iff, decide_eq_true_eq, decide_eq_true_eq]
            exact ⟨fun hq => hq.2.2, fun hq => ⟨by omega, .inr (by omega), hq⟩⟩
          simp [c1, c2, c3, e]
          exact Le.snap [] rfl rfl (by simp <;> exact wkB (by rw [Bool.eq_iff_iff]; simp))
      · have e : b2 = true := by rw [hb2]; exact decide_eq_true ⟨by omega, .inl (by omega), by omega⟩
        have c4 : ¬ 31 < s.ki := by omega
        simp [c1, c2, c4, e]
        exact Le.snap [] rfl rfl (by simp)
    refine awp_cond _ rfl (fun h => ?_) fun h => ?_
    · obtain rfl : b2 = false := by simpa using h
      refine awp_seq ?_
      refine awp_run (s := ?s2) rfl ?o2 ?q2
      case o2 => simp; rfl
      refine awp_ret ?_
      exact ⟨.inr rfl, RetOk.one (by simp [errB])⟩
    obtain rfl : b2 = true := by simpa using h
    clear h
    have k3 := ref03_in_ok s.ti 2147483648
    rw [show decide (0 ≤ s.ti ∧ s.ti ≤ 2147483648) = b3 by rw [hb3]; rfl] at k3
    refine awp_regc ⟨100, [(1, .pv (sC s)), (27, .B (!b3))], [], 264⟩ rfl ?_ ?_
    · simp
      refine call0e k3 rfl ?_
      simp
      exact Le.snap [] rfl rfl (by simp)
    refine awp_cond _ rfl (fun h => ?_) fun h => ?_
    · obtain rfl : b3 = false := by simpa using h
      refine awp_seq ?_
      refine awp_run (s := ?s3) rfl ?o3 ?q3
      case o3 => simp; rfl
      refine awp_ret ?_
      exact ⟨.inr rfl, RetOk.one (by simp [errB])⟩
    obtain rfl : b3 = true := by simpa using h
    clear h k3
    have k4 := ref03_numbers_ok s h1
    rw [show decide (NumOk s) = b4 by rw [hb4]] at k4
    refine awp_regc ⟨100, [(1, .pv (sC s)), (32, .B (!b4))], [], 296⟩ rfl ?_ ?_
    · simp
      refine call0e k4 (by simp) ?_
      simp
      exact Le.snap [] rfl rfl (by simp)
    refine awp_cond _ rfl (fun h => ?_) fun h => ?_
    · obtain rfl : b4 = false := by simpa using h
      refine awp_seq ?_
      refine awp_run (s := ?s4) rfl ?o4 ?q4
      case o4 => simp; rfl
      refine awp_ret ?_
      exact ⟨.inr rfl, RetOk.one (by simp [errB])⟩
    obtain rfl : b4 = true := by simpa using h
    clear h k4
    refine awp_regc ⟨100, [(1, .pv (sC s)), (36, .B (!b5))], [], 432⟩ rfl ?_ ?_
    · by_cases c1 : (64 : Int) < s.li.length
      · have e : b5 = false := by rw [hb5]; exact decide_eq_false fun hq => by have := hq.1; omega
        simp [c1, e]
        exact Le.snap [] rfl rfl (by simp)
      by_cases c2 : (64 : Int) < s.pi.length
      · have e : b5 = false := by rw [hb5]; exact decide_eq_false fun hq => by have := hq.2.1; omega
        simp [c1, c2, e]
        exact Le.snap [] rfl rfl (by simp)
      · have e : b5 = decide (s.bo.size ≤ 4096) := by
          rw [hb5, Bool.eq_iff_iff, decide_eq_true_eq, decide_eq_true_eq]
          exact ⟨fun hq => hq.2.2, fun hq => ⟨by omega, by omega, hq⟩⟩
        simp [c1, c2, e]
        exact Le.snap [] rfl rfl (by simp <;> exact wkB (by rw [Bool.eq_iff_iff]; simp; omega))
    refine awp_cond _ rfl (fun h => ?_) fun h => ?_
    · obtain rfl : b5 = false := by simpa using h
      refine awp_seq ?_
      refine awp_run (s := ?s5) rfl ?o5 ?q5
      case o5 => simp; rfl
      refine awp_ret ?_
      exact ⟨.inr rfl, RetOk.one (by simp [errB])⟩
    obtain rfl : b5 = true := by simpa using h
    clear h
    obtain ⟨bp, hbp⟩ : ∃ bp, bp = decide (PinsOk s.pi) := ⟨_, rfl⟩
    have k6 := ref03_PinsOK_ok s.pi h2
    rw [← hbp] at k6
    obtain ⟨pb, hpb⟩ : ∃ pb, pb = s.pr.toList.isEmpty := ⟨_, rfl⟩
    have hpb' : pb = true ↔ s.pr.toList = [] := by rw [hpb]; exact List.isEmpty_iff
    refine awp_regc ⟨100, [(1, .pv (sC s)), (53, .B (!b6))], [], 640⟩ rfl ?_ ?_
    · by_cases c1 : s.nu = 0
      · have c1' : (s.nu == 0) = true := by simp [c1]
        have c2 : ¬ 0 < s.nu := by omega
        cases hpv : pb
        · have e : b6 = false := by rw [hb6]; exact decide_eq_false fun hq => by have := hpb'.2 (hq.1 c1); rw [hpv] at this; cases this
          simp [c1', ← hpb, hpv, e]
          exact Le.snap [] rfl rfl (by simp)
        · have e : b6 = bp := by
            rw [hb6, hbp, Bool.eq_iff_iff, decide_eq_true_eq, decide_eq_true_eq]
            exact ⟨fun hq => hq.2.2, fun hq => ⟨fun _ => hpb'.1 hpv, fun h => absurd h c2, hq⟩⟩
          simp [c1', ← hpb, hpv, e, c2]
          refine call0e k6 rfl ?_
          simp
          exact Le.snap [] rfl rfl (by simp)
      · have c1' : (s.nu == 0) = false := by simp [c1]
        by_cases c2 : 0 < s.nu
        · by_cases c3 : (s.pr.size : Int) = 32
          · have c3' : ((s.pr.size : Int) != 32) = false := by simp [c3]
            have e : b6 = bp := by
              rw [hb6, hbp, Bool.eq_iff_iff, decide_eq_true_eq, decide_eq_true_eq]
              exact ⟨fun hq => hq.2.2, fun hq => ⟨fun h => absurd h c1, fun _ => by omega, hq⟩⟩
            simp [c1', c2, c3', e]
            refine call0e k6 rfl ?_
            simp
            exact Le.snap [] rfl rfl (by simp)
          · have c3' : ((s.pr.size : Int) != 32) = true := by simp [c3]
            have e : b6 = false := by rw [hb6]; exact decide_eq_false fun hq => by have := hq.2.1 c2; omega
            simp [c1', c2, c3', e]
            exact Le.snap [] rfl rfl (by simp)
        · have e : b6 = bp := by
            rw [hb6, hbp, Bool.eq_iff_iff, decide_eq_true_eq, decide_eq_true_eq]
            exact ⟨fun hq => hq.2.2, fun hq => ⟨fun h => absurd h c1, fun h => absurd h c2, hq⟩⟩
          simp [c1', c2, e]
          refine call0e k6 rfl ?_
          simp
          exact Le.snap [] rfl rfl (by simp)
    refine awp_cond _ rfl (fun h => ?_) fun h => ?_
    · obtain rfl : b6 = false := by simpa using h
      refine awp_seq ?_
      refine awp_run (s := ?s6) rfl ?o6 ?q6
      case o6 => simp; rfl
      refine awp_ret ?_
      exact ⟨.inr rfl, RetOk.one (by simp [errB])⟩
    obtain rfl : b6 = true := by simpa using h
    clear h k6
    obtain ⟨ob, hob⟩ : ∃ ob, ob = s.bo.toList.isEmpty := ⟨_, rfl⟩
    have hob' : ob = true ↔ s.bo.toList = [] := by rw [hob]; exact List.isEmpty_iff
    refine awp_regc ⟨100, [(1, .pv (sC s)), (79, .B (!b7))], [], 808⟩ rfl ?_ ?_
    · by_cases c1 : s.ki ≤ 3
      · by_cases c2 : (0 : Int) < s.li.length
        · have e : b7 = false := by rw [hb7]; exact decide_eq_false fun hq => by have := (hq c1).1; omega
          simp only [Int.natCast_pos] at c2
          simp [c1, c2, e]
          exact Le.snap [] rfl rfl (by simp)
        by_cases c3 : (0 : Int) < s.pi.length
        · have e : b7 = false := by rw [hb7]; exact decide_eq_false fun hq => by have := (hq c1).2.1; omega
          simp only [Int.natCast_pos] at c2 c3
          simp [c1, c2, c3, e]
          exact Le.snap [] rfl rfl (by simp)
        · have e : b7 = ob := by
            rw [hb7, Bool.eq_iff_iff, decide_eq_true_eq, hob']
            exact ⟨fun hq => (hq c1).2.2, fun hq _ => ⟨by omega, by omega, hq⟩⟩
          simp only [Int.natCast_pos] at c2 c3
          simp [c1, c2, c3, e, ← hob]
          exact Le.snap [] rfl rfl (by simp)
      · have e : b7 = true := by rw [hb7]; exact decide_eq_true fun hq => absurd hq c1
        simp [c1, e]
        exact Le.snap [] rfl rfl (by simp)
    refine awp_cond _ rfl (fun h => ?_) fun h => awp_skip ?_
    · obtain rfl : b7 = false := by simpa using h
      refine awp_seq ?_
      refine awp_run (s := ?s7) rfl ?o7 ?q7
      case o7 => simp; rfl
      refine awp_ret ?_
      exact ⟨.inr rfl, RetOk.one (by simp [errB])⟩
    obtain rfl : b7 = true := by simpa using h
    exact ⟨(), ⟨rfl, rfl, rfl, rfl, rfl, rfl, rfl⟩, Le.snap [] rfl rfl (by simp)⟩
  · rintro _ ⟨rfl, rfl, rfl, rfl, rfl, rfl, rfl⟩
    refine awp_seq ?_
    refine awp_run (s := ?s9) rfl ?o9 ?q9
    case o9 => simp; rfl
    refine awp_ret ?_
    exact ⟨.inr rfl, RetOk.one (by simp [errB])⟩
theorem errB_zero {b1 b2 b3 b4 b5 b6 b7 : Bool} : errB b1 b2 b3 b4 b5 b6 b7 = 0 ↔ b1 = true ∧ b2 = true ∧ b3 = true ∧ b4 = true ∧ b5 = true ∧ b6 = true ∧ b7 = true := by
  cases b1 <;> cases b2 <;> cases b3 <;> cases b4 <;> cases b5 <;> cases b6 <;> cases b7 <;> simp [errB]
open Classical in
theorem ref03_Check_ok (s : Stm) (h1 : s.li.length ≤ 1000000) (h2 : s.pi.length ≤ 1000000) : ∃ e : Int, (e = 0 ↔ StOk s) ∧ ACalls Try.prog nref03_Check [eS s] [] (.I e) [] := by
  refine ⟨_, ?_, check_ok s h1 h2 _ _ _ _ _ _ _ rfl rfl rfl rfl rfl rfl rfl⟩
  rw [errB_zero]
  simp only [decide_eq_true_eq]
  rfl
end Go.Proofs.Ytnphfkceoklkkaa
namespace Go.Proofs.Ytnphfkceoklkkaa
open Go
set_option maxHeartbeats 1000000 in
theorem SamePins_refl (l : List Pn) (hl : l.length ≤ 1000000) : ACalls Try.prog nref03_SamePins [pns l, pns l] [] (.B true) [] := by
  refine sref03_SamePins.acalls (Nat.le_of_ble_eq_true rfl) (Nat.le_of_ble_eq_true rfl) (Nat.le_refl _) ?_
  show awp _ 0 _ _ ⟨26, [(0, pns l), (1, pns l)], [], 16⟩
  refine awp_regc ⟨26, [(0, pns l), (1, pns l)], [], 24⟩ rfl (by simp; exact Le.snap [] rfl rfl (by simp)) ?_
  refine awp_seq ?_
  refine awp_regc ⟨26, [(0, pns l), (1, pns l), (10, .B false)], [], 64⟩ rfl (by simp; exact Le.snap [] rfl rfl (by simp)) ?_
  refine awp_cond _ rfl (fun h => by cases h) fun _ => awp_skip ?_
  refine awp_seq ?_
  refine awp_regc ⟨26, [(0, pns l), (1, pns l), (5, .I (0 : Nat))], [], 72⟩ rfl (by simp; exact Le.snap [] rfl rfl (by simp)) ?_
  refine awp_block ?_
  refine awp_loop (ι := Nat) (fun k => ⟨26, [(0, pns l), (1, pns l), (5, .I k)], [], 72⟩) (fun k => k ≤ l.length) (fun k => l.length - k) 0 (Nat.zero_le _) (Le.refl _ _) ?_
  intro k hk
  refine awp_seq ?_
  refine awp_regc ⟨26, [(0, pns l), (1, pns l), (5, .I k), (14, .B (decide (k < l.length)))], [], 104⟩ rfl (by simp; exact Le.snap [] rfl rfl (by simp)) ?_
  refine awp_cond _ rfl (fun h => awp_skip ?_) fun h => awp_exit (hit ?_)
  · simp only [decide_eq_true_eq] at h
    have hg : l[k]? = some l[k] := List.getElem?_eq_getElem h
    generalize l[k] = p at *
    have hwk : IntKind.i64.wrap ((k : Int) + 1) = ((k + 1 : Nat) : Int) := by rw [w64 (by omega) (by omega)]; omega
    refine awp_cut (ι := Unit) (fun _ => ⟨26, [(0, pns l), (1, pns l), (5, .I k)], [], 200⟩) (fun _ => True) ?_ fun _ _ => ?_
    · refine awp_block ?_
      refine awp_dregc ⟨26, [(0, pns l), (1, pns l), (5, .I k), (25, .B false)], [], 176⟩ rfl ?_ ?_
      · simp [hg]
        exact ⟨rfl, Le.snap [] rfl rfl (by simp)⟩
      refine awp_cond _ rfl (fun h => by cases h) fun _ => awp_skip ?_
      exact ⟨(), trivial, Le.snap [] rfl rfl (by simp)⟩
    refine awp_reg rfl ?_
    simp [hwk]
    exact ⟨k + 1, by omega, by omega, Le.snap [] rfl rfl (by simp)⟩
  refine awp_seq ?_
  refine awp_run (s := ?s9) rfl ?o9 ?q9
  case o9 => simp; rfl
  refine awp_ret ?_
  exact ⟨.inr rfl, RetOk.one (by simp)⟩
set_option maxHeartbeats 2000000 in
set_option maxRecDepth 100000 in
theorem Same_refl (s : Stm) (h1 : s.li.length ≤ 1000000) (h2 : s.pi.length ≤ 1000000) : ACalls Try.prog nref03_Same [eS s, eS s] [] (.B true) [] := by
  refine sref03_Same.acalls (Nat.le_of_ble_eq_true rfl) (Nat.le_of_ble_eq_true rfl) (Nat.le_refl _) ?_
  show awp _ 0 _ _ ⟨87, [(0, eS s), (1, eS s)], [], 16⟩
  refine awp_regc ⟨87, [(2, .pv (sC s)), (3, .pv (sC s))], [], 40⟩ rfl ?_ ?_
  · simp
    exact Le.snap [16, 24] rfl rfl (by simp)
  refine awp_regc ⟨87, [(4, .B true)], [], 800⟩ rfl ?_ ?_
  · simp
    refine call0e (SameInts_ok s.li s.li (by omega)) rfl ?_
    simp
    refine call0e (SamePins_refl s.pi (by omega)) rfl ?_
    simp
    exact Le.snap [] rfl rfl (by simp)
  refine awp_ret ?_
  exact ⟨.inr rfl, RetOk.one (by simp)⟩
set_option maxHeartbeats 1000000 in
theorem SameList_refl (l : List Stm) (hl : l.length ≤ 1000000) (hb : ∀ s ∈ l, s.li.length ≤ 1000000 ∧ s.pi.length ≤ 1000000) : ACalls Try.prog nref03_SameList [sts l, sts l] [] (.B true) [] := by
  refine sref03_SameList.acalls (Nat.le_of_ble_eq_true rfl) (Nat.le_of_ble_eq_true rfl) (Nat.le_refl _) ?_
  show awp _ 0 _ _ ⟨27, [(0, sts l), (1, sts l)], [], 16⟩
  refine awp_regc ⟨27, [(0, sts l), (1, sts l)], [], 24⟩ rfl (by simp; exact Le.snap [] rfl rfl (by simp)) ?_
  refine awp_seq ?_
  refine awp_regc ⟨27, [(0, sts l), (1, sts l), (10, .B false)], [], 64⟩ rfl (by simp; exact Le.snap [] rfl rfl (by simp)) ?_
  refine awp_cond _ rfl (fun h => by cases h) fun _ => awp_skip ?_
  refine awp_seq ?_
  refine awp_regc ⟨27, [(0, sts l), (1, sts l), (5, .I (0 : Nat))], [], 72⟩ rfl (by simp; exact Le.snap [] rfl rfl (by simp)) ?_
  refine awp_block ?_
  refine awp_loop (ι := Nat) (fun k => ⟨27, [(0, sts l), (1, sts l), (5, .I k)], [], 72⟩) (fun k => k ≤ l.length) (fun k => l.length - k) 0 (Nat.zero_le _) (Le.refl _ _) ?_
  intro k hk
  refine awp_seq ?_
  refine awp_regc ⟨27, [(0, sts l), (1, sts l), (5, .I k), (14, .B (decide (k < l.length)))], [], 104⟩ rfl (by simp; exact Le.snap [] rfl rfl (by simp)) ?_
  refine awp_cond _ rfl (fun h => awp_skip ?_) fun h => awp_exit (hit ?_)
  · simp only [decide_eq_true_eq] at h
    have hg : l[k]? = some l[k] := List.getElem?_eq_getElem h
    have hbk := hb l[k] (List.getElem_mem h)
    generalize l[k] = p at *
    have hwk : IntKind.i64.wrap ((k : Int) + 1) = ((k + 1 : Nat) : Int) := by rw [w64 (by omega) (by omega)]; omega
    refine awp_cut (ι := Unit) (fun _ => ⟨27, [(0, sts l), (1, sts l), (5, .I k)], [], 200⟩) (fun _ => True) ?_ fun _ _ => ?_
    · refine awp_block ?_
      refine awp_dregc ⟨27, [(0, sts l), (1, sts l), (5, .I k), (26, .B false)], [], 184⟩ rfl ?_ ?_
      · simp [hg]
        refine call0e (Same_refl p hbk.1 hbk.2) (by simp) ?_
        simp
        exact ⟨rfl, Le.snap [] rfl rfl (by simp)⟩
      refine awp_cond _ rfl (fun h => by cases h) fun _ => awp_skip ?_
      exact ⟨(), trivial, Le.snap [] rfl rfl (by simp)⟩
    refine awp_reg rfl ?_
    simp [hwk]
    exact ⟨k + 1, by omega, by omega, Le.snap [] rfl rfl (by simp)⟩
  refine awp_seq ?_
  refine awp_run (s := ?s9) rfl ?o9 ?q9
  case o9 => simp; rfl
  refine awp_ret ?_
  exact ⟨.inr rfl, RetOk.one (by simp)⟩
def FollowsP (a b : Stm) : Prop := b.au = a.au ∧ b.nu = a.nu + 1 ∧ b.pr.toList = (digS a).toList ∧ a.ti ≤ b.ti
instance (a b : Stm) : Decidable (FollowsP a b) := by unfold FollowsP; infer_instance
set_option maxHeartbeats 1000000 in
set_option maxRecDepth 100000 in
theorem ref04_Follows_ok (a b : Stm) (hs : StB a) (hn : a.nu ≤ 1000000) (hn0 : -1 ≤ a.nu) : ACalls Try.prog nref04_Follows [eS a, eS b] [] (.B (decide (FollowsP a b))) [] := by
  refine sref04_Follows.acalls (Nat.le_of_ble_eq_true rfl) (Nat.le_of_ble_eq_true rfl) (Nat.le_refl _) ?_
  show awp _ 0 _ _ ⟨39, [(0, eS a), (1, eS b)], [], 16⟩
  refine awp_regc ⟨39, [(2, .pv (sC a)), (3, .pv (sC b))], [], 40⟩ rfl ?_ ?_
  · simp
    exact Le.snap [16, 24] rfl rfl (by simp)
  have hw : IntKind.i64.wrap (a.nu + 1) = a.nu + 1 := w64 (by omega) (by omega)
  obtain ⟨r, hr⟩ : ∃ r, r = decide (FollowsP a b) := ⟨_, rfl⟩
  rw [← hr]
  refine awp_dregc ⟨39, [(4, .B r)], [], 320⟩ rfl ?_ ?_
  · by_cases c1 : b.au = a.au
    · have c1' : (b.au == a.au) = true := by simp [c1]
      by_cases c2 : a.nu < b.nu
      · by_cases c3 : b.nu = a.nu + 1
        · have c3' : (b.nu == a.nu + 1) = true := by simp [c3]
          obtain ⟨d, hd⟩ : ∃ d, d = (b.pr.toList == (digS a).toList) := ⟨_, rfl⟩
          have hd' : d = true ↔ b.pr.toList = (digS a).toList := by rw [hd]; exact beq_iff_eq
          simp [c1', c2, hw, c3']
          refine call0e (ref03_Digest_ok a hs) (by simp) ?_
          cases d
          · have e : r = false := by rw [hr]; exact decide_eq_false fun hq => by have := hd'.2 hq.2.2.1; cases this
            simp [← hd, e]
            exact ⟨rfl, Le.snap [] rfl rfl (by simp)⟩
          · have e : r = decide (a.ti ≤ b.ti) := by
              rw [hr, Bool.eq_iff_iff, decide_eq_true_eq, decide_eq_true_eq]
              exact ⟨fun hq => hq.2.2.2, fun hq => ⟨c1, c3, hd'.1 rfl, hq⟩⟩
            simp [← hd, e]
            exact ⟨rfl, Le.snap [] rfl rfl (by simp)⟩
        · have c3' : (b.nu == a.nu + 1) = false := by simp [c3]
          have e : r = false := by rw [hr]; exact decide_eq_false fun hq => c3 hq.2.1
          simp [c1', c2, hw, c3', e]
          exact ⟨rfl, Le.snap [] rfl rfl (by simp)⟩
      · have e : r = false := by rw [hr]; exact decide_eq_false fun hq => by have := hq.2.1; omega
        simp [c1', c2, e]
        exact ⟨rfl, Le.snap [] rfl rfl (by simp)⟩
    · have c1' : (b.au == a.au) = false := by simp [c1]
      have e : r = false := by rw [hr]; exact decide_eq_false fun hq => c1 hq.1
      simp [c1', e]
      exact ⟨rfl, Le.snap [] rfl rfl (by simp)⟩
  refine awp_ret ?_
  exact ⟨.inr rfl, RetOk.one (by simp)⟩
end Go.Proofs.Ytnphfkceoklkkaa
namespace Go.Proofs.Ytnphfkceoklkkaa
open Go
structure StAt (au : Int) (i : Nat) (s : Stm) : Prop where
  ok : StOk s
  b : StB s
  au_ : s.au = au
  nu_ : s.nu = i
  sk_ : s.sk = s.au
  sd_ : s.sd.toList = (digS s).toList
structure StNx (a b : Stm) : Prop where
  pr_ : b.pr.toList = (digS a).toList
  ti_ : a.ti ≤ b.ti
  ki_ : a.ki ≠ 3
def Chain (au : Int) (l : List Stm) : Prop := (∀ i (h : i < l.length), StAt au i l[i]) ∧ ∀ i (h : i + 1 < l.length), StNx l[i] l[i + 1]
theorem sts_flat (l : List Stm) (ρ sn h m) : (l.map sC).map (List.map (conv ρ sn h (m + 1))) = l.map sC := by simp [Function.comp_def]
theorem Le.Z1 {st st' : St} {z : Nat} {X : List (List AV)} (hflat : ∀ ρ sn h m, X.map (List.map (conv ρ sn h (m + 1))) = X) (i j : Nat) (sn : List Nat) (hsz : st'.sz = st.sz) (hh : st'.h = [(j, some ⟨z, X, 0⟩)]) (hi : j < st'.n) (hs : ∀ j ∈ sn, j ≠ i) (h0 : st.hp i = some ⟨z, X, 0⟩)
    (ht : ∀ p ∈ st'.t, Wk (conv [(i, j)] sn st.hp 4 (st.get p.1)) p.2) : Le 0 st st' :=
  Le.ren1 i j sn hsz hh hi hs h0 (by simp only [convE, hflat]) (Nat.zero_le _) ht
set_option maxHeartbeats 4000000 in
set_option maxRecDepth 100000 in
theorem Own_chain (au : Int) (l : List Stm) (hc : Chain au l) (hl : l.length ≤ 1000) : ACalls Try.prog nref04_Own [.I au, sts l] [] (.rs 0 0 l.length) [some ⟨13, l.map sC, 0⟩] := by
  refine sref04_Own.acalls (Nat.le_of_ble_eq_true rfl) (Nat.le_of_ble_eq_true rfl) (Nat.zero_le _) ?_
  show awp _ 0 _ _ ⟨96, [(0, .I au), (1, sts l)], [], 16⟩
  refine awp_regc ⟨96, [(0, .I au), (1, sts l)], [], 24⟩ rfl (by simp; exact Le.snap [] rfl rfl (by simp)) ?_
  refine awp_regc ⟨96, [(0, .I au), (1, sts l), (5, .sc (.slice none 0 0))], [], 32⟩ rfl (by simp; exact Le.snap [] rfl rfl (by simp)) ?_
  refine awp_seq ?_
  refine awp_regc ⟨96, [(0, .I au), (1, sts l), (5, .sc (.slice none 0 0)), (6, .I (0 : Nat))], [], 40⟩ rfl (by simp; exact Le.snap [] rfl rfl (by simp)) ?_
  let Y : Nat → List (List AV) := fun i => (l.take i).map sC
  have hYl : ∀ i, i ≤ l.length → (Y i).length = i := fun i hi => by simp [Y]; omega
  have hYf : ∀ i ρ sn h m, (Y i).map (List.map (conv ρ sn h (m + 1))) = Y i := fun i => sts_flat _
  have hYs : ∀ i (h : i < l.length), Y (i + 1) = Y i ++ [sC l[i]] := fun i h => by
    simp only [Y]
    rw [List.take_succ_eq_append_getElem h, List.map_append]
    rfl
  have hYg : ∀ i k (h : k < l.length), k < i → (Y i)[k]? = some (sC l[k]) := fun i k h hk => by
    simp only [Y]
    rw [List.getElem?_map, List.getElem?_take, if_pos hk, List.getElem?_eq_getElem h]
    rfl
  have hYn : Y l.length = l.map sC := by simp only [Y]; rw [List.take_length]
  have hY0 : Y 0 = [] := rfl
  clear_value Y
  refine awp_block ?_
  refine awp_loop (ι := Nat) (fun i => ⟨96, [(0, .I au), (1, sts l), (5, .rs 16 0 i), (6, .I i)], [(16, some ⟨13, Y i, 0⟩)], 40⟩) (fun i => i ≤ l.length) (fun i => l.length - i) 0 (Nat.zero_le _) (Le.lst [] [] [(16, 13)] rfl (by simp) (by simp) (by simp) (by simp) (by simp) (by simp) (by simp) (by simp [Up]) (by simp [hY0])) ?_
  intro i hi
  refine awp_seq ?_
  refine awp_regc ⟨96, [(0, .I au), (1, sts l), (5, .rs 16 0 i), (6, .I i), (12, .B (decide (i < l.length)))], [(16, some ⟨13, Y i, 0⟩)], 72⟩ rfl ?_ ?_
  · simp
    exact Le.keep rfl (Nat.le_refl _) (by simp) (by simp)
  refine awp_cond _ rfl (fun h => awp_skip ?_) fun h => awp_exit (hit ?_)
  · simp only [decide_eq_true_eq] at h
    refine awp_cut (ι := Unit) (fun _ => ⟨96, [(0, .I au), (1, sts l), (5, .rs 16 0 (i + 1)), (6, .I i)], [(16, some ⟨13, Y (i + 1), 0⟩)], 800⟩) (fun _ => True) ?_ fun _ _ => ?_
    · have hat := hc.1 i h
      have hg : l[i]? = some l[i] := List.getElem?_eq_getElem h
      have hkth : ∀ k, k < i → ∃ p : Stm, (Y i)[k]? = some (sC p) ∧ p.nu = k := fun k hk => ⟨l[k]'(by omega), hYg i k (by omega) hk, (hc.1 k (by omega)).nu_⟩
      rw [hYs i h]
      generalize l[i] = s at *
      obtain ⟨hok, hsb, hau, hnu, hsk, hsd⟩ := hat
      obtain ⟨e, he0, hchk⟩ := ref03_Check_ok s (by have := hsb.2.2.1; omega) (by have := hsb.2.2.2.1; omega)
      obtain rfl : e = 0 := he0.2 hok
      have hsl := ref03_Sealed_ok s hsb
      rw [decide_eq_true (show s.sk = s.au ∧ s.sd.toList = (digS s).toList from ⟨hsk, hsd⟩)] at hsl
      have hcp := ref03_Copy_ok s (by have := hsb.2.2.1; omega) (by have := hsb.2.2.2.1; omega)
      have hXl := hYl i hi
      have hXf := hYf i
      generalize Y i = X at *
      have haue : (s.au != au) = false := by simp [hau]
      refine awp_block ?_
      refine awp_regc ⟨96, [(0, .I au), (1, sts l), (5, .rs 16 0 i), (6, .I i), (7, .pv (sC s))], [(16, some ⟨13, X, 0⟩)], 120⟩ rfl ?_ ?_
      · simp [hg, splice]
        exact Le.Z1 hXf 16 16 [104] rfl rfl (by simp) (by simp) rfl (by simp)
      refine awp_seq ?_
      refine awp_regc ⟨96, [(0, .I au), (1, sts l), (5, .rs 16 0 i), (6, .I i), (7, .pv (sC s)), (32, .B false)], [(16, some ⟨13, X, 0⟩)], 232⟩ rfl ?_ ?_
      · simp [haue]
        refine call0e hchk (by simp) ?_
        simp
        refine call0e hsl (by simp) ?_
        simp
        exact Le.keep rfl (Nat.le_refl _) (by simp) (by simp)
      refine awp_cond _ rfl (fun h => by cases h) fun _ => awp_skip ?_
      refine awp_regc ⟨96, [(0, .I au), (1, sts l), (5, .rs 16 0 i), (6, .I i), (7, .pv (sC s)), (8, .I (0 : Nat))], [(16, some ⟨13, X, 0⟩)], 240⟩ rfl ?_ ?_
      · simp
        exact Le.keep rfl (Nat.le_refl _) (by simp) (by simp)
      refine awp_seq ?_
      refine awp_block ?_
      refine awp_loop (ι := Nat) (fun k => ⟨96, [(0, .I au), (1, sts l), (5, .rs 16 0 i), (6, .I i), (7, .pv (sC s)), (8, .I k)], [(16, some ⟨13, X, 0⟩)], 240⟩) (fun k => k ≤ i) (fun k => i - k) 0 (Nat.zero_le _) (Le.refl _ _) ?_
      intro k hk
      refine awp_seq ?_
      refine awp_dregc ⟨96, [(0, .I au), (1, sts l), (5, .rs 16 0 i), (6, .I i), (7, .pv (sC s)), (8, .I k), (68, .B (decide (k < i)))], [(16, some ⟨13, X, 0⟩)], 528⟩ rfl ?_ ?_
      · by_cases hki : k < i
        · obtain ⟨p, hp1, hp2⟩ := hkth k hki
          have hlt : p.nu < s.nu := by omega
          simp [hki, hp1, hlt]
          exact ⟨rfl, Le.keep rfl (Nat.le_refl _) (by simp) (by simp)⟩
        · simp [hki]
          exact ⟨rfl, Le.keep rfl (Nat.le_refl _) (by simp) (by simp)⟩
      refine awp_cond _ rfl (fun h4 => awp_skip ?_) fun h4 => awp_exit (hit ?_)
      · simp only [decide_eq_true_eq] at h4
        have hwk : IntKind.i64.wrap ((k : Int) + 1) = ((k + 1 : Nat) : Int) := by rw [w64 (by omega) (by omega)]; omega
        refine awp_block ?_
        refine awp_reg rfl ?_
        simp [hwk]
        exact ⟨k + 1, by omega, by omega, Le.Z1 hXf 16 16 [] rfl rfl (by simp) (by simp) rfl (by simp)⟩
      simp only [decide_eq_false_iff_not] at h4
      obtain rfl : k = i := by omega
      refine awp_seq ?_
      refine awp_dregc ⟨96, [(0, .I au), (1, sts l), (5, .rs 16 0 k), (6, .I k), (7, .pv (sC s)), (8, .I k), (82, .B false)], [(16, some ⟨13, X, 0⟩)], 624⟩ rfl ?_ ?_
      · simp
        exact ⟨rfl, Le.keep rfl (Nat.le_refl _) (by simp) (by simp)⟩
      refine awp_cond _ rfl (fun h => by cases h) fun _ => awp_skip ?_
      have htk : List.take k X = X := List.take_of_length_le (by omega)
      have hdr : List.drop k X = [] := List.drop_eq_nil_of_le (by omega)
      have hXf2 : ∀ ρ sn h m, (X ++ [sC s]).map (List.map (conv ρ sn h (m + 1))) = X ++ [sC s] := fun ρ sn h m => by rw [List.map_append, hXf]; simp
      refine awp_drw rfl ?_
      simp [hXl, htk, hdr]
      refine ⟨by omega, by omega, ?_⟩
      refine call0e hcp (by simp) ?_
      simp [hXl, htk, hdr]
      repeat' apply And.intro
      all_goals first | omega | rfl | exact Le.Z1 hXf2 712 16 [] rfl rfl (by simp) (by simp) (by simp [htk, hXl] <;> exact List.take_of_length_le (by simp [hXl])) (by simp)
    have hwi : IntKind.i64.wrap ((i : Int) + 1) = ((i + 1 : Nat) : Int) := by rw [w64 (by omega) (by omega)]; omega
    refine awp_reg rfl ?_
    simp [hwi]
    exact ⟨i + 1, by omega, by omega, Le.Z1 (hYf (i + 1)) 16 16 [] rfl rfl (by simp) (by simp) rfl (by simp)⟩
  simp only [decide_eq_false_iff_not] at h
  obtain rfl : i = l.length := by omega
  rw [hYn]
  refine awp_seq ?_
  refine awp_run (s := ?z9) rfl ?p9 ?r9
  case p9 => simp; rfl
  refine awp_ret ?_
  exact ⟨.inr rfl, RetOk.out [16] [] rfl (by simp) (by simp) (by simp) (by simp [Function.comp_def])⟩
set_option maxHeartbeats 4000000 in
set_option maxRecDepth 100000 in
theorem Counted_chain (au : Int) (l : List Stm) (hc : Chain au l) (hl : l.length ≤ 1000) : ACalls Try.prog nref04_Counted [.I au, sts l] [] (.rs 0 0 l.length) [some ⟨13, l.map sC, 0⟩] := by
  refine sref04_Counted.acalls (Nat.le_of_ble_eq_true rfl) (Nat.le_of_ble_eq_true rfl) (Nat.zero_le _) ?_
  show awp _ 0 _ _ ⟨76, [(0, .I au), (1, sts l)], [], 16⟩
  refine awp_regc ⟨76, [(0, .I au), (1, sts l)], [], 24⟩ rfl (by simp; exact Le.snap [] rfl rfl (by simp)) ?_
  refine awp_regc ⟨76, [(5, sts l)], [], 56⟩ rfl ?_ ?_
  · simp
    refine callN1 (Own_chain au l hc hl) rfl ?_
    simp [Function.comp_def]
    exact Le.snap [40] rfl rfl (by simp [Function.comp_def]; exact wkE (congrArg _ (List.take_of_length_le (by simp))))
  refine awp_regc ⟨76, [(5, sts l), (6, .sc (.slice none 0 0))], [], 64⟩ rfl (by simp; exact Le.snap [] rfl rfl (by simp)) ?_
  refine awp_seq ?_
  refine awp_regc ⟨76, [(5, sts l), (6, .sc (.slice none 0 0)), (7, .I (0 : Nat))], [], 72⟩ rfl (by simp; exact Le.snap [] rfl rfl (by simp)) ?_
  let Y : Nat → List (List AV) := fun i => (l.take i).map sC
  have hYl : ∀ i, i ≤ l.length → (Y i).length = i := fun i hi => by simp [Y]; omega
  have hYf : ∀ i ρ sn h m, (Y i).map (List.map (conv ρ sn h (m + 1))) = Y i := fun i => sts_flat _
  have hYs : ∀ i (h : i < l.length), Y (i + 1) = Y i ++ [sC l[i]] := fun i h => by
    simp only [Y]
    rw [List.take_succ_eq_append_getElem h, List.map_append]
    rfl
  have hYg : ∀ i k (h : k < l.length), k < i → (Y i)[k]? = some (sC l[k]) := fun i k h hk => by
    simp only [Y]
    rw [List.getElem?_map, List.getElem?_take, if_pos hk, List.getElem?_eq_getElem h]
    rfl
  have hYn : Y l.length = l.map sC := by simp only [Y]; rw [List.take_length]
  have hY0 : Y 0 = [] := rfl
  clear_value Y
  refine awp_block ?_
  refine awp_loop (ι := Nat) (fun i => ⟨76, [(5, sts l), (6, .rs 16 0 i), (7, .I i)], [(16, some ⟨13, Y i, 0⟩)], 72⟩) (fun i => i ≤ l.length) (fun i => l.length - i) 0 (Nat.zero_le _) (Le.lst [] [] [(16, 13)] rfl (by simp) (by simp) (by simp) (by simp) (by simp) (by simp) (by simp) (by simp [Up]) (by simp [hY0])) ?_
  intro i hi
  refine awp_seq ?_
  refine awp_regc ⟨76, [(5, sts l), (6, .rs 16 0 i), (7, .I i), (15, .B (decide (i < l.length)))], [(16, some ⟨13, Y i, 0⟩)], 104⟩ rfl ?_ ?_
  · simp
    exact Le.keep rfl (Nat.le_refl _) (by simp) (by simp)
  refine awp_cond _ rfl (fun h => awp_skip ?_) fun h => awp_exit (hit ?_)
  · simp only [decide_eq_true_eq] at h
    refine awp_cut (ι := Unit) (fun _ => ⟨76, [(5, sts l), (6, .rs 16 0 (i + 1)), (7, .I i)], [(16, some ⟨13, Y (i + 1), 0⟩)], 800⟩) (fun _ => True) ?_ fun _ _ => ?_
    · have hat := hc.1 i h
      have hg : l[i]? = some l[i] := List.getElem?_eq_getElem h
      have hnx : i + 1 < l.length → ∃ p : Stm, l[i + 1]? = some p ∧ p.nu = i + 1 := fun hk => ⟨l[i + 1], List.getElem?_eq_getElem hk, by have := (hc.1 (i + 1) hk).nu_; omega⟩
      have hpv : ∀ j, i = j + 1 → ∃ p : Stm, (Y i)[j]? = some (sC p) ∧ p.ki ≠ 3 ∧ StB p ∧ p.nu = j ∧ FollowsP p l[i] := fun j hj => by
        subst hj
        have h1 := hc.1 j (by omega)
        have h2 := hc.2 j h
        have h3 := hc.1 (j + 1) h
        exact ⟨l[j]'(by omega), hYg _ j (by omega) (by omega), h2.ki_, h1.b, h1.nu_, by rw [h3.au_, h1.au_], by rw [h3.nu_, h1.nu_]; rfl, h2.pr_, h2.ti_⟩
      rw [hYs i h]
      generalize l[i] = s at *
      have hnu := hat.nu_
      have hXl := hYl i hi
      have hXf := hYf i
      generalize Y i = X at *
      have hnue : (s.nu != (i : Int)) = false := by simp [hnu]
      refine awp_block ?_
      refine awp_regc ⟨76, [(5, sts l), (6, .rs 16 0 i), (7, .I i), (8, .I i)], [(16, some ⟨13, X, 0⟩)], 128⟩ rfl ?_ ?_
      · simp
        exact Le.keep rfl (Nat.le_refl _) (by simp) (by simp)
      refine awp_seq ?_
      refine awp_regc ⟨76, [(5, sts l), (6, .rs 16 0 i), (7, .I i), (8, .I i), (43, .B false)], [(16, some ⟨13, X, 0⟩)], 320⟩ rfl ?_ ?_
      · obtain ⟨i1, hi1⟩ : ∃ i1, i1 = i + 1 := ⟨_, rfl⟩
        have hw1 : IntKind.i64.wrap ((i : Int) + 1) = (i1 : Int) := by rw [w64 (by omega) (by omega)]; omega
        by_cases hk : i1 < l.length
        · obtain ⟨p, hp1, hp2⟩ := hnx (by omega)
          rw [← hi1] at hp1
          have hpe : (p.nu == (i : Int)) = false := by simp; omega
          obtain ⟨_, hp1'⟩ := List.getElem?_eq_some_iff.1 hp1
          simp [hg, hnue, hw1, hk, hp1', hpe]
          exact Le.keep rfl (Nat.le_refl _) (by simp) (by simp)
        · simp [hg, hnue, hw1, hk]
          exact Le.keep rfl (Nat.le_refl _) (by simp) (by simp)
      refine awp_cond _ rfl (fun h => by cases h) fun _ => awp_skip ?_
      refine awp_seq ?_
      refine awp_dregc ⟨76, [(5, sts l), (6, .rs 16 0 i), (7, .I i), (8, .I i), (67, .B false)], [(16, some ⟨13, X, 0⟩)], 512⟩ rfl ?_ ?_
      · rcases Nat.eq_zero_or_pos i with rfl | hi0
        · simp
          exact ⟨rfl, Le.keep rfl (Nat.le_refl _) (by simp) (by simp)⟩
        · obtain ⟨j, hj⟩ : ∃ j, i = j + 1 := ⟨i - 1, by omega⟩
          obtain ⟨p, hp1, hp2, hp3, hp4, hp5⟩ := hpv j hj
          have hwj : IntKind.i64.wrap ((i : Int) - 1) = (j : Int) := by rw [w64 (by omega) (by omega)]; omega
          have hfo := ref04_Follows_ok p s hp3 (by omega) (by omega)
          rw [decide_eq_true hp5] at hfo
          have hpk : (p.ki == 3) = false := by simp [hp2]
          have hji : j < i := by omega
          simp [hi0, hwj, hji, hp1, hg]
          refine call0e hfo (by simp) ?_
          simp [hwj, hji, hp1, hpk]
          exact ⟨rfl, Le.keep rfl (Nat.le_refl _) (by simp) (by simp)⟩
      refine awp_cond _ rfl (fun h => by cases h) fun _ => awp_skip ?_
      have htk : List.take i X = X := List.take_of_length_le (by omega)
      have hXf2 : ∀ ρ sn h m, (X ++ [sC s]).map (List.map (conv ρ sn h (m + 1))) = X ++ [sC s] := fun ρ sn h m => by rw [List.map_append, hXf]; simp
      refine awp_reg rfl ?_
      simp [hXl, htk, hg]
      repeat' apply And.intro
      all_goals first | omega | exact Le.Z1 hXf2 560 16 [] rfl rfl (by simp) (by simp) (by simp [htk, hXl]) (by simp)
    have hwi : IntKind.i64.wrap ((i : Int) + 1) = ((i + 1 : Nat) : Int) := by rw [w64 (by omega) (by omega)]; omega
    refine awp_reg rfl ?_
    simp [hwi]
    exact ⟨i + 1, by omega, by omega, Le.Z1 (hYf (i + 1)) 16 16 [] rfl rfl (by simp) (by simp) rfl (by simp)⟩
  simp only [decide_eq_false_iff_not] at h
  obtain rfl : i = l.length := by omega
  rw [hYn]
  refine awp_seq ?_
  refine awp_run (s := ?z9) rfl ?p9 ?r9
  case p9 => simp; rfl
  refine awp_ret ?_
  exact ⟨.inr rfl, RetOk.out [16] [] rfl (by simp) (by simp) (by simp) (by simp [Function.comp_def])⟩
end Go.Proofs.Ytnphfkceoklkkaa
namespace Go.Proofs.Ytnphfkceoklkkaa
open Go
abbrev noB : ByteArray := ⟨#[]⟩
def zS : Stm := ⟨0, 0, noB, 0, 0, 0, 0, 0, [], [], noB, 0, noB⟩
abbrev zC : List AV := [.I 0, .I 0, .sc (.string noB), .I 0, .I 0, .I 0, .I 0, .I 0, .sc (.slice none 0 0), .sc (.slice none 0 0), .sc (.string noB), .I 0, .sc (.string noB)]
theorem zWk : Wk (.agg zC) (eS zS) :=
  .agg _ _ rfl fun i => match i with
    | 0 => .refl _ | 1 => .refl _ | 2 => .refl _ | 3 => .refl _ | 4 => .refl _ | 5 => .refl _ | 6 => .refl _ | 7 => .refl _
    | 8 => .nil _ _ | 9 => .nil _ _ | 10 => .refl _ | 11 => .refl _ | 12 => .refl _ | _ + 13 => .refl _
def prevD (l : List Stm) : ByteArray := match l.getLast? with | none => noB | some p => digS p
def nx0 (au : Int) (l : List Stm) (s : Stm) : Stm := { s with au := au, nu := l.length, pr := prevD l }
def nx (au : Int) (l : List Stm) (s : Stm) : Stm := { nx0 au l s with sk := au, sd := digS (nx0 au l s) }
def BadT (l : List Stm) (s : Stm) : Prop := ∃ p, l.getLast? = some p ∧ s.ti < p.ti
def BadK (l : List Stm) : Prop := ∃ p, l.getLast? = some p ∧ p.ki = 3
set_option maxHeartbeats 4000000 in
set_option maxRecDepth 100000 in
theorem next_ok (au : Int) (l : List Stm) (s : Stm) (hc : Chain au l) (hl : l.length ≤ 1000) (hs : StB s) (eC e : Int) (x : Stm) (hchk : ACalls Try.prog nref03_Check [eS (nx au l s)] [] (.I eC) [])
    (h9 : BadT l s → e = 9 ∧ x = zS) (h5 : ¬ BadT l s → BadK l → e = 5 ∧ x = zS) (h0 : ¬ BadT l s → ¬ BadK l → e = eC ∧ (eC = 0 → x = nx au l s) ∧ (eC ≠ 0 → x = zS)) :
    ACalls Try.prog nref04_Next [.I au, sts l, eS s] [] (.tup [eS x, .I e]) [] := by
  refine sref04_Next.acalls (Nat.le_of_ble_eq_true rfl) (Nat.le_of_ble_eq_true rfl) (Nat.zero_le _) ?_
  show awp _ 0 _ _ ⟨62, [(0, .I au), (1, sts l), (2, eS s)], [], 16⟩
  have hb3 := hs.2.2.1
  have hb4 := hs.2.2.2.1
  refine awp_regc ⟨62, [(0, .I au), (1, sts l), (5, .pt 16 0 0), (6, .pt 24 0 0)], [(16, some ⟨13, [sC s], 0⟩), (24, some ⟨13, [zC], 0⟩)], 40⟩ rfl ?_ ?_
  · simp
    exact Le.keep rfl (Nat.le_refl _) (by simp) (by simp)
  refine awp_seq ?_
  refine awp_regc ⟨62, [(0, .I au), (1, sts l), (5, .pt 16 0 0), (6, .pt 24 0 0), (21, .B false)], [(16, some ⟨13, [sC s], 0⟩), (24, some ⟨13, [zC], 0⟩)], 128⟩ rfl ?_ ?_
  · by_cases hl0 : 0 < l.length
    · have hsl := SameList_refl l (by omega) fun y hy => by
        obtain ⟨i, hi, rfl⟩ := List.mem_iff_getElem.1 hy
        have := (hc.1 i hi).b
        have h1 := this.2.2.1
        have h2 := this.2.2.2.1
        exact ⟨by omega, by omega⟩
      have htk : List.take l.length (l.map sC) = l.map sC := List.take_of_length_le (by simp)
      simp [hl0]
      refine callN1 (Counted_chain au l hc hl) rfl ?_
      simp [Function.comp_def]
      refine call0s [88] hsl (by simp [Function.comp_def]; exact htk) (.sc _) ?_
      simp
      exact Le.keep rfl (Nat.le_refl _) (by simp) (by simp)
    · simp [hl0]
      exact Le.keep rfl (Nat.le_refl _) (by simp) (by simp)
  refine awp_cond _ rfl (fun h => by cases h) fun _ => awp_skip ?_
  refine awp_regc ⟨62, [(0, .I au), (1, sts l), (5, .pt 16 0 0), (6, .pt 24 0 0)], [(16, some ⟨13, [sC s], 0⟩), (24, some ⟨13, [zC], 0⟩)], 152⟩ rfl ?_ ?_
  · simp
    refine call0e (ref03_Copy_ok s (by omega) (by omega)) (by simp) ?_
    simp [splice]
    exact Le.keep rfl (Nat.le_refl _) (by simp) (by simp)
  obtain ⟨s1, hs1⟩ : ∃ s1 : Stm, s1 = { s with au := au, nu := 0, pr := noB } := ⟨_, rfl⟩
  refine awp_regc ⟨62, [(0, .I au), (1, sts l), (5, .pt 16 0 0), (6, .pt 24 0 0)], [(16, some ⟨13, [sC s1], 0⟩), (24, some ⟨13, [zC], 0⟩)], 208⟩ rfl ?_ ?_
  · simp [splice]
    exact Le.keep rfl (Nat.le_refl _) (by simp) (by simp [hs1])
  obtain ⟨s2, hs2⟩ : ∃ s2 : Stm, s2 = nx0 au l s := ⟨_, rfl⟩
  have hok : ∀ v, RetOk [(6, some (true, 13)), (7, none)] 0 v (.tup [eS x, .I e]) [] → RetOk [(6, some (true, 13)), (7, none)] 0 v (.tup [eS x, .I e]) [] := fun _ h => h
  refine awp_cut (ι := Unit) (fun _ => ⟨62, [(5, .pt 16 0 0), (6, .pt 24 0 0)], [(16, some ⟨13, [sC s2], 0⟩), (24, some ⟨13, [zC], 0⟩)], 500⟩) (fun _ => ¬ BadT l s ∧ ¬ BadK l) ?_ ?_
  · refine awp_regc ⟨62, [(0, .I au), (1, sts l), (5, .pt 16 0 0), (6, .pt 24 0 0), (8, .I l.length)], [(16, some ⟨13, [sC s1], 0⟩), (24, some ⟨13, [zC], 0⟩)], 232⟩ rfl ?_ ?_
    · simp
      exact Le.keep rfl (Nat.le_refl _) (by simp) (by simp)
    refine awp_regc ⟨62, [(0, .I au), (1, sts l), (5, .pt 16 0 0), (6, .pt 24 0 0), (8, .I l.length), (32, .B (decide (0 < l.length)))], [(16, some ⟨13, [sC s1], 0⟩), (24, some ⟨13, [zC], 0⟩)], 248⟩ rfl ?_ ?_
    · simp
      exact Le.keep rfl (Nat.le_refl _) (by simp) (by simp)
    refine awp_cond _ rfl (fun h => ?_) fun h => awp_skip ?_
    · simp only [decide_eq_true_eq] at h
      obtain ⟨j, hj⟩ : ∃ j, l.length = j + 1 := ⟨l.length - 1, by omega⟩
      have hjl : j < l.length := by omega
      obtain ⟨p, hp⟩ : ∃ p, l[j] = p := ⟨_, rfl⟩
      have hpg : l[j]? = some p := by rw [List.getElem?_eq_getElem hjl, hp]
      have hlast : l.getLast? = some p := by rw [List.getLast?_eq_getElem?, hj]; exact hpg
      have hpb : StB p := by rw [← hp]; exact (hc.1 j hjl).b
      have hwj : IntKind.i64.wrap ((l.length : Int) - 1) = (j : Int) := by rw [w64 (by omega) (by omega)]; omega
      refine awp_regc ⟨62, [(1, sts l), (5, .pt 16 0 0), (6, .pt 24 0 0), (8, .I l.length), (9, .pv (sC p))], [(16, some ⟨13, [sC s1], 0⟩), (24, some ⟨13, [zC], 0⟩)], 304⟩ rfl ?_ ?_
      · simp [hwj, hpg, splice]
        refine Le.ents [(16, 16), (24, 24)] [288] rfl (by simp) (by simp) (by simp) (by simp) (by simp) (by simp) fun q hq => ?_
        simp at hq
        rcases hq with rfl | rfl
        · exact ⟨16, _, _, rfl, by simp, rfl, EntUp.eq (by simp) (by simp)⟩
        · exact ⟨24, _, _, rfl, by simp, rfl, EntUp.eq (by simp) (by simp)⟩
      refine awp_seq ?_
      refine awp_regc ⟨62, [(1, sts l), (5, .pt 16 0 0), (6, .pt 24 0 0), (8, .I l.length), (9, .pv (sC p)), (42, .B (decide (s.ti < p.ti)))], [(16, some ⟨13, [sC s1], 0⟩), (24, some ⟨13, [zC], 0⟩)], 344⟩ rfl ?_ ?_
      · simp
        exact Le.keep rfl (Nat.le_refl _) (by simp [hs1]) (by simp)
      refine awp_cond _ rfl (fun h => ?_) fun h => awp_skip ?_
      · simp only [decide_eq_true_eq] at h
        obtain ⟨rfl, rfl⟩ := h9 ⟨p, hlast, h⟩
        refine awp_seq ?_
        refine awp_run (s := ?t1) rfl ?o1 ?q1
        case o1 => simp [splice]; rfl
        refine awp_ret ?_
        refine ⟨.inr rfl, hok _ (RetOk.out (vs := [.agg zC, .I 9]) [] [] (by simp) (by simp) (by simp) ?_ (by simp))⟩
        simp
        exact wkT2 zWk (.refl _)
      simp only [decide_eq_false_iff_not] at h
      have hnT : ¬ BadT l s := by
        rintro ⟨p', h1, h2⟩
        rw [hlast] at h1
        cases h1
        exact h h2
      refine awp_seq ?_
      refine awp_regc ⟨62, [(1, sts l), (5, .pt 16 0 0), (6, .pt 24 0 0), (8, .I l.length), (9, .pv (sC p)), (46, .B (decide (p.ki = 3)))], [(16, some ⟨13, [sC s1], 0⟩), (24, some ⟨13, [zC], 0⟩)], 368⟩ rfl ?_ ?_
      · simp
        exact Le.keep rfl (Nat.le_refl _) (by simp <;> rw [Bool.eq_iff_iff] <;> simp) (by simp)
      refine awp_cond _ rfl (fun h => ?_) fun h => awp_skip ?_
      · simp only [decide_eq_true_eq] at h
        obtain ⟨rfl, rfl⟩ := h5 hnT ⟨p, hlast, h⟩
        refine awp_seq ?_
        refine awp_run (s := ?t2) rfl ?o2 ?q2
        case o2 => simp [splice]; rfl
        refine awp_ret ?_
        refine ⟨.inr rfl, hok _ (RetOk.out (vs := [.agg zC, .I 5]) [] [] (by simp) (by simp) (by simp) ?_ (by simp))⟩
        simp
        exact wkT2 zWk (.refl _)
      simp only [decide_eq_false_iff_not] at h
      have hnK : ¬ BadK l := by
        rintro ⟨p', h1, h2⟩
        rw [hlast] at h1
        cases h1
        exact h h2
      have hs2e : s2 = { s with au := au, nu := l.length, pr := digS p } := by rw [hs2, nx0, prevD, hlast]
      refine awp_reg rfl ?_
      simp
      refine call0e (ref03_Digest_ok p hpb) (by simp) ?_
      simp [splice]
      refine ⟨⟨hnT, hnK⟩, ?_⟩
      refine Le.keep rfl (by simp) (by simp) (by simp [hs2e, hs1])
    · simp only [decide_eq_false_iff_not] at h
      have hl0 : l = [] := List.eq_nil_of_length_eq_zero (by omega)
      have hnT : ¬ BadT l s := by
        rintro ⟨p', h1, h2⟩
        rw [hl0] at h1
        cases h1
      have hnK : ¬ BadK l := by
        rintro ⟨p', h1, h2⟩
        rw [hl0] at h1
        cases h1
      have hs2e : s2 = s1 := by rw [hs2, hs1, nx0, prevD, hl0]; rfl
      rw [hs2e]
      exact ⟨(), ⟨hnT, hnK⟩, Le.keep rfl (by simp) (by simp) (by simp)⟩
  rintro _ ⟨hnT, hnK⟩
  obtain ⟨he, hx0, hx1⟩ := h0 hnT hnK
  have hpd : (prevD l).size ≤ 32 := by
    unfold prevD
    split
    · decide
    · rw [digS_size]; exact Nat.le_refl _
  have hs2b : StB s2 := by
    rw [hs2]
    exact ⟨by show (prevD l).size ≤ 5000; omega, hs.2.1, hb3, hb4, hs.2.2.2.2⟩
  obtain ⟨s3, hs3⟩ : ∃ s3, s3 = nx au l s := ⟨_, rfl⟩
  have hs3e : s3 = { s2 with sk := s2.au, sd := digS s2 } := by rw [hs3, hs2]; rfl
  rw [← hs3] at hchk hx0
  refine awp_regc ⟨62, [(5, .pt 16 0 0), (6, .pt 24 0 0)], [(16, some ⟨13, [sC s3], 0⟩), (24, some ⟨13, [zC], 0⟩)], 524⟩ rfl ?_ ?_
  · simp
    refine call0e (ref03_Seal_ok s2 hs2b) (by simp) ?_
    simp [splice]
    exact Le.keep rfl (Nat.le_refl _) (by simp) (by simp [hs3e])
  refine awp_seq ?_
  refine awp_regc ⟨62, [(5, .pt 16 0 0), (6, .pt 24 0 0), (10, .I eC)], [(16, some ⟨13, [sC s3], 0⟩), (24, some ⟨13, [zC], 0⟩)], 548⟩ rfl ?_ ?_
  · simp
    refine call0e hchk (by simp) ?_
    simp
    exact Le.keep rfl (Nat.le_refl _) (by simp) (by simp)
  refine awp_regc ⟨62, [(5, .pt 16 0 0), (6, .pt 24 0 0), (10, .I eC), (58, .B (decide (eC ≠ 0)))], [(16, some ⟨13, [sC s3], 0⟩), (24, some ⟨13, [zC], 0⟩)], 564⟩ rfl ?_ ?_
  · simp
    exact Le.keep rfl (Nat.le_refl _) (by simp <;> rw [Bool.eq_iff_iff] <;> simp) (by simp)
  refine awp_cond _ rfl (fun h => ?_) fun h => awp_skip ?_
  · simp only [decide_eq_true_eq] at h
    obtain rfl := hx1 h
    subst he
    refine awp_seq ?_
    refine awp_run (s := ?t3) rfl ?o3 ?q3
    case o3 => simp [splice]; rfl
    refine awp_ret ?_
    refine ⟨.inr rfl, hok _ (RetOk.out (vs := [.agg zC, .I e]) [] [] (by simp) (by simp) (by simp) ?_ (by simp))⟩
    simp
    exact wkT2 zWk (.refl _)
  have hz : eC = 0 := by simpa using h
  have hxe := hx0 hz
  subst he
  rw [hz]
  refine awp_seq ?_
  refine awp_run (s := ?t4) rfl ?o4 ?q4
  case o4 => simp [splice]; rfl
  refine awp_ret ?_
  rw [hxe]
  refine ⟨.inr rfl, ?_⟩
  show RetOk [(6, some (true, 13)), (7, none)] 0 _ _ _
  refine RetOk.out (vs := [eS s3, .I 0]) [] [] (by simp) (by simp) (by simp) ?_ (by simp)
  simp
theorem chain_nx {au : Int} {l : List Stm} {s : Stm} (hc : Chain au l) (hs : StB s) (hT : ¬ BadT l s) (hK : ¬ BadK l) (hok : StOk (nx au l s)) : Chain au (l ++ [nx au l s]) := by
  have hpd : (prevD l).size ≤ 32 := by
    unfold prevD
    split
    · decide
    · rw [digS_size]; exact Nat.le_refl _
  have hb : StB (nx au l s) := ⟨by show (prevD l).size ≤ 5000; omega, hs.2.1, hs.2.2.1, hs.2.2.2.1, hs.2.2.2.2⟩
  have hat : StAt au l.length (nx au l s) := ⟨hok, hb, rfl, rfl, rfl, rfl⟩
  constructor
  · intro i hi
    rw [List.length_append, List.length_singleton] at hi
    by_cases h : i < l.length
    · rw [List.getElem_append_left h]
      exact hc.1 i h
    · obtain rfl : i = l.length := by omega
      rw [List.getElem_append_right (Nat.le_refl _)]
      simp only [Nat.sub_self, List.getElem_singleton]
      exact hat
  · intro i hi
    have hi' := hi
    rw [List.length_append, List.length_singleton] at hi
    by_cases h : i + 1 < l.length
    · rw [List.getElem_append_left h, List.getElem_append_left (by omega)]
      exact hc.2 i h
    · have hil : i < l.length := by omega
      have e1 : l.length = i + 1 := by omega
      have hlast : l.getLast? = some l[i] := by rw [List.getLast?_eq_getElem?, e1]; exact List.getElem?_eq_getElem hil
      have e2 : (l ++ [nx au l s])[i + 1] = nx au l s := by
        rw [List.getElem_append_right (by omega)]
        simp
      rw [List.getElem_append_left hil, e2]
      refine ⟨?_, ?_, ?_⟩
      · show (prevD l).toList = _
        rw [prevD, hlast]
      · rcases Int.lt_or_le s.ti l[i].ti with h1 | h1
        · exact absurd ⟨_, hlast, h1⟩ hT
        · exact h1
      · exact fun h1 => hK ⟨_, hlast, h1⟩
end Go.Proofs.Ytnphfkceoklkkaa
namespace Go.Proofs.Ytnphfkceoklkkaa
open Go
structure Vch where
  fr : Int
  to : Int
  lv : Int
  nu : Int
  ti : Int
  en : Int
  re : Int
abbrev vC (v : Vch) : List AV := [.I v.fr, .I v.to, .I v.lv, .I v.nu, .I v.ti, .I v.en, .I v.re]
abbrev eV (v : Vch) : AV := .agg (vC v)
abbrev rowsV (l : List Vch) : List (List AV) := l.map vC
abbrev vchs (l : List Vch) : AV := .vs 7 false (rowsV l)
def StillV (capt : List AV) : Prop := ∀ ρ sn h n, capt.map (conv ρ sn h (n + 1)) = capt
def insRevV (c : Vch → Vch → Int) : List Vch → Vch → List Vch
  | [], x => [x]
  | y :: r, x => if c x y < 0 then y :: insRevV c r x else x :: y :: r
def isortRevV (c : Vch → Vch → Int) (M : List Vch) : List Vch := M.foldl (insRevV c) []
def isortV (c : Vch → Vch → Int) (M : List Vch) : List Vch := (isortRevV c M).reverse
theorem insRevV_perm (c : Vch → Vch → Int) : ∀ (r : List Vch) (x : Vch), (insRevV c r x).Perm (x :: r)
  | [], x => .refl _
  | y :: r, x => by
    unfold insRevV
    split
    · exact ((insRevV_perm c r x).cons y).trans (.swap _ _ _)
    · exact .refl _
theorem isortRevV_succ (c : Vch → Vch → Int) (M : List Vch) (k : Nat) (h : k < M.length) : isortRevV c (M.take (k + 1)) = insRevV c (isortRevV c (M.take k)) M[k] := by
  unfold isortRevV
  rw [← List.take_concat_get h, List.concat_eq_append, List.foldl_append]
  rfl
theorem isortRevV_perm (c : Vch → Vch → Int) (M : List Vch) : (isortRevV c M).Perm M := by
  have key : ∀ (M acc : List Vch), (M.foldl (insRevV c) acc).Perm (M ++ acc) := by
    intro M
    induction M with
    | nil => intro acc; exact .refl _
    | cons x M ih =>
      intro acc
      refine (ih _).trans ?_
      refine ((insRevV_perm c acc x).append_left M).trans ?_
      simp only [List.cons_append]
      exact List.perm_middle
  simpa [isortRevV] using key M []
theorem isortRevV_len (c : Vch → Vch → Int) (M : List Vch) : (isortRevV c M).length = M.length := (isortRevV_perm c M).length_eq
theorem isortV_one (c : Vch → Vch → Int) (x : Vch) : isortRevV c [x] = [x] := rfl
theorem Le.npV {st st' : St} {D : List Vch} (sn : List Nat) (hsz : st'.sz = st.sz) (hn : 1 ≤ st'.n) (hh : st'.h = [(0, some ⟨7, rowsV D, 0⟩)]) (hs : ∀ k ∈ sn, 1 ≤ k) (he : st.hp 0 = some ⟨7, rowsV D, 0⟩) (ht : ∀ p ∈ st'.t, Wk (conv [(0, 0)] sn st.hp 4 (st.get p.1)) p.2) : Le 1 st st' :=
  Le.ents [(0, 0)] sn hsz (by simp) (by simp) (by simp; omega) (fun k hk => ⟨hs k hk, by have := hs k hk; simp; omega⟩) hn ht (fun p hp => by
    rw [hh] at hp
    simp at hp
    subst hp
    exact ⟨0, _, _, rfl, by simp, he, EntUp.eq (by simp [Function.comp_def]) (by simp)⟩)
theorem mid_getV {H T : List Vch} {y x : Vch} {h : Nat} (hh : H.length = h) : (rowsV (H ++ y :: x :: T))[h]? = some (vC y) ∧ (rowsV (H ++ y :: x :: T))[h + 1]? = some (vC x) := by
  subst hh
  constructor
  · rw [List.getElem?_map, List.getElem?_append_right (by omega)]
    simp
  · rw [List.getElem?_map, List.getElem?_append_right (by omega)]
    simp
theorem mid_setV {H T : List Vch} {y x : Vch} {h : Nat} (hh : H.length = h) : ((rowsV (H ++ y :: x :: T)).set (h + 1) (vC y)).set h (vC x) = rowsV (H ++ x :: y :: T) := by
  subst hh
  simp [rowsV, List.set_append]
set_option maxHeartbeats 4000000 in
set_option maxRecDepth 100000 in
theorem insertionV_ok (f : FuncId) (capt : List AV) (c : Vch → Vch → Int) (A M B : List Vch) (n a b : Nat) (hn : (A ++ M ++ B).length = n) (ha : A.length = a) (hb : a + M.length = b) (hl : n ≤ 1000000) (hs : StillV capt)
    (hc : ∀ x ∈ M, ∀ y ∈ M, ACalls Try.prog f (eV x :: eV y :: capt) [] (.I (c x y)) []) :
    ACalls Try.prog nslices_insertionSortCmpFunc_api_Vouch [.rs 0 0 n, .I a, .I b, .fn (.func f) [] capt] [⟨7, rowsV (A ++ M ++ B), 0⟩] (.tup []) [some ⟨7, rowsV (A ++ isortV c M ++ B), 0⟩] := by
  have hs2 : ∀ ρ sn h, capt.map (conv ρ sn h 2) = capt := fun _ _ _ => hs _ _ _ 1
  have hs3 : ∀ ρ sn h, capt.map (conv ρ sn h 3) = capt := fun _ _ _ => hs _ _ _ 2
  have hs4 : ∀ ρ sn h, capt.map (conv ρ sn h 4) = capt := fun _ _ _ => hs _ _ _ 3
  refine sslices_insertionSortCmpFunc_api_Vouch.acalls (Nat.le_of_ble_eq_true rfl) (Nat.le_of_ble_eq_true rfl) (Nat.le_of_ble_eq_true rfl) ?_
  show awp _ 1 _ _ ⟨53, [(0, .rs 0 0 n), (1, .I a), (2, .I b), (3, .fn (.func f) [] capt)], [(0, some ⟨7, rowsV (A ++ M ++ B), 0⟩)], 16⟩
  have hlen : a + (M.length + B.length) = n := by
    simp only [List.length_append] at hn
    omega
  have hbn : b ≤ n := by omega
  have hwa : IntKind.i64.wrap ((a : Int) + 1) = ((a + 1 : Nat) : Int) := by rw [w64 (by omega) (by omega)]; omega
  let Lk : Nat → List Vch := fun k => A ++ ((isortRevV c (M.take k)).reverse ++ (M.drop k ++ B))
  have hL1 : A ++ M ++ B = Lk 1 := by
    cases M with
    | nil => simp [Lk, isortRevV]
    | cons m M => simp [Lk, isortV_one]
  rw [hL1]
  refine awp_regc ⟨53, [(0, .rs 0 0 n), (1, .I a), (2, .I b), (3, .fn (.func f) [] capt), (8, .I (a + 1 : Nat))], [(0, some ⟨7, rowsV (Lk 1), 0⟩)], 40⟩ rfl ?_ ?_
  · simp [hwa]
    exact Le.keep rfl (Nat.le_refl _) (by simp) (by simp)
  refine awp_block ?_
  refine awp_loop (ι := Nat) (fun k => ⟨53, [(0, .rs 0 0 n), (1, .I a), (2, .I b), (3, .fn (.func f) [] capt), (8, .I (a + k : Nat))], [(0, some ⟨7, rowsV (Lk k), 0⟩)], 40⟩) (fun k => 1 ≤ k ∧ k ≤ M.length + 1 ∧ (M.length ≤ k → rowsV (Lk k) = rowsV (A ++ isortV c M ++ B))) (fun k => M.length + 1 - k) 1 ?_ (Le.refl _ _) ?_
  · refine ⟨Nat.le_refl _, by omega, fun h => ?_⟩
    simp only [Lk]
    rw [List.take_of_length_le h, List.drop_eq_nil_of_le h]
    simp [isortV]
  rintro k ⟨hk1, hk2, hk3⟩
  refine awp_seq ?_
  refine awp_regc ⟨53, [(0, .rs 0 0 n), (1, .I a), (2, .I b), (3, .fn (.func f) [] capt), (8, .I (a + k : Nat)), (14, .B (decide (k < M.length)))], [(0, some ⟨7, rowsV (Lk k), 0⟩)], 64⟩ rfl ?_ ?_
  · simp
    exact Le.keep rfl (Nat.le_refl _) (by simp <;> omega) (by simp)
  refine awp_cond _ rfl (fun h => awp_skip ?_) fun h => awp_exit (hit ?_)
  · simp only [decide_eq_true_eq] at h
    refine awp_cut (ι := Unit) (fun _ => ⟨53, [(0, .rs 0 0 n), (1, .I a), (2, .I b), (3, .fn (.func f) [] capt), (8, .I (a + k : Nat))], [(0, some ⟨7, rowsV (Lk (k + 1)), 0⟩)], 64⟩) (fun _ => True) ?_ fun _ _ => ?_
    · have hx : M[k] ∈ M := List.getElem_mem h
      have hdrop : M.drop k = M[k] :: M.drop (k + 1) := List.drop_eq_getElem_cons h
      have hsucc := isortRevV_succ c M k h
      generalize M[k] = x at *
      obtain ⟨D, hD⟩ : ∃ D, D = M.drop (k + 1) ++ B := ⟨_, rfl⟩
      obtain ⟨R, hR⟩ : ∃ R, R = isortRevV c (M.take k) := ⟨_, rfl⟩
      have hRm : ∀ y ∈ R, y ∈ M := fun y hy => by
        rw [hR] at hy
        exact List.mem_of_mem_take ((isortRevV_perm c _).mem_iff.1 hy)
      have hRl : R.length = k := by rw [hR, isortRevV_len]; simp; omega
      have hDl : D.length + k + 1 = M.length + B.length := by rw [hD]; simp; omega
      have hLk : Lk k = A ++ R.reverse ++ x :: D := by simp only [Lk]; rw [hdrop, ← hR, hD]; simp
      have hLk1 : Lk (k + 1) = A ++ (insRevV c R x).reverse ++ D := by simp only [Lk]; rw [hsucc, ← hR, hD]; simp
      rw [hLk, hLk1]
      refine awp_block ?_
      refine awp_regc ⟨53, [(0, .rs 0 0 n), (1, .I a), (2, .I b), (3, .fn (.func f) [] capt), (8, .I (a + k : Nat)), (9, .I (a + k : Nat))], [(0, some ⟨7, rowsV (A ++ R.reverse ++ x :: D), 0⟩)], 80⟩ rfl ?_ ?_
      · simp
        exact Le.keep rfl (Nat.le_refl _) (by simp) (by simp)
      refine awp_block ?_
      let C : List Vch × List Vch → St := fun p => ⟨53, [(0, .rs 0 0 n), (1, .I a), (2, .I b), (3, .fn (.func f) [] capt), (8, .I (a + k : Nat)), (9, .I (a + p.2.length : Nat))], [(0, some ⟨7, rowsV (A ++ p.2.reverse ++ x :: (p.1 ++ D)), 0⟩)], 80⟩
      refine awp_loop C (fun p : List Vch × List Vch => insRevV c R x = p.1.reverse ++ insRevV c p.2 x ∧ p.1.length + p.2.length = k ∧ ∀ y ∈ p.2, y ∈ M) (fun p : List Vch × List Vch => p.2.length) ([], R) ⟨rfl, by simpa using hRl, hRm⟩ ?_ ?_
      · simp only [C, hRl, List.nil_append]
        exact Le.refl _ _
      rintro ⟨U, V⟩ ⟨hins, hUV, hVm⟩
      simp only at hins hUV hVm
      match V, hins, hUV, hVm with
      | [], hins, hUV, hVm =>
        have hC : C (U, []) = ⟨53, [(0, .rs 0 0 n), (1, .I a), (2, .I b), (3, .fn (.func f) [] capt), (8, .I (a + k : Nat)), (9, .I a)], [(0, some ⟨7, rowsV (A ++ x :: (U ++ D)), 0⟩)], 80⟩ := by simp [C]
        rw [hC]
        refine awp_seq ?_
        refine awp_dregc ⟨53, [(0, .rs 0 0 n), (1, .I a), (2, .I b), (3, .fn (.func f) [] capt), (8, .I (a + k : Nat)), (34, .B false)], [(0, some ⟨7, rowsV (A ++ x :: (U ++ D)), 0⟩)], 216⟩ rfl ?_ ?_
        · simp
          exact ⟨rfl, Le.keep rfl (Nat.le_refl _) (by simp) (by simp)⟩
        refine awp_cond _ rfl (fun h => by cases h) fun h => awp_exit (hit ?_)
        have e : A ++ x :: (U ++ D) = A ++ (insRevV c R x).reverse ++ D := by rw [hins]; simp [insRevV]
        rw [← e]
        exact ⟨(), trivial, Le.npV [] rfl (by simp) rfl (by simp) rfl (by simp [hs2, hs3, hs4])⟩
      | y :: V', hins, hUV, hVm =>
        obtain ⟨H, hH⟩ : ∃ H, H = A ++ V'.reverse := ⟨_, rfl⟩
        obtain ⟨T, hT⟩ : ∃ T, T = U ++ D := ⟨_, rfl⟩
        obtain ⟨q, hq⟩ : ∃ q, q = a + V'.length := ⟨_, rfl⟩
        obtain ⟨j, hj⟩ : ∃ j, j = q + 1 := ⟨_, rfl⟩
        have hHl : H.length = q := by rw [hH, hq]; simp; omega
        have hgl : (H ++ y :: x :: T).length = n := by
          have e : (H ++ y :: x :: T).length = H.length + (T.length + 2) := by simp
          rw [e, hHl, hT, List.length_append]
          simp at hUV
          omega
        have hg1 := (mid_getV (T := T) (y := y) (x := x) hHl).1
        have hg2 := (mid_getV (T := T) (y := y) (x := x) hHl).2
        have hset := mid_setV (T := T) (y := y) (x := x) hHl
        rw [← hj] at hg2 hset
        have hC : C (U, y :: V') = ⟨53, [(0, .rs 0 0 n), (1, .I a), (2, .I b), (3, .fn (.func f) [] capt), (8, .I (a + k : Nat)), (9, .I j)], [(0, some ⟨7, rowsV (H ++ y :: x :: T), 0⟩)], 80⟩ := by
          simp [C, hH, hT, hj, hq, Nat.add_assoc]
        rw [hC]
        have hcy := hc x hx y (hVm y List.mem_cons_self)
        have hjn : j < n := by rw [← hgl, hj, ← hHl]; simp
        have hwj : IntKind.i64.wrap ((j : Int) - 1) = (q : Int) := by rw [w64 (by omega) (by omega)]; omega
        have hqn : q < n := by omega
        have haj : a < j := by omega
        have hRl2 : (rowsV (H ++ y :: x :: T)).length = n := by rw [rowsV, List.length_map, hgl]
        generalize hX : rowsV (H ++ y :: x :: T) = X at *
        have hflat : ∀ ρ sn h m, X.map (List.map (conv ρ sn h (m + 1))) = X := fun ρ sn h m => by rw [← hX]; simp [Function.comp_def]
        refine awp_seq ?_
        refine awp_dregc ⟨53, [(0, .rs 0 0 n), (1, .I a), (2, .I b), (3, .fn (.func f) [] capt), (8, .I (a + k : Nat)), (9, .I j), (34, .B (decide (c x y < 0)))], [(0, some ⟨7, X, 0⟩)], 216⟩ rfl ?_ ?_
        · simp [haj, hjn, hqn, hg1, hg2, hwj]
          refine call0e hcy ?_ ?_
          · simp [hs4]
          simp
          exact ⟨rfl, Le.keep rfl (Nat.le_refl _) (by simp) (by simp)⟩
        refine awp_cond _ rfl (fun h5 => awp_skip ?_) fun h5 => awp_exit (hit ?_)
        · simp only [decide_eq_true_eq] at h5
          have hg3 : (X.set j (vC y))[q]? = some (vC y) := by
            rw [List.getElem?_set, if_neg (by omega)]
            exact hg1
          generalize hY : rowsV (H ++ x :: y :: T) = Y at hset
          refine awp_cut (ι := Unit) (fun _ => ⟨53, [(0, .rs 0 0 n), (1, .I a), (2, .I b), (3, .fn (.func f) [] capt), (8, .I (a + k : Nat)), (9, .I j)], [(0, some ⟨7, Y, 0⟩)], 360⟩) (fun _ => True) ?_ fun _ _ => ?_
          · refine awp_block ?_
            refine awp_drw rfl ?_
            simp [hjn, hqn, hg1, hg2, hg3, hwj, splice]
            exact ⟨rfl, Le.keep rfl (Nat.le_refl _) (by simp) (by simp; exact hset)⟩
          refine awp_reg rfl ?_
          simp [hwj]
          refine ⟨y :: U, V', ⟨?_, ?_, ?_⟩, ?_, ?_⟩
          · rw [hins, insRevV, if_pos h5]; simp
          · simp at hUV ⊢; omega
          · exact fun z hz => hVm z (List.mem_cons_of_mem _ hz)
          · simp
          · have hC2 : C (y :: U, V') = ⟨53, [(0, .rs 0 0 n), (1, .I a), (2, .I b), (3, .fn (.func f) [] capt), (8, .I (a + k : Nat)), (9, .I q)], [(0, some ⟨7, Y, 0⟩)], 80⟩ := by rw [← hY]; simp [C, hH, hT, hq]
            rw [hC2]
            have hflat2 : ∀ ρ sn h m, Y.map (List.map (conv ρ sn h (m + 1))) = Y := fun ρ sn h m => by rw [← hY]; simp [Function.comp_def]
            exact Le.ents [(0, 0)] [] rfl (by simp) (by simp) (by simp) (by simp) (by simp) (by simp [hs2, hs3, hs4]) fun p hp => by
              simp at hp
              subst hp
              exact ⟨0, _, _, rfl, by simp, rfl, EntUp.eq (by simp only [convE, hflat2]) (by simp)⟩
        · simp only [decide_eq_false_iff_not] at h5
          have e : H ++ y :: x :: T = A ++ (insRevV c R x).reverse ++ D := by rw [hins, insRevV, if_neg h5, hH, hT]; simp
          rw [← e, hX]
          exact ⟨(), trivial, Le.ents [(0, 0)] [] rfl (by simp) (by simp) (by simp) (by simp) (by simp) (by simp [hs2, hs3, hs4]) fun p hp => by
            simp at hp
            subst hp
            exact ⟨0, _, _, rfl, by simp, rfl, EntUp.eq (by simp only [convE, hflat]) (by simp)⟩⟩
    have hwk : IntKind.i64.wrap (((a + k : Nat) : Int) + 1) = ((a + (k + 1) : Nat) : Int) := by rw [w64 (by omega) (by omega)]; omega
    refine awp_reg rfl ?_
    have hwk' : IntKind.i64.wrap ((a : Int) + (k : Int) + 1) = ((a + (k + 1) : Nat) : Int) := by rw [← hwk]; congr 1
    simp [hwk']
    refine ⟨k + 1, ⟨by omega, by omega, fun h2 => ?_⟩, by omega, ?_⟩
    · have he : M.length = k + 1 := by omega
      simp only [Lk]
      rw [List.take_of_length_le (by omega), List.drop_eq_nil_of_le (by omega)]
      simp [isortV]
    · exact Le.npV [] rfl (by simp) rfl (by simp) rfl (by simp [hs2, hs3, hs4])
  simp only [decide_eq_false_iff_not] at h
  rw [hk3 (by omega)]
  exact ⟨.inl rfl, ⟨[], rfl, [], [], by simp [List.range, List.range.loop], by simp, by simp, by simp, by simp [List.range, List.range.loop, Function.comp_def]⟩⟩
set_option maxRecDepth 100000 in
theorem stableV_ok (f : FuncId) (capt : List AV) (c : Vch → Vch → Int) (l : List Vch) (n : Nat) (hn : l.length = n) (hl : n < 20) (hs : StillV capt)
    (hc : ∀ x ∈ l, ∀ y ∈ l, ACalls Try.prog f (eV x :: eV y :: capt) [] (.I (c x y)) []) :
    ACalls Try.prog nslices_stableCmpFunc_api_Vouch [.rs 0 0 n, .I n, .fn (.func f) [] capt] [⟨7, rowsV l, 0⟩] (.tup []) [some ⟨7, rowsV (isortV c l), 0⟩] := by
  have hs2 : ∀ ρ sn h, capt.map (conv ρ sn h 2) = capt := fun _ _ _ => hs _ _ _ 1
  have hs3 : ∀ ρ sn h, capt.map (conv ρ sn h 3) = capt := fun _ _ _ => hs _ _ _ 2
  have hs4 : ∀ ρ sn h, capt.map (conv ρ sn h 4) = capt := fun _ _ _ => hs _ _ _ 3
  refine sslices_stableCmpFunc_api_Vouch.acalls (Nat.le_of_ble_eq_true rfl) (Nat.le_of_ble_eq_true rfl) (Nat.le_of_ble_eq_true rfl) ?_
  show awp _ 1 _ _ ⟨63, [(0, .rs 0 0 n), (1, .I n), (2, .fn (.func f) [] capt)], [(0, some ⟨7, rowsV l, 0⟩)], 16⟩
  have hins := insertionV_ok f capt c [] l [] n 0 n (by simpa using hn) rfl (by simpa using hn) (by omega) hs hc
  simp only [List.nil_append, List.append_nil] at hins
  refine awp_seq ?_
  refine awp_run (s := ?s1) rfl ?o1 ?q1
  case o1 => simp; rfl
  refine awp_regc ⟨63, [(0, .rs 0 0 n), (1, .I n), (2, .fn (.func f) [] capt), (6, .I 20), (7, .I 0), (8, .I 20)], [(0, some ⟨7, rowsV l, 0⟩)], 48⟩ rfl ?_ ?_
  · simp
    exact Le.keep rfl (Nat.le_refl _) (by simp) (by simp)
  refine awp_seq ?_
  refine awp_block ?_
  refine awp_loop (ι := Unit) (fun _ => ⟨63, [(0, .rs 0 0 n), (1, .I n), (2, .fn (.func f) [] capt), (6, .I 20), (7, .I 0), (8, .I 20)], [(0, some ⟨7, rowsV l, 0⟩)], 48⟩) (fun _ => True) (fun _ => 0) () trivial (Le.refl _ _) ?_
  intro _ _
  refine awp_seq ?_
  refine awp_regc ⟨63, [(0, .rs 0 0 n), (1, .I n), (2, .fn (.func f) [] capt), (6, .I 20), (7, .I 0), (8, .I 20), (13, .B false)], [(0, some ⟨7, rowsV l, 0⟩)], 72⟩ rfl ?_ ?_
  · simp
    exact Le.keep rfl (Nat.le_refl _) (by simp; omega) (by simp)
  refine awp_cond _ rfl (fun h => by cases h) fun _ => awp_exit (hit ?_)
  refine awp_regc ⟨63, [(1, .I n), (6, .I 20)], [(0, some ⟨7, rowsV (isortV c l), 0⟩)], 112⟩ rfl ?_ ?_
  · simp
    refine callM1 (i := 0) rfl (e' := ⟨7, rowsV l, 0⟩) (by simp [Function.comp_def]) hins (by simp) ?_ ?_
    · simp [hs2, hs3, hs4]
    simp [Function.comp_def]
    exact Le.keep rfl (Nat.le_refl _) (by simp) (by simp)
  refine awp_block ?_
  refine awp_loop (ι := Unit) (fun _ => ⟨63, [(1, .I n), (6, .I 20)], [(0, some ⟨7, rowsV (isortV c l), 0⟩)], 112⟩) (fun _ => True) (fun _ => 0) () trivial (Le.refl _ _) ?_
  intro _ _
  refine awp_seq ?_
  refine awp_regc ⟨63, [(1, .I n), (6, .I 20), (30, .B false)], [(0, some ⟨7, rowsV (isortV c l), 0⟩)], 136⟩ rfl ?_ ?_
  · simp
    exact Le.keep rfl (Nat.le_refl _) (by simp; omega) (by simp)
  refine awp_cond _ rfl (fun h => by cases h) fun _ => awp_exit (hit ?_)
  exact ⟨.inl rfl, ⟨[], rfl, [], [], by simp [List.range, List.range.loop], by simp, by simp, by simp, by simp [List.range, List.range.loop, Function.comp_def]⟩⟩
theorem SortStableV_ok (f : FuncId) (capt : List AV) (c : Vch → Vch → Int) (l : List Vch) (n : Nat) (hn : l.length = n) (hl : n < 20) (hs : StillV capt)
    (hc : ∀ x ∈ l, ∀ y ∈ l, ACalls Try.prog f (eV x :: eV y :: capt) [] (.I (c x y)) []) :
    ACalls Try.prog nslices_SortStableFunc_Lapi_Vouch_api_Vouch [.rs 0 0 n, .fn (.func f) [] capt] [⟨7, rowsV l, 0⟩] (.tup []) [some ⟨7, rowsV (isortV c l), 0⟩] := by
  have hs2 : ∀ ρ sn h, capt.map (conv ρ sn h 2) = capt := fun _ _ _ => hs _ _ _ 1
  have hs3 : ∀ ρ sn h, capt.map (conv ρ sn h 3) = capt := fun _ _ _ => hs _ _ _ 2
  have hs4 : ∀ ρ sn h, capt.map (conv ρ sn h 4) = capt := fun _ _ _ => hs _ _ _ 3
  refine sslices_SortStableFunc_Lapi_Vouch_api_Vouch.acalls (Nat.le_of_ble_eq_true rfl) (Nat.le_of_ble_eq_true rfl) (Nat.le_of_ble_eq_true rfl) ?_
  show awp _ 1 _ _ ⟨9, [(0, .rs 0 0 n), (1, .fn (.func f) [] capt)], [(0, some ⟨7, rowsV l, 0⟩)], 16⟩
  refine awp_run (s := ?s1) rfl ?o1 ?q1
  case o1 =>
    simp
    refine callM1 (i := 0) rfl (e' := ⟨7, rowsV l, 0⟩) (by simp [Function.comp_def]) (stableV_ok f capt c l n hn hl hs hc) (by simp) ?_ ?_
    · simp [hs2, hs3, hs4]
    simp [Function.comp_def]
    rfl
  exact ⟨.inl rfl, ⟨[], rfl, [], [], by simp [List.range, List.range.loop], by simp, by simp, by simp, by simp [List.range, List.range.loop, Function.comp_def]⟩⟩
end Go.Proofs.Ytnphfkceoklkkaa
