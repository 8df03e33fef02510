/- Texts of this claim, merged. -/
import Derived.Test.YtnphfkceoklkkaaVo10
import Derived.Test.YtnphfkceoklkkaaVo9
import Derived.Test.YtnphfkceoklkkaaVo5
set_option linter.unusedSimpArgs false
set_option linter.unusedVariables false
set_option linter.unusedSectionVars false
namespace Go.Proofs.Ytnphfkceoklkkaa
open Go
def srtV (l : List Vch) : Prop := l.Pairwise fun a b => ¬ ltV b a
instance (a b : Vch) : Decidable (ltV a b) := by unfold ltV; infer_instance
theorem cut_ex (P : Nat → Prop) [DecidablePred P] (lo : Nat) : ∀ d, (∀ i j, lo ≤ i → i < j → j < lo + d → P j → P i) → ∃ q, lo ≤ q ∧ q ≤ lo + d ∧ (∀ k, lo ≤ k → k < q → P k) ∧ ∀ k, q ≤ k → k < lo + d → ¬ P k
  | 0, _ => ⟨lo, Nat.le_refl _, by omega, fun k h1 h2 => by omega, fun k h1 h2 => by omega⟩
  | d + 1, h => by
    by_cases hp : P (lo + d)
    · exact ⟨lo + (d + 1), by omega, Nat.le_refl _, fun k h1 h2 => by
        by_cases he : k = lo + d
        · rw [he]; exact hp
        · exact h k (lo + d) h1 (by omega) (by omega) hp, fun k h1 h2 => by omega⟩
    · obtain ⟨q, h1, h2, h3, h4⟩ := cut_ex P lo d fun i j a b c e => h i j a b (by omega) e
      exact ⟨q, h1, by omega, h3, fun k h5 h6 => by
        by_cases he : k = lo + d
        · rw [he]; exact hp
        · exact h4 k h5 (by omega)⟩
theorem at1 {A S R : List Vch} {k p : Nat} (h : k < S.length) (hp : A.length + k = p) : (rowsV (A ++ (S ++ R)))[p]? = some (vC S[k]) := by
  subst hp
  rw [List.getElem?_map, List.getElem?_append_right (by omega)]
  have e : A.length + k - A.length = k := by omega
  rw [e, List.getElem?_append_left h, List.getElem?_eq_getElem h]
  rfl
theorem at2 {A S T R : List Vch} {k p : Nat} (h : k < T.length) (hp : A.length + S.length + k = p) : (rowsV (A ++ (S ++ (T ++ R))))[p]? = some (vC T[k]) := by
  rw [← List.append_assoc]
  exact at1 h (by rw [List.length_append]; omega)
theorem srtV_at {l : List Vch} (h : srtV l) {i j : Nat} (hi : i < l.length) (hj : j < l.length) (hij : i ≤ j) : ¬ ltV l[j] l[i] := by
  rcases Nat.lt_or_eq_of_le hij with h1 | h1
  · exact List.pairwise_iff_getElem.1 h i j hi hj h1
  · subst h1
    unfold ltV
    omega
theorem ltV_le_lt {a b c : Vch} (h1 : ¬ ltV b a) (h2 : ltV b c) : ltV a c := by unfold ltV at *; omega
theorem ltV_lt_le {a b c : Vch} (h1 : ltV a b) (h2 : ¬ ltV c b) : ltV a c := by unfold ltV at *; omega
theorem srtV_append {a b : List Vch} (ha : srtV a) (hb : srtV b) (h : ∀ x ∈ a, ∀ y ∈ b, ¬ ltV y x) : srtV (a ++ b) := by
  unfold srtV
  rw [List.pairwise_append]
  exact ⟨ha, hb, h⟩
theorem srtV_parts {a b : List Vch} (h : srtV (a ++ b)) : srtV a ∧ srtV b ∧ ∀ x ∈ a, ∀ y ∈ b, ¬ ltV y x := by
  unfold srtV at h
  rw [List.pairwise_append] at h
  exact h
theorem one_left {T : List Vch} {x : Vch} (hT : srtV T) : ∃ q, q ≤ T.length ∧ (∀ k (h : k < T.length), ltV T[k] x ↔ k < q) ∧ srtV (T.take q ++ x :: T.drop q) := by
  obtain ⟨q, _, h2, h3, h4⟩ := cut_ex (fun k => ∃ h : k < T.length, ltV T[k] x) 0 T.length fun i j _ hij hj hp => by
    obtain ⟨hj2, hp⟩ := hp
    exact ⟨by omega, ltV_le_lt (srtV_at hT (by omega) hj2 (by omega)) hp⟩
  rw [Nat.zero_add] at h2 h4
  have key : ∀ k (h : k < T.length), ltV T[k] x ↔ k < q := fun k h => ⟨fun hl => by
    rcases Nat.lt_or_ge k q with h5 | h5
    · exact h5
    · exact absurd ⟨h, hl⟩ (h4 k h5 h), fun hk => (h3 k (Nat.zero_le _) hk).2⟩
  refine ⟨q, h2, key, ?_⟩
  obtain ⟨s1, s2, s3⟩ := srtV_parts (a := T.take q) (b := T.drop q) (by rw [List.take_append_drop]; exact hT)
  have h5 : ∀ y ∈ T.take q, ltV y x := fun y hy => by
    obtain ⟨k, hk, rfl⟩ := List.mem_iff_getElem.1 hy
    rw [List.length_take] at hk
    rw [List.getElem_take]
    exact (key k (by omega)).2 (by omega)
  have h6 : ∀ y ∈ T.drop q, ¬ ltV y x := fun y hy => by
    obtain ⟨k, hk, rfl⟩ := List.mem_iff_getElem.1 hy
    rw [List.length_drop] at hk
    rw [List.getElem_drop]
    exact fun hl => by have := (key (q + k) (by omega)).1 hl; omega
  refine srtV_append s1 ?_ fun y hy z hz => ?_
  · unfold srtV
    rw [List.pairwise_cons]
    exact ⟨h6, s2⟩
  · rcases List.mem_cons.1 hz with rfl | hz
    · exact ltV_asym (h5 y hy)
    · exact s3 y hy z hz
theorem one_right {S : List Vch} {x : Vch} (hS : srtV S) : ∃ q, q ≤ S.length ∧ (∀ k (h : k < S.length), ¬ ltV x S[k] ↔ k < q) ∧ srtV (S.take q ++ x :: S.drop q) := by
  obtain ⟨q, _, h2, h3, h4⟩ := cut_ex (fun k => ∃ h : k < S.length, ¬ ltV x S[k]) 0 S.length fun i j _ hij hj hp => by
    obtain ⟨hj2, hp⟩ := hp
    exact ⟨by omega, fun hl => hp (ltV_lt_le hl (srtV_at hS (by omega) hj2 (by omega)))⟩
  rw [Nat.zero_add] at h2 h4
  have key : ∀ k (h : k < S.length), ¬ ltV x S[k] ↔ k < q := fun k h => ⟨fun hl => by
    rcases Nat.lt_or_ge k q with h5 | h5
    · exact h5
    · exact absurd ⟨h, hl⟩ (h4 k h5 h), fun hk => (h3 k (Nat.zero_le _) hk).2⟩
  refine ⟨q, h2, key, ?_⟩
  obtain ⟨s1, s2, s3⟩ := srtV_parts (a := S.take q) (b := S.drop q) (by rw [List.take_append_drop]; exact hS)
  have h5 : ∀ y ∈ S.take q, ¬ ltV x y := fun y hy => by
    obtain ⟨k, hk, rfl⟩ := List.mem_iff_getElem.1 hy
    rw [List.length_take] at hk
    rw [List.getElem_take]
    exact (key k (by omega)).2 (by omega)
  have h6 : ∀ y ∈ S.drop q, ¬ ltV y x := fun y hy => by
    obtain ⟨k, hk, rfl⟩ := List.mem_iff_getElem.1 hy
    rw [List.length_drop] at hk
    rw [List.getElem_drop]
    refine ltV_asym (Classical.not_not.1 fun hl => ?_)
    have := (key (q + k) (by omega)).1 hl
    omega
  refine srtV_append s1 ?_ fun y hy z hz => ?_
  · unfold srtV
    rw [List.pairwise_cons]
    exact ⟨h6, s2⟩
  · rcases List.mem_cons.1 hz with rfl | hz
    · exact h5 y hy
    · exact s3 y hy z hz
structure CutV (S T : List Vch) (a m b mid lo hi q : Nat) : Prop where
  q1 : lo ≤ q
  q2 : q ≤ hi
  key : ∀ c (h1 : c - a < S.length) (h2 : mid + m - 1 - c - m < T.length), lo ≤ c → c < hi → (¬ ltV T[mid + m - 1 - c - m] S[c - a] ↔ c < q)
  am : a ≤ q
  qm : q ≤ m
  qd : q ≤ mid
  eb : mid + m - q ≤ b
  below : ∀ s ∈ S.drop (q - a), ∀ t ∈ T.take (mid - q), ltV t s
  above : ∀ s ∈ S.take (q - a), ∀ t ∈ T.drop (mid - q), ¬ ltV t s
theorem cutV_ex {S T : List Vch} {a m b mid lo hi : Nat} (hS : srtV S) (hT : srtV T) (h1 : a + S.length = m) (h2 : m + T.length = b) (h3 : 0 < S.length) (h4 : 0 < T.length) (hmid : mid = (a + b) / 2)
    (hlo : (mid < m ∧ lo = mid + m - b ∧ hi = mid) ∨ (m ≤ mid ∧ lo = a ∧ hi = m)) : ∃ q, CutV S T a m b mid lo hi q := by
  have hb : ∀ c, lo ≤ c → c < hi → a ≤ c ∧ c < m ∧ c < mid ∧ mid + m - 1 - c < b := fun c h5 h6 => by omega
  obtain ⟨q, hq1, hq2, hq3, hq4⟩ := cut_ex (fun c => ∃ (h1 : c - a < S.length) (h2 : mid + m - 1 - c - m < T.length), ¬ ltV T[mid + m - 1 - c - m] S[c - a]) lo (hi - lo) fun i j hi1 hij hj hp => by
    have b1 := hb i hi1 (by omega)
    have b2 := hb j (by omega) (by omega)
    obtain ⟨x1, x2, hp⟩ := hp
    refine ⟨by omega, by omega, fun hl => hp ?_⟩
    have s1 := srtV_at hS (i := i - a) (j := j - a) (by omega) (by omega) (by omega)
    have s2 := srtV_at hT (i := mid + m - 1 - j - m) (j := mid + m - 1 - i - m) (by omega) (by omega) (by omega)
    exact ltV_le_lt s2 (ltV_lt_le hl s1)
  have hkey : ∀ c (h1 : c - a < S.length) (h2 : mid + m - 1 - c - m < T.length), lo ≤ c → c < hi → (¬ ltV T[mid + m - 1 - c - m] S[c - a] ↔ c < q) := fun c y1 y2 h5 h6 => ⟨fun hl => by
    rcases Nat.lt_or_ge c q with h7 | h7
    · exact h7
    · exact absurd ⟨y1, y2, hl⟩ (hq4 c h7 (by omega)), fun h7 => (hq3 c h5 h7).2.2⟩
  refine ⟨q, hq1, by omega, hkey, by omega, by omega, by omega, by omega, ?_, ?_⟩
  · intro s hs t ht
    obtain ⟨i, hi', rfl⟩ := List.mem_iff_getElem.1 hs
    obtain ⟨j, hj', rfl⟩ := List.mem_iff_getElem.1 ht
    rw [List.length_drop] at hi'
    rw [List.length_take] at hj'
    rw [List.getElem_drop, List.getElem_take]
    have hqh : q < hi := by omega
    have b1 := hb q hq1 hqh
    have hk := hkey q (by omega) (by omega) hq1 hqh
    have hl : ltV T[mid + m - 1 - q - m] S[q - a] := Classical.not_not.1 fun hn => by have := hk.1 hn; omega
    have s1 := srtV_at hS (i := q - a) (j := q - a + i) (by omega) (by omega) (by omega)
    have s2 := srtV_at hT (i := j) (j := mid + m - 1 - q - m) (by omega) (by omega) (by omega)
    exact ltV_le_lt s2 (ltV_lt_le hl s1)
  · intro s hs t ht hl
    obtain ⟨i, hi', rfl⟩ := List.mem_iff_getElem.1 hs
    obtain ⟨j, hj', rfl⟩ := List.mem_iff_getElem.1 ht
    rw [List.length_take] at hi'
    rw [List.length_drop] at hj'
    rw [List.getElem_drop, List.getElem_take] at hl
    have hql : lo < q := by omega
    have b1 := hb (q - 1) (by omega) (by omega)
    have hk := (hkey (q - 1) (by omega) (by omega) (by omega) (by omega)).2 (by omega)
    have s1 := srtV_at hS (i := i) (j := q - 1 - a) (by omega) (by omega) (by omega)
    have s2 := srtV_at hT (i := mid + m - 1 - (q - 1) - m) (j := mid - q + j) (by omega) (by omega) (by omega)
    exact hk (ltV_le_lt s2 (ltV_lt_le hl s1))
end Go.Proofs.Ytnphfkceoklkkaa
namespace Go.Proofs.Ytnphfkceoklkkaa
open Go
theorem half_v {i j : Nat} (h : i + j ≤ 4000000) : IntKind.i64.wrap ((i : Int) + (j : Int)) = (i : Int) + (j : Int) ∧ IntKind.u64.wrap ((i : Int) + (j : Int)) = (i : Int) + (j : Int) ∧ Int.fdiv ((i : Int) + (j : Int)) 2 = (((i + j) / 2 : Nat) : Int) ∧ IntKind.i64.wrap (((i + j) / 2 : Nat) : Int) = (((i + j) / 2 : Nat) : Int) := by
  refine ⟨w64 (by omega) (by omega), by rw [IntKind.wrap_u64]; omega, ?_, w64 (by omega) (by omega)⟩
  rw [Int.fdiv_eq_ediv_of_nonneg _ (by decide)]
  omega
set_option maxHeartbeats 4000000 in
set_option maxRecDepth 100000 in
theorem symMergeV_one (f : FuncId) (capt : List AV) (hs : StillV capt) (hc : ∀ x y, ACalls Try.prog f (eV x :: eV y :: capt) [] (.I (cmpV x y)) []) (A T B : List Vch) (x : Vch) (n a m b q : Nat) (hn : (A ++ (x :: (T ++ B))).length = n) (ha : A.length = a) (hm : a + 1 = m) (hb : m + T.length = b) (hT : 0 < T.length) (hl : n ≤ 1000000)
    (hq : q ≤ T.length) (hqk : ∀ k (h : k < T.length), ltV T[k] x ↔ k < q) :
    ACalls Try.prog nslices_symMergeCmpFunc_api_Vouch [.rs 0 0 n, .I a, .I m, .I b, .fn (.func f) [] capt] [⟨7, rowsV (A ++ (x :: (T ++ B))), 0⟩] (.tup []) [some ⟨7, rowsV (A ++ (T.take q ++ x :: T.drop q ++ B)), 0⟩] := by
  have hs2 : ∀ ρ sn h, capt.map (conv ρ sn h 2) = capt := fun _ _ _ => hs _ _ _ 1
  have hs3 : ∀ ρ sn h, capt.map (conv ρ sn h 3) = capt := fun _ _ _ => hs _ _ _ 2
  have hs4 : ∀ ρ sn h, capt.map (conv ρ sn h 4) = capt := fun _ _ _ => hs _ _ _ 3
  refine sslices_symMergeCmpFunc_api_Vouch.acalls (Nat.le_of_ble_eq_true rfl) (Nat.le_of_ble_eq_true rfl) (Nat.le_of_ble_eq_true rfl) ?_
  have hbn : b + B.length = n := by simp only [List.length_append, List.length_cons] at hn; omega
  have hga : (rowsV (A ++ (x :: (T ++ B))))[a]? = some (vC x) := at1 (A := A) (S := [x]) (R := T ++ B) (k := 0) (by simp) (by omega)
  have hgt : ∀ h, (h1 : m ≤ h) → (h2 : h < b) → (rowsV (A ++ (x :: (T ++ B))))[h]? = some (vC (T[h - m]'(by omega))) := fun h h1 h2 => at2 (A := A) (S := [x]) (T := T) (R := B) (k := h - m) (by omega) (by simp; omega)
  have hflat := rowsV_flat (A ++ (x :: (T ++ B)))
  obtain ⟨Z, hZ⟩ : ∃ Z, Z = rowsV (A ++ (x :: (T ++ B))) := ⟨_, rfl⟩
  rw [← hZ] at hga hgt hflat ⊢
  show awp _ 1 _ _ ⟨220, [(0, .rs 0 0 n), (1, .I a), (2, .I m), (3, .I b), (4, .fn (.func f) [] capt)], [(0, some ⟨7, Z, 0⟩)], 16⟩
  have hw1 : IntKind.i64.wrap ((m : Int) - a) = (m : Int) - a := w64 (by omega) (by omega)
  refine awp_seq ?_
  refine awp_regc ⟨220, [(0, .rs 0 0 n), (1, .I a), (2, .I m), (3, .I b), (4, .fn (.func f) [] capt), (28, .B true)], [(0, some ⟨7, Z, 0⟩)], 48⟩ rfl ?_ ?_
  · simp [hw1]
    exact Le.keep rfl (Nat.le_refl _) (by simp; omega) (by simp)
  refine awp_cond _ rfl (fun _ => ?_) fun h => by cases h
  refine awp_regc ⟨220, [(0, .rs 0 0 n), (1, .I a), (2, .I m), (3, .I b), (4, .fn (.func f) [] capt), (10, .I m)], [(0, some ⟨7, Z, 0⟩)], 64⟩ rfl (by simp; exact Le.keep rfl (Nat.le_refl _) (by simp) (by simp)) ?_
  refine awp_regc ⟨220, [(0, .rs 0 0 n), (1, .I a), (2, .I m), (3, .I b), (4, .fn (.func f) [] capt), (10, .I m), (11, .I b)], [(0, some ⟨7, Z, 0⟩)], 80⟩ rfl (by simp; exact Le.keep rfl (Nat.le_refl _) (by simp) (by simp)) ?_
  refine awp_seq ?_
  refine awp_block ?_
  refine awp_loop (ι := Nat × Nat) (fun p => ⟨220, [(0, .rs 0 0 n), (1, .I a), (2, .I m), (3, .I b), (4, .fn (.func f) [] capt), (10, .I p.1), (11, .I p.2)], [(0, some ⟨7, Z, 0⟩)], 80⟩) (fun p => m ≤ p.1 ∧ p.1 ≤ m + q ∧ m + q ≤ p.2 ∧ p.2 ≤ b) (fun p => p.2 - p.1) (m, b) ⟨by simp, by simp, by simp; omega, by simp⟩ (Le.refl _ _) ?_
  rintro ⟨i, j⟩ ⟨hj1, hj2, hj3, hj4⟩
  simp only at hj1 hj2 hj3 hj4
  refine awp_seq ?_
  refine awp_regc ⟨220, [(0, .rs 0 0 n), (1, .I a), (2, .I m), (3, .I b), (4, .fn (.func f) [] capt), (10, .I i), (11, .I j), (33, .B (decide (i < j)))], [(0, some ⟨7, Z, 0⟩)], 104⟩ rfl (by simp; exact Le.keep rfl (Nat.le_refl _) (by simp) (by simp)) ?_
  refine awp_cond _ rfl (fun h4 => awp_skip ?_) fun h4 => awp_exit (hit ?_)
  · simp only [decide_eq_true_eq] at h4
    obtain ⟨hw, hu, hd, hw3⟩ := half_v (i := i) (j := j) (by omega)
    refine awp_block ?_
    refine awp_regc ⟨220, [(0, .rs 0 0 n), (1, .I a), (2, .I m), (3, .I b), (4, .fn (.func f) [] capt), (10, .I i), (11, .I j), (12, .I ((i + j) / 2 : Nat))], [(0, some ⟨7, Z, 0⟩)], 160⟩ rfl ?_ ?_
    · simp [hw, hu, hd, hw3, IntKind.bits, -Int.natCast_ediv, -Int.natCast_add]
      exact Le.keep rfl (Nat.le_refl _) (by simp [hw, hu, hd, hw3]) (by simp)
    obtain ⟨h, hh⟩ : ∃ h, h = (i + j) / 2 := ⟨_, rfl⟩
    rw [← hh]
    have hhn : h < n := by omega
    have han : a < n := by omega
    have hg1 := hgt h (by omega) (by omega)
    have hk := hqk (h - m) (by omega)
    have hcc := hc (T[h - m]'(by omega)) x
    have hb2 : decide (cmpV (T[h - m]'(by omega)) x < 0) = decide (h < m + q) := by rw [decide_eq_decide, cmpV_lt, hk]; omega
    generalize T[h - m]'(by omega) = y at *
    have hwq : IntKind.i64.wrap ((h : Int) + 1) = ((h + 1 : Nat) : Int) := by rw [w64 (by omega) (by omega)]; omega
    refine awp_dregc ⟨220, [(0, .rs 0 0 n), (1, .I a), (2, .I m), (3, .I b), (4, .fn (.func f) [] capt), (10, .I i), (11, .I j), (12, .I h), (50, .B (decide (h < m + q)))], [(0, some ⟨7, Z, 0⟩)], 248⟩ rfl ?_ ?_
    · rw [← hb2]
      simp [hg1, hga, hhn, han]
      refine call0e hcc ?_ ?_
      · simp [hs2, hs3, hs4]
      simp
      exact ⟨rfl, Le.keep rfl (Nat.le_refl _) (by simp) (by simp)⟩
    refine awp_cond _ rfl (fun h5 => ?_) fun h5 => ?_
    · simp only [decide_eq_true_eq] at h5
      refine awp_reg rfl ?_
      simp [hwq]
      exact ⟨h + 1, j, ⟨by omega, by omega, by omega, by omega⟩, by omega, Le.N1 hflat rfl (by simp) rfl rfl (by simp [hs2, hs3, hs4])⟩
    · simp only [decide_eq_false_iff_not] at h5
      refine awp_reg rfl ?_
      simp
      exact ⟨i, h, ⟨by omega, by omega, by omega, by omega⟩, by omega, Le.N1 hflat rfl (by simp) rfl rfl (by simp [hs2, hs3, hs4])⟩
  simp only [decide_eq_false_iff_not] at h4
  obtain rfl : i = m + q := by omega
  refine awp_seq ?_
  refine awp_regc ⟨220, [(0, .rs 0 0 n), (1, .I a), (2, .I m), (3, .I b), (4, .fn (.func f) [] capt), (10, .I (m + q : Nat)), (13, .I a)], [(0, some ⟨7, Z, 0⟩)], 120⟩ rfl (by simp; exact Le.keep rfl (Nat.le_refl _) (by simp) (by simp)) ?_
  have hw5 : IntKind.i64.wrap (((m + q : Nat) : Int) - 1) = ((a + q : Nat) : Int) := by rw [w64 (by omega) (by omega)]; omega
  obtain ⟨F, hF⟩ : ∃ F, F = A ++ (T.take q ++ x :: T.drop q ++ B) := ⟨_, rfl⟩
  have hTq : (T.take q).length = q := by rw [List.length_take]; omega
  have hZ2 : A ++ (x :: (T ++ B)) = (A ++ []) ++ x :: (T.take q ++ (T.drop q ++ B)) := by rw [← List.append_assoc (T.take q), List.take_append_drop]; simp
  obtain ⟨D, hD⟩ : ∃ D, D = T.drop q ++ B := ⟨_, rfl⟩
  have hF2 : F = (A ++ []) ++ (T.take q ++ x :: D) := by rw [hF, hD]; simp
  have hDl : a + 1 + q + D.length = n := by rw [hD, List.length_append, List.length_drop]; omega
  rw [← hD] at hZ2
  rw [← hF]
  rw [hZ2] at hZ
  generalize T.take q = T1 at *
  refine awp_block ?_
  obtain ⟨mq, hmq⟩ : ∃ mq, mq = m + q := ⟨_, rfl⟩
  rw [← hmq] at hw5 ⊢
  refine awp_loop (ι := (List Vch × List Vch) × Nat) (fun p => ⟨220, [(0, .rs 0 0 n), (1, .I a), (2, .I m), (3, .I b), (4, .fn (.func f) [] capt), (10, .I mq), (13, .I p.2)], [(0, some ⟨7, rowsV ((A ++ p.1.1) ++ x :: (p.1.2 ++ D)), 0⟩)], 120⟩) (fun p => p.1.1.length + a = p.2 ∧ p.1.1.length + p.1.2.length = q ∧ F = (A ++ p.1.1) ++ (p.1.2 ++ x :: D)) (fun p => p.1.2.length) (([], T1), a) ⟨by simp, by simpa using hTq, hF2⟩ (by rw [hZ]; exact Le.refl _ _) ?_
  rintro ⟨⟨U, V⟩, k⟩ ⟨hk1, hk2, hk3⟩
  simp only at hk1 hk2 hk3
  refine awp_seq ?_
  refine awp_regc ⟨220, [(0, .rs 0 0 n), (1, .I a), (2, .I m), (3, .I b), (4, .fn (.func f) [] capt), (10, .I mq), (13, .I k), (58, .B (decide (k < a + q)))], [(0, some ⟨7, rowsV ((A ++ U) ++ x :: (V ++ D)), 0⟩)], 152⟩ rfl ?_ ?_
  · generalize rowsV ((A ++ U) ++ x :: (V ++ D)) = Z at *
    simp [hw5]
    exact Le.keep rfl (Nat.le_refl _) (by simp <;> omega) (by simp)
  refine awp_cond _ rfl (fun h => awp_skip ?_) fun h => awp_exit (hit ?_)
  · simp only [decide_eq_true_eq] at h
    obtain ⟨y, V, rfl⟩ : ∃ y V', V = y :: V' := by cases V with | nil => simp at hk2; omega | cons y V => exact ⟨y, V, rfl⟩
    simp only [List.length_cons] at hk2
    obtain ⟨k1, hk4⟩ : ∃ k1, k1 = k + 1 := ⟨_, rfl⟩
    have hwk : IntKind.i64.wrap ((k : Int) + 1) = (k1 : Int) := by rw [w64 (by omega) (by omega)]; omega
    have hUl : (A ++ U).length = k := by rw [List.length_append]; omega
    have hg := swap2_get (H := A ++ U) (G := []) (T := V ++ D) (x := x) (y := y) (p := k) (q := k1) hUl (by simp; omega)
    have hset := swap2_set (H := A ++ U) (G := []) (T := V ++ D) (x := x) (y := y) (p := k) (q := k1) hUl (by simp; omega)
    obtain ⟨g1, g2⟩ := hg
    simp only [List.nil_append] at g1 g2 hset
    have e2 : (A ++ U) ++ y :: x :: (V ++ D) = (A ++ (U ++ [y])) ++ x :: (V ++ D) := by simp
    rw [e2] at hset
    have e1 : (A ++ U) ++ x :: (y :: V ++ D) = (A ++ U) ++ x :: y :: (V ++ D) := rfl
    rw [e1]
    have hkn : k < n := by omega
    have hkn1 : k1 < n := by omega
    refine awp_cut (ι := Unit) (fun _ => ⟨220, [(0, .rs 0 0 n), (1, .I a), (2, .I m), (3, .I b), (4, .fn (.func f) [] capt), (10, .I mq), (13, .I k)], [(0, some ⟨7, rowsV ((A ++ (U ++ [y])) ++ x :: (V ++ D)), 0⟩)], 400⟩) (fun _ => True) ?_ fun _ _ => ?_
    · generalize rowsV ((A ++ (U ++ [y])) ++ x :: (V ++ D)) = Z2 at *
      generalize rowsV ((A ++ U) ++ x :: y :: (V ++ D)) = Z at *
      have g3 : (Z.set k (vC y))[k1]? = some (vC x) ∨ (Z.set k (vC y))[k1]? = some (vC y) := .inr (by
        rw [List.getElem?_set, if_neg (by omega)]
        exact g2)
      have g4 : (Z.set k (vC y))[k1]? = some (vC y) := by
        rw [List.getElem?_set, if_neg (by omega)]
        exact g2
      refine awp_block ?_
      refine awp_drw rfl ?_
      simp [hwk, hkn, hkn1, g1, g2, g4, splice]
      exact ⟨rfl, Le.keep rfl (by simp) (by simp) (by simp; exact hset)⟩
    have hf2 := rowsV_flat ((A ++ (U ++ [y])) ++ x :: (V ++ D))
    obtain ⟨Z, hZ⟩ : ∃ Z, Z = rowsV ((A ++ (U ++ [y])) ++ x :: (V ++ D)) := ⟨_, rfl⟩
    rw [← hZ] at hf2 ⊢
    refine awp_reg rfl ?_
    simp [hwk]
    refine ⟨U ++ [y], V, k1, ⟨by simp; omega, by simp; omega, by rw [hk3]; simp⟩, by omega, ?_⟩
    exact Le.N1 hf2 rfl (by simp) (by simp [hZ]) rfl (by simp [hs2, hs3, hs4])
  simp only [decide_eq_false_iff_not] at h
  have hV0 : V = [] := List.eq_nil_of_length_eq_zero (by omega)
  have hfin : (A ++ U) ++ x :: (V ++ D) = F := by rw [hk3, hV0]; rfl
  rw [hfin]
  refine awp_ret ?_
  exact ⟨.inr rfl, outV (rowsV_flat F) rfl⟩
set_option maxHeartbeats 4000000 in
set_option maxRecDepth 100000 in
theorem symMergeV_two (f : FuncId) (capt : List AV) (hs : StillV capt) (hc : ∀ x y, ACalls Try.prog f (eV x :: eV y :: capt) [] (.I (cmpV x y)) []) (A S B : List Vch) (x : Vch) (n a m b q : Nat) (hn : (A ++ (S ++ x :: B)).length = n) (ha : A.length = a) (hm : a + S.length = m) (hb : m + 1 = b) (hS : 1 < S.length) (hl : n ≤ 1000000)
    (hq : q ≤ S.length) (hqk : ∀ k (h : k < S.length), ¬ ltV x S[k] ↔ k < q) :
    ACalls Try.prog nslices_symMergeCmpFunc_api_Vouch [.rs 0 0 n, .I a, .I m, .I b, .fn (.func f) [] capt] [⟨7, rowsV (A ++ (S ++ x :: B)), 0⟩] (.tup []) [some ⟨7, rowsV (A ++ (S.take q ++ x :: S.drop q ++ B)), 0⟩] := by
  have hs2 : ∀ ρ sn h, capt.map (conv ρ sn h 2) = capt := fun _ _ _ => hs _ _ _ 1
  have hs3 : ∀ ρ sn h, capt.map (conv ρ sn h 3) = capt := fun _ _ _ => hs _ _ _ 2
  have hs4 : ∀ ρ sn h, capt.map (conv ρ sn h 4) = capt := fun _ _ _ => hs _ _ _ 3
  refine sslices_symMergeCmpFunc_api_Vouch.acalls (Nat.le_of_ble_eq_true rfl) (Nat.le_of_ble_eq_true rfl) (Nat.le_of_ble_eq_true rfl) ?_
  have hbn : b + B.length = n := by simp only [List.length_append, List.length_cons] at hn; omega
  have hga : (rowsV (A ++ (S ++ x :: B)))[m]? = some (vC x) := at2 (A := A) (S := S) (T := [x]) (R := B) (k := 0) (by simp) (by omega)
  have hgt : ∀ h, (h1 : a ≤ h) → (h2 : h < m) → (rowsV (A ++ (S ++ x :: B)))[h]? = some (vC (S[h - a]'(by omega))) := fun h h1 h2 => at1 (A := A) (S := S) (R := x :: B) (k := h - a) (by omega) (by omega)
  have hflat := rowsV_flat (A ++ (S ++ x :: B))
  obtain ⟨Z, hZ⟩ : ∃ Z, Z = rowsV (A ++ (S ++ x :: B)) := ⟨_, rfl⟩
  rw [← hZ] at hga hgt hflat ⊢
  show awp _ 1 _ _ ⟨220, [(0, .rs 0 0 n), (1, .I a), (2, .I m), (3, .I b), (4, .fn (.func f) [] capt)], [(0, some ⟨7, Z, 0⟩)], 16⟩
  have hw1 : IntKind.i64.wrap ((m : Int) - a) = (m : Int) - a := w64 (by omega) (by omega)
  have hw2 : IntKind.i64.wrap ((b : Int) - m) = (b : Int) - m := w64 (by omega) (by omega)
  refine awp_seq ?_
  refine awp_regc ⟨220, [(0, .rs 0 0 n), (1, .I a), (2, .I m), (3, .I b), (4, .fn (.func f) [] capt), (28, .B false)], [(0, some ⟨7, Z, 0⟩)], 48⟩ rfl ?_ ?_
  · simp [hw1]
    exact Le.keep rfl (Nat.le_refl _) (by simp; omega) (by simp)
  refine awp_cond _ rfl (fun h => by cases h) fun _ => awp_skip ?_
  refine awp_seq ?_
  refine awp_regc ⟨220, [(0, .rs 0 0 n), (1, .I a), (2, .I m), (3, .I b), (4, .fn (.func f) [] capt), (80, .B true)], [(0, some ⟨7, Z, 0⟩)], 80⟩ rfl ?_ ?_
  · simp [hw2]
    exact Le.keep rfl (Nat.le_refl _) (by simp; omega) (by simp)
  refine awp_cond _ rfl (fun _ => ?_) fun h => by cases h
  refine awp_regc ⟨220, [(0, .rs 0 0 n), (1, .I a), (2, .I m), (3, .I b), (4, .fn (.func f) [] capt), (14, .I a)], [(0, some ⟨7, Z, 0⟩)], 96⟩ rfl (by simp; exact Le.keep rfl (Nat.le_refl _) (by simp) (by simp)) ?_
  refine awp_regc ⟨220, [(0, .rs 0 0 n), (1, .I a), (2, .I m), (3, .I b), (4, .fn (.func f) [] capt), (14, .I a), (15, .I m)], [(0, some ⟨7, Z, 0⟩)], 112⟩ rfl (by simp; exact Le.keep rfl (Nat.le_refl _) (by simp) (by simp)) ?_
  refine awp_seq ?_
  refine awp_block ?_
  refine awp_loop (ι := Nat × Nat) (fun p => ⟨220, [(0, .rs 0 0 n), (1, .I a), (2, .I m), (3, .I b), (4, .fn (.func f) [] capt), (14, .I p.1), (15, .I p.2)], [(0, some ⟨7, Z, 0⟩)], 112⟩) (fun p => a ≤ p.1 ∧ p.1 ≤ a + q ∧ a + q ≤ p.2 ∧ p.2 ≤ m) (fun p => p.2 - p.1) (a, m) ⟨by simp, by simp, by simp; omega, by simp⟩ (Le.refl _ _) ?_
  rintro ⟨i, j⟩ ⟨hj1, hj2, hj3, hj4⟩
  simp only at hj1 hj2 hj3 hj4
  refine awp_seq ?_
  refine awp_regc ⟨220, [(0, .rs 0 0 n), (1, .I a), (2, .I m), (3, .I b), (4, .fn (.func f) [] capt), (14, .I i), (15, .I j), (85, .B (decide (i < j)))], [(0, some ⟨7, Z, 0⟩)], 136⟩ rfl (by simp; exact Le.keep rfl (Nat.le_refl _) (by simp) (by simp)) ?_
  refine awp_cond _ rfl (fun h4 => awp_skip ?_) fun h4 => awp_exit (hit ?_)
  · simp only [decide_eq_true_eq] at h4
    obtain ⟨hw, hu, hd, hw3⟩ := half_v (i := i) (j := j) (by omega)
    refine awp_block ?_
    refine awp_regc ⟨220, [(0, .rs 0 0 n), (1, .I a), (2, .I m), (3, .I b), (4, .fn (.func f) [] capt), (14, .I i), (15, .I j), (16, .I ((i + j) / 2 : Nat))], [(0, some ⟨7, Z, 0⟩)], 192⟩ rfl ?_ ?_
    · simp [hw, hu, hd, hw3, IntKind.bits, -Int.natCast_ediv, -Int.natCast_add]
      exact Le.keep rfl (Nat.le_refl _) (by simp [hw, hu, hd, hw3]) (by simp)
    obtain ⟨h, hh⟩ : ∃ h, h = (i + j) / 2 := ⟨_, rfl⟩
    rw [← hh]
    have hhn : h < n := by omega
    have hmn : m < n := by omega
    have hg1 := hgt h (by omega) (by omega)
    have hk := hqk (h - a) (by omega)
    have hcc := hc x (S[h - a]'(by omega))
    have hb2 : (!decide (cmpV x (S[h - a]'(by omega)) < 0)) = decide (h < a + q) := by
      rw [← decide_not, decide_eq_decide, cmpV_lt, hk]; omega
    generalize S[h - a]'(by omega) = y at *
    have hwq : IntKind.i64.wrap ((h : Int) + 1) = ((h + 1 : Nat) : Int) := by rw [w64 (by omega) (by omega)]; omega
    refine awp_dregc ⟨220, [(0, .rs 0 0 n), (1, .I a), (2, .I m), (3, .I b), (4, .fn (.func f) [] capt), (14, .I i), (15, .I j), (16, .I h), (103, .B (decide (h < a + q)))], [(0, some ⟨7, Z, 0⟩)], 288⟩ rfl ?_ ?_
    · rw [← hb2]
      simp [hg1, hga, hhn, hmn]
      refine call0e hcc ?_ ?_
      · simp [hs2, hs3, hs4]
      simp
      exact ⟨rfl, Le.keep rfl (Nat.le_refl _) (by simp) (by simp)⟩
    refine awp_cond _ rfl (fun h5 => ?_) fun h5 => ?_
    · simp only [decide_eq_true_eq] at h5
      refine awp_reg rfl ?_
      simp [hwq]
      exact ⟨h + 1, j, ⟨by omega, by omega, by omega, by omega⟩, by omega, Le.N1 hflat rfl (by simp) rfl rfl (by simp [hs2, hs3, hs4])⟩
    · simp only [decide_eq_false_iff_not] at h5
      refine awp_reg rfl ?_
      simp
      exact ⟨i, h, ⟨by omega, by omega, by omega, by omega⟩, by omega, Le.N1 hflat rfl (by simp) rfl rfl (by simp [hs2, hs3, hs4])⟩
  simp only [decide_eq_false_iff_not] at h4
  obtain rfl : i = a + q := by omega
  refine awp_seq ?_
  refine awp_regc ⟨220, [(0, .rs 0 0 n), (1, .I a), (2, .I m), (3, .I b), (4, .fn (.func f) [] capt), (14, .I (a + q : Nat)), (17, .I m)], [(0, some ⟨7, Z, 0⟩)], 152⟩ rfl (by simp; exact Le.keep rfl (Nat.le_refl _) (by simp) (by simp)) ?_
  obtain ⟨F, hF⟩ : ∃ F, F = A ++ (S.take q ++ x :: S.drop q ++ B) := ⟨_, rfl⟩
  have hSq : (S.take q).length = q := by rw [List.length_take]; omega
  have hSd : (S.drop q).length + q = S.length := by rw [List.length_drop]; omega
  have hZ2 : A ++ (S ++ x :: B) = (A ++ S.take q) ++ ((S.drop q).reverse.reverse ++ x :: ([] ++ B)) := by
    rw [List.reverse_reverse, List.append_assoc A, ← List.append_assoc (S.take q), List.take_append_drop]
    rfl
  obtain ⟨H, hH⟩ : ∃ H, H = A ++ S.take q := ⟨_, rfl⟩
  have hF2 : F = H ++ (x :: ((S.drop q).reverse.reverse ++ ([] ++ B))) := by rw [hF, hH, List.reverse_reverse]; simp
  have hHl : H.length = a + q := by rw [hH, List.length_append]; omega
  rw [← hH] at hZ2
  rw [← hF]
  rw [hZ2] at hZ
  have hWl : (S.drop q).reverse.length + q = S.length := by rw [List.length_reverse]; exact hSd
  generalize (S.drop q).reverse = W at *
  refine awp_block ?_
  obtain ⟨aq, haq⟩ : ∃ aq, aq = a + q := ⟨_, rfl⟩
  rw [← haq] at hHl ⊢
  refine awp_loop (ι := (List Vch × List Vch) × Nat) (fun p => ⟨220, [(0, .rs 0 0 n), (1, .I a), (2, .I m), (3, .I b), (4, .fn (.func f) [] capt), (14, .I aq), (17, .I p.2)], [(0, some ⟨7, rowsV (H ++ (p.1.1.reverse ++ x :: (p.1.2 ++ B))), 0⟩)], 152⟩) (fun p => aq + p.1.1.length = p.2 ∧ p.2 + p.1.2.length = m ∧ F = H ++ (x :: (p.1.1.reverse ++ (p.1.2 ++ B)))) (fun p => p.1.1.length) ((W, []), m) ⟨by show aq + W.length = m; omega, by simp, hF2⟩ (by rw [hZ]; exact Le.refl _ _) ?_
  rintro ⟨⟨W, V⟩, k⟩ ⟨hk1, hk2, hk3⟩
  simp only at hk1 hk2 hk3
  refine awp_seq ?_
  refine awp_regc ⟨220, [(0, .rs 0 0 n), (1, .I a), (2, .I m), (3, .I b), (4, .fn (.func f) [] capt), (14, .I aq), (17, .I k), (110, .B (decide (aq < k)))], [(0, some ⟨7, rowsV (H ++ (W.reverse ++ x :: (V ++ B))), 0⟩)], 176⟩ rfl ?_ ?_
  · generalize rowsV (H ++ (W.reverse ++ x :: (V ++ B))) = Z at *
    simp
    exact Le.keep rfl (Nat.le_refl _) (by simp) (by simp)
  refine awp_cond _ rfl (fun h => awp_skip ?_) fun h => awp_exit (hit ?_)
  · simp only [decide_eq_true_eq] at h
    obtain ⟨y, W, rfl⟩ : ∃ y V', W = y :: V' := by cases W with | nil => simp at hk1; omega | cons y V => exact ⟨y, V, rfl⟩
    simp only [List.length_cons] at hk1
    obtain ⟨j, hj⟩ : ∃ j, j + 1 = k := ⟨k - 1, by omega⟩
    have hwk : IntKind.i64.wrap ((k : Int) - 1) = (j : Int) := by rw [w64 (by omega) (by omega)]; omega
    have hUl : (H ++ W.reverse).length = j := by rw [List.length_append, List.length_reverse]; omega
    have e1 : H ++ ((y :: W).reverse ++ x :: (V ++ B)) = (H ++ W.reverse) ++ y :: x :: (V ++ B) := by simp
    have e2 : (H ++ W.reverse) ++ x :: y :: (V ++ B) = H ++ (W.reverse ++ x :: ((y :: V) ++ B)) := by simp
    have g1 := (mid_getV (H := H ++ W.reverse) (T := V ++ B) (y := y) (x := x) hUl).1
    have g2 := (mid_getV (H := H ++ W.reverse) (T := V ++ B) (y := y) (x := x) hUl).2
    have hset := mid_setV (H := H ++ W.reverse) (T := V ++ B) (y := y) (x := x) hUl
    rw [hj] at g2 hset
    rw [e2] at hset
    rw [e1]
    have hkn : k < n := by omega
    have hjn : j < n := by omega
    refine awp_cut (ι := Unit) (fun _ => ⟨220, [(0, .rs 0 0 n), (1, .I a), (2, .I m), (3, .I b), (4, .fn (.func f) [] capt), (14, .I aq), (17, .I k)], [(0, some ⟨7, rowsV (H ++ (W.reverse ++ x :: ((y :: V) ++ B))), 0⟩)], 400⟩) (fun _ => True) ?_ fun _ _ => ?_
    · generalize rowsV (H ++ (W.reverse ++ x :: ((y :: V) ++ B))) = Z2 at *
      generalize rowsV ((H ++ W.reverse) ++ y :: x :: (V ++ B)) = Z at *
      have g4 : (Z.set k (vC y))[j]? = some (vC y) := by
        rw [List.getElem?_set, if_neg (by omega)]
        exact g1
      refine awp_block ?_
      refine awp_drw rfl ?_
      simp [hwk, hkn, hjn, g1, g2, g4, splice]
      exact ⟨rfl, Le.keep rfl (by simp) (by simp) (by simp; exact hset)⟩
    have hf2 := rowsV_flat (H ++ (W.reverse ++ x :: ((y :: V) ++ B)))
    obtain ⟨Z, hZ⟩ : ∃ Z, Z = rowsV (H ++ (W.reverse ++ x :: ((y :: V) ++ B))) := ⟨_, rfl⟩
    rw [← hZ] at hf2 ⊢
    refine awp_reg rfl ?_
    simp [hwk]
    refine ⟨W, y :: V, j, ⟨by omega, by simp; omega, by rw [hk3]; simp⟩, by omega, ?_⟩
    exact Le.N1 hf2 rfl (by simp) (by simp [hZ]) rfl (by simp [hs2, hs3, hs4])
  simp only [decide_eq_false_iff_not] at h
  have hV0 : W = [] := List.eq_nil_of_length_eq_zero (by omega)
  have hfin : H ++ (W.reverse ++ x :: (V ++ B)) = F := by rw [hk3, hV0]; rfl
  rw [hfin]
  refine awp_ret ?_
  exact ⟨.inr rfl, outV (rowsV_flat F) rfl⟩
end Go.Proofs.Ytnphfkceoklkkaa
namespace Go.Proofs.Ytnphfkceoklkkaa
open Go
theorem srtV_one {a b : List Vch} (ha : srtV a) (hb : srtV b) (h : a = [] ∨ b = []) : srtV (a ++ b) := by
  rcases h with rfl | rfl
  · exact hb
  · rw [List.append_nil]; exact ha
theorem srtV_perm {a b c d : List Vch} (h1 : a.Perm b) (h2 : c.Perm d) (hp : ∀ x ∈ b, ∀ y ∈ d, ¬ ltV y x) (ha : srtV a) (hc : srtV c) : srtV (a ++ c) :=
  srtV_append ha hc fun x hx y hy => hp x (h1.mem_iff.1 hx) y (h2.mem_iff.1 hy)
set_option maxHeartbeats 4000000 in
set_option maxRecDepth 100000 in
theorem symMerge_walk (f : FuncId) (capt : List AV) (hs : StillV capt) (hc : ∀ x y, ACalls Try.prog f (eV x :: eV y :: capt) [] (.I (cmpV x y)) []) (n a m b mid mm lo hi q e : Nat) (Z Z1 Z2 Z3 : List (List AV))
    (hf0 : ∀ ρ sn h m, Z.map (List.map (conv ρ sn h (m + 1))) = Z) (hf1 : ∀ ρ sn h m, Z1.map (List.map (conv ρ sn h (m + 1))) = Z1) (hf2 : ∀ ρ sn h m, Z2.map (List.map (conv ρ sn h (m + 1))) = Z2) (hf3 : ∀ ρ sn h m, Z3.map (List.map (conv ρ sn h (m + 1))) = Z3)
    (ham : a + 1 < m) (hmb : m + 1 < b) (hbn : b ≤ n) (hl : n ≤ 1000000) (hmid : mid = (a + b) / 2) (hmm : mm = mid + m) (hA : mid < m → lo + b = mm ∧ hi = mid) (hB : m ≤ mid → lo = a ∧ hi = m) (hq1 : lo ≤ q) (hq2 : q ≤ hi) (he : e + q = mm) (hal : a ≤ lo) (him : hi ≤ m) (himd : hi ≤ mid)
    (hkey : ∀ c d, lo ≤ c → c < hi → c + d + 1 = mm → d < n ∧ ∃ x y, Z[c]? = some (vC x) ∧ Z[d]? = some (vC y) ∧ (¬ cmpV y x < 0 ↔ c < q))
    (hrot : q < m → m < e → ACalls Try.prog nslices_rotateCmpFunc_api_Vouch [.rs 0 0 n, .I q, .I m, .I e, .fn (.func f) [] capt] [⟨7, Z, 0⟩] (.tup []) [some ⟨7, Z1, 0⟩]) (hrot' : ¬ (q < m ∧ m < e) → Z = Z1)
    (hm1 : a < q → q < mid → ACalls Try.prog nslices_symMergeCmpFunc_api_Vouch [.rs 0 0 n, .I a, .I q, .I mid, .fn (.func f) [] capt] [⟨7, Z1, 0⟩] (.tup []) [some ⟨7, Z2, 0⟩]) (hm1' : ¬ (a < q ∧ q < mid) → Z1 = Z2)
    (hm2 : mid < e → e < b → ACalls Try.prog nslices_symMergeCmpFunc_api_Vouch [.rs 0 0 n, .I mid, .I e, .I b, .fn (.func f) [] capt] [⟨7, Z2, 0⟩] (.tup []) [some ⟨7, Z3, 0⟩]) (hm2' : ¬ (mid < e ∧ e < b) → Z2 = Z3) :
    ACalls Try.prog nslices_symMergeCmpFunc_api_Vouch [.rs 0 0 n, .I a, .I m, .I b, .fn (.func f) [] capt] [⟨7, Z, 0⟩] (.tup []) [some ⟨7, Z3, 0⟩] := by
  have hs2 : ∀ ρ sn h, capt.map (conv ρ sn h 2) = capt := fun _ _ _ => hs _ _ _ 1
  have hs3 : ∀ ρ sn h, capt.map (conv ρ sn h 3) = capt := fun _ _ _ => hs _ _ _ 2
  have hs4 : ∀ ρ sn h, capt.map (conv ρ sn h 4) = capt := fun _ _ _ => hs _ _ _ 3
  have hw1 : IntKind.i64.wrap ((m : Int) - a) = (m : Int) - a := w64 (by omega) (by omega)
  have hw2 : IntKind.i64.wrap ((b : Int) - m) = (b : Int) - m := w64 (by omega) (by omega)
  have hne1 : ¬ ((m : Int) - a = 1) := by omega
  have hne2 : ¬ ((b : Int) - m = 1) := by omega
  obtain ⟨p, hp⟩ : ∃ p, p + 1 = mm := ⟨mm - 1, by omega⟩
  have hw4 : IntKind.i64.wrap ((mid : Int) + (m : Int)) = (mm : Int) := by rw [w64 (by omega) (by omega)]; omega
  have hw5 : mid < m → IntKind.i64.wrap ((mm : Int) - (b : Int)) = (lo : Int) := fun h => by have := hA h; rw [w64 (by omega) (by omega)]; omega
  have hw6 : IntKind.i64.wrap ((mm : Int) - 1) = (p : Int) := by rw [w64 (by omega) (by omega)]; omega
  have hw7 : IntKind.i64.wrap ((mm : Int) - (q : Int)) = (e : Int) := by rw [w64 (by omega) (by omega)]; omega
  obtain ⟨hwA, hwB, hwC, hwD⟩ := half_v (i := a) (j := b) (by omega)
  rw [← hmid] at hwC hwD
  refine sslices_symMergeCmpFunc_api_Vouch.acalls (Nat.le_of_ble_eq_true rfl) (Nat.le_of_ble_eq_true rfl) (Nat.le_of_ble_eq_true rfl) ?_
  show awp _ 1 _ _ ⟨220, [(0, .rs 0 0 n), (1, .I a), (2, .I m), (3, .I b), (4, .fn (.func f) [] capt)], [(0, some ⟨7, Z, 0⟩)], 16⟩
  refine awp_seq ?_
  refine rk (s := ?s01) [0, 1, 2, 3, 4, 28] [0] rfl ?o01 ?q01
  case o01 => simp [hw1, hne1]; rfl
  refine awp_cond _ rfl (fun h => by simp [hne1] at h) fun _ => awp_skip ?_
  refine awp_seq ?_
  refine rk (s := ?s02) [0, 1, 2, 3, 4, 80] [0] rfl ?o02 ?q02
  case o02 => simp [hw2, hne2]; rfl
  refine awp_cond _ rfl (fun h => by simp [hne2] at h) fun _ => awp_skip ?_
  refine rk (s := ?s1) [0, 1, 2, 3, 4, 18] [0] rfl ?o1 ?q1
  case o1 => simp [hwA, hwB, hwC, hwD, IntKind.bits, -Int.natCast_ediv, -Int.natCast_add]; rfl
  refine rk (s := ?s2) [0, 1, 2, 3, 4, 18, 19] [0] rfl ?o2 ?q2
  case o2 => simp [hw4]; rfl
  refine rk (s := ?s3) [0, 1, 2, 3, 4, 18, 19, 20, 21] [0] rfl ?o3 ?q3
  case o3 => simp; rfl
  clear hwA hwB hwC hwD
  refine awp_cut (ι := Unit) (fun _ => ⟨220, [(0, .rs 0 0 n), (1, .I a), (2, .I m), (3, .I b), (4, .fn (.func f) [] capt), (18, .I mid), (19, .I mm), (20, .I lo), (21, .I hi)], [(0, some ⟨7, Z, 0⟩)], 300⟩) (fun _ => True) ?_ fun _ _ => ?_
  · refine rk (s := ?s4) [0, 1, 2, 3, 4, 18, 19, 20, 21, 140] [0] rfl ?o4 ?q4
    case o4 => simp; rfl
    refine awp_cond _ rfl (fun h5 => ?_) fun h5 => ?_
    · simp only [decide_eq_true_eq, Int.ofNat_lt] at h5
      refine rk (s := ?s5) [0, 1, 2, 3, 4, 18, 19, 20] [0] rfl ?o5 ?q5
      case o5 => simp [hw5 h5]; rfl
      refine awp_reg rfl ?_
      simp
      exact Le.keep rfl (by simp) (by simp [(hA h5).2]) (by simp)
    · simp only [decide_eq_false_iff_not, Int.ofNat_lt] at h5
      have hB' := hB (by omega)
      refine rk (s := ?s6) [0, 1, 2, 3, 4, 18, 19, 20] [0] rfl ?o6 ?q6
      case o6 => simp; rfl
      refine awp_reg rfl ?_
      simp
      exact Le.keep rfl (by simp) (by simp [hB'.1, hB'.2]) (by simp)
  refine rk (s := ?s7) [0, 1, 2, 3, 4, 18, 19, 20, 21, 22] [0] rfl ?o7 ?q7
  case o7 => simp [hw6]; rfl
  refine awp_seq ?_
  refine awp_block ?_
  refine awp_loop (ι := Nat × Nat) (fun p' => ⟨220, [(0, .rs 0 0 n), (1, .I a), (2, .I m), (3, .I b), (4, .fn (.func f) [] capt), (18, .I mid), (19, .I mm), (20, .I p'.1), (21, .I p'.2), (22, .I p)], [(0, some ⟨7, Z, 0⟩)], 400⟩) (fun p => lo ≤ p.1 ∧ p.1 ≤ q ∧ q ≤ p.2 ∧ p.2 ≤ hi) (fun p => p.2 - p.1) (lo, hi) ⟨by simp, by simpa using hq1, by simpa using hq2, by simp⟩ (Le.keep rfl (by simp) (by simp) (by simp)) ?_
  rintro ⟨i, j⟩ ⟨hj1, hj2, hj3, hj4⟩
  simp only at hj1 hj2 hj3 hj4
  refine awp_seq ?_
  refine rk (s := ?s8) [0, 1, 2, 3, 4, 18, 19, 20, 21, 22, 151] [0] rfl ?o8 ?q8
  case o8 => simp; rfl
  refine awp_cond _ rfl (fun h4 => awp_skip ?_) fun h4 => awp_exit (hit ?_)
  · simp only [decide_eq_true_eq, Int.ofNat_lt] at h4
    obtain ⟨hw, hu, hd, hw3⟩ := half_v (i := i) (j := j) (by omega)
    refine awp_block ?_
    obtain ⟨c, hcc⟩ : ∃ c, c = (i + j) / 2 := ⟨_, rfl⟩
    rw [← hcc] at hd hw3
    refine rk (s := ?s9) [0, 1, 2, 3, 4, 18, 19, 20, 21, 22, 23] [0] rfl ?o9 ?q9
    case o9 => simp [hw, hu, hd, hw3, IntKind.bits, -Int.natCast_ediv, -Int.natCast_add]; rfl
    obtain ⟨d, hd2⟩ : ∃ d, c + d + 1 = mm := ⟨p - c, by omega⟩
    obtain ⟨hdn, x, y, hg1, hg2, hk2⟩ := hkey c d (by omega) (by omega) hd2
    have hcmp := hc y x
    have hb2 : (!decide (cmpV y x < 0)) = decide (c < q) := by rw [← decide_not, decide_eq_decide]; exact hk2
    have hwd : IntKind.i64.wrap ((p : Int) - (c : Int)) = (d : Int) := by rw [w64 (by omega) (by omega)]; omega
    have hcn : c < n := by omega
    have hwq : IntKind.i64.wrap ((c : Int) + 1) = ((c + 1 : Nat) : Int) := by rw [w64 (by omega) (by omega)]; omega
    refine awp_dregc ⟨220, [(0, .rs 0 0 n), (1, .I a), (2, .I m), (3, .I b), (4, .fn (.func f) [] capt), (18, .I mid), (19, .I mm), (20, .I i), (21, .I j), (22, .I p), (23, .I c), (171, .B (decide (c < q)))], [(0, some ⟨7, Z, 0⟩)], 600⟩ rfl ?_ ?_
    · rw [← hb2]
      simp [hg1, hg2, hwd, hdn, hcn]
      refine call0e hcmp ?_ ?_
      · simp [hs2, hs3, hs4]
      simp
      exact ⟨rfl, Le.keep rfl (by simp) (by simp) (by simp)⟩
    refine awp_cond _ rfl (fun h5 => ?_) fun h5 => ?_
    · simp only [decide_eq_true_eq] at h5
      refine awp_reg rfl ?_
      simp [hwq]
      exact ⟨c + 1, j, ⟨by omega, by omega, by omega, by omega⟩, by omega, Le.N1 hf0 rfl (by simp) rfl rfl (by simp [hs2, hs3, hs4])⟩
    · simp only [decide_eq_false_iff_not] at h5
      refine awp_reg rfl ?_
      simp
      exact ⟨i, c, ⟨by omega, by omega, by omega, by omega⟩, by omega, Le.N1 hf0 rfl (by simp) rfl rfl (by simp [hs2, hs3, hs4])⟩
  simp only [decide_eq_false_iff_not, Int.ofNat_lt] at h4
  obtain rfl : i = q := by omega
  refine rk (s := ?s10) [0, 1, 2, 3, 4, 18, 20, 24] [0] rfl ?o10 ?q10
  case o10 => simp [hw7]; rfl
  refine awp_cut (ι := Unit) (fun _ => ⟨220, [(0, .rs 0 0 n), (1, .I a), (2, .I m), (3, .I b), (4, .fn (.func f) [] capt), (18, .I mid), (20, .I i), (24, .I e)], [(0, some ⟨7, Z1, 0⟩)], 1000⟩) (fun _ => True) ?_ fun _ _ => ?_
  · refine awp_regc ⟨220, [(0, .rs 0 0 n), (1, .I a), (2, .I m), (3, .I b), (4, .fn (.func f) [] capt), (18, .I mid), (20, .I i), (24, .I e), (185, .B (decide (i < m ∧ m < e)))], [(0, some ⟨7, Z, 0⟩)], 700⟩ rfl ?_ ?_
    · by_cases c1 : i < m
      · simp [c1]
        exact Le.keep rfl (by simp) (by simp) (by simp)
      · simp [c1]
        exact Le.keep rfl (by simp) (by simp) (by simp)
    refine awp_cond _ rfl (fun h5 => ?_) fun h5 => awp_skip ?_
    · simp only [decide_eq_true_eq] at h5
      refine awp_reg rfl ?_
      simp
      refine callM1 (i := 0) rfl (e' := ⟨7, Z, 0⟩) (by simp [hf0]) (hrot h5.1 h5.2) (by simp) (by simp [hs2, hs3, hs4]) ?_
      simp [hf1]
      exact Le.keep rfl (by simp) (by simp) (by simp)
    · simp only [decide_eq_false_iff_not] at h5
      exact ⟨(), trivial, Le.keep rfl (by simp) (by simp) (by simp [hrot' h5])⟩
  refine awp_cut (ι := Unit) (fun _ => ⟨220, [(0, .rs 0 0 n), (1, .I a), (2, .I m), (3, .I b), (4, .fn (.func f) [] capt), (18, .I mid), (20, .I i), (24, .I e)], [(0, some ⟨7, Z2, 0⟩)], 2000⟩) (fun _ => True) ?_ fun _ _ => ?_
  · refine awp_regc ⟨220, [(0, .rs 0 0 n), (1, .I a), (2, .I m), (3, .I b), (4, .fn (.func f) [] capt), (18, .I mid), (20, .I i), (24, .I e), (199, .B (decide (a < i ∧ i < mid)))], [(0, some ⟨7, Z1, 0⟩)], 1500⟩ rfl ?_ ?_
    · by_cases c1 : a < i
      · simp [c1]
        exact Le.keep rfl (by simp) (by simp) (by simp)
      · simp [c1]
        exact Le.keep rfl (by simp) (by simp) (by simp)
    refine awp_cond _ rfl (fun h5 => ?_) fun h5 => awp_skip ?_
    · simp only [decide_eq_true_eq] at h5
      refine awp_reg rfl ?_
      simp
      refine callM1 (i := 0) rfl (e' := ⟨7, Z1, 0⟩) (by simp [hf1]) (hm1 h5.1 h5.2) (by simp) (by simp [hs2, hs3, hs4]) ?_
      simp [hf2]
      exact Le.keep rfl (by simp) (by simp) (by simp)
    · simp only [decide_eq_false_iff_not] at h5
      exact ⟨(), trivial, Le.keep rfl (by simp) (by simp) (by simp [hm1' h5])⟩
  refine awp_regc ⟨220, [(0, .rs 0 0 n), (3, .I b), (4, .fn (.func f) [] capt), (18, .I mid), (24, .I e), (213, .B (decide (mid < e ∧ e < b)))], [(0, some ⟨7, Z2, 0⟩)], 2500⟩ rfl ?_ ?_
  · by_cases c1 : mid < e
    · simp [c1]
      exact Le.keep rfl (by simp) (by simp) (by simp)
    · simp [c1]
      exact Le.keep rfl (by simp) (by simp) (by simp)
  refine awp_cond _ rfl (fun h5 => ?_) fun h5 => awp_skip ?_
  · simp only [decide_eq_true_eq] at h5
    refine awp_reg rfl ?_
    simp
    refine callM1 (i := 0) rfl (e' := ⟨7, Z2, 0⟩) (by simp [hf2]) (hm2 h5.1 h5.2) (by simp) (by simp [hs2, hs3, hs4]) ?_
    simp [hf3]
    exact outV hf3 rfl
  · simp only [decide_eq_false_iff_not] at h5
    rw [hm2' h5]
    exact ⟨.inl rfl, outV hf3 rfl⟩
set_option maxHeartbeats 4000000 in
set_option maxRecDepth 100000 in
theorem symMergeV_ok (f : FuncId) (capt : List AV) (hs : StillV capt) (hc : ∀ x y, ACalls Try.prog f (eV x :: eV y :: capt) [] (.I (cmpV x y)) []) : ∀ (k : Nat) (A S T B : List Vch) (n a m b : Nat), S.length + T.length = k → (A ++ (S ++ (T ++ B))).length = n → A.length = a → a + S.length = m → m + T.length = b →
    0 < S.length → 0 < T.length → n ≤ 1000000 → srtV S → srtV T → ∃ R : List Vch, R.Perm (S ++ T) ∧ srtV R ∧
    ACalls Try.prog nslices_symMergeCmpFunc_api_Vouch [.rs 0 0 n, .I a, .I m, .I b, .fn (.func f) [] capt] [⟨7, rowsV (A ++ (S ++ (T ++ B))), 0⟩] (.tup []) [some ⟨7, rowsV (A ++ (R ++ B)), 0⟩] := by
  intro k
  induction k using Nat.strongRecOn with
  | ind k ih =>
  intro A S T B n a m b hk hn ha hm hb hS0 hT0 hl hSs hTs
  by_cases hS1 : S.length = 1
  · obtain ⟨x, rfl⟩ := List.length_eq_one_iff.1 hS1
    obtain ⟨q, hq, hqk, hsr⟩ := one_left (x := x) hTs
    refine ⟨T.take q ++ x :: T.drop q, ?_, hsr, ?_⟩
    · refine (List.perm_middle).trans ?_
      rw [List.take_append_drop]
      exact List.Perm.refl _
    · exact symMergeV_one f capt hs hc A T B x n a m b q hn ha (by simpa using hm) hb hT0 hl hq hqk
  by_cases hT1 : T.length = 1
  · obtain ⟨x, rfl⟩ := List.length_eq_one_iff.1 hT1
    obtain ⟨q, hq, hqk, hsr⟩ := one_right (x := x) hSs
    refine ⟨S.take q ++ x :: S.drop q, ?_, hsr, ?_⟩
    · refine (List.perm_middle).trans ?_
      rw [List.take_append_drop]
      exact (List.perm_append_singleton x S).symm
    · exact symMergeV_two f capt hs hc A S B x n a m b q hn ha hm (by simpa using hb) (by omega) hl hq hqk
  obtain ⟨mid, hmid⟩ : ∃ mid, mid = (a + b) / 2 := ⟨_, rfl⟩
  obtain ⟨lo, hlo⟩ : ∃ lo, lo = if mid < m then mid + m - b else a := ⟨_, rfl⟩
  obtain ⟨hi, hhi⟩ : ∃ hi, hi = if mid < m then mid else m := ⟨_, rfl⟩
  obtain ⟨q, hq⟩ := cutV_ex (lo := lo) (hi := hi) hSs hTs hm hb hS0 hT0 hmid (by
    by_cases h : mid < m
    · rw [if_pos h] at hlo hhi; exact .inl ⟨h, hlo, hhi⟩
    · rw [if_neg h] at hlo hhi; exact .inr ⟨by omega, hlo, hhi⟩)
  have hbn : b + B.length = n := by simp only [List.length_append] at hn; omega
  have hlo2 : a ≤ lo ∧ lo ≤ hi ∧ hi ≤ m ∧ hi ≤ mid ∧ mid + m ≤ b + lo := by
    by_cases h : mid < m
    · rw [if_pos h] at hlo hhi; omega
    · rw [if_neg h] at hlo hhi; omega
  obtain ⟨q1, q2, key, am, qm, qd, eb, below, above⟩ := hq
  obtain ⟨e, he⟩ : ∃ e, e = mid + m - q := ⟨_, rfl⟩
  have hbelow : ∀ s ∈ S.drop (q - a), ∀ t ∈ T.take (mid - q), ¬ ltV s t := fun s h1 t h2 => ltV_asym (below s h1 t h2)
  obtain ⟨sS1, sS2, sS3⟩ := srtV_parts (a := S.take (q - a)) (b := S.drop (q - a)) (by rw [List.take_append_drop]; exact hSs)
  obtain ⟨sT1, sT2, sT3⟩ := srtV_parts (a := T.take (mid - q)) (b := T.drop (mid - q)) (by rw [List.take_append_drop]; exact hTs)
  have lS1 : a + (S.take (q - a)).length = q := by rw [List.length_take]; omega
  have lT1 : q + (T.take (mid - q)).length = mid := by rw [List.length_take]; omega
  have lS2 : mid + (S.drop (q - a)).length = e := by rw [List.length_drop]; omega
  have lT2 : e + (T.drop (mid - q)).length = b := by rw [List.length_drop]; omega
  have hST : S ++ T = S.take (q - a) ++ S.drop (q - a) ++ (T.take (mid - q) ++ T.drop (mid - q)) := by rw [List.take_append_drop, List.take_append_drop]
  have hZ1 : A ++ (S ++ (T ++ B)) = A ++ S.take (q - a) ++ (S.drop (q - a) ++ (T.take (mid - q) ++ (T.drop (mid - q) ++ B))) := by
    rw [List.append_assoc A, ← List.append_assoc (S.take (q - a)), List.take_append_drop, ← List.append_assoc (T.take (mid - q)), List.take_append_drop]
  have hab : a < mid ∧ mid < b := by omega
  have hrot := rotateV_ok f capt hs (A ++ S.take (q - a)) (S.drop (q - a)) (T.take (mid - q)) (T.drop (mid - q) ++ B) n q m e (by rw [← hZ1]; exact hn) (by rw [List.length_append]; omega) (by rw [List.length_drop]; omega) (by omega)
  generalize hgS1 : S.take (q - a) = S1 at *
  generalize hgS2 : S.drop (q - a) = S2 at *
  generalize hgT1 : T.take (mid - q) = T1 at *
  generalize hgT2 : T.drop (mid - q) = T2 at *
  have hga : ∀ c, (h1 : a ≤ c) → (h2 : c < m) → (rowsV (A ++ (S ++ (T ++ B))))[c]? = some (vC (S[c - a]'(by omega))) := fun c h1 h2 => at1 (A := A) (S := S) (R := T ++ B) (k := c - a) (by omega) (by omega)
  have hgt : ∀ c, (h1 : m ≤ c) → (h2 : c < b) → (rowsV (A ++ (S ++ (T ++ B))))[c]? = some (vC (T[c - m]'(by omega))) := fun c h1 h2 => at2 (A := A) (S := S) (T := T) (R := B) (k := c - m) (by omega) (by omega)
  obtain ⟨R1, hp1, hs1, hc1, hn1⟩ : ∃ R1 : List Vch, R1.Perm (S1 ++ T1) ∧ srtV R1 ∧ (a < q ∧ q < mid → ACalls Try.prog nslices_symMergeCmpFunc_api_Vouch [.rs 0 0 n, .I a, .I q, .I mid, .fn (.func f) [] capt] [⟨7, rowsV (A ++ (S1 ++ (T1 ++ (S2 ++ (T2 ++ B))))), 0⟩] (.tup []) [some ⟨7, rowsV (A ++ (R1 ++ (S2 ++ (T2 ++ B)))), 0⟩]) ∧ (¬ (a < q ∧ q < mid) → R1 = S1 ++ T1) := by
    by_cases h : a < q ∧ q < mid
    · obtain ⟨R, h1, h2, h3⟩ := ih (S1.length + T1.length) (by omega) A S1 T1 (S2 ++ (T2 ++ B)) n a q mid rfl (by simp only [List.length_append]; omega) ha lS1 lT1 (by omega) (by omega) hl sS1 sT1
      exact ⟨R, h1, h2, fun _ => h3, fun hh => absurd h hh⟩
    · refine ⟨S1 ++ T1, List.Perm.refl _, srtV_one sS1 sT1 ?_, fun hh => absurd hh h, fun _ => rfl⟩
      by_cases h2 : a < q
      · exact .inr (List.eq_nil_of_length_eq_zero (by omega))
      · exact .inl (List.eq_nil_of_length_eq_zero (by omega))
  have lR1 : R1.length + a = mid := by rw [hp1.length_eq, List.length_append]; omega
  obtain ⟨R2, hp2, hs2, hc2, hn2⟩ : ∃ R2 : List Vch, R2.Perm (S2 ++ T2) ∧ srtV R2 ∧ (mid < e ∧ e < b → ACalls Try.prog nslices_symMergeCmpFunc_api_Vouch [.rs 0 0 n, .I mid, .I e, .I b, .fn (.func f) [] capt] [⟨7, rowsV (A ++ (R1 ++ (S2 ++ (T2 ++ B)))), 0⟩] (.tup []) [some ⟨7, rowsV (A ++ (R1 ++ R2 ++ B)), 0⟩]) ∧ (¬ (mid < e ∧ e < b) → R2 = S2 ++ T2) := by
    by_cases h : mid < e ∧ e < b
    · obtain ⟨R, h1, h2, h3⟩ := ih (S2.length + T2.length) (by omega) (A ++ R1) S2 T2 B n mid e b rfl (by simp only [List.length_append]; omega) (by rw [List.length_append]; omega) lS2 lT2 (by omega) (by omega) hl sS2 sT2
      refine ⟨R, h1, h2, fun _ => ?_, fun hh => absurd h hh⟩
      rw [List.append_assoc A, List.append_assoc A] at h3
      rw [List.append_assoc R1]
      exact h3
    · refine ⟨S2 ++ T2, List.Perm.refl _, srtV_one sS2 sT2 ?_, fun hh => absurd hh h, fun _ => rfl⟩
      by_cases h2 : mid < e
      · exact .inr (List.eq_nil_of_length_eq_zero (by omega))
      · exact .inl (List.eq_nil_of_length_eq_zero (by omega))
  refine ⟨R1 ++ R2, ?_, srtV_perm hp1 hp2 (fun x hx y hy => ?_) hs1 hs2, ?_⟩
  · rw [hST]
    refine (hp1.append hp2).trans ?_
    simp only [List.append_assoc]
    refine List.Perm.append_left _ ?_
    rw [← List.append_assoc, ← List.append_assoc]
    exact List.Perm.append_right _ List.perm_append_comm
  · rcases List.mem_append.1 hx with h | h <;> rcases List.mem_append.1 hy with h' | h'
    · exact sS3 x h y h'
    · exact above x h y h'
    · exact hbelow y h' x h
    · exact sT3 x h y h'
  refine symMerge_walk f capt hs hc n a m b mid (mid + m) lo hi q e _ (rowsV (A ++ (S1 ++ (T1 ++ (S2 ++ (T2 ++ B)))))) (rowsV (A ++ (R1 ++ (S2 ++ (T2 ++ B))))) _ (rowsV_flat _) (rowsV_flat _) (rowsV_flat _) (rowsV_flat _)
    (by omega) (by omega) (by omega) hl hmid rfl (fun h => by rw [if_pos h] at hlo hhi; omega) (fun h => by rw [if_neg (by omega)] at hlo hhi; omega) q1 q2 (by omega) hlo2.1 hlo2.2.2.1 hlo2.2.2.2.1 (fun c d h1 h2 h3 => ?_) (fun h1 h2 => ?_) (fun h => ?_) (fun h1 h2 => hc1 ⟨h1, h2⟩) (fun h => by rw [hn1 h, List.append_assoc]) (fun h1 h2 => hc2 ⟨h1, h2⟩) (fun h => by rw [hn2 h, List.append_assoc R1, List.append_assoc S2])
  · have hd : mid + m - 1 - c = d := by omega
    refine ⟨by omega, S[c - a]'(by omega), T[d - m]'(by omega), hga c (by omega) (by omega), hgt d (by omega) (by omega), ?_⟩
    rw [cmpV_lt]
    have hk2 := key c (by omega) (by omega) h1 h2
    simp only [hd] at hk2
    exact hk2
  · have hr := hrot (by omega) (by omega) hl
    rw [← hZ1, List.append_assoc A S1] at hr
    exact hr
  · rw [hZ1, List.append_assoc A S1]
    by_cases h6 : q < m
    · have : T1 = [] := List.eq_nil_of_length_eq_zero (by omega)
      rw [this]
      rfl
    · have : S2 = [] := List.eq_nil_of_length_eq_zero (by omega)
      rw [this]
      rfl
end Go.Proofs.Ytnphfkceoklkkaa
namespace Go.Proofs.Ytnphfkceoklkkaa
open Go
def BW (w : Nat) : List (List Vch) → Prop
  | [] => True
  | s :: r => srtV s ∧ 0 < s.length ∧ s.length ≤ w ∧ (r ≠ [] → s.length = w) ∧ BW w r
theorem BW.two {w : Nat} {r : List (List Vch)} (h : BW w r) (hl : 2 * w ≤ r.flatten.length) (hw : 0 < w) : ∃ s t r', r = s :: t :: r' ∧ s.length = w ∧ t.length = w ∧ srtV s ∧ srtV t ∧ BW w r' := by
  match r, h with
  | [], _ => simp at hl; omega
  | [s], h => simp at hl; have := h.2.2.1; omega
  | s :: t :: r', h =>
    obtain ⟨h1, h2, h3, h4, h5, h6, h7, h8, h9⟩ := h
    refine ⟨s, t, r', rfl, h4 (by simp), ?_, h1, h5, h9⟩
    by_cases hr : r' = []
    · subst hr
      have := h4 (by simp)
      simp at hl
      omega
    · exact h8 hr
theorem BW.tail {w : Nat} {r : List (List Vch)} (h : BW w r) (hl : r.flatten.length < 2 * w) : (∃ s t, r = [s, t] ∧ s.length = w ∧ 0 < t.length ∧ srtV s ∧ srtV t) ∨ (r.flatten.length ≤ w ∧ srtV r.flatten) := by
  match r, h with
  | [], _ => exact .inr ⟨by simp, by simp [srtV]⟩
  | [s], h => exact .inr ⟨by simpa using h.2.2.1, by simpa using h.1⟩
  | s :: t :: r', h =>
    obtain ⟨h1, h2, h3, h4, h5, h6, h7, h8, h9⟩ := h
    have h10 := h4 (by simp)
    by_cases hr : r' = []
    · subst hr
      exact .inl ⟨s, t, rfl, h10, h6, h1, h5⟩
    · have := h8 hr
      simp at hl
      omega
theorem BW.one {w : Nat} {r : List (List Vch)} (h : BW w r) (hl : r.flatten.length ≤ w) (hw : 0 < w) : srtV r.flatten := by
  rcases h.tail (by omega) with ⟨s, t, rfl, h1, h2, _⟩ | ⟨_, h⟩
  · simp at hl; omega
  · exact h
theorem BW.mk {w : Nat} (hw : 0 < w) {t : List Vch} (ht : srtV t) (hl : t.length ≤ w) : ∀ d : List (List Vch), (∀ s ∈ d, srtV s ∧ s.length = w) → ∃ r, BW w r ∧ r.flatten = d.flatten ++ t ∧ (d ≠ [] ∨ t ≠ [] → r ≠ [])
  | [], _ => by
    by_cases h : t = []
    · exact ⟨[], trivial, by simp [h], by simp [h]⟩
    · exact ⟨[t], ⟨ht, List.length_pos_iff.2 h, hl, fun h => absurd rfl h, trivial⟩, by simp, by simp⟩
  | s :: d, h => by
    obtain ⟨r, h1, h2, h3⟩ := BW.mk hw ht hl d fun x hx => h x (List.mem_cons_of_mem _ hx)
    have hs := h s List.mem_cons_self
    exact ⟨s :: r, ⟨hs.1, by omega, by omega, fun _ => hs.2, h1⟩, by simp [h2], by simp⟩
theorem isortV_perm (M : List Vch) : (isortV cmpV M).Perm M := (List.reverse_perm _).trans (isortRevV_perm cmpV M)
set_option maxHeartbeats 4000000 in
set_option maxRecDepth 100000 in
theorem stableVG_ok (f : FuncId) (capt : List AV) (hs : StillV capt) (hc : ∀ x y, ACalls Try.prog f (eV x :: eV y :: capt) [] (.I (cmpV x y)) []) (l : List Vch) (n : Nat) (hn : l.length = n) (hl : n ≤ 1000000) : ∃ R : List Vch, (R.Perm l ∧ srtV R) ∧
    ACalls Try.prog nslices_stableCmpFunc_api_Vouch [.rs 0 0 n, .I n, .fn (.func f) [] capt] [⟨7, rowsV l, 0⟩] (.tup []) [some ⟨7, rowsV R, 0⟩] := by
  have hs2 : ∀ ρ sn h, capt.map (conv ρ sn h 2) = capt := fun _ _ _ => hs _ _ _ 1
  have hs3 : ∀ ρ sn h, capt.map (conv ρ sn h 3) = capt := fun _ _ _ => hs _ _ _ 2
  have hs4 : ∀ ρ sn h, capt.map (conv ρ sn h 4) = capt := fun _ _ _ => hs _ _ _ 3
  refine sslices_stableCmpFunc_api_Vouch.acallsX (fun _ => .tup []) (fun R => [some ⟨7, rowsV R, 0⟩]) (fun R => R.Perm l ∧ srtV R) (Nat.le_of_ble_eq_true rfl) (Nat.le_of_ble_eq_true rfl) (fun _ => Nat.le_refl _) ?_
  show awp _ 1 _ _ ⟨63, [(0, .rs 0 0 n), (1, .I n), (2, .fn (.func f) [] capt)], [(0, some ⟨7, rowsV l, 0⟩)], 16⟩
  refine rk (s := ?s1) [0, 1, 2, 6] [0] rfl ?o1 ?q1
  case o1 => simp; rfl
  refine rk (s := ?s2) [0, 1, 2, 6, 7, 8] [0] rfl ?o2 ?q2
  case o2 => simp; rfl
  refine awp_seq ?_
  refine awp_block ?_
  refine awp_loop (ι := (List (List Vch) × List Vch) × (Nat × Nat)) (fun p => ⟨63, [(0, .rs 0 0 n), (1, .I n), (2, .fn (.func f) [] capt), (6, .I 20), (7, .I p.2.1), (8, .I p.2.2)], [(0, some ⟨7, rowsV (p.1.1.flatten ++ p.1.2), 0⟩)], 500⟩)
    (fun p => (p.1.1.flatten ++ p.1.2).Perm l ∧ p.1.1.flatten.length = p.2.1 ∧ p.2.1 + p.1.2.length = n ∧ p.2.2 = p.2.1 + 20 ∧ ∀ s ∈ p.1.1, srtV s ∧ s.length = 20) (fun p => n - p.2.1) (([], l), (0, 20)) ⟨by simp, by simp, by simpa using hn, by simp, by simp⟩ (Le.keep rfl (by simp) (by simp) (by simp)) ?_
  rintro ⟨⟨d, r⟩, a, b⟩ ⟨i1, i2, i3, i4, i5⟩
  simp only at i1 i2 i3 i4 i5
  have hf1 := rowsV_flat (d.flatten ++ r)
  obtain ⟨Z, hZ⟩ : ∃ Z, Z = rowsV (d.flatten ++ r) := ⟨_, rfl⟩
  simp only
  rw [← hZ] at hf1 ⊢
  refine awp_seq ?_
  refine rk (s := ?s3) [0, 1, 2, 6, 7, 8, 13] [0] rfl ?o3 ?q3
  case o3 => simp; rfl
  refine awp_cond _ rfl (fun h4 => awp_skip ?_) fun h4 => awp_exit (hit ?_)
  · simp only [decide_eq_true_eq, Int.ofNat_le] at h4
    have hrl : r = r.take 20 ++ r.drop 20 := (List.take_append_drop 20 r).symm
    have h20 : (r.take 20).length = 20 := by rw [List.length_take]; omega
    have hdl : (r.drop 20).length = r.length - 20 := by rw [List.length_drop]
    generalize r.take 20 = M at *
    generalize r.drop 20 = B at *
    subst hrl
    have hsort := insertionV_ok f capt cmpV d.flatten M B n a b (by simp only [List.length_append] at i3 ⊢; omega) i2 (by omega) hl hs fun x _ y _ => hc x y
    rw [List.append_assoc, ← hZ] at hsort
    have hf2 := rowsV_flat (d.flatten ++ isortV cmpV M ++ B)
    obtain ⟨Z2, hZ2⟩ : ∃ Z2, Z2 = rowsV (d.flatten ++ isortV cmpV M ++ B) := ⟨_, rfl⟩
    rw [← hZ2] at hf2 hsort
    refine awp_block ?_
    refine awp_cut (ι := Unit) (fun _ => ⟨63, [(0, .rs 0 0 n), (1, .I n), (2, .fn (.func f) [] capt), (6, .I 20), (8, .I b)], [(0, some ⟨7, Z2, 0⟩)], 1000⟩) (fun _ => True) ?_ fun _ _ => ?_
    · refine awp_reg rfl ?_
      simp
      refine callM1 (i := 0) rfl (e' := ⟨7, Z, 0⟩) (by simp [hf1]) hsort (by simp) (by simp [hs2, hs3, hs4]) ?_
      simp [hf2]
      exact Le.keep rfl (by simp) (by simp) (by simp)
    refine rk (s := ?s5) [0, 1, 2, 6, 7, 8] [0] rfl ?o5 ?q5
    case o5 => simp; rfl
    obtain ⟨b2, hb2⟩ : ∃ b2, b2 = b + 20 := ⟨_, rfl⟩
    have hwb : IntKind.i64.wrap ((b : Int) + 20) = (b2 : Int) := by rw [w64 (by omega) (by omega)]; omega
    refine awp_reg rfl ?_
    simp [hwb]
    have hpm : (isortV cmpV M).Perm M := isortV_perm M
    have hml : (isortV cmpV M).length = 20 := by rw [hpm.length_eq]; exact h20
    refine ⟨d ++ [isortV cmpV M], B, b, b2, ⟨?_, ?_, ?_, hb2, ?_⟩, by omega, Le.N1 hf2 rfl (by simp) (by simp [hZ2]) rfl (by simp [hs2, hs3, hs4])⟩
    · refine List.Perm.trans ?_ i1
      rw [List.flatten_append, List.flatten_singleton, List.append_assoc]
      exact List.Perm.append_left _ (List.Perm.append_right _ hpm)
    · rw [← List.length_flatten, List.flatten_append, List.flatten_singleton, List.length_append]; omega
    · simp only [List.length_append] at i3; omega
    · intro s hs'
      rcases List.mem_append.1 hs' with hs' | hs'
      · exact i5 s hs'
      · obtain rfl := List.mem_singleton.1 hs'
        exact ⟨isortV_sorted M, hml⟩
  simp only [decide_eq_false_iff_not, Int.ofNat_le] at h4
  have hsort := insertionV_ok f capt cmpV d.flatten r [] n a n (by rw [List.append_nil, List.length_append]; omega) i2 i3 hl hs fun x _ y _ => hc x y
  rw [List.append_nil, List.append_nil, ← hZ] at hsort
  have hpr : (isortV cmpV r).Perm r := isortV_perm r
  obtain ⟨Bs, hB1, hB2, _⟩ := BW.mk (w := 20) (by decide) (isortV_sorted r) (by rw [hpr.length_eq]; omega) d i5
  rw [← hB2] at hsort
  have hBp : Bs.flatten.Perm l := by rw [hB2]; exact (List.Perm.append_left _ hpr).trans i1
  refine awp_cut (ι := Unit) (fun _ => ⟨63, [(0, .rs 0 0 n), (1, .I n), (2, .fn (.func f) [] capt), (6, .I 20)], [(0, some ⟨7, rowsV Bs.flatten, 0⟩)], 1000⟩) (fun _ => True) ?_ fun _ _ => ?_
  · have hf2 := rowsV_flat Bs.flatten
    generalize rowsV Bs.flatten = Z2 at *
    refine awp_reg rfl ?_
    simp
    refine callM1 (i := 0) rfl (e' := ⟨7, Z, 0⟩) (by simp [hf1]) hsort (by simp) (by simp [hs2, hs3, hs4]) ?_
    simp [hf2]
    exact Le.keep rfl (by simp) (by simp) (by simp)
  clear hsort hZ hf1 hB2 hpr i1 i2 i3 i4 i5 h4
  refine awp_block ?_
  refine awp_loop (ι := List (List Vch) × Nat) (fun p => ⟨63, [(0, .rs 0 0 n), (1, .I n), (2, .fn (.func f) [] capt), (6, .I p.2)], [(0, some ⟨7, rowsV p.1.flatten, 0⟩)], 1000⟩)
    (fun p => BW p.2 p.1 ∧ p.1.flatten.Perm l ∧ 20 ≤ p.2 ∧ p.2 ≤ 4000000) (fun p => n - p.2) (Bs, 20) ⟨hB1, hBp, by simp, by simp⟩ (Le.refl _ _) ?_
  rintro ⟨Bs, w⟩ ⟨hB1, hBp, hw1, hw2⟩
  simp only at hB1 hBp hw1 hw2
  have hf1 := rowsV_flat Bs.flatten
  obtain ⟨Z, hZ⟩ : ∃ Z, Z = rowsV Bs.flatten := ⟨_, rfl⟩
  simp only
  rw [← hZ] at hf1 ⊢
  refine awp_seq ?_
  refine rk (s := ?s6) [0, 1, 2, 6, 30] [0] rfl ?o6 ?q6
  case o6 => simp; rfl
  have hBl : Bs.flatten.length = n := by rw [hBp.length_eq]; exact hn
  refine awp_cond _ rfl (fun h7 => awp_skip ?_) fun h7 => awp_exit (hit ?_)
  · simp only [decide_eq_true_eq, Int.ofNat_lt] at h7
    obtain ⟨w2, hw2e⟩ : ∃ w2, w2 = 2 * w := ⟨_, rfl⟩
    have hww : IntKind.i64.wrap (2 * (w : Int)) = (w2 : Int) := by rw [w64 (by omega) (by omega)]; omega
    refine awp_block ?_
    refine rk (s := ?s8) [0, 1, 2, 6, 7, 8] [0] rfl ?o8 ?q8
    case o8 => simp [hww]; rfl
    refine awp_seq ?_
    refine awp_block ?_
    refine awp_loop (ι := (List (List Vch) × List (List Vch)) × (Nat × Nat)) (fun p => ⟨63, [(0, .rs 0 0 n), (1, .I n), (2, .fn (.func f) [] capt), (6, .I w), (7, .I p.2.1), (8, .I p.2.2)], [(0, some ⟨7, rowsV (p.1.1.flatten ++ p.1.2.flatten), 0⟩)], 1500⟩)
      (fun p => (p.1.1.flatten ++ p.1.2.flatten).Perm l ∧ p.1.1.flatten.length = p.2.1 ∧ p.2.1 + p.1.2.flatten.length = n ∧ p.2.2 = p.2.1 + w2 ∧ (∀ s ∈ p.1.1, srtV s ∧ s.length = w2) ∧ BW w p.1.2) (fun p => n - p.2.1) (([], Bs), (0, w2)) ⟨by simpa using hBp, by simp, by simpa using hBl, by simp, by simp, hB1⟩ (Le.keep rfl (by simp) (by simp) (by simp [hZ])) ?_
    rintro ⟨⟨d, r⟩, a, b⟩ ⟨i1, i2, i3, i4, i5, i6⟩
    simp only at i1 i2 i3 i4 i5 i6
    have hf1 := rowsV_flat (d.flatten ++ r.flatten)
    obtain ⟨Z, hZ⟩ : ∃ Z, Z = rowsV (d.flatten ++ r.flatten) := ⟨_, rfl⟩
    simp only
    rw [← hZ] at hf1 ⊢
    refine awp_seq ?_
    refine rk (s := ?s9) [0, 1, 2, 6, 7, 8, 35] [0] rfl ?o9 ?q9
    case o9 => simp; rfl
    refine awp_cond _ rfl (fun h10 => awp_skip ?_) fun h10 => awp_exit (hit ?_)
    · simp only [decide_eq_true_eq, Int.ofNat_le] at h10
      obtain ⟨s, t, r', rfl, hsl, htl, hss, hts, hr'⟩ := i6.two (by omega) (by omega)
      obtain ⟨m, hm⟩ : ∃ m, m = a + w := ⟨_, rfl⟩
      have hwm : IntKind.i64.wrap ((a : Int) + (w : Int)) = (m : Int) := by rw [w64 (by omega) (by omega)]; omega
      have hfl : (s :: t :: r').flatten = s ++ (t ++ r'.flatten) := by simp
      rw [hfl] at hZ i1 i3
      simp only [List.length_append] at i3
      obtain ⟨R, hR1, hR2, hR3⟩ := symMergeV_ok f capt hs hc _ d.flatten s t r'.flatten n a m b rfl (by simp only [List.length_append]; omega) i2 (by omega) (by omega) (by omega) (by omega) hl hss hts
      rw [← hZ] at hR3
      have hf2 := rowsV_flat (d.flatten ++ (R ++ r'.flatten))
      obtain ⟨Z2, hZ2⟩ : ∃ Z2, Z2 = rowsV (d.flatten ++ (R ++ r'.flatten)) := ⟨_, rfl⟩
      rw [← hZ2] at hf2 hR3
      refine awp_block ?_
      refine awp_cut (ι := Unit) (fun _ => ⟨63, [(0, .rs 0 0 n), (1, .I n), (2, .fn (.func f) [] capt), (6, .I w), (8, .I b)], [(0, some ⟨7, Z2, 0⟩)], 2000⟩) (fun _ => True) ?_ fun _ _ => ?_
      · refine awp_reg rfl ?_
        simp [hwm]
        refine callM1 (i := 0) rfl (e' := ⟨7, Z, 0⟩) (by simp [hf1]) hR3 (by simp) (by simp [hs2, hs3, hs4]) ?_
        simp [hf2]
        exact Le.keep rfl (by simp) (by simp) (by simp)
      refine rk (s := ?s11) [0, 1, 2, 6, 7, 8] [0] rfl ?o11 ?q11
      case o11 => simp; rfl
      obtain ⟨b2, hb2⟩ : ∃ b2, b2 = b + w2 := ⟨_, rfl⟩
      have hwb : IntKind.i64.wrap ((b : Int) + (w2 : Int)) = (b2 : Int) := by rw [w64 (by omega) (by omega)]; omega
      have hRl : R.length = w2 := by rw [hR1.length_eq, List.length_append]; omega
      refine awp_reg rfl ?_
      simp [hww, hwb]
      refine ⟨d ++ [R], r', b, b2, ⟨?_, ?_, ?_, hb2, ?_, hr'⟩, by omega, Le.N1 hf2 rfl (by simp) (by simp [hZ2]) rfl (by simp [hs2, hs3, hs4])⟩
      · refine List.Perm.trans ?_ i1
        rw [List.flatten_append, List.flatten_singleton, List.append_assoc, ← List.append_assoc s]
        exact List.Perm.append_left _ (List.Perm.append_right _ hR1)
      · rw [← List.length_flatten, List.flatten_append, List.flatten_singleton, List.length_append]; omega
      · rw [← List.length_flatten]; omega
      · intro s hs'
        rcases List.mem_append.1 hs' with hs' | hs'
        · exact i5 s hs'
        · obtain rfl := List.mem_singleton.1 hs'
          exact ⟨hR2, hRl⟩
    simp only [decide_eq_false_iff_not, Int.ofNat_le] at h10
    obtain ⟨m, hm⟩ : ∃ m, m = a + w := ⟨_, rfl⟩
    have hwm : IntKind.i64.wrap ((a : Int) + (w : Int)) = (m : Int) := by rw [w64 (by omega) (by omega)]; omega
    refine awp_cut (ι := List (List Vch)) (fun Bs => ⟨63, [(0, .rs 0 0 n), (1, .I n), (2, .fn (.func f) [] capt), (6, .I w)], [(0, some ⟨7, rowsV Bs.flatten, 0⟩)], 3000⟩) (fun Bs => BW w2 Bs ∧ Bs.flatten.Perm l) ?_ ?_
    · refine rk (s := ?s12) [0, 1, 2, 6, 7, 9] [0] rfl ?o12 ?q12
      case o12 => simp [hwm]; rfl
      refine rk (s := ?s13) [0, 1, 2, 6, 7, 9, 54] [0] rfl ?o13 ?q13
      case o13 => simp; rfl
      refine awp_cond _ rfl (fun h14 => ?_) fun h14 => awp_skip ?_
      · simp only [decide_eq_true_eq, Int.ofNat_lt] at h14
        rcases i6.tail (by omega) with ⟨s, t, rfl, hsl, htl, hss, hts⟩ | ⟨h15, _⟩
        · have hfl : [s, t].flatten = s ++ (t ++ []) := by simp
          rw [hfl] at hZ i1 i3
          simp only [List.length_append, List.length_nil] at i3
          obtain ⟨R, hR1, hR2, hR3⟩ := symMergeV_ok f capt hs hc _ d.flatten s t [] n a m n rfl (by simp only [List.length_append, List.length_nil]; omega) i2 (by omega) (by omega) (by omega) htl hl hss hts
          rw [← hZ, List.append_nil] at hR3
          have hRl : R.length ≤ w2 := by rw [hR1.length_eq, List.length_append]; omega
          obtain ⟨Bs2, hC1, hC2, _⟩ := BW.mk (w := w2) (by omega) hR2 hRl d i5
          rw [← hC2] at hR3
          have hf2 := rowsV_flat Bs2.flatten
          obtain ⟨Z2, hZ2⟩ : ∃ Z2, Z2 = rowsV Bs2.flatten := ⟨_, rfl⟩
          rw [← hZ2] at hf2 hR3
          refine awp_reg rfl ?_
          simp
          refine callM1 (i := 0) rfl (e' := ⟨7, Z, 0⟩) (by simp [hf1]) hR3 (by simp) (by simp [hs2, hs3, hs4]) ?_
          simp [hf2]
          refine ⟨Bs2, ⟨hC1, ?_⟩, Le.keep rfl (by simp) (by simp) (by simp [hZ2])⟩
          rw [hC2]
          refine List.Perm.trans ?_ i1
          rw [List.append_nil]
          exact List.Perm.append_left _ hR1
        · exact absurd h14 (by omega)
      · simp only [decide_eq_false_iff_not, Int.ofNat_lt] at h14
        have hrs : srtV r.flatten := by
          rcases i6.tail (by omega) with ⟨s, t, rfl, hsl, htl, hss, hts⟩ | ⟨_, h15⟩
          · simp only [List.flatten_cons, List.length_append] at i3
            omega
          · exact h15
        obtain ⟨Bs2, hC1, hC2, _⟩ := BW.mk (w := w2) (by omega) hrs (by omega) d i5
        exact ⟨Bs2, ⟨hC1, by rw [hC2]; exact i1⟩, Le.keep rfl (by simp) (by simp) (by simp [hZ, hC2])⟩
    · rintro Bs2 ⟨hC1, hC2⟩
      have hf2 := rowsV_flat Bs2.flatten
      obtain ⟨Z2, hZ2⟩ : ∃ Z2, Z2 = rowsV Bs2.flatten := ⟨_, rfl⟩
      rw [← hZ2] at hf2 ⊢
      have hww' : IntKind.i64.wrap ((w : Int) * 2) = (w2 : Int) := by rw [w64 (by omega) (by omega)]; omega
      refine awp_reg rfl ?_
      simp [hww']
      exact ⟨Bs2, w2, ⟨hC1, hC2, by omega, by omega⟩, by omega, Le.N1 hf2 rfl (by simp) (by simp [hZ2]) rfl (by simp [hs2, hs3, hs4])⟩
  simp only [decide_eq_false_iff_not, Int.ofNat_lt] at h7
  exact PostX.mk (.inl rfl) Bs.flatten ⟨hBp, hB1.one (by omega) (by omega)⟩ (outV (rowsV_flat _) (by simp [hZ]))
set_option maxRecDepth 100000 in
theorem SortStableVG_ok (f : FuncId) (capt : List AV) (hs : StillV capt) (hc : ∀ x y, ACalls Try.prog f (eV x :: eV y :: capt) [] (.I (cmpV x y)) []) (l : List Vch) (n : Nat) (hn : l.length = n) (hl : n ≤ 1000000) : ∃ R : List Vch, (R.Perm l ∧ srtV R) ∧
    ACalls Try.prog nslices_SortStableFunc_Lapi_Vouch_api_Vouch [.rs 0 0 n, .fn (.func f) [] capt] [⟨7, rowsV l, 0⟩] (.tup []) [some ⟨7, rowsV R, 0⟩] := by
  have hs2 : ∀ ρ sn h, capt.map (conv ρ sn h 2) = capt := fun _ _ _ => hs _ _ _ 1
  have hs3 : ∀ ρ sn h, capt.map (conv ρ sn h 3) = capt := fun _ _ _ => hs _ _ _ 2
  have hs4 : ∀ ρ sn h, capt.map (conv ρ sn h 4) = capt := fun _ _ _ => hs _ _ _ 3
  obtain ⟨R, hR, hst⟩ := stableVG_ok f capt hs hc l n hn hl
  refine ⟨R, hR, ?_⟩
  refine sslices_SortStableFunc_Lapi_Vouch_api_Vouch.acalls (Nat.le_of_ble_eq_true rfl) (Nat.le_of_ble_eq_true rfl) (Nat.le_of_ble_eq_true rfl) ?_
  have hf1 := rowsV_flat l
  have hf2 := rowsV_flat R
  generalize rowsV l = Z at *
  generalize rowsV R = Z2 at *
  show awp _ 1 _ _ ⟨9, [(0, .rs 0 0 n), (1, .fn (.func f) [] capt)], [(0, some ⟨7, Z, 0⟩)], 16⟩
  refine awp_reg rfl ?_
  simp
  refine callM1 (i := 0) rfl (e' := ⟨7, Z, 0⟩) (by simp [hf1]) hst (by simp) (by simp [hs2, hs3, hs4]) ?_
  simp [hf2]
  exact ⟨_, rfl, [], [], by simp, by simp, by simp, .refl _, by simp [hf2, List.range, List.range.loop]⟩
theorem srtV_unique : ∀ {a b : List Vch}, (∀ x ∈ a, ∀ y ∈ a, ¬ ltV x y → ¬ ltV y x → x = y) → a.Perm b → srtV a → srtV b → a = b
  | [], b, _, h, _, _ => (List.nil_perm.1 h).symm
  | x :: a, [], _, h, _, _ => absurd h.length_eq (by simp)
  | x :: a, y :: b, ht, h, ha, hb => by
    unfold srtV at ha hb
    rw [List.pairwise_cons] at ha hb
    have hxy : x = y := by
      have h1 : x ∈ y :: b := h.mem_iff.1 List.mem_cons_self
      have h2 : y ∈ x :: a := h.mem_iff.2 List.mem_cons_self
      rcases List.mem_cons.1 h1 with h1 | h1
      · exact h1
      rcases List.mem_cons.1 h2 with h2 | h2
      · exact h2.symm
      exact ht x List.mem_cons_self y (List.mem_cons_of_mem _ h2) (hb.1 x h1) (ha.1 y h2)
    subst hxy
    rw [srtV_unique (fun u hu v hv => ht u (List.mem_cons_of_mem _ hu) v (List.mem_cons_of_mem _ hv)) ((List.perm_cons x).1 h) ha.2 hb.2]
theorem GoodL.tot {l : List Stm} (h : GoodL l) {x y : Vch} (hx : x ∈ rawV l l) (hy : y ∈ rawV l l) (h1 : ¬ ltV x y) (h2 : ¬ ltV y x) : x = y := by
  obtain ⟨s, hs, _, rfl⟩ := mem_rawV hx
  obtain ⟨t, ht, _, rfl⟩ := mem_rawV hy
  have hau : s.au = t.au ∧ s.nu = t.nu := by
    simp only [ltV, vOf] at h1 h2
    omega
  obtain ⟨i, hi, rfl⟩ := List.mem_iff_getElem.1 hs
  obtain ⟨j, hj, rfl⟩ := List.mem_iff_getElem.1 ht
  have ho := List.pairwise_iff_getElem.1 h.ord
  rcases Nat.lt_trichotomy i j with hij | rfl | hij
  · have := ho i j hi hj hij
    unfold OrdS at this
    omega
  · rfl
  · have := ho j i hj hi hij
    unfold OrdS at this
    omega
theorem GoodL.sort {l : List Stm} (h : GoodL l) (hl : l.length ≤ 100000) : SortH l := by
  obtain ⟨R, ⟨hR1, hR2⟩, hR3⟩ := SortStableVG_ok nvouch_Of_c1 [] (fun ρ sn h n => rfl) (fun x y => vouch_Of_c1_ok x y) (rawV l l) _ rfl (Nat.le_trans (rawV_le l l) (by omega))
  have hp := isortV_perm (rawV l l)
  have e : R = ofV l := srtV_unique (fun x hx y hy => h.tot (hR1.mem_iff.1 hx) (hR1.mem_iff.1 hy)) (hR1.trans hp.symm) hR2 (isortV_sorted _)
  unfold SortH
  rw [← e]
  exact hR3
end Go.Proofs.Ytnphfkceoklkkaa
namespace Go.Proofs.Ytnphfkceoklkkaa
open Go
def er (v : Vch) : Vch := { v with re := 0 }
def actL (g : List Int) (t : Int) : List Vch → List Vch
  | [] => []
  | v :: r => if decide (HoldsP v g t) && r.all fun w => !decide (LaterP v t w) then v :: actL g t r else actL g t r
theorem actN_eq (V : List Vch) (g : List Int) (t : Int) : ∀ i, i ≤ V.length → actN V g t i ++ actL g t (V.drop i) = actL g t V
  | 0, _ => rfl
  | i + 1, h => by
    have ih := actN_eq V g t i (by omega)
    have hd : V.drop i = V[i]'(by omega) :: V.drop (i + 1) := List.drop_eq_getElem_cons (by omega)
    rw [hd] at ih
    rw [← ih]
    have hg : V[i]? = some (V[i]'(by omega)) := List.getElem?_eq_getElem (by omega)
    simp only [actN, hg, actL]
    unfold keepB
    split <;> simp
theorem actV_eq (l : List Stm) (t : Int) : actV l t = actL (goneR l t) t (ofV l) := by
  have := actN_eq (ofV l) (goneR l t) t (ofV l).length (Nat.le_refl _)
  rw [List.drop_length, actL, List.append_nil] at this
  exact this
theorem mem_actL {g : List Int} {t : Int} {v : Vch} : ∀ {V : List Vch}, v ∈ actL g t V → v ∈ V ∧ HoldsP v g t
  | [], h => by simp [actL] at h
  | x :: V, h => by
    unfold actL at h
    split at h
    · rename_i hc
      rw [Bool.and_eq_true, decide_eq_true_eq] at hc
      rcases List.mem_cons.1 h with rfl | h
      · exact ⟨List.mem_cons_self, hc.1⟩
      · exact ⟨List.mem_cons_of_mem _ (mem_actL h).1, (mem_actL h).2⟩
    · exact ⟨List.mem_cons_of_mem _ (mem_actL h).1, (mem_actL h).2⟩
theorem actL_apart {g : List Int} {t : Int} : ∀ V : List Vch, (actL g t V).Pairwise fun a b => ¬ (a.fr = b.fr ∧ a.to = b.to)
  | [] => List.Pairwise.nil
  | x :: V => by
    unfold actL
    split
    · rename_i hc
      rw [Bool.and_eq_true, List.all_eq_true] at hc
      rw [List.pairwise_cons]
      refine ⟨fun b hb he => ?_, actL_apart V⟩
      have hb2 := mem_actL hb
      have := hc.2 b hb2.1
      simp only [Bool.not_eq_true', decide_eq_false_iff_not] at this
      exact this ⟨he.1.symm, he.2.symm, hb2.2.1⟩
    · exact actL_apart V
theorem actL_filter (g : List Int) (t : Int) : ∀ V : List Vch, actL g t (V.filter fun v => decide (v.ti ≤ t)) = actL g t V
  | [] => rfl
  | x :: V => by
    have ih := actL_filter g t V
    by_cases hx : x.ti ≤ t
    · rw [List.filter_cons_of_pos (by simpa using hx)]
      have ha : ((V.filter fun v => decide (v.ti ≤ t)).all fun w => !decide (LaterP x t w)) = V.all fun w => !decide (LaterP x t w) := by
        rw [Bool.eq_iff_iff, List.all_eq_true, List.all_eq_true]
        constructor
        · intro h w hw
          by_cases hl : LaterP x t w
          · exact h w (List.mem_filter.2 ⟨hw, by simpa using hl.2.2⟩)
          · simp [hl]
        · intro h w hw
          exact h w (List.mem_filter.1 hw).1
      unfold actL
      rw [ha, ih]
    · rw [List.filter_cons_of_neg (by simpa using hx), ih]
      have : ¬ HoldsP x g t := fun h => hx h.1
      simp [actL, this]
theorem er_eq {a b : Vch} (h : er a = er b) : a.fr = b.fr ∧ a.to = b.to ∧ a.nu = b.nu ∧ a.ti = b.ti ∧ a.en = b.en := by
  unfold er at h
  have := Vch.mk.inj h
  exact ⟨this.1, this.2.1, this.2.2.2.1, this.2.2.2.2.1, this.2.2.2.2.2.1⟩
theorem actL_rel {g : List Int} {t : Int} : ∀ {U W : List Vch}, U.map er = W.map er → (∀ a ∈ U, ∀ b ∈ W, er a = er b → (HoldsP a g t ↔ HoldsP b g t)) → (actL g t U).map er = (actL g t W).map er
  | [], [], _, _ => rfl
  | [], _ :: _, h, _ => by simp at h
  | _ :: _, [], h, _ => by simp at h
  | a :: U, b :: W, h, hh => by
    rw [List.map_cons, List.map_cons, List.cons.injEq] at h
    have ih := actL_rel (g := g) (t := t) h.2 fun x hx y hy => hh x (List.mem_cons_of_mem _ hx) y (List.mem_cons_of_mem _ hy)
    have h1 := hh a List.mem_cons_self b List.mem_cons_self h.1
    have he := er_eq h.1
    have hall : ∀ (U W : List Vch), U.map er = W.map er → (U.all fun w => !decide (LaterP a t w)) = W.all fun w => !decide (LaterP b t w) := by
      intro U
      induction U with
      | nil => intro W hW; cases W with
        | nil => rfl
        | cons _ _ => simp at hW
      | cons u U ihU => intro W hW; cases W with
        | nil => simp at hW
        | cons w W =>
          rw [List.map_cons, List.map_cons, List.cons.injEq] at hW
          rw [List.all_cons, List.all_cons, ihU W hW.2]
          have hu := er_eq hW.1
          have : LaterP a t u ↔ LaterP b t w := by unfold LaterP; omega
          simp [this]
    unfold actL
    rw [hall U W h.2, show decide (HoldsP a g t) = decide (HoldsP b g t) from decide_eq_decide.2 h1]
    split
    · rw [List.map_cons, List.map_cons, h.1, ih]
    · exact ih
def earlyL (l : List Stm) (t : Int) : List Stm := l.filter fun s => decide (s.ti ≤ t)
theorem GoodL.early {l : List Stm} (h : GoodL l) (t : Int) : GoodL (earlyL l t) := ⟨h.ord.filter _, fun s hs => h.rng s (List.mem_filter.1 hs).1⟩
theorem early_gone (l : List Stm) (t : Int) : goneR (earlyL l t) t = goneR l t := by
  unfold goneR earlyL
  rw [List.filter_filter]
  congr 1
  refine List.filter_congr fun s _ => ?_
  by_cases h : GoneP t s
  · simp [h, h.2]
  · simp [h]
theorem srtV_er {l : List Vch} (h : srtV l) : srtV (l.map er) := by
  unfold srtV at *
  rw [List.pairwise_map]
  exact h
theorem early_of {l : List Stm} (h : GoodL l) (t : Int) : (ofV (earlyL l t)).map er = ((ofV l).filter fun v => decide (v.ti ≤ t)).map er := by
  have hp1 := isortV_perm (rawV (earlyL l t) (earlyL l t))
  have hp2 := isortV_perm (rawV l l)
  have heq : ((rawV l l).filter fun v => decide (v.ti ≤ t)).map er = (rawV (earlyL l t) (earlyL l t)).map er := by
    unfold rawV earlyL
    rw [List.filter_map, List.map_map, List.map_map, List.filter_filter, List.filter_filter]
    have : (fun s : Stm => decide (s.ki = 1) && decide (s.ti ≤ t)) = fun a => ((fun v : Vch => decide (v.ti ≤ t)) ∘ vOf l) a && decide (a.ki = 1) := by
      funext s
      show _ = (decide (s.ti ≤ t) && decide (s.ki = 1))
      rw [Bool.and_comm]
    rw [← this]
    rfl
  have hsub : ((ofV l).filter fun v => decide (v.ti ≤ t)).Perm ((rawV l l).filter fun v => decide (v.ti ≤ t)) := hp2.filter _
  have hperm : ((ofV (earlyL l t)).map er).Perm (((ofV l).filter fun v => decide (v.ti ≤ t)).map er) := by
    refine (hp1.map er).trans ?_
    rw [← heq]
    exact (hsub.map er).symm
  refine srtV_unique (fun x hx y hy h1 h2 => ?_) hperm (srtV_er (isortV_sorted _)) (srtV_er ((isortV_sorted _).filter _))
  obtain ⟨a, ha, rfl⟩ := List.mem_map.1 ((hp1.map er).mem_iff.1 hx)
  obtain ⟨b, hb, rfl⟩ := List.mem_map.1 ((hp1.map er).mem_iff.1 hy)
  rw [(h.early t).tot ha hb h1 h2]
theorem early_rev {l : List Stm} (h : GoodL l) (t : Int) (s : Stm) : (refRev l s < 0 ∨ t < refRev l s) ↔ (refRev (earlyL l t) s < 0 ∨ t < refRev (earlyL l t) s) := by
  have key : ∀ m : List Stm, GoodL m → ((refRev m s < 0 ∨ t < refRev m s) ↔ ∀ x ∈ m, RevM s x → t < x.ti) := by
    intro m
    induction m with
    | nil => intro _; simp [refRev]
    | cons x m ih =>
      intro hm
      have hm2 : GoodL m := ⟨(List.pairwise_cons.1 hm.ord).2, fun y hy => hm.rng y (List.mem_cons_of_mem _ hy)⟩
      by_cases hx : RevM s x
      · have h1 : refRev (x :: m) s = x.ti := by simp [refRev, List.find?_cons, hx]
        have h0 := (hm.rng x List.mem_cons_self).2.2.1
        rw [h1]
        constructor
        · intro h2 y hy hr
          have h3 : t < x.ti := by omega
          rcases List.mem_cons.1 hy with rfl | hy
          · exact h3
          · have := (List.pairwise_cons.1 hm.ord).1 y hy
            rcases this with h4 | h4
            · exact absurd (hx.1.trans hr.1.symm) (by omega)
            · omega
        · intro h2
          exact .inr (h2 x List.mem_cons_self hx)
      · have h1 : refRev (x :: m) s = refRev m s := by simp [refRev, List.find?_cons, hx]
        rw [h1, ih hm2]
        constructor
        · intro h2 y hy hr
          rcases List.mem_cons.1 hy with rfl | hy
          · exact absurd hr hx
          · exact h2 y hy hr
        · intro h2 y hy hr
          exact h2 y (List.mem_cons_of_mem _ hy) hr
  rw [key l h, key _ (h.early t)]
  constructor
  · intro h1 x hx
    exact h1 x (List.mem_filter.1 hx).1
  · intro h1 x hx hr
    by_cases hxt : x.ti ≤ t
    · exact h1 x (List.mem_filter.2 ⟨hx, by simpa using hxt⟩) hr
    · omega
theorem early_act {l : List Stm} (h : GoodL l) (t : Int) : (actV (earlyL l t) t).map er = (actV l t).map er := by
  rw [actV_eq, actV_eq, early_gone, ← actL_filter _ _ (ofV l)]
  refine actL_rel (early_of h t) fun a ha b hb he => ?_
  obtain ⟨s, hs, _, rfl⟩ := mem_rawV (mem_isortV.1 ha)
  obtain ⟨u, hu, _, rfl⟩ := mem_rawV (mem_isortV.1 (List.mem_filter.1 hb).1)
  have h1 := er_eq he
  have hsl := (List.mem_filter.1 hs).1
  have hsu : s = u := by
    obtain ⟨i, hi, rfl⟩ := List.mem_iff_getElem.1 hsl
    obtain ⟨j, hj, rfl⟩ := List.mem_iff_getElem.1 hu
    have ho := List.pairwise_iff_getElem.1 h.ord
    simp only [vOf] at h1
    rcases Nat.lt_trichotomy i j with hij | rfl | hij
    · have := ho i j hi hj hij
      unfold OrdS at this
      omega
    · rfl
    · have := ho j i hj hi hij
      unfold OrdS at this
      omega
  subst hsu
  have hr := early_rev h t s
  unfold HoldsP
  simp only [vOf]
  rw [h.rev, (h.early t).rev]
  constructor
  · rintro ⟨a1, a2, a3, a4⟩; exact ⟨a1, a2, hr.2 a3, a4⟩
  · rintro ⟨a1, a2, a3, a4⟩; exact ⟨a1, a2, hr.1 a3, a4⟩
structure OnceH (V W : List Vch) (G : List Int) (t : Int) : Prop where
  hold : ∀ v ∈ V, HoldsP v G t
  adj : ∀ i (h : i + 1 < V.length), ¬ (V[i].fr = V[i + 1].fr ∧ V[i].to = V[i + 1].to)
  same : W.map er = V.map er
theorem GoodL.once {l : List Stm} (h : GoodL l) (t : Int) : OnceH (actV l t) (actV (earlyL l t) t) (goneR l t) t := by
  refine ⟨fun v hv => ?_, fun i hi => ?_, early_act h t⟩
  · rw [actV_eq] at hv
    exact (mem_actL hv).2
  · have := List.pairwise_iff_getElem.1 (actL_apart (g := goneR l t) (t := t) (ofV l))
    rw [← actV_eq] at this
    exact this i (i + 1) (by omega) hi (by omega)
end Go.Proofs.Ytnphfkceoklkkaa
namespace Go.Proofs.Ytnphfkceoklkkaa
open Go
theorem early_succ (l : List Stm) (t : Int) (i : Nat) (h : i < l.length) : earlyL (l.take (i + 1)) t = earlyL (l.take i) t ++ if l[i].ti ≤ t then [l[i]] else [] := by
  unfold earlyL
  rw [List.take_succ_eq_append_getElem h, List.filter_append]
  congr 1
  by_cases hk : l[i].ti ≤ t
  · rw [if_pos hk]; simp [hk]
  · rw [if_neg hk]; simp [hk]
set_option maxHeartbeats 4000000 in
set_option maxRecDepth 100000 in
theorem law10_VouchOnce_ok (L : List Int) (tm : Int) (_ : Fit tm) : ACalls Try.prog nlaw10_VouchOnce [ints L, .I tm] [] (.B true) [] := by
  refine slaw10_VouchOnce.acalls (Nat.le_of_ble_eq_true rfl) (Nat.le_of_ble_eq_true rfl) (Nat.le_refl _) ?_
  show awp _ 0 _ _ ⟨185, [(0, ints L), (1, .I tm)], [], 16⟩
  refine rx (s := ?s1) [0, 1] [] [] rfl ?o1 ?q1
  case o1 => simp; rfl
  refine awp_seq ?_
  refine awp_regc ⟨185, [(0, ints L), (1, .I tm), (19, .B (decide (¬ L.length ≤ 400)))], [], 56⟩ rfl ?_ ?_
  · simp
    refine call0e (Light_ok L) rfl ?_
    simp
    exact Le.snap [] rfl rfl (by simp <;> exact wkB (by rw [Bool.eq_iff_iff]; simp))
  refine awp_cond _ rfl (fun h => ?_) fun h => awp_skip ?_
  · refine rx (s := ?s2) [4] [] [] rfl ?o2 ?q2
    case o2 => simp; refine call0e law10_awake_ok rfl ?_; simp; rfl
    exact awp_ret ⟨.inr rfl, RetOk.one (by simp)⟩
  have hl : L.length ≤ 400 := by simpa using h
  obtain ⟨⟨s, b⟩, ⟨hs1, hs2, hb⟩, hst⟩ := Store_any L 0 6 hl (Nat.zero_le _) (by decide)
  simp only at hs1 hs2 hb hst
  obtain ⟨c, ⟨hc1, hc2⟩, hct⟩ := StoreCounted_any s (by omega) fun x hx => (hs1 x hx).b
  obtain ⟨t, ht⟩ : ∃ t, t = modI tm 80 := ⟨_, rfl⟩
  have hmod := Mod_ok tm 80 (by decide)
  rw [← ht] at hmod
  have hce := hc1.early t
  have hel : (earlyL c t).length ≤ c.length := List.length_filter_le _ _
  have hacV := vouch_Active_ok c t (by omega) (hc1.sort (by omega)) (hc1.asc t)
  have hacW := vouch_Active_ok (earlyL c t) t (by omega) (hce.sort (by omega)) (hce.asc t)
  have hgo := vouch_Gone_ok c t (by omega) (hc1.asc t)
  have hon := hc1.once t
  have hVl : (actV c t).length ≤ 100000 := by
    have h1 := actN_le (ofV c) (goneR c t) t (ofV c).length
    have h2 : (ofV c).length = (rawV c c).length := by unfold ofV isortV; rw [List.length_reverse, isortRevV_len]
    have h3 := rawV_le c c
    unfold actV
    omega
  have hGl := goneR_le c t
  generalize actV c t = V at *
  generalize actV (earlyL c t) t = W at *
  generalize goneR c t = G at *
  have htk : List.take c.length (c.map sC) = c.map sC := List.take_of_length_le (by simp)
  have htV : List.take V.length (rowsV V) = rowsV V := List.take_of_length_le (by simp)
  have htW : List.take W.length (rowsV W) = rowsV W := List.take_of_length_le (by simp)
  have htG : List.take G.length (rwI G) = rwI G := List.take_of_length_le (by simp)
  have hVf := rowsV_flat V
  have hWf := rowsV_flat W
  have hGf := rwI_flat G
  refine awp_regc ⟨185, [(1, .I tm), (5, .pt 64 0 0)], [(64, some (dice L 0))], 100⟩ rfl ?_ ?_
  · simp
    refine callN1 (Roll_ok L) rfl ?_
    simp [Function.comp_def]
    exact Le.go [(64, 64)] [] rfl rfl (by simp) (by simp)
  refine awp_regc ⟨185, [(1, .I tm), (6, sts c)], [], 200⟩ rfl ?_ ?_
  · simp
    refine callM1 (i := 64) rfl (e' := dice L 0) (by simp) hst (by simp) (by simp) ?_
    simp
    refine callN1 hct (by simp) ?_
    simp [Function.comp_def]
    exact Le.snap [116] rfl rfl (by simp [Function.comp_def]; exact wkE (congrArg _ htk))
  refine awp_regc ⟨185, [(6, sts c), (7, .I t)], [], 300⟩ rfl ?_ ?_
  · simp
    refine call0e hmod (by simp) ?_
    simp
    exact Le.snap [] rfl rfl (by simp)
  refine awp_regc ⟨185, [(6, sts c), (7, .I t), (8, vchs V)], [], 400⟩ rfl ?_ ?_
  · simp
    refine callN1 hacV (by simp) ?_
    simp [hVf]
    exact Le.snap [316] rfl rfl (by simp [hVf]; exact wkE (congrArg _ htV))
  refine awp_regc ⟨185, [(6, sts c), (7, .I t), (8, vchs V), (9, ints G)], [], 500⟩ rfl ?_ ?_
  · simp
    refine callN1 hgo (by simp) ?_
    simp [hGf]
    exact Le.snap [416] rfl rfl (by simp [hGf]; exact wkE (congrArg _ htG))
  refine awp_cut (ι := Unit) (fun _ => ⟨185, [(6, sts c), (7, .I t), (8, vchs V)], [], 900⟩) (fun _ => True) ?_ fun _ _ => ?_
  · refine rx (s := ?s10) [6, 7, 8, 9, 10] [] [] rfl ?o10 ?q10
    case o10 => simp; rfl
    refine awp_block ?_
    refine awp_loop (ι := Nat) (fun i => ⟨185, [(6, sts c), (7, .I t), (8, vchs V), (9, ints G), (10, .I i)], [], 600⟩) (fun i => i ≤ V.length) (fun i => V.length - i) 0 (Nat.zero_le _) (Le.snap [] rfl rfl (by simp)) ?_
    intro i hi
    refine awp_seq ?_
    refine rx (s := ?s11) [6, 7, 8, 9, 10, 37] [] [] rfl ?o11 ?q11
    case o11 => simp; rfl
    refine awp_cond _ rfl (fun h1 => awp_skip ?_) fun h1 => awp_exit (hit ?_)
    · simp only [decide_eq_true_eq, Int.ofNat_lt] at h1
      have hg : V[i]? = some V[i] := List.getElem?_eq_getElem h1
      have hho := hon.hold V[i] (List.getElem_mem h1)
      have hadj : ∀ j, i = j + 1 → ∃ p, V[j]? = some p ∧ (p.fr == V[i].fr && p.to == V[i].to) = false := fun j hj => by
        subst hj
        refine ⟨V[j], List.getElem?_eq_getElem (by omega), ?_⟩
        have := hon.adj j h1
        rw [Bool.eq_false_iff]
        intro h
        rw [Bool.and_eq_true, beq_iff_eq, beq_iff_eq] at h
        exact this h
      have hgr : (rowsV V)[i]? = some (vC V[i]) := by rw [List.getElem?_map, hg]; rfl
      have hgr2 : ∀ j p, V[j]? = some p → (rowsV V)[j]? = some (vC p) := fun j p hp => by rw [List.getElem?_map, hp]; rfl
      obtain ⟨v, hv⟩ : ∃ v, v = V[i] := ⟨_, rfl⟩
      rw [← hv] at hg hho hadj hgr
      obtain ⟨q1, q2, q3, q4, q5⟩ := hho
      have hwi := wr1 h1 (by omega)
      have hvv : vchs V = .vs 7 false (rowsV V) := rfl
      rw [hvv]
      have hVl2 : (rowsV V).length = V.length := List.length_map ..
      obtain ⟨X, hX⟩ : ∃ X, X = rowsV V := ⟨_, rfl⟩
      rw [← hX] at hgr hgr2 hVl2 ⊢
      have hgr' : X[i]'(by omega) = vC v := (List.getElem?_eq_some_iff.1 hgr).2
      refine awp_cut (ι := Unit) (fun _ => ⟨185, [(6, sts c), (7, .I t), (8, .vs 7 false X), (9, ints G), (10, .I i)], [], 2000⟩) (fun _ => True) ?_ fun _ _ => ?_
      · refine awp_block ?_
        refine awp_regc ⟨185, [(6, sts c), (7, .I t), (8, .vs 7 false X), (9, ints G), (10, .I i), (11, .pv (vC v))], [], 700⟩ rfl ?_ ?_
        · simp [hgr, splice]
          exact Le.snap [664] rfl rfl (by simp)
        refine awp_seq ?_
        refine awp_dregc ⟨185, [(6, sts c), (7, .I t), (8, .vs 7 false X), (9, ints G), (10, .I i), (11, .pv (vC v)), (90, .B false)], [], 1100⟩ rfl ?_ ?_
        · have e1 : decide (t < v.ti) = false := by simp; omega
          have e2 : decide (v.en ≤ t) = false := by simp; omega
          have hfin : ∀ {Q : Prop}, Q → Q := id
          by_cases c1 : 0 ≤ v.re
          · have e3 : decide (v.re ≤ t) = false := by simp; omega
            rcases Nat.eq_zero_or_pos i with h0 | h0
            · have h0' : ¬ (0 < i) := by omega
              simp [e1, e2, c1, e3, h0']
              exact ⟨rfl, Le.snap [] rfl rfl (by simp)⟩
            · obtain ⟨j, hj⟩ : ∃ j, i = j + 1 := ⟨i - 1, by omega⟩
              obtain ⟨p, hp1, hp2⟩ := hadj j hj
              have hpr := hgr2 j p hp1
              have hwj : IntKind.i64.wrap ((i : Int) - 1) = (j : Int) := by rw [w64 (by omega) (by omega)]; omega
              by_cases c2 : p.fr = v.fr
              · have e4 : (p.fr == v.fr) = true := by simp [c2]
                have e5 : (p.to == v.to) = false := by simpa [e4] using hp2
                simp [e1, e2, c1, e3, h0, hwj, hpr, e4, e5]
                exact ⟨rfl, Le.snap [] rfl rfl (by simp)⟩
              · have e4 : (p.fr == v.fr) = false := by simp [c2]
                simp [e1, e2, c1, e3, h0, hwj, hpr, e4]
                exact ⟨rfl, Le.snap [] rfl rfl (by simp)⟩
          · rcases Nat.eq_zero_or_pos i with h0 | h0
            · have h0' : ¬ (0 < i) := by omega
              simp [e1, e2, c1, h0']
              exact ⟨rfl, Le.snap [] rfl rfl (by simp)⟩
            · obtain ⟨j, hj⟩ : ∃ j, i = j + 1 := ⟨i - 1, by omega⟩
              obtain ⟨p, hp1, hp2⟩ := hadj j hj
              have hpr := hgr2 j p hp1
              have hwj : IntKind.i64.wrap ((i : Int) - 1) = (j : Int) := by rw [w64 (by omega) (by omega)]; omega
              by_cases c2 : p.fr = v.fr
              · have e4 : (p.fr == v.fr) = true := by simp [c2]
                have e5 : (p.to == v.to) = false := by simpa [e4] using hp2
                simp [e1, e2, c1, h0, hwj, hpr, e4, e5]
                exact ⟨rfl, Le.snap [] rfl rfl (by simp)⟩
              · have e4 : (p.fr == v.fr) = false := by simp [c2]
                simp [e1, e2, c1, h0, hwj, hpr, e4]
                exact ⟨rfl, Le.snap [] rfl rfl (by simp)⟩
        refine awp_cond _ rfl (fun h => by cases h) fun _ => awp_skip ?_
        refine rx (s := ?s17) [6, 7, 8, 9, 10, 11, 12] [] [] rfl ?o17 ?q17
        case o17 => simp; rfl
        refine awp_block ?_
        refine awp_loop (ι := Nat) (fun k => ⟨185, [(6, sts c), (7, .I t), (8, .vs 7 false X), (9, ints G), (10, .I i), (11, .pv (vC v)), (12, .I k)], [], 1200⟩) (fun k => k ≤ G.length) (fun k => G.length - k) 0 (Nat.zero_le _) (Le.snap [] rfl rfl (by simp)) ?_
        intro k hk
        refine awp_seq ?_
        refine rx (s := ?s18) [6, 7, 8, 9, 10, 11, 12, 94] [] [] rfl ?o18 ?q18
        case o18 => simp; rfl
        refine awp_cond _ rfl (fun h2 => awp_skip ?_) fun h2 => awp_exit (hit ?_)
        · simp only [decide_eq_true_eq, Int.ofNat_lt] at h2
          have hgk : G[k]? = some G[k] := List.getElem?_eq_getElem h2
          have hm := List.getElem_mem h2
          obtain ⟨z, hz⟩ : ∃ z, z = G[k] := ⟨_, rfl⟩
          rw [← hz] at hgk hm
          have e1 : (z == v.fr) = false := by
            rw [beq_eq_false_iff_ne]; intro h; exact q4 (h ▸ hm)
          have e2 : (z == v.to) = false := by
            rw [beq_eq_false_iff_ne]; intro h; exact q5 (h ▸ hm)
          have hwk := wr1 h2 (by omega)
          refine awp_cut (ι := Unit) (fun _ => ⟨185, [(6, sts c), (7, .I t), (8, .vs 7 false X), (9, ints G), (10, .I i), (11, .pv (vC v)), (12, .I k)], [], 1900⟩) (fun _ => True) ?_ fun _ _ => ?_
          · refine awp_block ?_
            refine awp_dregc ⟨185, [(6, sts c), (7, .I t), (8, .vs 7 false X), (9, ints G), (10, .I i), (11, .pv (vC v)), (12, .I k), (112, .B false)], [], 1800⟩ rfl ?_ ?_
            · simp [hgk, e1, e2]
              exact ⟨rfl, Le.snap [] rfl rfl (by simp)⟩
            refine awp_cond _ rfl (fun h => by cases h) fun _ => awp_skip ?_
            exact ⟨(), trivial, Le.snap [] rfl rfl (by simp)⟩
          refine awp_reg rfl ?_
          simp [hwk]
          exact ⟨k + 1, by omega, by omega, Le.snap [] rfl rfl (by simp)⟩
        exact ⟨(), trivial, Le.snap [] rfl rfl (by simp)⟩
      refine awp_reg rfl ?_
      simp [hwi]
      exact ⟨i + 1, by omega, by omega, Le.snap [] rfl rfl (by simp [hX])⟩
    · exact ⟨(), trivial, Le.snap [] rfl rfl (by simp)⟩
  refine rx (s := ?s23) [6, 7, 8, 13] [] [] rfl ?o23 ?q23
  case o23 => simp; rfl
  have hWV : W.length = V.length := by simpa using congrArg List.length hon.same
  have hsame : ∀ i (h1 : i < W.length) (h2 : i < V.length), (W[i].fr != V[i].fr) = false ∧ (W[i].to != V[i].to) = false ∧ (W[i].nu != V[i].nu) = false := fun i h1 h2 => by
    have h3 : (W.map er)[i]? = (V.map er)[i]? := by rw [hon.same]
    rw [List.getElem?_map, List.getElem?_map, List.getElem?_eq_getElem h1, List.getElem?_eq_getElem h2] at h3
    have h4 := er_eq (Option.some.inj h3)
    exact ⟨by simp [h4.1], by simp [h4.2.1], by simp [h4.2.2.1]⟩
  refine awp_cut (ι := Unit) (fun _ => ⟨185, [(6, sts c), (7, .I t), (8, vchs V), (13, .rs 16 0 (earlyL c t).length)], [(16, some ⟨13, (earlyL c t).map sC, 0⟩)], 3000⟩) (fun _ => True) ?_ fun _ _ => ?_
  · refine rx (s := ?s24) [6, 7, 8, 13, 14] [] [] rfl ?o24 ?q24
    case o24 => simp; rfl
    refine awp_block ?_
    refine awp_loop (ι := Nat) (fun i => ⟨185, [(6, sts c), (7, .I t), (8, vchs V), (13, .rs 16 0 (earlyL (c.take i) t).length), (14, .I i)], [(16, some ⟨13, (earlyL (c.take i) t).map sC, 0⟩)], 1000⟩) (fun i => i ≤ c.length) (fun i => c.length - i) 0 (Nat.zero_le _) (Le.lst [] [] [(16, 13)] rfl (by simp) (by simp) (by simp) (by simp) (by simp) (by simp) (by simp) (by simp [Up, earlyL]) (by simp [earlyL])) ?_
    intro i hi
    have hsu := early_succ c t i
    have hil : (earlyL (c.take i) t).length ≤ i := by
      have h1 : (earlyL (c.take i) t).length ≤ (c.take i).length := List.length_filter_le _ _
      rw [List.length_take] at h1
      omega
    have hXf := sts_flat (earlyL (c.take i) t)
    have hXl : ((earlyL (c.take i) t).map sC).length = (earlyL (c.take i) t).length := List.length_map ..
    obtain ⟨X, hX⟩ : ∃ X, X = (earlyL (c.take i) t).map sC := ⟨_, rfl⟩
    obtain ⟨n, hn⟩ : ∃ n, n = (earlyL (c.take i) t).length := ⟨_, rfl⟩
    rw [← hX] at hXf hXl ⊢
    rw [← hn] at hXl hil ⊢
    refine awp_seq ?_
    refine rk (s := ?s25) [6, 7, 8, 13, 14, 116] [16] rfl ?o25 ?q25
    case o25 => simp; rfl
    refine awp_cond _ rfl (fun h1 => awp_skip ?_) fun h1 => awp_exit (hit ?_)
    · simp only [decide_eq_true_eq, Int.ofNat_lt] at h1
      have hg : c[i]? = some c[i] := List.getElem?_eq_getElem h1
      have hs := hsu h1
      obtain ⟨x, hx⟩ : ∃ x, x = c[i] := ⟨_, rfl⟩
      rw [← hx] at hg hs
      refine awp_cut (ι := Unit) (fun _ => ⟨185, [(6, sts c), (7, .I t), (8, vchs V), (13, .rs 16 0 (earlyL (c.take (i + 1)) t).length), (14, .I i)], [(16, some ⟨13, (earlyL (c.take (i + 1)) t).map sC, 0⟩)], 2000⟩) (fun _ => True) ?_ fun _ _ => ?_
      · refine awp_block ?_
        refine rk (s := ?s27) [6, 7, 8, 13, 14, 125] [16] rfl ?o27 ?q27
        case o27 => simp [hg]; rfl
        refine awp_cond _ rfl (fun h5 => ?_) fun h5 => awp_skip ?_
        · simp only [decide_eq_true_eq] at h5
          rw [if_pos h5] at hs
          have hom : (earlyL (c.take (i + 1)) t).map sC = X ++ [sC x] := by rw [hs, List.map_append, ← hX]; rfl
          have hol : (earlyL (c.take (i + 1)) t).length = n + 1 := by rw [hs, List.length_append, ← hn]; rfl
          have htX : List.take n X = X := List.take_of_length_le (by omega)
          rw [hom, hol]
          refine awp_reg rfl ?_
          simp [hg, hXl, htX]
          exact ⟨by omega, by omega, Le.go [(1136, 16)] [] rfl rfl (by simp) (by simp [hXf])⟩
        · simp only [decide_eq_false_iff_not] at h5
          rw [if_neg h5, List.append_nil] at hs
          exact ⟨(), trivial, Le.keep rfl (by simp) (by simp [hs, hn]) (by simp [hs, hX])⟩
      have hwi := wr1 h1 (by omega)
      have hXf2 := sts_flat (earlyL (c.take (i + 1)) t)
      refine awp_reg rfl ?_
      simp [hwi]
      exact ⟨i + 1, by omega, by omega, Le.Z1 hXf2 16 16 [] rfl rfl (by simp) (by simp) rfl (by simp)⟩
    · simp only [decide_eq_false_iff_not, Int.ofNat_lt] at h1
      obtain rfl : i = c.length := by omega
      rw [List.take_length] at hX hn
      exact ⟨(), trivial, Le.keep rfl (by simp) (by simp [hn]) (by simp [hX])⟩
  have hEf := sts_flat (earlyL c t)
  have hEl : ((earlyL c t).map sC).length = (earlyL c t).length := List.length_map ..
  have hEs : sts (earlyL c t) = .vs 13 false ((earlyL c t).map sC) := rfl
  rw [hEs] at hacW
  obtain ⟨X, hX⟩ : ∃ X, X = (earlyL c t).map sC := ⟨_, rfl⟩
  obtain ⟨n, hn⟩ : ∃ n, n = (earlyL c t).length := ⟨_, rfl⟩
  rw [← hX] at hEf hEl hacW ⊢
  rw [← hn] at hEl ⊢
  have htX : List.take n X = X := List.take_of_length_le (by omega)
  refine awp_regc ⟨185, [(8, vchs V), (15, vchs W)], [], 3200⟩ rfl ?_ ?_
  · simp
    refine callN1s [16] (by simp) hacW (by simp [hEl, htX, hEf]) ?_
    simp [hWf]
    exact Le.snap [3016] rfl rfl (by simp [hWf]; exact wkE (congrArg _ htW))
  refine awp_seq ?_
  refine awp_regc ⟨185, [(8, vchs V), (15, vchs W), (140, .B false)], [], 3300⟩ rfl ?_ ?_
  · simp [hWV]
    exact Le.snap [] rfl rfl (by simp)
  refine awp_cond _ rfl (fun h => by cases h) fun _ => awp_skip ?_
  refine awp_cut (ι := Unit) (fun _ => ⟨185, [], [], 5000⟩) (fun _ => True) ?_ fun _ _ => ?_
  · refine rx (s := ?s30) [8, 15, 16] [] [] rfl ?o30 ?q30
    case o30 => simp; rfl
    refine awp_block ?_
    refine awp_loop (ι := Nat) (fun i => ⟨185, [(8, vchs V), (15, vchs W), (16, .I i)], [], 3400⟩) (fun i => i ≤ V.length) (fun i => V.length - i) 0 (Nat.zero_le _) (Le.snap [] rfl rfl (by simp)) ?_
    intro i hi
    refine awp_seq ?_
    refine rx (s := ?s31) [8, 15, 16, 144] [] [] rfl ?o31 ?q31
    case o31 => simp; rfl
    refine awp_cond _ rfl (fun h1 => awp_skip ?_) fun h1 => awp_exit (hit ?_)
    · simp only [decide_eq_true_eq, Int.ofNat_lt] at h1
      have hgV : (rowsV V)[i]? = some (vC V[i]) := by rw [List.getElem?_map, List.getElem?_eq_getElem h1]; rfl
      have hgW : (rowsV W)[i]? = some (vC (W[i]'(by omega))) := by rw [List.getElem?_map, List.getElem?_eq_getElem (by omega)]; rfl
      obtain ⟨f1, f2, f3⟩ := hsame i (by omega) h1
      have hwi := wr1 h1 (by omega)
      generalize V[i] = v at *
      generalize W[i]'(by omega) = w at *
      have hvv : vchs V = .vs 7 false (rowsV V) := rfl
      have hww : vchs W = .vs 7 false (rowsV W) := rfl
      rw [hvv, hww]
      refine awp_cut (ι := Unit) (fun _ => ⟨185, [(8, .vs 7 false (rowsV V)), (15, .vs 7 false (rowsV W)), (16, .I i)], [], 4000⟩) (fun _ => True) ?_ fun _ _ => ?_
      · generalize rowsV V = A at *
        generalize rowsV W = B at *
        refine awp_block ?_
        refine awp_dregc ⟨185, [(8, .vs 7 false A), (15, .vs 7 false B), (16, .I i), (183, .B false)], [], 3900⟩ rfl ?_ ?_
        · simp [hgV, hgW, f1, f2, f3]
          exact ⟨rfl, Le.snap [] rfl rfl (by simp)⟩
        refine awp_cond _ rfl (fun h => by cases h) fun _ => awp_skip ?_
        exact ⟨(), trivial, Le.snap [] rfl rfl (by simp)⟩
      refine awp_reg rfl ?_
      simp [hwi]
      exact ⟨i + 1, by omega, by omega, Le.snap [] rfl rfl (by simp)⟩
    · exact ⟨(), trivial, Le.snap [] rfl rfl (by simp)⟩
  refine rx (s := ?s40) [4] [] [] rfl ?o40 ?q40
  case o40 => simp; refine call0e law10_awake_ok rfl ?_; simp; rfl
  exact awp_ret ⟨.inr rfl, RetOk.one (by simp)⟩
end Go.Proofs.Ytnphfkceoklkkaa
