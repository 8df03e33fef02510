/- Texts of this claim, merged. -/
import Derived.Test.YtnlanlpbgcalcaaGreatGt10
import Derived.Test.YtnlanlpbgcalcaaGreatGt7
import Derived.Test.YtnlanlpbgcalcaaGreatGt8
set_option linter.unusedSimpArgs false
set_option linter.unusedVariables false
set_option linter.unusedSectionVars false
namespace Go.Proofs.YtnlanlpbgcalcaaGreat
open Go
def srtV (l : List Vch) : Prop := l.Pairwise fun a b => ¬ ltV b a
instance (a b : Vch) : Decidable (ltV a b) := by unfold ltV; infer_instance
theorem cut_ex (P : Nat → Prop) [DecidablePred P] (lo : Nat) : ∀ d, (∀ i j, lo ≤ i → i < j → j < lo + d → P j → P i) → ∃ q, lo ≤ q ∧ q ≤ lo + d ∧ (∀ k, lo ≤ k → k < q → P k) ∧ ∀ k, q ≤ k → k < lo + d → ¬ P k
  | 0, _ => ⟨lo, Nat.le_refl _, by omega, fun k h1 h2 => by omega, fun k h1 h2 => by omega⟩
  | d + 1, h => by
    by_cases hp : P (lo + d)
    · exact ⟨lo + (d + 1), by omega, Nat.le_refl _, fun k h1 h2 => by
        by_cases he : k = lo + d
        · rw [he]; exact hp
        · exact h k (lo + d) h1 (by omega) (by omega) hp, fun k h1 h2 => by omega⟩
    · obtain ⟨q, h1, h2, h3, h4⟩ := cut_ex P lo d fun i j a b c e => h i j a b (by omega) e
      exact ⟨q, h1, by omega, h3, fun k h5 h6 => by
        by_cases he : k = lo + d
        · rw [he]; exact hp
        · exact h4 k h5 (by omega)⟩
theorem at1 {A S R : List Vch} {k p : Nat} (h : k < S.length) (hp : A.length + k = p) : (rowsV (A ++ (S ++ R)))[p]? = some (vC S[k]) := by
  subst hp
  rw [List.getElem?_map, List.getElem?_append_right (by omega)]
  have e : A.length + k - A.length = k := by omega
  rw [e, List.getElem?_append_left h, List.getElem?_eq_getElem h]
  rfl
theorem at2 {A S T R : List Vch} {k p : Nat} (h : k < T.length) (hp : A.length + S.length + k = p) : (rowsV (A ++ (S ++ (T ++ R))))[p]? = some (vC T[k]) := by
  rw [← List.append_assoc]
  exact at1 h (by rw [List.length_append]; omega)
theorem srtV_at {l : List Vch} (h : srtV l) {i j : Nat} (hi : i < l.length) (hj : j < l.length) (hij : i ≤ j) : ¬ ltV l[j] l[i] := by
  rcases Nat.lt_or_eq_of_le hij with h1 | h1
  · exact List.pairwise_iff_getElem.1 h i j hi hj h1
  · subst h1
    unfold ltV
    omega
theorem ltV_le_lt {a b c : Vch} (h1 : ¬ ltV b a) (h2 : ltV b c) : ltV a c := by unfold ltV at *; omega
theorem ltV_lt_le {a b c : Vch} (h1 : ltV a b) (h2 : ¬ ltV c b) : ltV a c := by unfold ltV at *; omega
theorem srtV_append {a b : List Vch} (ha : srtV a) (hb : srtV b) (h : ∀ x ∈ a, ∀ y ∈ b, ¬ ltV y x) : srtV (a ++ b) := by
  unfold srtV
  rw [List.pairwise_append]
  exact ⟨ha, hb, h⟩
theorem srtV_parts {a b : List Vch} (h : srtV (a ++ b)) : srtV a ∧ srtV b ∧ ∀ x ∈ a, ∀ y ∈ b, ¬ ltV y x := by
  unfold srtV at h
  rw [List.pairwise_append] at h
  exact h
theorem one_left {T : List Vch} {x : Vch} (hT : srtV T) : ∃ q, q ≤ T.length ∧ (∀ k (h : k < T.length), ltV T[k] x ↔ k < q) ∧ srtV (T.take q ++ x :: T.drop q) := by
  obtain ⟨q, _, h2, h3, h4⟩ := cut_ex (fun k => ∃ h : k < T.length, ltV T[k] x) 0 T.length fun i j _ hij hj hp => by
    obtain ⟨hj2, hp⟩ := hp
    exact ⟨by omega, ltV_le_lt (srtV_at hT (by omega) hj2 (by omega)) hp⟩
  rw [Nat.zero_add] at h2 h4
  have key : ∀ k (h : k < T.length), ltV T[k] x ↔ k < q := fun k h => ⟨fun hl => by
    rcases Nat.lt_or_ge k q with h5 | h5
    · exact h5
    · exact absurd ⟨h, hl⟩ (h4 k h5 h), fun hk => (h3 k (Nat.zero_le _) hk).2⟩
  refine ⟨q, h2, key, ?_⟩
  obtain ⟨s1, s2, s3⟩ := srtV_parts (a := T.take q) (b := T.drop q) (by rw [List.take_append_drop]; exact hT)
  have h5 : ∀ y ∈ T.take q, ltV y x := fun y hy => by
    obtain ⟨k, hk, rfl⟩ := List.mem_iff_getElem.1 hy
    rw [List.length_take] at hk
    rw [List.getElem_take]
    exact (key k (by omega)).2 (by omega)
  have h6 : ∀ y ∈ T.drop q, ¬ ltV y x := fun y hy => by
    obtain ⟨k, hk, rfl⟩ := List.mem_iff_getElem.1 hy
    rw [List.length_drop] at hk
    rw [List.getElem_drop]
    exact fun hl => by have := (key (q + k) (by omega)).1 hl; omega
  refine srtV_append s1 ?_ fun y hy z hz => ?_
  · unfold srtV
    rw [List.pairwise_cons]
    exact ⟨h6, s2⟩
  · rcases List.mem_cons.1 hz with rfl | hz
    · exact ltV_asym (h5 y hy)
    · exact s3 y hy z hz
theorem one_right {S : List Vch} {x : Vch} (hS : srtV S) : ∃ q, q ≤ S.length ∧ (∀ k (h : k < S.length), ¬ ltV x S[k] ↔ k < q) ∧ srtV (S.take q ++ x :: S.drop q) := by
  obtain ⟨q, _, h2, h3, h4⟩ := cut_ex (fun k => ∃ h : k < S.length, ¬ ltV x S[k]) 0 S.length fun i j _ hij hj hp => by
    obtain ⟨hj2, hp⟩ := hp
    exact ⟨by omega, fun hl => hp (ltV_lt_le hl (srtV_at hS (by omega) hj2 (by omega)))⟩
  rw [Nat.zero_add] at h2 h4
  have key : ∀ k (h : k < S.length), ¬ ltV x S[k] ↔ k < q := fun k h => ⟨fun hl => by
    rcases Nat.lt_or_ge k q with h5 | h5
    · exact h5
    · exact absurd ⟨h, hl⟩ (h4 k h5 h), fun hk => (h3 k (Nat.zero_le _) hk).2⟩
  refine ⟨q, h2, key, ?_⟩
  obtain ⟨s1, s2, s3⟩ := srtV_parts (a := S.take q) (b := S.drop q) (by rw [List.take_append_drop]; exact hS)
  have h5 : ∀ y ∈ S.take q, ¬ ltV x y := fun y hy => by
    obtain ⟨k, hk, rfl⟩ := List.mem_iff_getElem.1 hy
    rw [List.length_take] at hk
    rw [List.getElem_take]
    exact (key k (by omega)).2 (by omega)
  have h6 : ∀ y ∈ S.drop q, ¬ ltV y x := fun y hy => by
    obtain ⟨k, hk, rfl⟩ := List.mem_iff_getElem.1 hy
    rw [List.length_drop] at hk
    rw [List.getElem_drop]
    refine ltV_asym (Classical.not_not.1 fun hl => ?_)
    have := (key (q + k) (by omega)).1 hl
    omega
  refine srtV_append s1 ?_ fun y hy z hz => ?_
  · unfold srtV
    rw [List.pairwise_cons]
    exact ⟨h6, s2⟩
  · rcases List.mem_cons.1 hz with rfl | hz
    · exact h5 y hy
    · exact s3 y hy z hz
structure CutV (S T : List Vch) (a m b mid lo hi q : Nat) : Prop where
  q1 : lo ≤ q
  q2 : q ≤ hi
  key : ∀ c (h1 : c - a < S.length) (h2 : mid + m - 1 - c - m < T.length), lo ≤ c → c < hi → (¬ ltV T[mid + m - 1 - c - m] S[c - a] ↔ c < q)
  am : a ≤ q
  qm : q ≤ m
  qd : q ≤ mid
  eb : mid + m - q ≤ b
  below : ∀ s ∈ S.drop (q - a), ∀ t ∈ T.take (mid - q), ltV t s
  above : ∀ s ∈ S.take (q - a), ∀ t ∈ T.drop (mid - q), ¬ ltV t s
theorem cutV_ex {S T : List Vch} {a m b mid lo hi : Nat} (hS : srtV S) (hT : srtV T) (h1 : a + S.length = m) (h2 : m + T.length = b) (h3 : 0 < S.length) (h4 : 0 < T.length) (hmid : mid = (a + b) / 2)
    (hlo : (mid < m ∧ lo = mid + m - b ∧ hi = mid) ∨ (m ≤ mid ∧ lo = a ∧ hi = m)) : ∃ q, CutV S T a m b mid lo hi q := by
  have hb : ∀ c, lo ≤ c → c < hi → a ≤ c ∧ c < m ∧ c < mid ∧ mid + m - 1 - c < b := fun c h5 h6 => by omega
  obtain ⟨q, hq1, hq2, hq3, hq4⟩ := cut_ex (fun c => ∃ (h1 : c - a < S.length) (h2 : mid + m - 1 - c - m < T.length), ¬ ltV T[mid + m - 1 - c - m] S[c - a]) lo (hi - lo) fun i j hi1 hij hj hp => by
    have b1 := hb i hi1 (by omega)
    have b2 := hb j (by omega) (by omega)
    obtain ⟨x1, x2, hp⟩ := hp
    refine ⟨by omega, by omega, fun hl => hp ?_⟩
    have s1 := srtV_at hS (i := i - a) (j := j - a) (by omega) (by omega) (by omega)
    have s2 := srtV_at hT (i := mid + m - 1 - j - m) (j := mid + m - 1 - i - m) (by omega) (by omega) (by omega)
    exact ltV_le_lt s2 (ltV_lt_le hl s1)
  have hkey : ∀ c (h1 : c - a < S.length) (h2 : mid + m - 1 - c - m < T.length), lo ≤ c → c < hi → (¬ ltV T[mid + m - 1 - c - m] S[c - a] ↔ c < q) := fun c y1 y2 h5 h6 => ⟨fun hl => by
    rcases Nat.lt_or_ge c q with h7 | h7
    · exact h7
    · exact absurd ⟨y1, y2, hl⟩ (hq4 c h7 (by omega)), fun h7 => (hq3 c h5 h7).2.2⟩
  refine ⟨q, hq1, by omega, hkey, by omega, by omega, by omega, by omega, ?_, ?_⟩
  · intro s hs t ht
    obtain ⟨i, hi', rfl⟩ := List.mem_iff_getElem.1 hs
    obtain ⟨j, hj', rfl⟩ := List.mem_iff_getElem.1 ht
    rw [List.length_drop] at hi'
    rw [List.length_take] at hj'
    rw [List.getElem_drop, List.getElem_take]
    have hqh : q < hi := by omega
    have b1 := hb q hq1 hqh
    have hk := hkey q (by omega) (by omega) hq1 hqh
    have hl : ltV T[mid + m - 1 - q - m] S[q - a] := Classical.not_not.1 fun hn => by have := hk.1 hn; omega
    have s1 := srtV_at hS (i := q - a) (j := q - a + i) (by omega) (by omega) (by omega)
    have s2 := srtV_at hT (i := j) (j := mid + m - 1 - q - m) (by omega) (by omega) (by omega)
    exact ltV_le_lt s2 (ltV_lt_le hl s1)
  · intro s hs t ht hl
    obtain ⟨i, hi', rfl⟩ := List.mem_iff_getElem.1 hs
    obtain ⟨j, hj', rfl⟩ := List.mem_iff_getElem.1 ht
    rw [List.length_take] at hi'
    rw [List.length_drop] at hj'
    rw [List.getElem_drop, List.getElem_take] at hl
    have hql : lo < q := by omega
    have b1 := hb (q - 1) (by omega) (by omega)
    have hk := (hkey (q - 1) (by omega) (by omega) (by omega) (by omega)).2 (by omega)
    have s1 := srtV_at hS (i := i) (j := q - 1 - a) (by omega) (by omega) (by omega)
    have s2 := srtV_at hT (i := mid + m - 1 - (q - 1) - m) (j := mid - q + j) (by omega) (by omega) (by omega)
    exact hk (ltV_le_lt s2 (ltV_lt_le hl s1))
end Go.Proofs.YtnlanlpbgcalcaaGreat
namespace Go.Proofs.YtnlanlpbgcalcaaGreat
open Go
theorem half_v {i j : Nat} (h : i + j ≤ 4000000) : IntKind.i64.wrap ((i : Int) + (j : Int)) = (i : Int) + (j : Int) ∧ IntKind.u64.wrap ((i : Int) + (j : Int)) = (i : Int) + (j : Int) ∧ Int.fdiv ((i : Int) + (j : Int)) 2 = (((i + j) / 2 : Nat) : Int) ∧ IntKind.i64.wrap (((i + j) / 2 : Nat) : Int) = (((i + j) / 2 : Nat) : Int) := by
  refine ⟨w64 (by omega) (by omega), by rw [IntKind.wrap_u64]; omega, ?_, w64 (by omega) (by omega)⟩
  rw [Int.fdiv_eq_ediv_of_nonneg _ (by decide)]
  omega
set_option maxHeartbeats 4000000 in
set_option maxRecDepth 100000 in
theorem symMergeV_one (f : FuncId) (capt : List AV) (hs : StillV capt) (hc : ∀ x y, ACalls Tryz.prog f (eV x :: eV y :: capt) [] (.I (cmpV x y)) []) (A T B : List Vch) (x : Vch) (n a m b q : Nat) (hn : (A ++ (x :: (T ++ B))).length = n) (ha : A.length = a) (hm : a + 1 = m) (hb : m + T.length = b) (hT : 0 < T.length) (hl : n ≤ 1000000)
    (hq : q ≤ T.length) (hqk : ∀ k (h : k < T.length), ltV T[k] x ↔ k < q) :
    ACalls Tryz.prog nslices_symMergeCmpFunc_api_Vouch [.rs 0 0 n, .I a, .I m, .I b, .fn (.func f) [] capt] [⟨7, rowsV (A ++ (x :: (T ++ B))), 0⟩] (.tup []) [some ⟨7, rowsV (A ++ (T.take q ++ x :: T.drop q ++ B)), 0⟩] := by
  have hs2 : ∀ ρ sn h, capt.map (conv ρ sn h 2) = capt := fun _ _ _ => hs _ _ _ 1
  have hs3 : ∀ ρ sn h, capt.map (conv ρ sn h 3) = capt := fun _ _ _ => hs _ _ _ 2
  have hs4 : ∀ ρ sn h, capt.map (conv ρ sn h 4) = capt := fun _ _ _ => hs _ _ _ 3
  refine sslices_symMergeCmpFunc_api_Vouch.acalls (Nat.le_of_ble_eq_true rfl) (Nat.le_of_ble_eq_true rfl) (Nat.le_of_ble_eq_true rfl) ?_
  have hbn : b + B.length = n := by simp only [List.length_append, List.length_cons] at hn; omega
  have hga : (rowsV (A ++ (x :: (T ++ B))))[a]? = some (vC x) := at1 (A := A) (S := [x]) (R := T ++ B) (k := 0) (by simp) (by omega)
  have hgt : ∀ h, (h1 : m ≤ h) → (h2 : h < b) → (rowsV (A ++ (x :: (T ++ B))))[h]? = some (vC (T[h - m]'(by omega))) := fun h h1 h2 => at2 (A := A) (S := [x]) (T := T) (R := B) (k := h - m) (by omega) (by simp; omega)
  have hflat := rowsV_flat (A ++ (x :: (T ++ B)))
  obtain ⟨Z, hZ⟩ : ∃ Z, Z = rowsV (A ++ (x :: (T ++ B))) := ⟨_, rfl⟩
  rw [← hZ] at hga hgt hflat ⊢
  show awp _ 1 _ _ ⟨220, [(0, .rs 0 0 n), (1, .I a), (2, .I m), (3, .I b), (4, .fn (.func f) [] capt)], [(0, some ⟨7, Z, 0⟩)], 16⟩
  have hw1 : IntKind.i64.wrap ((m : Int) - a) = (m : Int) - a := w64 (by omega) (by omega)
  refine awp_seq ?_
  refine awp_regc ⟨220, [(0, .rs 0 0 n), (1, .I a), (2, .I m), (3, .I b), (4, .fn (.func f) [] capt), (28, .B true)], [(0, some ⟨7, Z, 0⟩)], 48⟩ rfl ?_ ?_
  · simp [hw1]
    exact Le.keep rfl (Nat.le_refl _) (by simp; omega) (by simp)
  refine awp_cond _ rfl (fun _ => ?_) fun h => by cases h
  refine awp_regc ⟨220, [(0, .rs 0 0 n), (1, .I a), (2, .I m), (3, .I b), (4, .fn (.func f) [] capt), (10, .I m)], [(0, some ⟨7, Z, 0⟩)], 64⟩ rfl (by simp; exact Le.keep rfl (Nat.le_refl _) (by simp) (by simp)) ?_
  refine awp_regc ⟨220, [(0, .rs 0 0 n), (1, .I a), (2, .I m), (3, .I b), (4, .fn (.func f) [] capt), (10, .I m), (11, .I b)], [(0, some ⟨7, Z, 0⟩)], 80⟩ rfl (by simp; exact Le.keep rfl (Nat.le_refl _) (by simp) (by simp)) ?_
  refine awp_seq ?_
  refine awp_block ?_
  refine awp_loop (ι := Nat × Nat) (fun p => ⟨220, [(0, .rs 0 0 n), (1, .I a), (2, .I m), (3, .I b), (4, .fn (.func f) [] capt), (10, .I p.1), (11, .I p.2)], [(0, some ⟨7, Z, 0⟩)], 80⟩) (fun p => m ≤ p.1 ∧ p.1 ≤ m + q ∧ m + q ≤ p.2 ∧ p.2 ≤ b) (fun p => p.2 - p.1) (m, b) ⟨by simp, by simp, by simp; omega, by simp⟩ (Le.refl _ _) ?_
  rintro ⟨i, j⟩ ⟨hj1, hj2, hj3, hj4⟩
  simp only at hj1 hj2 hj3 hj4
  refine awp_seq ?_
  refine awp_regc ⟨220, [(0, .rs 0 0 n), (1, .I a), (2, .I m), (3, .I b), (4, .fn (.func f) [] capt), (10, .I i), (11, .I j), (33, .B (decide (i < j)))], [(0, some ⟨7, Z, 0⟩)], 104⟩ rfl (by simp; exact Le.keep rfl (Nat.le_refl _) (by simp) (by simp)) ?_
  refine awp_cond _ rfl (fun h4 => awp_skip ?_) fun h4 => awp_exit (hit ?_)
  · simp only [decide_eq_true_eq] at h4
    obtain ⟨hw, hu, hd, hw3⟩ := half_v (i := i) (j := j) (by omega)
    refine awp_block ?_
    refine awp_regc ⟨220, [(0, .rs 0 0 n), (1, .I a), (2, .I m), (3, .I b), (4, .fn (.func f) [] capt), (10, .I i), (11, .I j), (12, .I ((i + j) / 2 : Nat))], [(0, some ⟨7, Z, 0⟩)], 160⟩ rfl ?_ ?_
    · simp [hw, hu, hd, hw3, IntKind.bits, -Int.natCast_ediv, -Int.natCast_add]
      exact Le.keep rfl (Nat.le_refl _) (by simp [hw, hu, hd, hw3]) (by simp)
    obtain ⟨h, hh⟩ : ∃ h, h = (i + j) / 2 := ⟨_, rfl⟩
    rw [← hh]
    have hhn : h < n := by omega
    have han : a < n := by omega
    have hg1 := hgt h (by omega) (by omega)
    have hk := hqk (h - m) (by omega)
    have hcc := hc (T[h - m]'(by omega)) x
    have hb2 : decide (cmpV (T[h - m]'(by omega)) x < 0) = decide (h < m + q) := by rw [decide_eq_decide, cmpV_lt, hk]; omega
    generalize T[h - m]'(by omega) = y at *
    have hwq : IntKind.i64.wrap ((h : Int) + 1) = ((h + 1 : Nat) : Int) := by rw [w64 (by omega) (by omega)]; omega
    refine awp_dregc ⟨220, [(0, .rs 0 0 n), (1, .I a), (2, .I m), (3, .I b), (4, .fn (.func f) [] capt), (10, .I i), (11, .I j), (12, .I h), (50, .B (decide (h < m + q)))], [(0, some ⟨7, Z, 0⟩)], 248⟩ rfl ?_ ?_
    · rw [← hb2]
      simp [hg1, hga, hhn, han]
      refine call0e hcc ?_ ?_
      · simp [hs2, hs3, hs4]
      simp
      exact ⟨rfl, Le.keep rfl (Nat.le_refl _) (by simp) (by simp)⟩
    refine awp_cond _ rfl (fun h5 => ?_) fun h5 => ?_
    · simp only [decide_eq_true_eq] at h5
      refine awp_reg rfl ?_
      simp [hwq]
      exact ⟨h + 1, j, ⟨by omega, by omega, by omega, by omega⟩, by omega, Le.N1 hflat rfl (by simp) rfl rfl (by simp [hs2, hs3, hs4])⟩
    · simp only [decide_eq_false_iff_not] at h5
      refine awp_reg rfl ?_
      simp
      exact ⟨i, h, ⟨by omega, by omega, by omega, by omega⟩, by omega, Le.N1 hflat rfl (by simp) rfl rfl (by simp [hs2, hs3, hs4])⟩
  simp only [decide_eq_false_iff_not] at h4
  obtain rfl : i = m + q := by omega
  refine awp_seq ?_
  refine awp_regc ⟨220, [(0, .rs 0 0 n), (1, .I a), (2, .I m), (3, .I b), (4, .fn (.func f) [] capt), (10, .I (m + q : Nat)), (13, .I a)], [(0, some ⟨7, Z, 0⟩)], 120⟩ rfl (by simp; exact Le.keep rfl (Nat.le_refl _) (by simp) (by simp)) ?_
  have hw5 : IntKind.i64.wrap (((m + q : Nat) : Int) - 1) = ((a + q : Nat) : Int) := by rw [w64 (by omega) (by omega)]; omega
  obtain ⟨F, hF⟩ : ∃ F, F = A ++ (T.take q ++ x :: T.drop q ++ B) := ⟨_, rfl⟩
  have hTq : (T.take q).length = q := by rw [List.length_take]; omega
  have hZ2 : A ++ (x :: (T ++ B)) = (A ++ []) ++ x :: (T.take q ++ (T.drop q ++ B)) := by rw [← List.append_assoc (T.take q), List.take_append_drop]; simp
  obtain ⟨D, hD⟩ : ∃ D, D = T.drop q ++ B := ⟨_, rfl⟩
  have hF2 : F = (A ++ []) ++ (T.take q ++ x :: D) := by rw [hF, hD]; simp
  have hDl : a + 1 + q + D.length = n := by rw [hD, List.length_append, List.length_drop]; omega
  rw [← hD] at hZ2
  rw [← hF]
  rw [hZ2] at hZ
  generalize T.take q = T1 at *
  refine awp_block ?_
  obtain ⟨mq, hmq⟩ : ∃ mq, mq = m + q := ⟨_, rfl⟩
  rw [← hmq] at hw5 ⊢
  refine awp_loop (ι := (List Vch × List Vch) × Nat) (fun p => ⟨220, [(0, .rs 0 0 n), (1, .I a), (2, .I m), (3, .I b), (4, .fn (.func f) [] capt), (10, .I mq), (13, .I p.2)], [(0, some ⟨7, rowsV ((A ++ p.1.1) ++ x :: (p.1.2 ++ D)), 0⟩)], 120⟩) (fun p => p.1.1.length + a = p.2 ∧ p.1.1.length + p.1.2.length = q ∧ F = (A ++ p.1.1) ++ (p.1.2 ++ x :: D)) (fun p => p.1.2.length) (([], T1), a) ⟨by simp, by simpa using hTq, hF2⟩ (by rw [hZ]; exact Le.refl _ _) ?_
  rintro ⟨⟨U, V⟩, k⟩ ⟨hk1, hk2, hk3⟩
  simp only at hk1 hk2 hk3
  refine awp_seq ?_
  refine awp_regc ⟨220, [(0, .rs 0 0 n), (1, .I a), (2, .I m), (3, .I b), (4, .fn (.func f) [] capt), (10, .I mq), (13, .I k), (58, .B (decide (k < a + q)))], [(0, some ⟨7, rowsV ((A ++ U) ++ x :: (V ++ D)), 0⟩)], 152⟩ rfl ?_ ?_
  · generalize rowsV ((A ++ U) ++ x :: (V ++ D)) = Z at *
    simp [hw5]
    exact Le.keep rfl (Nat.le_refl _) (by simp <;> omega) (by simp)
  refine awp_cond _ rfl (fun h => awp_skip ?_) fun h => awp_exit (hit ?_)
  · simp only [decide_eq_true_eq] at h
    obtain ⟨y, V, rfl⟩ : ∃ y V', V = y :: V' := by cases V with | nil => simp at hk2; omega | cons y V => exact ⟨y, V, rfl⟩
    simp only [List.length_cons] at hk2
    obtain ⟨k1, hk4⟩ : ∃ k1, k1 = k + 1 := ⟨_, rfl⟩
    have hwk : IntKind.i64.wrap ((k : Int) + 1) = (k1 : Int) := by rw [w64 (by omega) (by omega)]; omega
    have hUl : (A ++ U).length = k := by rw [List.length_append]; omega
    have hg := swap2_get (H := A ++ U) (G := []) (T := V ++ D) (x := x) (y := y) (p := k) (q := k1) hUl (by simp; omega)
    have hset := swap2_set (H := A ++ U) (G := []) (T := V ++ D) (x := x) (y := y) (p := k) (q := k1) hUl (by simp; omega)
    obtain ⟨g1, g2⟩ := hg
    simp only [List.nil_append] at g1 g2 hset
    have e2 : (A ++ U) ++ y :: x :: (V ++ D) = (A ++ (U ++ [y])) ++ x :: (V ++ D) := by simp
    rw [e2] at hset
    have e1 : (A ++ U) ++ x :: (y :: V ++ D) = (A ++ U) ++ x :: y :: (V ++ D) := rfl
    rw [e1]
    have hkn : k < n := by omega
    have hkn1 : k1 < n := by omega
    refine awp_cut (ι := Unit) (fun _ => ⟨220, [(0, .rs 0 0 n), (1, .I a), (2, .I m), (3, .I b), (4, .fn (.func f) [] capt), (10, .I mq), (13, .I k)], [(0, some ⟨7, rowsV ((A ++ (U ++ [y])) ++ x :: (V ++ D)), 0⟩)], 400⟩) (fun _ => True) ?_ fun _ _ => ?_
    · generalize rowsV ((A ++ (U ++ [y])) ++ x :: (V ++ D)) = Z2 at *
      generalize rowsV ((A ++ U) ++ x :: y :: (V ++ D)) = Z at *
      have g3 : (Z.set k (vC y))[k1]? = some (vC x) ∨ (Z.set k (vC y))[k1]? = some (vC y) := .inr (by
        rw [List.getElem?_set, if_neg (by omega)]
        exact g2)
      have g4 : (Z.set k (vC y))[k1]? = some (vC y) := by
        rw [List.getElem?_set, if_neg (by omega)]
        exact g2
      refine awp_block ?_
      refine awp_drw rfl ?_
      simp [hwk, hkn, hkn1, g1, g2, g4, splice]
      exact ⟨rfl, Le.keep rfl (by simp) (by simp) (by simp; exact hset)⟩
    have hf2 := rowsV_flat ((A ++ (U ++ [y])) ++ x :: (V ++ D))
    obtain ⟨Z, hZ⟩ : ∃ Z, Z = rowsV ((A ++ (U ++ [y])) ++ x :: (V ++ D)) := ⟨_, rfl⟩
    rw [← hZ] at hf2 ⊢
    refine awp_reg rfl ?_
    simp [hwk]
    refine ⟨U ++ [y], V, k1, ⟨by simp; omega, by simp; omega, by rw [hk3]; simp⟩, by omega, ?_⟩
    exact Le.N1 hf2 rfl (by simp) (by simp [hZ]) rfl (by simp [hs2, hs3, hs4])
  simp only [decide_eq_false_iff_not] at h
  have hV0 : V = [] := List.eq_nil_of_length_eq_zero (by omega)
  have hfin : (A ++ U) ++ x :: (V ++ D) = F := by rw [hk3, hV0]; rfl
  rw [hfin]
  refine awp_ret ?_
  exact ⟨.inr rfl, outV (rowsV_flat F) rfl⟩
set_option maxHeartbeats 4000000 in
set_option maxRecDepth 100000 in
theorem symMergeV_two (f : FuncId) (capt : List AV) (hs : StillV capt) (hc : ∀ x y, ACalls Tryz.prog f (eV x :: eV y :: capt) [] (.I (cmpV x y)) []) (A S B : List Vch) (x : Vch) (n a m b q : Nat) (hn : (A ++ (S ++ x :: B)).length = n) (ha : A.length = a) (hm : a + S.length = m) (hb : m + 1 = b) (hS : 1 < S.length) (hl : n ≤ 1000000)
    (hq : q ≤ S.length) (hqk : ∀ k (h : k < S.length), ¬ ltV x S[k] ↔ k < q) :
    ACalls Tryz.prog nslices_symMergeCmpFunc_api_Vouch [.rs 0 0 n, .I a, .I m, .I b, .fn (.func f) [] capt] [⟨7, rowsV (A ++ (S ++ x :: B)), 0⟩] (.tup []) [some ⟨7, rowsV (A ++ (S.take q ++ x :: S.drop q ++ B)), 0⟩] := by
  have hs2 : ∀ ρ sn h, capt.map (conv ρ sn h 2) = capt := fun _ _ _ => hs _ _ _ 1
  have hs3 : ∀ ρ sn h, capt.map (conv ρ sn h 3) = capt := fun _ _ _ => hs _ _ _ 2
  have hs4 : ∀ ρ sn h, capt.map (conv ρ sn h 4) = capt := fun _ _ _ => hs _ _ _ 3
  refine sslices_symMergeCmpFunc_api_Vouch.acalls (Nat.le_of_ble_eq_true rfl) (Nat.le_of_ble_eq_true rfl) (Nat.le_of_ble_eq_true rfl) ?_
  have hbn : b + B.length = n := by simp only [List.length_append, List.length_cons] at hn; omega
  have hga : (rowsV (A ++ (S ++ x :: B)))[m]? = some (vC x) := at2 (A := A) (S := S) (T := [x]) (R := B) (k := 0) (by simp) (by omega)
  have hgt : ∀ h, (h1 : a ≤ h) → (h2 : h < m) → (rowsV (A ++ (S ++ x :: B)))[h]? = some (vC (S[h - a]'(by omega))) := fun h h1 h2 => at1 (A := A) (S := S) (R := x :: B) (k := h - a) (by omega) (by omega)
  have hflat := rowsV_flat (A ++ (S ++ x :: B))
  obtain ⟨Z, hZ⟩ : ∃ Z, Z = rowsV (A ++ (S ++ x :: B)) := ⟨_, rfl⟩
  rw [← hZ] at hga hgt hflat ⊢
  show awp _ 1 _ _ ⟨220, [(0, .rs 0 0 n), (1, .I a), (2, .I m), (3, .I b), (4, .fn (.func f) [] capt)], [(0, some ⟨7, Z, 0⟩)], 16⟩
  have hw1 : IntKind.i64.wrap ((m : Int) - a) = (m : Int) - a := w64 (by omega) (by omega)
  have hw2 : IntKind.i64.wrap ((b : Int) - m) = (b : Int) - m := w64 (by omega) (by omega)
  refine awp_seq ?_
  refine awp_regc ⟨220, [(0, .rs 0 0 n), (1, .I a), (2, .I m), (3, .I b), (4, .fn (.func f) [] capt), (28, .B false)], [(0, some ⟨7, Z, 0⟩)], 48⟩ rfl ?_ ?_
  · simp [hw1]
    exact Le.keep rfl (Nat.le_refl _) (by simp; omega) (by simp)
  refine awp_cond _ rfl (fun h => by cases h) fun _ => awp_skip ?_
  refine awp_seq ?_
  refine awp_regc ⟨220, [(0, .rs 0 0 n), (1, .I a), (2, .I m), (3, .I b), (4, .fn (.func f) [] capt), (80, .B true)], [(0, some ⟨7, Z, 0⟩)], 80⟩ rfl ?_ ?_
  · simp [hw2]
    exact Le.keep rfl (Nat.le_refl _) (by simp; omega) (by simp)
  refine awp_cond _ rfl (fun _ => ?_) fun h => by cases h
  refine awp_regc ⟨220, [(0, .rs 0 0 n), (1, .I a), (2, .I m), (3, .I b), (4, .fn (.func f) [] capt), (14, .I a)], [(0, some ⟨7, Z, 0⟩)], 96⟩ rfl (by simp; exact Le.keep rfl (Nat.le_refl _) (by simp) (by simp)) ?_
  refine awp_regc ⟨220, [(0, .rs 0 0 n), (1, .I a), (2, .I m), (3, .I b), (4, .fn (.func f) [] capt), (14, .I a), (15, .I m)], [(0, some ⟨7, Z, 0⟩)], 112⟩ rfl (by simp; exact Le.keep rfl (Nat.le_refl _) (by simp) (by simp)) ?_
  refine awp_seq ?_
  refine awp_block ?_
  refine awp_loop (ι := Nat × Nat) (fun p => ⟨220, [(0, .rs 0 0 n), (1, .I a), (2, .I m), (3, .I b), (4, .fn (.func f) [] capt), (14, .I p.1), (15, .I p.2)], [(0, some ⟨7, Z, 0⟩)], 112⟩) (fun p => a ≤ p.1 ∧ p.1 ≤ a + q ∧ a + q ≤ p.2 ∧ p.2 ≤ m) (fun p => p.2 - p.1) (a, m) ⟨by simp, by simp, by simp; omega, by simp⟩ (Le.refl _ _) ?_
  rintro ⟨i, j⟩ ⟨hj1, hj2, hj3, hj4⟩
  simp only at hj1 hj2 hj3 hj4
  refine awp_seq ?_
  refine awp_regc ⟨220, [(0, .rs 0 0 n), (1, .I a), (2, .I m), (3, .I b), (4, .fn (.func f) [] capt), (14, .I i), (15, .I j), (85, .B (decide (i < j)))], [(0, some ⟨7, Z, 0⟩)], 136⟩ rfl (by simp; exact Le.keep rfl (Nat.le_refl _) (by simp) (by simp)) ?_
  refine awp_cond _ rfl (fun h4 => awp_skip ?_) fun h4 => awp_exit (hit ?_)
  · simp only [decide_eq_true_eq] at h4
    obtain ⟨hw, hu, hd, hw3⟩ := half_v (i := i) (j := j) (by omega)
    refine awp_block ?_
    refine awp_regc ⟨220, [(0, .rs 0 0 n), (1, .I a), (2, .I m), (3, .I b), (4, .fn (.func f) [] capt), (14, .I i), (15, .I j), (16, .I ((i + j) / 2 : Nat))], [(0, some ⟨7, Z, 0⟩)], 192⟩ rfl ?_ ?_
    · simp [hw, hu, hd, hw3, IntKind.bits, -Int.natCast_ediv, -Int.natCast_add]
      exact Le.keep rfl (Nat.le_refl _) (by simp [hw, hu, hd, hw3]) (by simp)
    obtain ⟨h, hh⟩ : ∃ h, h = (i + j) / 2 := ⟨_, rfl⟩
    rw [← hh]
    have hhn : h < n := by omega
    have hmn : m < n := by omega
    have hg1 := hgt h (by omega) (by omega)
    have hk := hqk (h - a) (by omega)
    have hcc := hc x (S[h - a]'(by omega))
    have hb2 : (!decide (cmpV x (S[h - a]'(by omega)) < 0)) = decide (h < a + q) := by
      rw [← decide_not, decide_eq_decide, cmpV_lt, hk]; omega
    generalize S[h - a]'(by omega) = y at *
    have hwq : IntKind.i64.wrap ((h : Int) + 1) = ((h + 1 : Nat) : Int) := by rw [w64 (by omega) (by omega)]; omega
    refine awp_dregc ⟨220, [(0, .rs 0 0 n), (1, .I a), (2, .I m), (3, .I b), (4, .fn (.func f) [] capt), (14, .I i), (15, .I j), (16, .I h), (103, .B (decide (h < a + q)))], [(0, some ⟨7, Z, 0⟩)], 288⟩ rfl ?_ ?_
    · rw [← hb2]
      simp [hg1, hga, hhn, hmn]
      refine call0e hcc ?_ ?_
      · simp [hs2, hs3, hs4]
      simp
      exact ⟨rfl, Le.keep rfl (Nat.le_refl _) (by simp) (by simp)⟩
    refine awp_cond _ rfl (fun h5 => ?_) fun h5 => ?_
    · simp only [decide_eq_true_eq] at h5
      refine awp_reg rfl ?_
      simp [hwq]
      exact ⟨h + 1, j, ⟨by omega, by omega, by omega, by omega⟩, by omega, Le.N1 hflat rfl (by simp) rfl rfl (by simp [hs2, hs3, hs4])⟩
    · simp only [decide_eq_false_iff_not] at h5
      refine awp_reg rfl ?_
      simp
      exact ⟨i, h, ⟨by omega, by omega, by omega, by omega⟩, by omega, Le.N1 hflat rfl (by simp) rfl rfl (by simp [hs2, hs3, hs4])⟩
  simp only [decide_eq_false_iff_not] at h4
  obtain rfl : i = a + q := by omega
  refine awp_seq ?_
  refine awp_regc ⟨220, [(0, .rs 0 0 n), (1, .I a), (2, .I m), (3, .I b), (4, .fn (.func f) [] capt), (14, .I (a + q : Nat)), (17, .I m)], [(0, some ⟨7, Z, 0⟩)], 152⟩ rfl (by simp; exact Le.keep rfl (Nat.le_refl _) (by simp) (by simp)) ?_
  obtain ⟨F, hF⟩ : ∃ F, F = A ++ (S.take q ++ x :: S.drop q ++ B) := ⟨_, rfl⟩
  have hSq : (S.take q).length = q := by rw [List.length_take]; omega
  have hSd : (S.drop q).length + q = S.length := by rw [List.length_drop]; omega
  have hZ2 : A ++ (S ++ x :: B) = (A ++ S.take q) ++ ((S.drop q).reverse.reverse ++ x :: ([] ++ B)) := by
    rw [List.reverse_reverse, List.append_assoc A, ← List.append_assoc (S.take q), List.take_append_drop]
    rfl
  obtain ⟨H, hH⟩ : ∃ H, H = A ++ S.take q := ⟨_, rfl⟩
  have hF2 : F = H ++ (x :: ((S.drop q).reverse.reverse ++ ([] ++ B))) := by rw [hF, hH, List.reverse_reverse]; simp
  have hHl : H.length = a + q := by rw [hH, List.length_append]; omega
  rw [← hH] at hZ2
  rw [← hF]
  rw [hZ2] at hZ
  have hWl : (S.drop q).reverse.length + q = S.length := by rw [List.length_reverse]; exact hSd
  generalize (S.drop q).reverse = W at *
  refine awp_block ?_
  obtain ⟨aq, haq⟩ : ∃ aq, aq = a + q := ⟨_, rfl⟩
  rw [← haq] at hHl ⊢
  refine awp_loop (ι := (List Vch × List Vch) × Nat) (fun p => ⟨220, [(0, .rs 0 0 n), (1, .I a), (2, .I m), (3, .I b), (4, .fn (.func f) [] capt), (14, .I aq), (17, .I p.2)], [(0, some ⟨7, rowsV (H ++ (p.1.1.reverse ++ x :: (p.1.2 ++ B))), 0⟩)], 152⟩) (fun p => aq + p.1.1.length = p.2 ∧ p.2 + p.1.2.length = m ∧ F = H ++ (x :: (p.1.1.reverse ++ (p.1.2 ++ B)))) (fun p => p.1.1.length) ((W, []), m) ⟨by show aq + W.length = m; omega, by simp, hF2⟩ (by rw [hZ]; exact Le.refl _ _) ?_
  rintro ⟨⟨W, V⟩, k⟩ ⟨hk1, hk2, hk3⟩
  simp only at hk1 hk2 hk3
  refine awp_seq ?_
  refine awp_regc ⟨220, [(0, .rs 0 0 n), (1, .I a), (2, .I m), (3, .I b), (4, .fn (.func f) [] capt), (14, .I aq), (17, .I k), (110, .B (decide (aq < k)))], [(0, some ⟨7, rowsV (H ++ (W.reverse ++ x :: (V ++ B))), 0⟩)], 176⟩ rfl ?_ ?_
  · generalize rowsV (H ++ (W.reverse ++ x :: (V ++ B))) = Z at *
    simp
    exact Le.keep rfl (Nat.le_refl _) (by simp) (by simp)
  refine awp_cond _ rfl (fun h => awp_skip ?_) fun h => awp_exit (hit ?_)
  · simp only [decide_eq_true_eq] at h
    obtain ⟨y, W, rfl⟩ : ∃ y V', W = y :: V' := by cases W with | nil => simp at hk1; omega | cons y V => exact ⟨y, V, rfl⟩
    simp only [List.length_cons] at hk1
    obtain ⟨j, hj⟩ : ∃ j, j + 1 = k := ⟨k - 1, by omega⟩
    have hwk : IntKind.i64.wrap ((k : Int) - 1) = (j : Int) := by rw [w64 (by omega) (by omega)]; omega
    have hUl : (H ++ W.reverse).length = j := by rw [List.length_append, List.length_reverse]; omega
    have e1 : H ++ ((y :: W).reverse ++ x :: (V ++ B)) = (H ++ W.reverse) ++ y :: x :: (V ++ B) := by simp
    have e2 : (H ++ W.reverse) ++ x :: y :: (V ++ B) = H ++ (W.reverse ++ x :: ((y :: V) ++ B)) := by simp
    have g1 := (mid_getV (H := H ++ W.reverse) (T := V ++ B) (y := y) (x := x) hUl).1
    have g2 := (mid_getV (H := H ++ W.reverse) (T := V ++ B) (y := y) (x := x) hUl).2
    have hset := mid_setV (H := H ++ W.reverse) (T := V ++ B) (y := y) (x := x) hUl
    rw [hj] at g2 hset
    rw [e2] at hset
    rw [e1]
    have hkn : k < n := by omega
    have hjn : j < n := by omega
    refine awp_cut (ι := Unit) (fun _ => ⟨220, [(0, .rs 0 0 n), (1, .I a), (2, .I m), (3, .I b), (4, .fn (.func f) [] capt), (14, .I aq), (17, .I k)], [(0, some ⟨7, rowsV (H ++ (W.reverse ++ x :: ((y :: V) ++ B))), 0⟩)], 400⟩) (fun _ => True) ?_ fun _ _ => ?_
    · generalize rowsV (H ++ (W.reverse ++ x :: ((y :: V) ++ B))) = Z2 at *
      generalize rowsV ((H ++ W.reverse) ++ y :: x :: (V ++ B)) = Z at *
      have g4 : (Z.set k (vC y))[j]? = some (vC y) := by
        rw [List.getElem?_set, if_neg (by omega)]
        exact g1
      refine awp_block ?_
      refine awp_drw rfl ?_
      simp [hwk, hkn, hjn, g1, g2, g4, splice]
      exact ⟨rfl, Le.keep rfl (by simp) (by simp) (by simp; exact hset)⟩
    have hf2 := rowsV_flat (H ++ (W.reverse ++ x :: ((y :: V) ++ B)))
    obtain ⟨Z, hZ⟩ : ∃ Z, Z = rowsV (H ++ (W.reverse ++ x :: ((y :: V) ++ B))) := ⟨_, rfl⟩
    rw [← hZ] at hf2 ⊢
    refine awp_reg rfl ?_
    simp [hwk]
    refine ⟨W, y :: V, j, ⟨by omega, by simp; omega, by rw [hk3]; simp⟩, by omega, ?_⟩
    exact Le.N1 hf2 rfl (by simp) (by simp [hZ]) rfl (by simp [hs2, hs3, hs4])
  simp only [decide_eq_false_iff_not] at h
  have hV0 : W = [] := List.eq_nil_of_length_eq_zero (by omega)
  have hfin : H ++ (W.reverse ++ x :: (V ++ B)) = F := by rw [hk3, hV0]; rfl
  rw [hfin]
  refine awp_ret ?_
  exact ⟨.inr rfl, outV (rowsV_flat F) rfl⟩
end Go.Proofs.YtnlanlpbgcalcaaGreat
namespace Go.Proofs.YtnlanlpbgcalcaaGreat
open Go
theorem awpOps_ex {P : Program} {np : Nat} {α : Type} : ∀ (ops : List AOper) (n i : Nat) (st : St) (tr : List (List Nat × List Nat)) (K : α → St → List (List Nat × List Nat) → Prop), awpOps P np n i ops st tr (fun s t => ∃ x, K x s t) → ∃ x, awpOps P np n i ops st tr (K x) := by
  intro ops
  induction ops with
  | nil => intro n i st tr K h; exact h
  | cons o os ih =>
    intro n i st tr K h
    have hgo : ∀ (op : AOp) (xs : List AV) (h : Nat → Option Ent) (F : AV → List Nat → List (Nat × Option Ent) → (St → List (List Nat × List Nat) → Prop) → Prop),
        (∀ v rd up, F v rd up (fun s t => ∃ x, K x s t) → ∃ x, F v rd up (K x)) → aK P np (n + 8 * i) op xs h (fun v rd up => F v rd up (fun s t => ∃ x, K x s t)) → ∃ x, aK P np (n + 8 * i) op xs h (fun v rd up => F v rd up (K x)) := by
      intro op xs h F hF hk
      obtain ⟨v, rd, up, h1, h2⟩ := aK_pick hk
      obtain ⟨x, hx⟩ := hF v rd up h1
      refine ⟨x, aK_mono (fun a b c e => ?_) h2⟩
      obtain ⟨rfl, rfl, rfl⟩ := e
      exact hx
    unfold awpOps at h ⊢
    cases hg : o.guard with
    | none =>
      simp only [hg] at h ⊢
      exact hgo _ _ _ (fun v rd up K' => awpOps P np n (i + 1) os ((st.put o.dst v).upd up) (tr ++ [(rd, up.map (·.1))]) K') (fun v rd up => ih _ _ _ _ _) h
    | some gw =>
      obtain ⟨g, want⟩ := gw
      simp only [hg] at h ⊢
      obtain ⟨b, hb, h⟩ := h
      by_cases hbw : b = some want
      · rw [if_pos hbw] at h
        obtain ⟨x, hx⟩ := hgo _ _ _ (fun v rd up K' => awpOps P np n (i + 1) os ((st.put o.dst v).upd up) (tr ++ [(rd, up.map (·.1))]) K') (fun v rd up => ih _ _ _ _ _) h
        exact ⟨x, b, hb, by rw [if_pos hbw]; exact hx⟩
      · rw [if_neg hbw] at h
        obtain ⟨x, hx⟩ := ih _ _ _ _ _ h
        exact ⟨x, b, hb, by rw [if_neg hbw]; exact hx⟩
theorem Le.trans' {np : Nat} {a b c : St} (h1 : Le np a b) (h2 : Le np b c) : Le np a c := by
  intro T0 M0 w0 T M ac w ok hn
  obtain ⟨T', M', ok', hn'⟩ := h1 T0 M0 w0 T M ac w ok hn
  exact h2 T0 M0 w0 T' M' ac w ok' hn'
theorem awp_ex {P : Program} {np : Nat} : ∀ {c : ACode} {α : Type} {Q : α → AExit → St → Prop} {st : St}, awp P np c (fun e s => ∃ x, Q x e s) st → ∃ x, awp P np c (Q x) st := by
  intro c
  induction c with
  | skip => intro α Q st h; exact h
  | reg draw ops after =>
    intro α Q st hw
    obtain ⟨x, hx⟩ := awpOps_ex ops st.n 0 st [] (fun x st' tr => (draw = true → orderly ops after tr = true) ∧ Q x .normal { st' with n := st.n + 8 * ops.length })
      (awpOps_mono _ _ _ _ _ _ _ (fun s t h => by obtain ⟨h1, x, h2⟩ := h; exact ⟨x, h1, h2⟩) hw.2)
    exact ⟨x, hw.1, hx⟩
  | seq a b iha ihb =>
    intro α Q st hw
    refine iha (awp_mono (fun e s hs => ?_) hw)
    cases e with
    | normal =>
      obtain ⟨st2, hle, h2⟩ := hs
      obtain ⟨x, hx⟩ := ihb h2
      exact ⟨x, st2, hle, hx⟩
    | exit id => exact hs
    | ret => exact hs
  | cond c a b iha ihb =>
    intro α Q st hw
    obtain ⟨t, ht, hw⟩ := hw
    cases t
    · obtain ⟨x, hx⟩ := ihb hw
      exact ⟨x, false, ht, hx⟩
    · obtain ⟨x, hx⟩ := iha hw
      exact ⟨x, true, ht, hx⟩
  | block id a iha =>
    intro α Q st hw
    refine iha (awp_mono (fun e s hs => ?_) hw)
    cases e with
    | normal => exact hs
    | exit id' =>
      simp only at hs ⊢
      by_cases hi : id' = id
      · simp only [if_pos hi] at hs ⊢; exact hs
      · simp only [if_neg hi] at hs ⊢; exact hs
    | ret => exact hs
  | loop a iha =>
    intro α Q st hw
    obtain ⟨I, ⟨st0, k0, hle, hI⟩, hb⟩ := hw
    have key : ∀ k s, I k s → ∃ x, awp P np (.loop a) (Q x) s := by
      intro k
      induction k using Nat.strongRecOn with
      | ind k ihk =>
        intro s hs
        have hpre : awp P np a (fun e s' => ∃ y : { y : α × Nat × (Nat → St → Prop) // ∀ k' s', y.2.2 k' s' → awp P np a (fun e st' => match e with | .normal => ∃ st2 k2, Le np st' st2 ∧ y.2.2 k2 st2 ∧ k2 < k' | e => Q y.1 e st') s' },
            match e with | .normal => ∃ st2, Le np s' st2 ∧ y.1.2.2 y.1.2.1 st2 | e => Q y.1.1 e s') s := by
          refine awp_mono (fun e s' h => ?_) (hb k s hs)
          cases e with
          | normal =>
            obtain ⟨st2, k2, h1, h2, h3⟩ := h
            obtain ⟨x, J, ⟨st3, k3, h4, h5⟩, h6⟩ := ihk k2 h3 st2 h2
            exact ⟨⟨(x, k3, J), h6⟩, st3, Le.trans' h1 h4, h5⟩
          | exit id => obtain ⟨x, h⟩ := h; exact ⟨⟨(x, 0, fun _ _ => False), fun _ _ h => h.elim⟩, h⟩
          | ret => obtain ⟨x, h⟩ := h; exact ⟨⟨(x, 0, fun _ _ => False), fun _ _ h => h.elim⟩, h⟩
        obtain ⟨⟨⟨x, q, J⟩, hJ⟩, hy⟩ := iha hpre
        simp only at hJ hy
        refine ⟨x, fun k' s' => J k' s' ∨ (k' = q + 1 ∧ s' = s), ⟨s, q + 1, Le.refl _ _, .inr ⟨rfl, rfl⟩⟩, ?_⟩
        rintro k' s' (h | ⟨rfl, rfl⟩)
        · refine awp_mono (fun e s2 h2 => ?_) (hJ k' s' h)
          cases e with
          | normal => obtain ⟨st2, k2, h1, h2, h3⟩ := h2; exact ⟨st2, k2, h1, .inl h2, h3⟩
          | exit id => exact h2
          | ret => exact h2
        · refine awp_mono (fun e s2 h2 => ?_) hy
          cases e with
          | normal => obtain ⟨st2, h1, h2⟩ := h2; exact ⟨st2, q, h1, .inl h2, Nat.lt_succ_self q⟩
          | exit id => exact h2
          | ret => exact h2
    obtain ⟨x, hx⟩ := key k0 st0 hI
    obtain ⟨J, ⟨s3, k3, h4, h5⟩, h6⟩ := hx
    exact ⟨x, J, ⟨s3, k3, Le.trans' hle h4, h5⟩, h6⟩
  | exit id => intro α Q st h; exact h
  | ret => intro α Q st h; exact h
  | bad => intro α Q st h; exact h.elim
def PostX {α : Type} (rs : List (Nat × Option (Bool × Nat))) (np : Nat) (F : α → AV) (H : α → List (Option Ent)) (R : α → Prop) (e : AExit) (st : St) : Prop := (e = .normal ∨ e = .ret) ∧ ∃ x, R x ∧ RetOk rs np st (F x) (H x)
theorem PostX.mk {α : Type} {rs : List (Nat × Option (Bool × Nat))} {np : Nat} {F : α → AV} {H : α → List (Option Ent)} {R : α → Prop} {e : AExit} {st : St} (he : e = .normal ∨ e = .ret) (x : α) (hx : R x) (h : RetOk rs np st (F x) (H x)) : PostX rs np F H R e st := ⟨he, x, hx, h⟩
theorem Src.acallsX {P : Program} {f : FuncId} {af : AFun} (s : Src P f af) {α : Type} (F : α → AV) (H : α → List (Option Ent)) (R : α → Prop) {args : List AV} {hs : List Ent}
    (hnt : args.length ≤ af.nt) (hn16 : hs.length ≤ 16) (hlen : ∀ x, hs.length ≤ (H x).length)
    (h : awp P hs.length af.code (PostX af.res hs.length F H R) (initSt af args hs)) : ∃ x, R x ∧ ACalls P f args hs (F x) (H x) := by
  obtain ⟨⟨x, hx⟩, hw⟩ := awp_ex (α := { x : α // R x }) (Q := fun x e st => (e = .normal ∨ e = .ret) ∧ RetOk af.res hs.length st (F x.1) (H x.1)) (awp_mono (fun e st h => by
    obtain ⟨h1, x, h2, h3⟩ := h
    exact ⟨⟨x, h2⟩, h1, h3⟩) h)
  exact ⟨x, hx, s.acalls hnt hn16 (hlen x) hw⟩
end Go.Proofs.YtnlanlpbgcalcaaGreat
namespace Go.Proofs.YtnlanlpbgcalcaaGreat
open Go
def idm (l : List Nat) : List (Nat × Nat) := l.map fun i => (i, i)
def cutS (live keep sn : List Nat) (n : Nat) (st : St) : St :=
  ⟨st.sz, live.map (fun i => (i, conv (idm keep) sn st.hp 4 (st.get i))), keep.map (fun i => (i, (st.hp i).map (convE (idm keep) sn st.hp 4))), n⟩
def roOk (keep : List Nat) (st : St) : Prop := ∀ i ∈ keep, ∀ e, st.hp i = some e → e.ro ≤ e.rows.length
def sideB (np n : Nat) (ρ : List (Nat × Nat)) (sn : List Nat) : Bool :=
  decide (ρ.map (·.1)).Nodup && decide (ρ.map (·.2)).Nodup && ρ.all (fun p => decide (p.2 < n) && (decide (np ≤ p.2) || p.1 == p.2)) && sn.all (fun i => decide (np ≤ i) && !(ρ.map (·.1)).contains i) && decide (np ≤ n)
theorem Le.go {np : Nat} {st st' : St} (ρ : List (Nat × Nat)) (sn : List Nat) (hsz : st'.sz = st.sz) (hside : sideB np st'.n ρ sn = true)
    (ht : ∀ p ∈ st'.t, Wk (conv ρ sn st.hp 4 (st.get p.1)) p.2) (hh : ∀ p ∈ st'.h, ∃ q ∈ ρ, q.2 = p.1 ∧ (st.hp q.1).map (convE ρ sn st.hp 4) = p.2 ∧ ∀ e, p.2 = some e → e.ro ≤ e.rows.length) : Le np st st' := by
  simp only [sideB, Bool.and_eq_true, List.all_eq_true, decide_eq_true_eq, Bool.or_eq_true, beq_iff_eq, Bool.not_eq_true', List.contains_eq_mem, decide_eq_false_iff_not] at hside
  obtain ⟨⟨⟨⟨h1, h2⟩, h3⟩, h4⟩, h5⟩ := hside
  refine Le.lst ρ sn [] hsz h1 h2 (fun p hp => ⟨(h3 p hp).1, fun hlt => ?_⟩) (by simp) (fun i hi => h4 i hi) h5 (by simp) (fun p hp => .inl (ht p hp)) fun p hp e' he' => ?_
  · rcases (h3 p hp).2 with h | h
    · omega
    · exact h
  · obtain ⟨q, hq, hq2, hm, hr⟩ := hh p hp
    rw [he'] at hm
    cases hs : st.hp q.1 with
    | none => rw [hs] at hm; cases hm
    | some e =>
      rw [hs] at hm
      have hm' : convE ρ sn st.hp 4 e = e' := by simpa using hm
      exact .inl ⟨q, hq, hq2, e, hs, by rw [hm']; exact EntUp.rfl' (hr e' he')⟩
theorem Le.cut {np : Nat} {st : St} (live keep sn : List Nat) (n : Nat) (hside : sideB np n (idm keep) sn = true) (hr : roOk keep st) : Le np st (cutS live keep sn n st) := by
  refine Le.go (idm keep) sn rfl hside (fun p hp => ?_) fun p hp => ?_
  · obtain ⟨i, _, rfl⟩ := List.mem_map.1 hp
    exact .refl _
  · obtain ⟨i, hi, rfl⟩ := List.mem_map.1 hp
    refine ⟨(i, i), List.mem_map.2 ⟨i, hi, rfl⟩, rfl, rfl, fun e he => ?_⟩
    simp only at he
    cases hs : st.hp i with
    | none => rw [hs] at he; cases he
    | some e0 =>
      rw [hs] at he
      have he' : convE (idm keep) sn st.hp 4 e0 = e := by simpa using he
      subst he'
      have := hr i hi e0 hs
      simpa [convE] using this
theorem rx {P : Program} {np : Nat} {ops : List AOper} {Q : AExit → St → Prop} {sz n : Nat} {t : List (Nat × AV)} {h : List (Nat × Option Ent)} {af : List (List Nat)} {b : ACode} {s : St} (live keep sn : List Nat)
    (hd : ((ops.all fun o => o.dst.all (· < sz)) && sideB np (n + 8 * ops.length) (idm keep) sn) = true) (ho : awpOps P np n 0 ops ⟨sz, t, h, n⟩ [] fun st' _ => roOk keep st' ∧ cutS live keep sn (n + 8 * ops.length) st' = s) (hq : awp P np b Q s) : awp P np (.seq (.reg false ops af) b) Q ⟨sz, t, h, n⟩ := by
  rw [Bool.and_eq_true] at hd
  refine awp_regc s hd.1 (awpOps_mono _ _ _ _ _ _ _ (fun st' _ hc => ?_) ho) hq
  obtain ⟨h1, rfl⟩ := hc
  exact Le.cut (st := ⟨st'.sz, st'.t, st'.h, n + 8 * ops.length⟩) live keep sn _ hd.2 h1
theorem rxd {P : Program} {np : Nat} {ops : List AOper} {Q : AExit → St → Prop} {sz n : Nat} {t : List (Nat × AV)} {h : List (Nat × Option Ent)} {af : List (List Nat)} {b : ACode} {s : St} (live keep sn : List Nat)
    (hd : ((ops.all fun o => o.dst.all (· < sz)) && sideB np (n + 8 * ops.length) (idm keep) sn) = true) (ho : awpOps P np n 0 ops ⟨sz, t, h, n⟩ [] fun st' tr => Ord ops af tr ∧ roOk keep st' ∧ cutS live keep sn (n + 8 * ops.length) st' = s) (hq : awp P np b Q s) : awp P np (.seq (.reg true ops af) b) Q ⟨sz, t, h, n⟩ := by
  rw [Bool.and_eq_true] at hd
  refine awp_dregc s hd.1 (awpOps_mono _ _ _ _ _ _ _ (fun st' _ hc => ?_) ho) hq
  obtain ⟨h0, h1, rfl⟩ := hc
  exact ⟨h0, Le.cut (st := ⟨st'.sz, st'.t, st'.h, n + 8 * ops.length⟩) live keep sn _ hd.2 h1⟩
def cutK (live keep : List Nat) (n : Nat) (st : St) : St := ⟨st.sz, live.map (fun i => (i, st.get i)), keep.map (fun i => (i, st.hp i)), n⟩
theorem Le.cutk {np : Nat} {st : St} (live keep : List Nat) (n : Nat) (hn : st.n ≤ n) : Le np st (cutK live keep n st) :=
  Le.keep rfl hn (fun p hp => by obtain ⟨i, _, rfl⟩ := List.mem_map.1 hp; rfl) fun p hp e he => by
    obtain ⟨i, _, rfl⟩ := List.mem_map.1 hp
    exact he
theorem rk {P : Program} {np : Nat} {ops : List AOper} {Q : AExit → St → Prop} {sz n : Nat} {t : List (Nat × AV)} {h : List (Nat × Option Ent)} {af : List (List Nat)} {b : ACode} {s : St} (live keep : List Nat)
    (hd : (ops.all fun o => o.dst.all (· < sz)) = true) (ho : awpOps P np n 0 ops ⟨sz, t, h, n⟩ [] fun st' _ => cutK live keep (n + 8 * ops.length) st' = s) (hq : awp P np b Q s) : awp P np (.seq (.reg false ops af) b) Q ⟨sz, t, h, n⟩ := by
  refine awp_regc s hd (awpOps_mono _ _ _ _ _ _ _ (fun st' _ hc => ?_) ho) hq
  subst hc
  exact Le.cutk (st := ⟨st'.sz, st'.t, st'.h, n + 8 * ops.length⟩) live keep _ (Nat.le_refl _)
@[simp] theorem idm_nil : idm [] = [] := (rfl)
@[simp] theorem idm_cons {i : Nat} {l : List Nat} : idm (i :: l) = (i, i) :: idm l := (rfl)
@[simp] theorem roOk_nil {st : St} : roOk [] st = True := by simp [roOk]
@[simp] theorem roOk_cons {i : Nat} {l : List Nat} {st : St} : roOk (i :: l) st = ((∀ e, st.hp i = some e → e.ro ≤ e.rows.length) ∧ roOk l st) := by simp [roOk]
@[simp] theorem cutS_def {live keep sn : List Nat} {n sz m : Nat} {t : List (Nat × AV)} {h : List (Nat × Option Ent)} : cutS live keep sn n ⟨sz, t, h, m⟩ = ⟨sz, live.map (fun i => (i, conv (idm keep) sn (St.mk sz t h m).hp 4 ((St.mk sz t h m).get i))), keep.map (fun i => (i, ((St.mk sz t h m).hp i).map (convE (idm keep) sn (St.mk sz t h m).hp 4))), n⟩ := (rfl)
@[simp] theorem cutK_def {live keep : List Nat} {n sz m : Nat} {t : List (Nat × AV)} {h : List (Nat × Option Ent)} : cutK live keep n ⟨sz, t, h, m⟩ = ⟨sz, live.map (fun i => (i, (St.mk sz t h m).get i)), keep.map (fun i => (i, (St.mk sz t h m).hp i)), n⟩ := (rfl)
end Go.Proofs.YtnlanlpbgcalcaaGreat
namespace Go.Proofs.YtnlanlpbgcalcaaGreat
open Go
theorem srtV_one {a b : List Vch} (ha : srtV a) (hb : srtV b) (h : a = [] ∨ b = []) : srtV (a ++ b) := by
  rcases h with rfl | rfl
  · exact hb
  · rw [List.append_nil]; exact ha
theorem srtV_perm {a b c d : List Vch} (h1 : a.Perm b) (h2 : c.Perm d) (hp : ∀ x ∈ b, ∀ y ∈ d, ¬ ltV y x) (ha : srtV a) (hc : srtV c) : srtV (a ++ c) :=
  srtV_append ha hc fun x hx y hy => hp x (h1.mem_iff.1 hx) y (h2.mem_iff.1 hy)
set_option maxHeartbeats 4000000 in
set_option maxRecDepth 100000 in
theorem symMerge_walk (f : FuncId) (capt : List AV) (hs : StillV capt) (hc : ∀ x y, ACalls Tryz.prog f (eV x :: eV y :: capt) [] (.I (cmpV x y)) []) (n a m b mid mm lo hi q e : Nat) (Z Z1 Z2 Z3 : List (List AV))
    (hf0 : ∀ ρ sn h m, Z.map (List.map (conv ρ sn h (m + 1))) = Z) (hf1 : ∀ ρ sn h m, Z1.map (List.map (conv ρ sn h (m + 1))) = Z1) (hf2 : ∀ ρ sn h m, Z2.map (List.map (conv ρ sn h (m + 1))) = Z2) (hf3 : ∀ ρ sn h m, Z3.map (List.map (conv ρ sn h (m + 1))) = Z3)
    (ham : a + 1 < m) (hmb : m + 1 < b) (hbn : b ≤ n) (hl : n ≤ 1000000) (hmid : mid = (a + b) / 2) (hmm : mm = mid + m) (hA : mid < m → lo + b = mm ∧ hi = mid) (hB : m ≤ mid → lo = a ∧ hi = m) (hq1 : lo ≤ q) (hq2 : q ≤ hi) (he : e + q = mm) (hal : a ≤ lo) (him : hi ≤ m) (himd : hi ≤ mid)
    (hkey : ∀ c d, lo ≤ c → c < hi → c + d + 1 = mm → d < n ∧ ∃ x y, Z[c]? = some (vC x) ∧ Z[d]? = some (vC y) ∧ (¬ cmpV y x < 0 ↔ c < q))
    (hrot : q < m → m < e → ACalls Tryz.prog nslices_rotateCmpFunc_api_Vouch [.rs 0 0 n, .I q, .I m, .I e, .fn (.func f) [] capt] [⟨7, Z, 0⟩] (.tup []) [some ⟨7, Z1, 0⟩]) (hrot' : ¬ (q < m ∧ m < e) → Z = Z1)
    (hm1 : a < q → q < mid → ACalls Tryz.prog nslices_symMergeCmpFunc_api_Vouch [.rs 0 0 n, .I a, .I q, .I mid, .fn (.func f) [] capt] [⟨7, Z1, 0⟩] (.tup []) [some ⟨7, Z2, 0⟩]) (hm1' : ¬ (a < q ∧ q < mid) → Z1 = Z2)
    (hm2 : mid < e → e < b → ACalls Tryz.prog nslices_symMergeCmpFunc_api_Vouch [.rs 0 0 n, .I mid, .I e, .I b, .fn (.func f) [] capt] [⟨7, Z2, 0⟩] (.tup []) [some ⟨7, Z3, 0⟩]) (hm2' : ¬ (mid < e ∧ e < b) → Z2 = Z3) :
    ACalls Tryz.prog nslices_symMergeCmpFunc_api_Vouch [.rs 0 0 n, .I a, .I m, .I b, .fn (.func f) [] capt] [⟨7, Z, 0⟩] (.tup []) [some ⟨7, Z3, 0⟩] := by
  have hs2 : ∀ ρ sn h, capt.map (conv ρ sn h 2) = capt := fun _ _ _ => hs _ _ _ 1
  have hs3 : ∀ ρ sn h, capt.map (conv ρ sn h 3) = capt := fun _ _ _ => hs _ _ _ 2
  have hs4 : ∀ ρ sn h, capt.map (conv ρ sn h 4) = capt := fun _ _ _ => hs _ _ _ 3
  have hw1 : IntKind.i64.wrap ((m : Int) - a) = (m : Int) - a := w64 (by omega) (by omega)
  have hw2 : IntKind.i64.wrap ((b : Int) - m) = (b : Int) - m := w64 (by omega) (by omega)
  have hne1 : ¬ ((m : Int) - a = 1) := by omega
  have hne2 : ¬ ((b : Int) - m = 1) := by omega
  obtain ⟨p, hp⟩ : ∃ p, p + 1 = mm := ⟨mm - 1, by omega⟩
  have hw4 : IntKind.i64.wrap ((mid : Int) + (m : Int)) = (mm : Int) := by rw [w64 (by omega) (by omega)]; omega
  have hw5 : mid < m → IntKind.i64.wrap ((mm : Int) - (b : Int)) = (lo : Int) := fun h => by have := hA h; rw [w64 (by omega) (by omega)]; omega
  have hw6 : IntKind.i64.wrap ((mm : Int) - 1) = (p : Int) := by rw [w64 (by omega) (by omega)]; omega
  have hw7 : IntKind.i64.wrap ((mm : Int) - (q : Int)) = (e : Int) := by rw [w64 (by omega) (by omega)]; omega
  obtain ⟨hwA, hwB, hwC, hwD⟩ := half_v (i := a) (j := b) (by omega)
  rw [← hmid] at hwC hwD
  refine sslices_symMergeCmpFunc_api_Vouch.acalls (Nat.le_of_ble_eq_true rfl) (Nat.le_of_ble_eq_true rfl) (Nat.le_of_ble_eq_true rfl) ?_
  show awp _ 1 _ _ ⟨220, [(0, .rs 0 0 n), (1, .I a), (2, .I m), (3, .I b), (4, .fn (.func f) [] capt)], [(0, some ⟨7, Z, 0⟩)], 16⟩
  refine awp_seq ?_
  refine rk (s := ?s01) [0, 1, 2, 3, 4, 28] [0] rfl ?o01 ?q01
  case o01 => simp [hw1, hne1]; rfl
  refine awp_cond _ rfl (fun h => by simp [hne1] at h) fun _ => awp_skip ?_
  refine awp_seq ?_
  refine rk (s := ?s02) [0, 1, 2, 3, 4, 80] [0] rfl ?o02 ?q02
  case o02 => simp [hw2, hne2]; rfl
  refine awp_cond _ rfl (fun h => by simp [hne2] at h) fun _ => awp_skip ?_
  refine rk (s := ?s1) [0, 1, 2, 3, 4, 18] [0] rfl ?o1 ?q1
  case o1 => simp [hwA, hwB, hwC, hwD, IntKind.bits, -Int.natCast_ediv, -Int.natCast_add]; rfl
  refine rk (s := ?s2) [0, 1, 2, 3, 4, 18, 19] [0] rfl ?o2 ?q2
  case o2 => simp [hw4]; rfl
  refine rk (s := ?s3) [0, 1, 2, 3, 4, 18, 19, 20, 21] [0] rfl ?o3 ?q3
  case o3 => simp; rfl
  clear hwA hwB hwC hwD
  refine awp_cut (ι := Unit) (fun _ => ⟨220, [(0, .rs 0 0 n), (1, .I a), (2, .I m), (3, .I b), (4, .fn (.func f) [] capt), (18, .I mid), (19, .I mm), (20, .I lo), (21, .I hi)], [(0, some ⟨7, Z, 0⟩)], 300⟩) (fun _ => True) ?_ fun _ _ => ?_
  · refine rk (s := ?s4) [0, 1, 2, 3, 4, 18, 19, 20, 21, 140] [0] rfl ?o4 ?q4
    case o4 => simp; rfl
    refine awp_cond _ rfl (fun h5 => ?_) fun h5 => ?_
    · simp only [decide_eq_true_eq, Int.ofNat_lt] at h5
      refine rk (s := ?s5) [0, 1, 2, 3, 4, 18, 19, 20] [0] rfl ?o5 ?q5
      case o5 => simp [hw5 h5]; rfl
      refine awp_reg rfl ?_
      simp
      exact Le.keep rfl (by simp) (by simp [(hA h5).2]) (by simp)
    · simp only [decide_eq_false_iff_not, Int.ofNat_lt] at h5
      have hB' := hB (by omega)
      refine rk (s := ?s6) [0, 1, 2, 3, 4, 18, 19, 20] [0] rfl ?o6 ?q6
      case o6 => simp; rfl
      refine awp_reg rfl ?_
      simp
      exact Le.keep rfl (by simp) (by simp [hB'.1, hB'.2]) (by simp)
  refine rk (s := ?s7) [0, 1, 2, 3, 4, 18, 19, 20, 21, 22] [0] rfl ?o7 ?q7
  case o7 => simp [hw6]; rfl
  refine awp_seq ?_
  refine awp_block ?_
  refine awp_loop (ι := Nat × Nat) (fun p' => ⟨220, [(0, .rs 0 0 n), (1, .I a), (2, .I m), (3, .I b), (4, .fn (.func f) [] capt), (18, .I mid), (19, .I mm), (20, .I p'.1), (21, .I p'.2), (22, .I p)], [(0, some ⟨7, Z, 0⟩)], 400⟩) (fun p => lo ≤ p.1 ∧ p.1 ≤ q ∧ q ≤ p.2 ∧ p.2 ≤ hi) (fun p => p.2 - p.1) (lo, hi) ⟨by simp, by simpa using hq1, by simpa using hq2, by simp⟩ (Le.keep rfl (by simp) (by simp) (by simp)) ?_
  rintro ⟨i, j⟩ ⟨hj1, hj2, hj3, hj4⟩
  simp only at hj1 hj2 hj3 hj4
  refine awp_seq ?_
  refine rk (s := ?s8) [0, 1, 2, 3, 4, 18, 19, 20, 21, 22, 151] [0] rfl ?o8 ?q8
  case o8 => simp; rfl
  refine awp_cond _ rfl (fun h4 => awp_skip ?_) fun h4 => awp_exit (hit ?_)
  · simp only [decide_eq_true_eq, Int.ofNat_lt] at h4
    obtain ⟨hw, hu, hd, hw3⟩ := half_v (i := i) (j := j) (by omega)
    refine awp_block ?_
    obtain ⟨c, hcc⟩ : ∃ c, c = (i + j) / 2 := ⟨_, rfl⟩
    rw [← hcc] at hd hw3
    refine rk (s := ?s9) [0, 1, 2, 3, 4, 18, 19, 20, 21, 22, 23] [0] rfl ?o9 ?q9
    case o9 => simp [hw, hu, hd, hw3, IntKind.bits, -Int.natCast_ediv, -Int.natCast_add]; rfl
    obtain ⟨d, hd2⟩ : ∃ d, c + d + 1 = mm := ⟨p - c, by omega⟩
    obtain ⟨hdn, x, y, hg1, hg2, hk2⟩ := hkey c d (by omega) (by omega) hd2
    have hcmp := hc y x
    have hb2 : (!decide (cmpV y x < 0)) = decide (c < q) := by rw [← decide_not, decide_eq_decide]; exact hk2
    have hwd : IntKind.i64.wrap ((p : Int) - (c : Int)) = (d : Int) := by rw [w64 (by omega) (by omega)]; omega
    have hcn : c < n := by omega
    have hwq : IntKind.i64.wrap ((c : Int) + 1) = ((c + 1 : Nat) : Int) := by rw [w64 (by omega) (by omega)]; omega
    refine awp_dregc ⟨220, [(0, .rs 0 0 n), (1, .I a), (2, .I m), (3, .I b), (4, .fn (.func f) [] capt), (18, .I mid), (19, .I mm), (20, .I i), (21, .I j), (22, .I p), (23, .I c), (171, .B (decide (c < q)))], [(0, some ⟨7, Z, 0⟩)], 600⟩ rfl ?_ ?_
    · rw [← hb2]
      simp [hg1, hg2, hwd, hdn, hcn]
      refine call0e hcmp ?_ ?_
      · simp [hs2, hs3, hs4]
      simp
      exact ⟨rfl, Le.keep rfl (by simp) (by simp) (by simp)⟩
    refine awp_cond _ rfl (fun h5 => ?_) fun h5 => ?_
    · simp only [decide_eq_true_eq] at h5
      refine awp_reg rfl ?_
      simp [hwq]
      exact ⟨c + 1, j, ⟨by omega, by omega, by omega, by omega⟩, by omega, Le.N1 hf0 rfl (by simp) rfl rfl (by simp [hs2, hs3, hs4])⟩
    · simp only [decide_eq_false_iff_not] at h5
      refine awp_reg rfl ?_
      simp
      exact ⟨i, c, ⟨by omega, by omega, by omega, by omega⟩, by omega, Le.N1 hf0 rfl (by simp) rfl rfl (by simp [hs2, hs3, hs4])⟩
  simp only [decide_eq_false_iff_not, Int.ofNat_lt] at h4
  obtain rfl : i = q := by omega
  refine rk (s := ?s10) [0, 1, 2, 3, 4, 18, 20, 24] [0] rfl ?o10 ?q10
  case o10 => simp [hw7]; rfl
  refine awp_cut (ι := Unit) (fun _ => ⟨220, [(0, .rs 0 0 n), (1, .I a), (2, .I m), (3, .I b), (4, .fn (.func f) [] capt), (18, .I mid), (20, .I i), (24, .I e)], [(0, some ⟨7, Z1, 0⟩)], 1000⟩) (fun _ => True) ?_ fun _ _ => ?_
  · refine awp_regc ⟨220, [(0, .rs 0 0 n), (1, .I a), (2, .I m), (3, .I b), (4, .fn (.func f) [] capt), (18, .I mid), (20, .I i), (24, .I e), (185, .B (decide (i < m ∧ m < e)))], [(0, some ⟨7, Z, 0⟩)], 700⟩ rfl ?_ ?_
    · by_cases c1 : i < m
      · simp [c1]
        exact Le.keep rfl (by simp) (by simp) (by simp)
      · simp [c1]
        exact Le.keep rfl (by simp) (by simp) (by simp)
    refine awp_cond _ rfl (fun h5 => ?_) fun h5 => awp_skip ?_
    · simp only [decide_eq_true_eq] at h5
      refine awp_reg rfl ?_
      simp
      refine callM1 (i := 0) rfl (e' := ⟨7, Z, 0⟩) (by simp [hf0]) (hrot h5.1 h5.2) (by simp) (by simp [hs2, hs3, hs4]) ?_
      simp [hf1]
      exact Le.keep rfl (by simp) (by simp) (by simp)
    · simp only [decide_eq_false_iff_not] at h5
      exact ⟨(), trivial, Le.keep rfl (by simp) (by simp) (by simp [hrot' h5])⟩
  refine awp_cut (ι := Unit) (fun _ => ⟨220, [(0, .rs 0 0 n), (1, .I a), (2, .I m), (3, .I b), (4, .fn (.func f) [] capt), (18, .I mid), (20, .I i), (24, .I e)], [(0, some ⟨7, Z2, 0⟩)], 2000⟩) (fun _ => True) ?_ fun _ _ => ?_
  · refine awp_regc ⟨220, [(0, .rs 0 0 n), (1, .I a), (2, .I m), (3, .I b), (4, .fn (.func f) [] capt), (18, .I mid), (20, .I i), (24, .I e), (199, .B (decide (a < i ∧ i < mid)))], [(0, some ⟨7, Z1, 0⟩)], 1500⟩ rfl ?_ ?_
    · by_cases c1 : a < i
      · simp [c1]
        exact Le.keep rfl (by simp) (by simp) (by simp)
      · simp [c1]
        exact Le.keep rfl (by simp) (by simp) (by simp)
    refine awp_cond _ rfl (fun h5 => ?_) fun h5 => awp_skip ?_
    · simp only [decide_eq_true_eq] at h5
      refine awp_reg rfl ?_
      simp
      refine callM1 (i := 0) rfl (e' := ⟨7, Z1, 0⟩) (by simp [hf1]) (hm1 h5.1 h5.2) (by simp) (by simp [hs2, hs3, hs4]) ?_
      simp [hf2]
      exact Le.keep rfl (by simp) (by simp) (by simp)
    · simp only [decide_eq_false_iff_not] at h5
      exact ⟨(), trivial, Le.keep rfl (by simp) (by simp) (by simp [hm1' h5])⟩
  refine awp_regc ⟨220, [(0, .rs 0 0 n), (3, .I b), (4, .fn (.func f) [] capt), (18, .I mid), (24, .I e), (213, .B (decide (mid < e ∧ e < b)))], [(0, some ⟨7, Z2, 0⟩)], 2500⟩ rfl ?_ ?_
  · by_cases c1 : mid < e
    · simp [c1]
      exact Le.keep rfl (by simp) (by simp) (by simp)
    · simp [c1]
      exact Le.keep rfl (by simp) (by simp) (by simp)
  refine awp_cond _ rfl (fun h5 => ?_) fun h5 => awp_skip ?_
  · simp only [decide_eq_true_eq] at h5
    refine awp_reg rfl ?_
    simp
    refine callM1 (i := 0) rfl (e' := ⟨7, Z2, 0⟩) (by simp [hf2]) (hm2 h5.1 h5.2) (by simp) (by simp [hs2, hs3, hs4]) ?_
    simp [hf3]
    exact outV hf3 rfl
  · simp only [decide_eq_false_iff_not] at h5
    rw [hm2' h5]
    exact ⟨.inl rfl, outV hf3 rfl⟩
set_option maxHeartbeats 4000000 in
set_option maxRecDepth 100000 in
theorem symMergeV_ok (f : FuncId) (capt : List AV) (hs : StillV capt) (hc : ∀ x y, ACalls Tryz.prog f (eV x :: eV y :: capt) [] (.I (cmpV x y)) []) : ∀ (k : Nat) (A S T B : List Vch) (n a m b : Nat), S.length + T.length = k → (A ++ (S ++ (T ++ B))).length = n → A.length = a → a + S.length = m → m + T.length = b →
    0 < S.length → 0 < T.length → n ≤ 1000000 → srtV S → srtV T → ∃ R : List Vch, R.Perm (S ++ T) ∧ srtV R ∧
    ACalls Tryz.prog nslices_symMergeCmpFunc_api_Vouch [.rs 0 0 n, .I a, .I m, .I b, .fn (.func f) [] capt] [⟨7, rowsV (A ++ (S ++ (T ++ B))), 0⟩] (.tup []) [some ⟨7, rowsV (A ++ (R ++ B)), 0⟩] := by
  intro k
  induction k using Nat.strongRecOn with
  | ind k ih =>
  intro A S T B n a m b hk hn ha hm hb hS0 hT0 hl hSs hTs
  by_cases hS1 : S.length = 1
  · obtain ⟨x, rfl⟩ := List.length_eq_one_iff.1 hS1
    obtain ⟨q, hq, hqk, hsr⟩ := one_left (x := x) hTs
    refine ⟨T.take q ++ x :: T.drop q, ?_, hsr, ?_⟩
    · refine (List.perm_middle).trans ?_
      rw [List.take_append_drop]
      exact List.Perm.refl _
    · exact symMergeV_one f capt hs hc A T B x n a m b q hn ha (by simpa using hm) hb hT0 hl hq hqk
  by_cases hT1 : T.length = 1
  · obtain ⟨x, rfl⟩ := List.length_eq_one_iff.1 hT1
    obtain ⟨q, hq, hqk, hsr⟩ := one_right (x := x) hSs
    refine ⟨S.take q ++ x :: S.drop q, ?_, hsr, ?_⟩
    · refine (List.perm_middle).trans ?_
      rw [List.take_append_drop]
      exact (List.perm_append_singleton x S).symm
    · exact symMergeV_two f capt hs hc A S B x n a m b q hn ha hm (by simpa using hb) (by omega) hl hq hqk
  obtain ⟨mid, hmid⟩ : ∃ mid, mid = (a + b) / 2 := ⟨_, rfl⟩
  obtain ⟨lo, hlo⟩ : ∃ lo, lo = if mid < m then mid + m - b else a := ⟨_, rfl⟩
  obtain ⟨hi, hhi⟩ : ∃ hi, hi = if mid < m then mid else m := ⟨_, rfl⟩
  obtain ⟨q, hq⟩ := cutV_ex (lo := lo) (hi := hi) hSs hTs hm hb hS0 hT0 hmid (by
    by_cases h : mid < m
    · rw [if_pos h] at hlo hhi; exact .inl ⟨h, hlo, hhi⟩
    · rw [if_neg h] at hlo hhi; exact .inr ⟨by omega, hlo, hhi⟩)
  have hbn : b + B.length = n := by simp only [List.length_append] at hn; omega
  have hlo2 : a ≤ lo ∧ lo ≤ hi ∧ hi ≤ m ∧ hi ≤ mid ∧ mid + m ≤ b + lo := by
    by_cases h : mid < m
    · rw [if_pos h] at hlo hhi; omega
    · rw [if_neg h] at hlo hhi; omega
  obtain ⟨q1, q2, key, am, qm, qd, eb, below, above⟩ := hq
  obtain ⟨e, he⟩ : ∃ e, e = mid + m - q := ⟨_, rfl⟩
  have hbelow : ∀ s ∈ S.drop (q - a), ∀ t ∈ T.take (mid - q), ¬ ltV s t := fun s h1 t h2 => ltV_asym (below s h1 t h2)
  obtain ⟨sS1, sS2, sS3⟩ := srtV_parts (a := S.take (q - a)) (b := S.drop (q - a)) (by rw [List.take_append_drop]; exact hSs)
  obtain ⟨sT1, sT2, sT3⟩ := srtV_parts (a := T.take (mid - q)) (b := T.drop (mid - q)) (by rw [List.take_append_drop]; exact hTs)
  have lS1 : a + (S.take (q - a)).length = q := by rw [List.length_take]; omega
  have lT1 : q + (T.take (mid - q)).length = mid := by rw [List.length_take]; omega
  have lS2 : mid + (S.drop (q - a)).length = e := by rw [List.length_drop]; omega
  have lT2 : e + (T.drop (mid - q)).length = b := by rw [List.length_drop]; omega
  have hST : S ++ T = S.take (q - a) ++ S.drop (q - a) ++ (T.take (mid - q) ++ T.drop (mid - q)) := by rw [List.take_append_drop, List.take_append_drop]
  have hZ1 : A ++ (S ++ (T ++ B)) = A ++ S.take (q - a) ++ (S.drop (q - a) ++ (T.take (mid - q) ++ (T.drop (mid - q) ++ B))) := by
    rw [List.append_assoc A, ← List.append_assoc (S.take (q - a)), List.take_append_drop, ← List.append_assoc (T.take (mid - q)), List.take_append_drop]
  have hab : a < mid ∧ mid < b := by omega
  have hrot := rotateV_ok f capt hs (A ++ S.take (q - a)) (S.drop (q - a)) (T.take (mid - q)) (T.drop (mid - q) ++ B) n q m e (by rw [← hZ1]; exact hn) (by rw [List.length_append]; omega) (by rw [List.length_drop]; omega) (by omega)
  generalize hgS1 : S.take (q - a) = S1 at *
  generalize hgS2 : S.drop (q - a) = S2 at *
  generalize hgT1 : T.take (mid - q) = T1 at *
  generalize hgT2 : T.drop (mid - q) = T2 at *
  have hga : ∀ c, (h1 : a ≤ c) → (h2 : c < m) → (rowsV (A ++ (S ++ (T ++ B))))[c]? = some (vC (S[c - a]'(by omega))) := fun c h1 h2 => at1 (A := A) (S := S) (R := T ++ B) (k := c - a) (by omega) (by omega)
  have hgt : ∀ c, (h1 : m ≤ c) → (h2 : c < b) → (rowsV (A ++ (S ++ (T ++ B))))[c]? = some (vC (T[c - m]'(by omega))) := fun c h1 h2 => at2 (A := A) (S := S) (T := T) (R := B) (k := c - m) (by omega) (by omega)
  obtain ⟨R1, hp1, hs1, hc1, hn1⟩ : ∃ R1 : List Vch, R1.Perm (S1 ++ T1) ∧ srtV R1 ∧ (a < q ∧ q < mid → ACalls Tryz.prog nslices_symMergeCmpFunc_api_Vouch [.rs 0 0 n, .I a, .I q, .I mid, .fn (.func f) [] capt] [⟨7, rowsV (A ++ (S1 ++ (T1 ++ (S2 ++ (T2 ++ B))))), 0⟩] (.tup []) [some ⟨7, rowsV (A ++ (R1 ++ (S2 ++ (T2 ++ B)))), 0⟩]) ∧ (¬ (a < q ∧ q < mid) → R1 = S1 ++ T1) := by
    by_cases h : a < q ∧ q < mid
    · obtain ⟨R, h1, h2, h3⟩ := ih (S1.length + T1.length) (by omega) A S1 T1 (S2 ++ (T2 ++ B)) n a q mid rfl (by simp only [List.length_append]; omega) ha lS1 lT1 (by omega) (by omega) hl sS1 sT1
      exact ⟨R, h1, h2, fun _ => h3, fun hh => absurd h hh⟩
    · refine ⟨S1 ++ T1, List.Perm.refl _, srtV_one sS1 sT1 ?_, fun hh => absurd hh h, fun _ => rfl⟩
      by_cases h2 : a < q
      · exact .inr (List.eq_nil_of_length_eq_zero (by omega))
      · exact .inl (List.eq_nil_of_length_eq_zero (by omega))
  have lR1 : R1.length + a = mid := by rw [hp1.length_eq, List.length_append]; omega
  obtain ⟨R2, hp2, hs2, hc2, hn2⟩ : ∃ R2 : List Vch, R2.Perm (S2 ++ T2) ∧ srtV R2 ∧ (mid < e ∧ e < b → ACalls Tryz.prog nslices_symMergeCmpFunc_api_Vouch [.rs 0 0 n, .I mid, .I e, .I b, .fn (.func f) [] capt] [⟨7, rowsV (A ++ (R1 ++ (S2 ++ (T2 ++ B)))), 0⟩] (.tup []) [some ⟨7, rowsV (A ++ (R1 ++ R2 ++ B)), 0⟩]) ∧ (¬ (mid < e ∧ e < b) → R2 = S2 ++ T2) := by
    by_cases h : mid < e ∧ e < b
    · obtain ⟨R, h1, h2, h3⟩ := ih (S2.length + T2.length) (by omega) (A ++ R1) S2 T2 B n mid e b rfl (by simp only [List.length_append]; omega) (by rw [List.length_append]; omega) lS2 lT2 (by omega) (by omega) hl sS2 sT2
      refine ⟨R, h1, h2, fun _ => ?_, fun hh => absurd h hh⟩
      rw [List.append_assoc A, List.append_assoc A] at h3
      rw [List.append_assoc R1]
      exact h3
    · refine ⟨S2 ++ T2, List.Perm.refl _, srtV_one sS2 sT2 ?_, fun hh => absurd hh h, fun _ => rfl⟩
      by_cases h2 : mid < e
      · exact .inr (List.eq_nil_of_length_eq_zero (by omega))
      · exact .inl (List.eq_nil_of_length_eq_zero (by omega))
  refine ⟨R1 ++ R2, ?_, srtV_perm hp1 hp2 (fun x hx y hy => ?_) hs1 hs2, ?_⟩
  · rw [hST]
    refine (hp1.append hp2).trans ?_
    simp only [List.append_assoc]
    refine List.Perm.append_left _ ?_
    rw [← List.append_assoc, ← List.append_assoc]
    exact List.Perm.append_right _ List.perm_append_comm
  · rcases List.mem_append.1 hx with h | h <;> rcases List.mem_append.1 hy with h' | h'
    · exact sS3 x h y h'
    · exact above x h y h'
    · exact hbelow y h' x h
    · exact sT3 x h y h'
  refine symMerge_walk f capt hs hc n a m b mid (mid + m) lo hi q e _ (rowsV (A ++ (S1 ++ (T1 ++ (S2 ++ (T2 ++ B)))))) (rowsV (A ++ (R1 ++ (S2 ++ (T2 ++ B))))) _ (rowsV_flat _) (rowsV_flat _) (rowsV_flat _) (rowsV_flat _)
    (by omega) (by omega) (by omega) hl hmid rfl (fun h => by rw [if_pos h] at hlo hhi; omega) (fun h => by rw [if_neg (by omega)] at hlo hhi; omega) q1 q2 (by omega) hlo2.1 hlo2.2.2.1 hlo2.2.2.2.1 (fun c d h1 h2 h3 => ?_) (fun h1 h2 => ?_) (fun h => ?_) (fun h1 h2 => hc1 ⟨h1, h2⟩) (fun h => by rw [hn1 h, List.append_assoc]) (fun h1 h2 => hc2 ⟨h1, h2⟩) (fun h => by rw [hn2 h, List.append_assoc R1, List.append_assoc S2])
  · have hd : mid + m - 1 - c = d := by omega
    refine ⟨by omega, S[c - a]'(by omega), T[d - m]'(by omega), hga c (by omega) (by omega), hgt d (by omega) (by omega), ?_⟩
    rw [cmpV_lt]
    have hk2 := key c (by omega) (by omega) h1 h2
    simp only [hd] at hk2
    exact hk2
  · have hr := hrot (by omega) (by omega) hl
    rw [← hZ1, List.append_assoc A S1] at hr
    exact hr
  · rw [hZ1, List.append_assoc A S1]
    by_cases h6 : q < m
    · have : T1 = [] := List.eq_nil_of_length_eq_zero (by omega)
      rw [this]
      rfl
    · have : S2 = [] := List.eq_nil_of_length_eq_zero (by omega)
      rw [this]
      rfl
end Go.Proofs.YtnlanlpbgcalcaaGreat
namespace Go.Proofs.YtnlanlpbgcalcaaGreat
open Go
def BW (w : Nat) : List (List Vch) → Prop
  | [] => True
  | s :: r => srtV s ∧ 0 < s.length ∧ s.length ≤ w ∧ (r ≠ [] → s.length = w) ∧ BW w r
theorem BW.two {w : Nat} {r : List (List Vch)} (h : BW w r) (hl : 2 * w ≤ r.flatten.length) (hw : 0 < w) : ∃ s t r', r = s :: t :: r' ∧ s.length = w ∧ t.length = w ∧ srtV s ∧ srtV t ∧ BW w r' := by
  match r, h with
  | [], _ => simp at hl; omega
  | [s], h => simp at hl; have := h.2.2.1; omega
  | s :: t :: r', h =>
    obtain ⟨h1, h2, h3, h4, h5, h6, h7, h8, h9⟩ := h
    refine ⟨s, t, r', rfl, h4 (by simp), ?_, h1, h5, h9⟩
    by_cases hr : r' = []
    · subst hr
      have := h4 (by simp)
      simp at hl
      omega
    · exact h8 hr
theorem BW.tail {w : Nat} {r : List (List Vch)} (h : BW w r) (hl : r.flatten.length < 2 * w) : (∃ s t, r = [s, t] ∧ s.length = w ∧ 0 < t.length ∧ srtV s ∧ srtV t) ∨ (r.flatten.length ≤ w ∧ srtV r.flatten) := by
  match r, h with
  | [], _ => exact .inr ⟨by simp, by simp [srtV]⟩
  | [s], h => exact .inr ⟨by simpa using h.2.2.1, by simpa using h.1⟩
  | s :: t :: r', h =>
    obtain ⟨h1, h2, h3, h4, h5, h6, h7, h8, h9⟩ := h
    have h10 := h4 (by simp)
    by_cases hr : r' = []
    · subst hr
      exact .inl ⟨s, t, rfl, h10, h6, h1, h5⟩
    · have := h8 hr
      simp at hl
      omega
theorem BW.one {w : Nat} {r : List (List Vch)} (h : BW w r) (hl : r.flatten.length ≤ w) (hw : 0 < w) : srtV r.flatten := by
  rcases h.tail (by omega) with ⟨s, t, rfl, h1, h2, _⟩ | ⟨_, h⟩
  · simp at hl; omega
  · exact h
theorem BW.mk {w : Nat} (hw : 0 < w) {t : List Vch} (ht : srtV t) (hl : t.length ≤ w) : ∀ d : List (List Vch), (∀ s ∈ d, srtV s ∧ s.length = w) → ∃ r, BW w r ∧ r.flatten = d.flatten ++ t ∧ (d ≠ [] ∨ t ≠ [] → r ≠ [])
  | [], _ => by
    by_cases h : t = []
    · exact ⟨[], trivial, by simp [h], by simp [h]⟩
    · exact ⟨[t], ⟨ht, List.length_pos_iff.2 h, hl, fun h => absurd rfl h, trivial⟩, by simp, by simp⟩
  | s :: d, h => by
    obtain ⟨r, h1, h2, h3⟩ := BW.mk hw ht hl d fun x hx => h x (List.mem_cons_of_mem _ hx)
    have hs := h s List.mem_cons_self
    exact ⟨s :: r, ⟨hs.1, by omega, by omega, fun _ => hs.2, h1⟩, by simp [h2], by simp⟩
theorem isortV_perm (M : List Vch) : (isortV cmpV M).Perm M := (List.reverse_perm _).trans (isortRevV_perm cmpV M)
set_option maxHeartbeats 4000000 in
set_option maxRecDepth 100000 in
theorem stableVG_ok (f : FuncId) (capt : List AV) (hs : StillV capt) (hc : ∀ x y, ACalls Tryz.prog f (eV x :: eV y :: capt) [] (.I (cmpV x y)) []) (l : List Vch) (n : Nat) (hn : l.length = n) (hl : n ≤ 1000000) : ∃ R : List Vch, (R.Perm l ∧ srtV R) ∧
    ACalls Tryz.prog nslices_stableCmpFunc_api_Vouch [.rs 0 0 n, .I n, .fn (.func f) [] capt] [⟨7, rowsV l, 0⟩] (.tup []) [some ⟨7, rowsV R, 0⟩] := by
  have hs2 : ∀ ρ sn h, capt.map (conv ρ sn h 2) = capt := fun _ _ _ => hs _ _ _ 1
  have hs3 : ∀ ρ sn h, capt.map (conv ρ sn h 3) = capt := fun _ _ _ => hs _ _ _ 2
  have hs4 : ∀ ρ sn h, capt.map (conv ρ sn h 4) = capt := fun _ _ _ => hs _ _ _ 3
  refine sslices_stableCmpFunc_api_Vouch.acallsX (fun _ => .tup []) (fun R => [some ⟨7, rowsV R, 0⟩]) (fun R => R.Perm l ∧ srtV R) (Nat.le_of_ble_eq_true rfl) (Nat.le_of_ble_eq_true rfl) (fun _ => Nat.le_refl _) ?_
  show awp _ 1 _ _ ⟨63, [(0, .rs 0 0 n), (1, .I n), (2, .fn (.func f) [] capt)], [(0, some ⟨7, rowsV l, 0⟩)], 16⟩
  refine rk (s := ?s1) [0, 1, 2, 6] [0] rfl ?o1 ?q1
  case o1 => simp; rfl
  refine rk (s := ?s2) [0, 1, 2, 6, 7, 8] [0] rfl ?o2 ?q2
  case o2 => simp; rfl
  refine awp_seq ?_
  refine awp_block ?_
  refine awp_loop (ι := (List (List Vch) × List Vch) × (Nat × Nat)) (fun p => ⟨63, [(0, .rs 0 0 n), (1, .I n), (2, .fn (.func f) [] capt), (6, .I 20), (7, .I p.2.1), (8, .I p.2.2)], [(0, some ⟨7, rowsV (p.1.1.flatten ++ p.1.2), 0⟩)], 500⟩)
    (fun p => (p.1.1.flatten ++ p.1.2).Perm l ∧ p.1.1.flatten.length = p.2.1 ∧ p.2.1 + p.1.2.length = n ∧ p.2.2 = p.2.1 + 20 ∧ ∀ s ∈ p.1.1, srtV s ∧ s.length = 20) (fun p => n - p.2.1) (([], l), (0, 20)) ⟨by simp, by simp, by simpa using hn, by simp, by simp⟩ (Le.keep rfl (by simp) (by simp) (by simp)) ?_
  rintro ⟨⟨d, r⟩, a, b⟩ ⟨i1, i2, i3, i4, i5⟩
  simp only at i1 i2 i3 i4 i5
  have hf1 := rowsV_flat (d.flatten ++ r)
  obtain ⟨Z, hZ⟩ : ∃ Z, Z = rowsV (d.flatten ++ r) := ⟨_, rfl⟩
  simp only
  rw [← hZ] at hf1 ⊢
  refine awp_seq ?_
  refine rk (s := ?s3) [0, 1, 2, 6, 7, 8, 13] [0] rfl ?o3 ?q3
  case o3 => simp; rfl
  refine awp_cond _ rfl (fun h4 => awp_skip ?_) fun h4 => awp_exit (hit ?_)
  · simp only [decide_eq_true_eq, Int.ofNat_le] at h4
    have hrl : r = r.take 20 ++ r.drop 20 := (List.take_append_drop 20 r).symm
    have h20 : (r.take 20).length = 20 := by rw [List.length_take]; omega
    have hdl : (r.drop 20).length = r.length - 20 := by rw [List.length_drop]
    generalize r.take 20 = M at *
    generalize r.drop 20 = B at *
    subst hrl
    have hsort := insertionV_ok f capt cmpV d.flatten M B n a b (by simp only [List.length_append] at i3 ⊢; omega) i2 (by omega) hl hs fun x _ y _ => hc x y
    rw [List.append_assoc, ← hZ] at hsort
    have hf2 := rowsV_flat (d.flatten ++ isortV cmpV M ++ B)
    obtain ⟨Z2, hZ2⟩ : ∃ Z2, Z2 = rowsV (d.flatten ++ isortV cmpV M ++ B) := ⟨_, rfl⟩
    rw [← hZ2] at hf2 hsort
    refine awp_block ?_
    refine awp_cut (ι := Unit) (fun _ => ⟨63, [(0, .rs 0 0 n), (1, .I n), (2, .fn (.func f) [] capt), (6, .I 20), (8, .I b)], [(0, some ⟨7, Z2, 0⟩)], 1000⟩) (fun _ => True) ?_ fun _ _ => ?_
    · refine awp_reg rfl ?_
      simp
      refine callM1 (i := 0) rfl (e' := ⟨7, Z, 0⟩) (by simp [hf1]) hsort (by simp) (by simp [hs2, hs3, hs4]) ?_
      simp [hf2]
      exact Le.keep rfl (by simp) (by simp) (by simp)
    refine rk (s := ?s5) [0, 1, 2, 6, 7, 8] [0] rfl ?o5 ?q5
    case o5 => simp; rfl
    obtain ⟨b2, hb2⟩ : ∃ b2, b2 = b + 20 := ⟨_, rfl⟩
    have hwb : IntKind.i64.wrap ((b : Int) + 20) = (b2 : Int) := by rw [w64 (by omega) (by omega)]; omega
    refine awp_reg rfl ?_
    simp [hwb]
    have hpm : (isortV cmpV M).Perm M := isortV_perm M
    have hml : (isortV cmpV M).length = 20 := by rw [hpm.length_eq]; exact h20
    refine ⟨d ++ [isortV cmpV M], B, b, b2, ⟨?_, ?_, ?_, hb2, ?_⟩, by omega, Le.N1 hf2 rfl (by simp) (by simp [hZ2]) rfl (by simp [hs2, hs3, hs4])⟩
    · refine List.Perm.trans ?_ i1
      rw [List.flatten_append, List.flatten_singleton, List.append_assoc]
      exact List.Perm.append_left _ (List.Perm.append_right _ hpm)
    · rw [← List.length_flatten, List.flatten_append, List.flatten_singleton, List.length_append]; omega
    · simp only [List.length_append] at i3; omega
    · intro s hs'
      rcases List.mem_append.1 hs' with hs' | hs'
      · exact i5 s hs'
      · obtain rfl := List.mem_singleton.1 hs'
        exact ⟨isortV_sorted M, hml⟩
  simp only [decide_eq_false_iff_not, Int.ofNat_le] at h4
  have hsort := insertionV_ok f capt cmpV d.flatten r [] n a n (by rw [List.append_nil, List.length_append]; omega) i2 i3 hl hs fun x _ y _ => hc x y
  rw [List.append_nil, List.append_nil, ← hZ] at hsort
  have hpr : (isortV cmpV r).Perm r := isortV_perm r
  obtain ⟨Bs, hB1, hB2, _⟩ := BW.mk (w := 20) (by decide) (isortV_sorted r) (by rw [hpr.length_eq]; omega) d i5
  rw [← hB2] at hsort
  have hBp : Bs.flatten.Perm l := by rw [hB2]; exact (List.Perm.append_left _ hpr).trans i1
  refine awp_cut (ι := Unit) (fun _ => ⟨63, [(0, .rs 0 0 n), (1, .I n), (2, .fn (.func f) [] capt), (6, .I 20)], [(0, some ⟨7, rowsV Bs.flatten, 0⟩)], 1000⟩) (fun _ => True) ?_ fun _ _ => ?_
  · have hf2 := rowsV_flat Bs.flatten
    generalize rowsV Bs.flatten = Z2 at *
    refine awp_reg rfl ?_
    simp
    refine callM1 (i := 0) rfl (e' := ⟨7, Z, 0⟩) (by simp [hf1]) hsort (by simp) (by simp [hs2, hs3, hs4]) ?_
    simp [hf2]
    exact Le.keep rfl (by simp) (by simp) (by simp)
  clear hsort hZ hf1 hB2 hpr i1 i2 i3 i4 i5 h4
  refine awp_block ?_
  refine awp_loop (ι := List (List Vch) × Nat) (fun p => ⟨63, [(0, .rs 0 0 n), (1, .I n), (2, .fn (.func f) [] capt), (6, .I p.2)], [(0, some ⟨7, rowsV p.1.flatten, 0⟩)], 1000⟩)
    (fun p => BW p.2 p.1 ∧ p.1.flatten.Perm l ∧ 20 ≤ p.2 ∧ p.2 ≤ 4000000) (fun p => n - p.2) (Bs, 20) ⟨hB1, hBp, by simp, by simp⟩ (Le.refl _ _) ?_
  rintro ⟨Bs, w⟩ ⟨hB1, hBp, hw1, hw2⟩
  simp only at hB1 hBp hw1 hw2
  have hf1 := rowsV_flat Bs.flatten
  obtain ⟨Z, hZ⟩ : ∃ Z, Z = rowsV Bs.flatten := ⟨_, rfl⟩
  simp only
  rw [← hZ] at hf1 ⊢
  refine awp_seq ?_
  refine rk (s := ?s6) [0, 1, 2, 6, 30] [0] rfl ?o6 ?q6
  case o6 => simp; rfl
  have hBl : Bs.flatten.length = n := by rw [hBp.length_eq]; exact hn
  refine awp_cond _ rfl (fun h7 => awp_skip ?_) fun h7 => awp_exit (hit ?_)
  · simp only [decide_eq_true_eq, Int.ofNat_lt] at h7
    obtain ⟨w2, hw2e⟩ : ∃ w2, w2 = 2 * w := ⟨_, rfl⟩
    have hww : IntKind.i64.wrap (2 * (w : Int)) = (w2 : Int) := by rw [w64 (by omega) (by omega)]; omega
    refine awp_block ?_
    refine rk (s := ?s8) [0, 1, 2, 6, 7, 8] [0] rfl ?o8 ?q8
    case o8 => simp [hww]; rfl
    refine awp_seq ?_
    refine awp_block ?_
    refine awp_loop (ι := (List (List Vch) × List (List Vch)) × (Nat × Nat)) (fun p => ⟨63, [(0, .rs 0 0 n), (1, .I n), (2, .fn (.func f) [] capt), (6, .I w), (7, .I p.2.1), (8, .I p.2.2)], [(0, some ⟨7, rowsV (p.1.1.flatten ++ p.1.2.flatten), 0⟩)], 1500⟩)
      (fun p => (p.1.1.flatten ++ p.1.2.flatten).Perm l ∧ p.1.1.flatten.length = p.2.1 ∧ p.2.1 + p.1.2.flatten.length = n ∧ p.2.2 = p.2.1 + w2 ∧ (∀ s ∈ p.1.1, srtV s ∧ s.length = w2) ∧ BW w p.1.2) (fun p => n - p.2.1) (([], Bs), (0, w2)) ⟨by simpa using hBp, by simp, by simpa using hBl, by simp, by simp, hB1⟩ (Le.keep rfl (by simp) (by simp) (by simp [hZ])) ?_
    rintro ⟨⟨d, r⟩, a, b⟩ ⟨i1, i2, i3, i4, i5, i6⟩
    simp only at i1 i2 i3 i4 i5 i6
    have hf1 := rowsV_flat (d.flatten ++ r.flatten)
    obtain ⟨Z, hZ⟩ : ∃ Z, Z = rowsV (d.flatten ++ r.flatten) := ⟨_, rfl⟩
    simp only
    rw [← hZ] at hf1 ⊢
    refine awp_seq ?_
    refine rk (s := ?s9) [0, 1, 2, 6, 7, 8, 35] [0] rfl ?o9 ?q9
    case o9 => simp; rfl
    refine awp_cond _ rfl (fun h10 => awp_skip ?_) fun h10 => awp_exit (hit ?_)
    · simp only [decide_eq_true_eq, Int.ofNat_le] at h10
      obtain ⟨s, t, r', rfl, hsl, htl, hss, hts, hr'⟩ := i6.two (by omega) (by omega)
      obtain ⟨m, hm⟩ : ∃ m, m = a + w := ⟨_, rfl⟩
      have hwm : IntKind.i64.wrap ((a : Int) + (w : Int)) = (m : Int) := by rw [w64 (by omega) (by omega)]; omega
      have hfl : (s :: t :: r').flatten = s ++ (t ++ r'.flatten) := by simp
      rw [hfl] at hZ i1 i3
      simp only [List.length_append] at i3
      obtain ⟨R, hR1, hR2, hR3⟩ := symMergeV_ok f capt hs hc _ d.flatten s t r'.flatten n a m b rfl (by simp only [List.length_append]; omega) i2 (by omega) (by omega) (by omega) (by omega) hl hss hts
      rw [← hZ] at hR3
      have hf2 := rowsV_flat (d.flatten ++ (R ++ r'.flatten))
      obtain ⟨Z2, hZ2⟩ : ∃ Z2, Z2 = rowsV (d.flatten ++ (R ++ r'.flatten)) := ⟨_, rfl⟩
      rw [← hZ2] at hf2 hR3
      refine awp_block ?_
      refine awp_cut (ι := Unit) (fun _ => ⟨63, [(0, .rs 0 0 n), (1, .I n), (2, .fn (.func f) [] capt), (6, .I w), (8, .I b)], [(0, some ⟨7, Z2, 0⟩)], 2000⟩) (fun _ => True) ?_ fun _ _ => ?_
      · refine awp_reg rfl ?_
        simp [hwm]
        refine callM1 (i := 0) rfl (e' := ⟨7, Z, 0⟩) (by simp [hf1]) hR3 (by simp) (by simp [hs2, hs3, hs4]) ?_
        simp [hf2]
        exact Le.keep rfl (by simp) (by simp) (by simp)
      refine rk (s := ?s11) [0, 1, 2, 6, 7, 8] [0] rfl ?o11 ?q11
      case o11 => simp; rfl
      obtain ⟨b2, hb2⟩ : ∃ b2, b2 = b + w2 := ⟨_, rfl⟩
      have hwb : IntKind.i64.wrap ((b : Int) + (w2 : Int)) = (b2 : Int) := by rw [w64 (by omega) (by omega)]; omega
      have hRl : R.length = w2 := by rw [hR1.length_eq, List.length_append]; omega
      refine awp_reg rfl ?_
      simp [hww, hwb]
      refine ⟨d ++ [R], r', b, b2, ⟨?_, ?_, ?_, hb2, ?_, hr'⟩, by omega, Le.N1 hf2 rfl (by simp) (by simp [hZ2]) rfl (by simp [hs2, hs3, hs4])⟩
      · refine List.Perm.trans ?_ i1
        rw [List.flatten_append, List.flatten_singleton, List.append_assoc, ← List.append_assoc s]
        exact List.Perm.append_left _ (List.Perm.append_right _ hR1)
      · rw [← List.length_flatten, List.flatten_append, List.flatten_singleton, List.length_append]; omega
      · rw [← List.length_flatten]; omega
      · intro s hs'
        rcases List.mem_append.1 hs' with hs' | hs'
        · exact i5 s hs'
        · obtain rfl := List.mem_singleton.1 hs'
          exact ⟨hR2, hRl⟩
    simp only [decide_eq_false_iff_not, Int.ofNat_le] at h10
    obtain ⟨m, hm⟩ : ∃ m, m = a + w := ⟨_, rfl⟩
    have hwm : IntKind.i64.wrap ((a : Int) + (w : Int)) = (m : Int) := by rw [w64 (by omega) (by omega)]; omega
    refine awp_cut (ι := List (List Vch)) (fun Bs => ⟨63, [(0, .rs 0 0 n), (1, .I n), (2, .fn (.func f) [] capt), (6, .I w)], [(0, some ⟨7, rowsV Bs.flatten, 0⟩)], 3000⟩) (fun Bs => BW w2 Bs ∧ Bs.flatten.Perm l) ?_ ?_
    · refine rk (s := ?s12) [0, 1, 2, 6, 7, 9] [0] rfl ?o12 ?q12
      case o12 => simp [hwm]; rfl
      refine rk (s := ?s13) [0, 1, 2, 6, 7, 9, 54] [0] rfl ?o13 ?q13
      case o13 => simp; rfl
      refine awp_cond _ rfl (fun h14 => ?_) fun h14 => awp_skip ?_
      · simp only [decide_eq_true_eq, Int.ofNat_lt] at h14
        rcases i6.tail (by omega) with ⟨s, t, rfl, hsl, htl, hss, hts⟩ | ⟨h15, _⟩
        · have hfl : [s, t].flatten = s ++ (t ++ []) := by simp
          rw [hfl] at hZ i1 i3
          simp only [List.length_append, List.length_nil] at i3
          obtain ⟨R, hR1, hR2, hR3⟩ := symMergeV_ok f capt hs hc _ d.flatten s t [] n a m n rfl (by simp only [List.length_append, List.length_nil]; omega) i2 (by omega) (by omega) (by omega) htl hl hss hts
          rw [← hZ, List.append_nil] at hR3
          have hRl : R.length ≤ w2 := by rw [hR1.length_eq, List.length_append]; omega
          obtain ⟨Bs2, hC1, hC2, _⟩ := BW.mk (w := w2) (by omega) hR2 hRl d i5
          rw [← hC2] at hR3
          have hf2 := rowsV_flat Bs2.flatten
          obtain ⟨Z2, hZ2⟩ : ∃ Z2, Z2 = rowsV Bs2.flatten := ⟨_, rfl⟩
          rw [← hZ2] at hf2 hR3
          refine awp_reg rfl ?_
          simp
          refine callM1 (i := 0) rfl (e' := ⟨7, Z, 0⟩) (by simp [hf1]) hR3 (by simp) (by simp [hs2, hs3, hs4]) ?_
          simp [hf2]
          refine ⟨Bs2, ⟨hC1, ?_⟩, Le.keep rfl (by simp) (by simp) (by simp [hZ2])⟩
          rw [hC2]
          refine List.Perm.trans ?_ i1
          rw [List.append_nil]
          exact List.Perm.append_left _ hR1
        · exact absurd h14 (by omega)
      · simp only [decide_eq_false_iff_not, Int.ofNat_lt] at h14
        have hrs : srtV r.flatten := by
          rcases i6.tail (by omega) with ⟨s, t, rfl, hsl, htl, hss, hts⟩ | ⟨_, h15⟩
          · simp only [List.flatten_cons, List.length_append] at i3
            omega
          · exact h15
        obtain ⟨Bs2, hC1, hC2, _⟩ := BW.mk (w := w2) (by omega) hrs (by omega) d i5
        exact ⟨Bs2, ⟨hC1, by rw [hC2]; exact i1⟩, Le.keep rfl (by simp) (by simp) (by simp [hZ, hC2])⟩
    · rintro Bs2 ⟨hC1, hC2⟩
      have hf2 := rowsV_flat Bs2.flatten
      obtain ⟨Z2, hZ2⟩ : ∃ Z2, Z2 = rowsV Bs2.flatten := ⟨_, rfl⟩
      rw [← hZ2] at hf2 ⊢
      have hww' : IntKind.i64.wrap ((w : Int) * 2) = (w2 : Int) := by rw [w64 (by omega) (by omega)]; omega
      refine awp_reg rfl ?_
      simp [hww']
      exact ⟨Bs2, w2, ⟨hC1, hC2, by omega, by omega⟩, by omega, Le.N1 hf2 rfl (by simp) (by simp [hZ2]) rfl (by simp [hs2, hs3, hs4])⟩
  simp only [decide_eq_false_iff_not, Int.ofNat_lt] at h7
  exact PostX.mk (.inl rfl) Bs.flatten ⟨hBp, hB1.one (by omega) (by omega)⟩ (outV (rowsV_flat _) (by simp [hZ]))
set_option maxRecDepth 100000 in
theorem SortStableVG_ok (f : FuncId) (capt : List AV) (hs : StillV capt) (hc : ∀ x y, ACalls Tryz.prog f (eV x :: eV y :: capt) [] (.I (cmpV x y)) []) (l : List Vch) (n : Nat) (hn : l.length = n) (hl : n ≤ 1000000) : ∃ R : List Vch, (R.Perm l ∧ srtV R) ∧
    ACalls Tryz.prog nslices_SortStableFunc_Lapi_Vouch_api_Vouch [.rs 0 0 n, .fn (.func f) [] capt] [⟨7, rowsV l, 0⟩] (.tup []) [some ⟨7, rowsV R, 0⟩] := by
  have hs2 : ∀ ρ sn h, capt.map (conv ρ sn h 2) = capt := fun _ _ _ => hs _ _ _ 1
  have hs3 : ∀ ρ sn h, capt.map (conv ρ sn h 3) = capt := fun _ _ _ => hs _ _ _ 2
  have hs4 : ∀ ρ sn h, capt.map (conv ρ sn h 4) = capt := fun _ _ _ => hs _ _ _ 3
  obtain ⟨R, hR, hst⟩ := stableVG_ok f capt hs hc l n hn hl
  refine ⟨R, hR, ?_⟩
  refine sslices_SortStableFunc_Lapi_Vouch_api_Vouch.acalls (Nat.le_of_ble_eq_true rfl) (Nat.le_of_ble_eq_true rfl) (Nat.le_of_ble_eq_true rfl) ?_
  have hf1 := rowsV_flat l
  have hf2 := rowsV_flat R
  generalize rowsV l = Z at *
  generalize rowsV R = Z2 at *
  show awp _ 1 _ _ ⟨9, [(0, .rs 0 0 n), (1, .fn (.func f) [] capt)], [(0, some ⟨7, Z, 0⟩)], 16⟩
  refine awp_reg rfl ?_
  simp
  refine callM1 (i := 0) rfl (e' := ⟨7, Z, 0⟩) (by simp [hf1]) hst (by simp) (by simp [hs2, hs3, hs4]) ?_
  simp [hf2]
  exact ⟨_, rfl, [], [], by simp, by simp, by simp, .refl _, by simp [hf2, List.range, List.range.loop]⟩
theorem srtV_unique : ∀ {a b : List Vch}, (∀ x ∈ a, ∀ y ∈ a, ¬ ltV x y → ¬ ltV y x → x = y) → a.Perm b → srtV a → srtV b → a = b
  | [], b, _, h, _, _ => (List.nil_perm.1 h).symm
  | x :: a, [], _, h, _, _ => absurd h.length_eq (by simp)
  | x :: a, y :: b, ht, h, ha, hb => by
    unfold srtV at ha hb
    rw [List.pairwise_cons] at ha hb
    have hxy : x = y := by
      have h1 : x ∈ y :: b := h.mem_iff.1 List.mem_cons_self
      have h2 : y ∈ x :: a := h.mem_iff.2 List.mem_cons_self
      rcases List.mem_cons.1 h1 with h1 | h1
      · exact h1
      rcases List.mem_cons.1 h2 with h2 | h2
      · exact h2.symm
      exact ht x List.mem_cons_self y (List.mem_cons_of_mem _ h2) (hb.1 x h1) (ha.1 y h2)
    subst hxy
    rw [srtV_unique (fun u hu v hv => ht u (List.mem_cons_of_mem _ hu) v (List.mem_cons_of_mem _ hv)) ((List.perm_cons x).1 h) ha.2 hb.2]
theorem GoodL.tot {l : List Stm} (h : GoodL l) {x y : Vch} (hx : x ∈ rawV l l) (hy : y ∈ rawV l l) (h1 : ¬ ltV x y) (h2 : ¬ ltV y x) : x = y := by
  obtain ⟨s, hs, _, rfl⟩ := mem_rawV hx
  obtain ⟨t, ht, _, rfl⟩ := mem_rawV hy
  have hau : s.au = t.au ∧ s.nu = t.nu := by
    simp only [ltV, vOf] at h1 h2
    omega
  obtain ⟨i, hi, rfl⟩ := List.mem_iff_getElem.1 hs
  obtain ⟨j, hj, rfl⟩ := List.mem_iff_getElem.1 ht
  have ho := List.pairwise_iff_getElem.1 h.ord
  rcases Nat.lt_trichotomy i j with hij | rfl | hij
  · have := ho i j hi hj hij
    unfold OrdS at this
    omega
  · rfl
  · have := ho j i hj hi hij
    unfold OrdS at this
    omega
theorem GoodL.sort {l : List Stm} (h : GoodL l) (hl : l.length ≤ 100000) : SortH l := by
  obtain ⟨R, ⟨hR1, hR2⟩, hR3⟩ := SortStableVG_ok nvouch_Of_c1 [] (fun ρ sn h n => rfl) (fun x y => vouch_Of_c1_ok x y) (rawV l l) _ rfl (Nat.le_trans (rawV_le l l) (by omega))
  have hp := isortV_perm (rawV l l)
  have e : R = ofV l := srtV_unique (fun x hx y hy => h.tot (hR1.mem_iff.1 hx) (hR1.mem_iff.1 hy)) (hR1.trans hp.symm) hR2 (isortV_sorted _)
  unfold SortH
  rw [← e]
  exact hR3
end Go.Proofs.YtnlanlpbgcalcaaGreat
namespace Go.Proofs.YtnlanlpbgcalcaaGreat
open Go
end Go.Proofs.YtnlanlpbgcalcaaGreat
namespace Go.Proofs.YtnlanlpbgcalcaaGreat
open Go
def Still (capt : List AV) : Prop := ∀ ρ sn h n, capt.map (conv ρ sn h (n + 1)) = capt
def idxQ {α : Type} (l : List α) (q : α → Bool) : Int := if l.findIdx q < l.length then (l.findIdx q : Int) else -1
theorem idxQ_at {α : Type} {l : List α} {q : α → Bool} {k : Nat} (hk : k < l.length) (h1 : ∀ i, i < k → ∀ h : i < l.length, q l[i] = false) (h2 : q l[k] = true) : idxQ l q = k := by
  have : l.findIdx q = k := by
    rw [List.findIdx_eq hk]
    exact ⟨h2, fun j hj => by simpa using h1 j hj (by omega)⟩
  unfold idxQ
  rw [this, if_pos hk]
theorem idxQ_no {α : Type} {l : List α} {q : α → Bool} (h1 : ∀ i, i < l.length → ∀ h : i < l.length, q l[i] = false) : idxQ l q = -1 := by
  have : l.findIdx q = l.length := by
    rw [List.findIdx_eq_length]
    intro x hx
    obtain ⟨i, hi, rfl⟩ := List.mem_iff_getElem.1 hx
    exact h1 i hi hi
  unfold idxQ
  rw [this, if_neg (by omega)]
theorem IndexFuncE_ok (f : FuncId) (capt : List AV) (q : Ed → Bool) (l : List Ed) (hl : l.length ≤ 1099511627776) (hs : Still capt) (hc : ∀ e ∈ l, ACalls Tryz.prog f (eE e :: capt) [] (.B (q e)) []) : ACalls Tryz.prog nslices_IndexFunc_Lapi_Edge_api_Edge [eEs l, .fn (.func f) [] capt] [] (.I (idxQ l q)) [] := by
  have hs2 : ∀ ρ sn h, capt.map (conv ρ sn h 2) = capt := fun _ _ _ => hs _ _ _ 1
  have hs3 : ∀ ρ sn h, capt.map (conv ρ sn h 3) = capt := fun _ _ _ => hs _ _ _ 2
  have hs4 : ∀ ρ sn h, capt.map (conv ρ sn h 4) = capt := fun _ _ _ => hs _ _ _ 3
  refine sslices_IndexFunc_Lapi_Edge_api_Edge.acalls (Nat.le_of_ble_eq_true rfl) (Nat.le_of_ble_eq_true rfl) (Nat.le_refl _) ?_
  show awp _ 0 _ _ ⟨19, [(0, eEs l), (1, .fn (.func f) [] capt)], [], 16⟩
  refine awp_seq ?_
  refine awp_run (s := ?s1) rfl ?o1 ?q1
  case o1 => simp; rfl
  refine awp_seq ?_
  refine awp_seq ?_
  refine awp_run (s := ?s2) rfl ?o2 ?q2
  case o2 => simp; rfl
  refine awp_block ?_
  refine awp_loop (ι := Nat) (fun k => ⟨19, [(0, eEs l), (1, .fn (.func f) [] capt), (7, .I l.length), (8, .I k)], [], 16⟩) (fun k => k ≤ l.length ∧ ∀ i, i < k → ∀ h : i < l.length, q l[i] = false) (fun k => l.length - k) (0) ?_ (Le.snap [] rfl rfl (by simp [hs2, hs3, hs4])) ?_
  · simp
  rintro k ⟨hk, hp⟩
  refine awp_seq ?_
  refine awp_run (s := ?s3) rfl ?o3 ?q3
  case o3 => simp; rfl
  refine awp_seq ?_
  refine awp_cond _ rfl (fun h4 => ?_) fun h4 => ?_
  · try simp at h4
    have hw2 : IntKind.i64.wrap ((k : Int) + 1) = (k : Int) + 1 := w64 (by omega) (by omega)
    have hck := hc l[k] (List.getElem_mem h4)
    refine awp_skip ?_
    refine awp_seq ?_
    refine awp_block ?_
    refine awp_seq ?_
    refine awp_run (s := ?s5) rfl ?o5 ?q5
    case o5 => simp [h4, hw2]; rfl
    refine awp_seq ?_
    refine awp_run (s := ?s6) rfl ?o6 ?q6
    case o6 =>
      simp [h4, hw2]
      refine call0e hck ?_ ?_
      · simp [hs2, hs3, hs4]
      simp [h4, hw2]; rfl
    refine awp_cond _ rfl (fun h7 => ?_) fun h7 => ?_
    · try simp at h7
      refine awp_seq ?_
      refine awp_run (s := ?s8) rfl ?o8 ?q8
      case o8 => simp [h4, hw2]; rfl
      refine awp_ret ?_
      exact ⟨.inr rfl, RetOk.one (by simp [idxQ_at h4 hp h7])⟩
    try simp at h7
    refine awp_skip ?_
    refine awp_run (s := ?s9) rfl ?o9 ?q9
    case o9 => simp [h4, hw2]; rfl
    refine ⟨k + 1, ⟨h4, fun i hi => ?_⟩, by omega, Le.snap [] rfl rfl (by simp [h4, hw2, hs2, hs3, hs4])⟩
    rcases Nat.lt_succ_iff_lt_or_eq.1 hi with h | rfl
    · exact hp i h
    · exact fun _ => h7
  try simp at h4
  have hall : ∀ i, i < l.length → ∀ h : i < l.length, q l[i] = false := fun i hi => hp i (by omega)
  refine awp_exit ?_
  refine hit ?_
  refine awp_seq ?_
  refine awp_run (s := ?s10) rfl ?o10 ?q10
  case o10 => simp; rfl
  refine awp_ret ?_
  exact ⟨.inr rfl, RetOk.one (by simp [idxQ_no hall])⟩
abbrev rowsE (l : List Ed) : List (List AV) := l.map fun e => [AV.I e.f, AV.I e.t, AV.I e.v]
theorem filter_of_not {l : List Ed} {q : Ed → Bool} (h : ∀ i, i < l.length → ∀ h : i < l.length, q l[i] = false) : l.filter (fun e => !q e) = l := by
  rw [List.filter_eq_self]
  intro x hx
  obtain ⟨i, hi, rfl⟩ := List.mem_iff_getElem.1 hx
  simp [h i hi hi]
theorem filter_take_succ (l : List Ed) (q : Ed → Bool) (j : Nat) (h : j < l.length) : (l.take (j + 1)).filter (fun e => !q e) = (l.take j).filter (fun e => !q e) ++ if q l[j] = true then [] else [l[j]] := by
  rw [← List.take_concat_get h, List.concat_eq_append, List.filter_append]
  congr 1
  cases hq : q l[j] <;> simp [hq]
set_option maxRecDepth 100000 in
theorem DeleteFuncE_ok (f : FuncId) (capt : List AV) (q : Ed → Bool) (l : List Ed) (n m : Nat) (hn : l.length = n) (hm : (l.filter fun e => !q e).length = m) (hl : n ≤ 1099511627776) (hs : Still capt) (hc : ∀ e ∈ l, ACalls Tryz.prog f (eE e :: capt) [] (.B (q e)) []) :
    ACalls Tryz.prog nslices_DeleteFunc_Lapi_Edge_api_Edge [.rs 0 0 n, .fn (.func f) [] capt] [⟨3, rowsE l, 0⟩] (.rs 0 0 m) [some ⟨3, rowsE (l.filter fun e => !q e) ++ List.replicate (n - m) [.I 0, .I 0, .I 0], 0⟩] := by
  have hs2 : ∀ ρ sn h, capt.map (conv ρ sn h 2) = capt := fun _ _ _ => hs _ _ _ 1
  have hs3 : ∀ ρ sn h, capt.map (conv ρ sn h 3) = capt := fun _ _ _ => hs _ _ _ 2
  have hs4 : ∀ ρ sn h, capt.map (conv ρ sn h 4) = capt := fun _ _ _ => hs _ _ _ 3
  refine sslices_DeleteFunc_Lapi_Edge_api_Edge.acalls (Nat.le_of_ble_eq_true rfl) (Nat.le_of_ble_eq_true rfl) (Nat.le_of_ble_eq_true rfl) ?_
  show awp _ 1 _ _ ⟨42, [(0, .rs 0 0 n), (1, .fn (.func f) [] capt)], [(0, some ⟨3, rowsE l, 0⟩)], 16⟩
  have hmn : m ≤ n := by rw [← hm, ← hn]; exact List.length_filter_le _ _
  refine awp_regc ⟨42, [(0, .rs 0 0 n), (1, .fn (.func f) [] capt)], [(0, some ⟨3, rowsE l, 0⟩)], 24⟩ rfl ?_ ?_
  · simp
    exact Le.keep rfl (Nat.le_refl _) (by simp) (by simp)
  refine awp_regc ⟨42, [(0, .rs 0 0 n), (1, .fn (.func f) [] capt), (5, .I (idxQ l q))], [(0, some ⟨3, rowsE l, 0⟩)], 56⟩ rfl ?_ ?_
  · simp
    refine call0s [0] (IndexFuncE_ok f capt q l (by omega) hs hc) ?_ (.sc _) ?_
    · simp [hs2, hs3, hs4, ← hn, Function.comp_def, take_map_len]
    simp
    exact Le.keep rfl (Nat.le_refl _) (by simp) (by simp)
  refine awp_seq ?_
  refine awp_regc ⟨42, [(0, .rs 0 0 n), (1, .fn (.func f) [] capt), (5, .I (idxQ l q)), (12, .B (decide (idxQ l q = -1)))], [(0, some ⟨3, rowsE l, 0⟩)], 72⟩ rfl ?_ ?_
  · simp
    exact Le.keep rfl (Nat.le_refl _) (by simp <;> rw [Bool.eq_iff_iff] <;> simp) (by simp)
  refine awp_cond _ rfl (fun h => ?_) fun h => awp_skip ?_
  · simp only [decide_eq_true_eq] at h
    have hno : ∀ i, i < l.length → ∀ h : i < l.length, q l[i] = false := by
      intro i hi _
      unfold idxQ at h
      split at h
      · omega
      · rename_i hnl
        have : l.findIdx q = l.length := by have := List.findIdx_le_length (xs := l) (p := q); omega
        rw [List.findIdx_eq_length] at this
        exact this _ (List.getElem_mem hi)
    have hf := filter_of_not hno
    rw [hf] at hm ⊢
    obtain rfl : n = m := by omega
    refine awp_seq ?_
    refine awp_run (s := ?s1) rfl ?o1 ?q1
    case o1 => simp; rfl
    refine awp_ret ?_
    refine ⟨.inr rfl, ⟨[.rs 0 0 n], rfl, [], [], by simp [List.range, List.range.loop], by simp, by simp, ?_, ?_⟩⟩
    · simp [List.range, List.range.loop]
    · simp [List.range, List.range.loop, Function.comp_def]
  simp only [decide_eq_false_iff_not] at h
  obtain ⟨i0, hi0, hlt, hbef, hat⟩ : ∃ i0 : Nat, idxQ l q = i0 ∧ i0 < l.length ∧ (∀ i, i < i0 → ∀ h : i < l.length, q l[i] = false) ∧ ∀ h : i0 < l.length, q l[i0] = true := by
    unfold idxQ at h ⊢
    split at h
    · rename_i hlt
      refine ⟨l.findIdx q, by rw [if_pos hlt], hlt, fun i hi _ => ?_, fun h => List.findIdx_getElem (w := h)⟩
      simpa using List.not_of_lt_findIdx hi
    · omega
  rw [hi0]
  have hA0 : (l.take (i0 + 1)).filter (fun e => !q e) = l.take i0 := by
    rw [filter_take_succ l q i0 hlt, if_pos (hat hlt), List.append_nil]
    refine filter_of_not fun i hi h => ?_
    rw [List.length_take] at hi
    simp only [List.getElem_take]
    exact hbef i (by omega) (by omega)
  have hw0 : IntKind.i64.wrap ((i0 : Int) + 1) = ((i0 + 1 : Nat) : Int) := by rw [w64 (by omega) (by omega)]; omega
  let C : Nat × List Ed → St := fun p => ⟨42, [(0, .rs 0 0 n), (1, .fn (.func f) [] capt), (5, .I ((l.take p.1).filter fun e => !q e).length), (6, .I p.1)], [(0, some ⟨3, rowsE ((l.take p.1).filter (fun e => !q e) ++ p.2 ++ l.drop p.1), 0⟩)], 96⟩
  refine awp_seq ?_
  refine awp_regc (C (i0 + 1, [l[i0]])) rfl ?_ ?_
  · simp [hw0]
    refine Le.keep rfl (Nat.le_refl _) ?_ ?_
    · simp only [C, hA0]
      simp
      omega
    · simp only [C, hA0]
      simp
  refine awp_block ?_
  refine awp_loop C (fun p : Nat × List Ed => p.1 ≤ n ∧ p.2 ≠ [] ∧ ((l.take p.1).filter fun e => !q e).length + p.2.length = p.1) (fun p : Nat × List Ed => n - p.1) (i0 + 1, [l[i0]]) ?_ (Le.refl _ _) ?_
  · simp only [hA0]
    simp
    omega
  rintro ⟨j, M⟩ ⟨hj, hM, hlen⟩
  simp only at hj hM hlen ⊢
  obtain ⟨A, hA⟩ : ∃ A, A = (l.take j).filter fun e => !q e := ⟨_, rfl⟩
  rw [← hA] at hlen
  have hC : C (j, M) = ⟨42, [(0, .rs 0 0 n), (1, .fn (.func f) [] capt), (5, .I A.length), (6, .I j)], [(0, some ⟨3, rowsE (A ++ M ++ l.drop j), 0⟩)], 96⟩ := by subst hA; rfl
  rw [hC]
  refine awp_seq ?_
  refine awp_regc ⟨42, [(0, .rs 0 0 n), (1, .fn (.func f) [] capt), (5, .I A.length), (6, .I j), (19, .B (decide (j < n)))], [(0, some ⟨3, rowsE (A ++ M ++ l.drop j), 0⟩)], 128⟩ rfl ?_ ?_
  · simp
    exact Le.keep rfl (Nat.le_refl _) (by simp) (by simp)
  refine awp_cond _ rfl (fun h => awp_skip ?_) fun h => awp_exit (hit ?_)
  · simp only [decide_eq_true_eq] at h
    have hjl : j < l.length := by omega
    match M, hM, hlen with
    | m0 :: M1, _, hlen =>
    simp only [List.length_cons] at hlen
    have hnext := filter_take_succ l q j hjl
    rw [← hA] at hnext
    have hget : (rowsE (A ++ m0 :: M1 ++ l.drop j))[j]? = some [AV.I l[j].f, AV.I l[j].t, AV.I l[j].v] := by
      rw [List.getElem?_map, List.getElem?_append_right (by simp; omega), List.getElem?_drop, show j + (j - (A ++ m0 :: M1).length) = j by simp; omega, List.getElem?_eq_getElem hjl]
      rfl
    have hget2 : (rowsE (A ++ m0 :: M1 ++ l.drop j))[A.length]? = some [AV.I m0.f, AV.I m0.t, AV.I m0.v] := by
      rw [List.getElem?_map, List.append_assoc, List.getElem?_append_right (by omega)]
      simp
    have hset : (rowsE (A ++ m0 :: M1 ++ l.drop j)).set A.length [AV.I l[j].f, AV.I l[j].t, AV.I l[j].v] = rowsE ((A ++ [l[j]]) ++ (M1 ++ [l[j]]) ++ l.drop (j + 1)) := by
      have e1 : l.drop j = l[j] :: l.drop (j + 1) := List.drop_eq_getElem_cons hjl
      rw [e1]
      simp [rowsE, List.set_append]
    have hmore : A ++ m0 :: M1 ++ l.drop j = A ++ (m0 :: M1 ++ [l[j]]) ++ l.drop (j + 1) := by
      have e1 : l.drop j = l[j] :: l.drop (j + 1) := List.drop_eq_getElem_cons hjl
      rw [e1]
      simp
    generalize hrows : rowsE (A ++ m0 :: M1 ++ l.drop j) = R at *
    have hRl : R.length = n := by rw [← hrows]; simp; omega
    have hck := hc l[j] (List.getElem_mem hjl)
    generalize hv : l[j] = v at *
    refine awp_cut (ι := List Ed × List Ed) (fun p => ⟨42, [(0, .rs 0 0 n), (1, .fn (.func f) [] capt), (5, .I p.1.length), (6, .I j)], [(0, some ⟨3, rowsE (p.1 ++ p.2 ++ l.drop (j + 1)), 0⟩)], 272⟩)
      (fun p => p.1 = (l.take (j + 1)).filter (fun e => !q e) ∧ p.2 ≠ [] ∧ p.1.length + p.2.length = j + 1) ?_ ?_
    · refine awp_block ?_
      refine awp_regc ⟨42, [(0, .rs 0 0 n), (1, .fn (.func f) [] capt), (5, .I A.length), (6, .I j), (7, .pt 160 0 0)], [(0, some ⟨3, R, 0⟩), (160, some ⟨3, [[.I v.f, .I v.t, .I v.v]], 0⟩)], 176⟩ rfl ?_ ?_
      · simp [h, hget]
        exact Le.keep rfl (Nat.le_refl _) (by simp) (by simp)
      refine awp_regc ⟨42, [(0, .rs 0 0 n), (1, .fn (.func f) [] capt), (5, .I A.length), (6, .I j), (7, .pt 160 0 0), (29, .B (!q v))], [(0, some ⟨3, R, 0⟩), (160, some ⟨3, [[.I v.f, .I v.t, .I v.v]], 0⟩)], 208⟩ rfl ?_ ?_
      · simp
        refine call0e hck ?_ ?_
        · simp [hs2, hs3, hs4]
        simp
        exact Le.keep rfl (Nat.le_refl _) (by simp) (by simp)
      refine awp_cond _ rfl (fun h5 => ?_) fun h5 => awp_skip ?_
      · simp only [Bool.not_eq_true'] at h5
        rw [h5] at hnext
        refine awp_regc ⟨42, [(0, .rs 0 0 n), (1, .fn (.func f) [] capt), (5, .I A.length), (6, .I j)], [(0, some ⟨3, rowsE ((A ++ [v]) ++ (M1 ++ [v]) ++ l.drop (j + 1)), 0⟩)], 248⟩ rfl ?_ ?_
        · simp [hget2, show A.length < n by omega, splice, hset]
          exact Le.keep rfl (Nat.le_refl _) (by simp) (by simp)
        have hwA : IntKind.i64.wrap ((A.length : Int) + 1) = ((A.length + 1 : Nat) : Int) := by rw [w64 (by omega) (by omega)]; omega
        refine awp_reg rfl ?_
        simp [hwA]
        refine ⟨A ++ [v], M1 ++ [v], ⟨by rw [hnext]; simp, by simp, by simp; omega⟩, Le.keep rfl (Nat.le_refl _) (by simp) (by simp)⟩
      · simp only [Bool.not_eq_false'] at h5
        rw [h5] at hnext
        refine ⟨(A, m0 :: M1 ++ [v]), ⟨by rw [hnext]; simp, by simp, by simp; omega⟩, Le.keep rfl (Nat.le_of_ble_eq_true rfl) (by simp) ?_⟩
        rw [← hmore, hrows]
        simp
    rintro ⟨A', M'⟩ ⟨p1, p2, p3⟩
    simp only at p1 p2 p3 ⊢
    have hwj : IntKind.i64.wrap ((j : Int) + 1) = ((j + 1 : Nat) : Int) := by rw [w64 (by omega) (by omega)]; omega
    refine awp_reg rfl ?_
    simp [hwj]
    refine ⟨j + 1, M', ⟨by omega, p2, by rw [← p1]; omega⟩, by omega, ?_⟩
    have hD : C (j + 1, M') = ⟨42, [(0, .rs 0 0 n), (1, .fn (.func f) [] capt), (5, .I A'.length), (6, .I ((j + 1 : Nat) : Int))], [(0, some ⟨3, rowsE (A' ++ M' ++ l.drop (j + 1)), 0⟩)], 96⟩ := by rw [p1]
    rw [hD]
    refine Le.ents [(0, 0)] [] rfl (by simp) (by simp) (by simp) (by simp) (by simp) (by simp [hs2, hs3, hs4]) fun p hp => ?_
    simp at hp
    subst hp
    exact ⟨0, _, _, rfl, by simp, rfl, EntUp.eq (by simp [Function.comp_def]) (by simp)⟩
  simp only [decide_eq_false_iff_not] at h
  obtain rfl : j = n := by omega
  have hd : l.drop j = [] := List.drop_eq_nil_of_le (by omega)
  have ht : l.take j = l := List.take_of_length_le (by omega)
  rw [ht] at hA
  rw [hd, List.append_nil]
  rw [← hA] at hm ⊢
  subst hm
  have hAM : (rowsE (A ++ M)).take A.length = rowsE A := by simp [rowsE]
  have hAd : (rowsE (A ++ M)).drop (A.length + (j - A.length)) = [] := List.drop_eq_nil_of_le (by simp; omega)
  have hAl : (rowsE (A ++ M)).length = j := by simp; omega
  generalize rowsE (A ++ M) = R at *
  refine awp_regc ⟨42, [(0, .rs 0 0 j), (5, .I A.length)], [(0, some ⟨3, rowsE A ++ List.replicate (j - A.length) [.I 0, .I 0, .I 0], 0⟩)], 160⟩ rfl ?_ ?_
  · simp
    refine ⟨by omega, by omega, ?_⟩
    rw [hAM, hAd]
    exact Le.keep rfl (Nat.le_refl _) (by simp) (by simp)
  refine awp_seq ?_
  refine awp_run (s := ?s2) rfl ?o2 ?q2
  case o2 =>
    simp
    refine ⟨by omega, ?_⟩
    rfl
  refine awp_ret ?_
  refine ⟨.inr rfl, ⟨[.rs 0 0 A.length], rfl, [], [], by simp [List.range, List.range.loop], by simp, by simp, ?_, ?_⟩⟩
  · simp [List.range, List.range.loop]
  · simp [List.range, List.range.loop, Function.comp_def]
end Go.Proofs.YtnlanlpbgcalcaaGreat
namespace Go.Proofs.YtnlanlpbgcalcaaGreat
open Go
def levelG (g : Gr) (v : Int) : Gr := ⟨g.size, g.edges.filter fun e => !decide (e.v < v), g.gone⟩
theorem graph_Level_c1_ok (e : Ed) (v : Int) : ACalls Tryz.prog ngraph_Level_c1 [eE e, .pv [.I v]] [] (.B (decide (e.v < v))) [] := by
  refine sgraph_Level_c1.acalls (Nat.le_of_ble_eq_true rfl) (Nat.le_of_ble_eq_true rfl) (Nat.le_refl _) ?_
  show awp _ 0 _ _ ⟨8, [(0, eE e), (1, .pv [.I v])], [], 16⟩
  refine awp_regc ⟨8, [(1, .pv [.I v]), (2, .pv (eC e))], [], 16⟩ rfl ?_ ?_
  · simp
    exact Le.snap [16] rfl rfl (by simp)
  refine awp_seq ?_
  refine awp_run (s := ?s1) rfl ?o1 ?q1
  case o1 => simp; rfl
  refine awp_ret ?_
  exact ⟨.inr rfl, RetOk.one (by simp)⟩
set_option maxRecDepth 100000 in
theorem graph_Level_ok (g : Gr) (v : Int) (hl : g.edges.length ≤ 1099511627776) (hl2 : g.gone.length ≤ 1099511627776) : ACalls Tryz.prog ngraph_Level [eG g, .I v] [] (eG (levelG g v)) [] := by
  refine sgraph_Level.acalls (Nat.le_of_ble_eq_true rfl) (Nat.le_of_ble_eq_true rfl) (Nat.le_refl _) ?_
  show awp _ 0 _ _ ⟨14, [(0, eG g), (1, .I v)], [], 16⟩
  obtain ⟨E, hE⟩ : ∃ E, E = g.edges.filter fun e => !decide (e.v < v) := ⟨_, rfl⟩
  have hEl : E.length ≤ g.edges.length := by rw [hE]; exact List.length_filter_le _ _
  have hdel := DeleteFuncE_ok ngraph_Level_c1 [.pv [.I v]] (fun e => decide (e.v < v)) g.edges g.edges.length E.length rfl (by rw [hE]) hl (fun ρ sn h n => by simp) (fun e _ => graph_Level_c1_ok e v)
  rw [← hE] at hdel
  have hres : levelG g v = ⟨g.size, E, g.gone⟩ := by rw [hE]; rfl
  rw [hres]
  refine awp_regc ⟨14, [(2, .pv (gC g)), (3, .pt 24 0 0), (4, .pt 32 0 0)], [(24, some ⟨1, [[.I v]], 0⟩), (32, some zG)], 40⟩ rfl ?_ ?_
  · simp
    refine Le.ents [(24, 24), (32, 32)] [16] rfl (by simp) (by simp) (by simp) (by simp) (by simp) (by simp) fun p hp => ?_
    simp at hp
    rcases hp with rfl | rfl
    · exact ⟨24, _, _, rfl, by simp, rfl, EntUp.eq (by simp) (by simp)⟩
    · exact ⟨32, _, _, rfl, by simp, rfl, EntUp.eq (by simp) (by simp)⟩
  refine awp_regc ⟨14, [(3, .pt 24 0 0), (4, .pt 32 0 0), (5, .pt 56 0 0)], [(24, some ⟨1, [[.I v]], 0⟩), (32, some zG), (56, some ⟨3, [[.I g.size, .rs 48 0 g.edges.length, .rs 49 0 g.gone.length]], 0⟩), (48, some ⟨3, rowsE g.edges, 0⟩), (49, some ⟨1, g.gone.map fun n => [AV.I n], 0⟩)], 72⟩ rfl ?_ ?_
  · simp
    refine callN2 (graph_copied_ok g (by omega) (by omega)) rfl ?_
    simp [Function.comp_def]
    exact Le.keep rfl (Nat.le_refl _) (by simp) (by simp)
  refine awp_regc ⟨14, [(4, .pt 32 0 0), (5, .pt 56 0 0)], [(32, some zG), (56, some ⟨3, [[.I g.size, .rs 48 0 E.length, .rs 49 0 g.gone.length]], 0⟩), (48, some ⟨3, rowsE E ++ List.replicate (g.edges.length - E.length) [.I 0, .I 0, .I 0], 0⟩), (49, some ⟨1, g.gone.map fun n => [AV.I n], 0⟩)], 120⟩ rfl ?_ ?_
  · simp
    refine callM1s (i := 48) (j := 24) (by decide) (Nat.zero_le _) rfl rfl ?_ hdel (by simp) ?_ ?_
    · simp [Function.comp_def]
    · simp
    simp [Function.comp_def]
    exact Le.keep rfl (Nat.le_refl _) (by simp) (by simp)
  refine awp_seq ?_
  refine awp_run (s := ?s21) rfl ?o21 ?q21
  case o21 => simp; rfl
  refine awp_ret ?_
  refine ⟨.inr rfl, ?_⟩
  show RetOk [(4, some (true, 3))] 0 _ _ _
  refine RetOk.out (vs := [.agg [.I g.size, .rs 48 0 E.length, .rs 49 0 g.gone.length]]) [] [48, 49] (by simp) (by simp) (by simp) ?_ (by simp)
  simp [Function.comp_def, take_map_len]
end Go.Proofs.YtnlanlpbgcalcaaGreat
namespace Go.Proofs.YtnlanlpbgcalcaaGreat
open Go
abbrev PB (rs : List (Nat × Option (Bool × Nat))) := PostX rs 0 (fun b : Bool => .B b) (fun _ => []) (fun _ => True)
theorem acB {f : FuncId} {af : AFun} (s : Src Tryz.prog f af) {args : List AV} (hnt : args.length ≤ af.nt) (h : awp Tryz.prog 0 af.code (PB af.res) (initSt af args [])) : ∃ b : Bool, ACalls Tryz.prog f args [] (.B b) [] := by
  obtain ⟨b, _, hb⟩ := s.acallsX (α := Bool) (fun b => .B b) (fun _ => []) (fun _ => True) (args := args) (hs := []) hnt (Nat.zero_le _) (fun _ => Nat.le_refl _) h
  exact ⟨b, hb⟩
theorem RetB {t : Nat} {st : St} {b : Bool} (h : st.get t = .B b) : PB [(t, none)] .ret st := PostX.mk (.inr rfl) b trivial (RetOk.one (by rw [h]; exact .refl _))
set_option maxRecDepth 100000 in
theorem before_any (x y : Stm) : ∃ r : Bool, ACalls Tryz.prog nref05_before [eS x, eS y] [] (.B r) [] := by
  refine acB sref05_before (Nat.le_of_ble_eq_true rfl) ?_
  show awp _ 0 _ _ ⟨32, [(0, eS x), (1, eS y)], [], 16⟩
  refine rx (s := ?s1) [2, 3] [] [16, 24] rfl ?o1 ?q1
  case o1 => simp; rfl
  refine awp_seq ?_
  refine rx (s := ?s2) [2, 3, 9] [] [] rfl ?o2 ?q2
  case o2 => simp; rfl
  refine awp_cond _ rfl (fun h3 => ?_) fun h3 => awp_skip ?_
  · refine rx (s := ?s4) [4] [] [] rfl ?o4 ?q4
    case o4 => simp; rfl
    exact awp_ret (RetB rfl)
  refine awp_seq ?_
  refine rx (s := ?s5) [2, 3, 19] [] [] rfl ?o5 ?q5
  case o5 => simp; rfl
  refine awp_cond _ rfl (fun h6 => ?_) fun h6 => awp_skip ?_
  · refine rx (s := ?s7) [4] [] [] rfl ?o7 ?q7
    case o7 => simp; rfl
    exact awp_ret (RetB rfl)
  refine rx (s := ?s8) [4] [] [] rfl ?o8 ?q8
  case o8 => simp; rfl
  exact awp_ret (RetB rfl)
theorem wr1 {k N : Nat} (h : k < N) (hN : N ≤ 1099511627776) : IntKind.i64.wrap ((k : Int) + 1) = ((k + 1 : Nat) : Int) := by rw [w64 (by omega) (by omega)]; omega
set_option maxRecDepth 100000 in
theorem SamePins_any (a b : List Pn) (ha : a.length ≤ 1000000) : ∃ r : Bool, ACalls Tryz.prog nref03_SamePins [pns a, pns b] [] (.B r) [] := by
  refine acB sref03_SamePins (Nat.le_of_ble_eq_true rfl) ?_
  show awp _ 0 _ _ ⟨26, [(0, pns a), (1, pns b)], [], 16⟩
  refine rx (s := ?s1) [0, 1] [] [] rfl ?o1 ?q1
  case o1 => simp; rfl
  refine awp_seq ?_
  refine rx (s := ?s2) [0, 1, 10] [] [] rfl ?o2 ?q2
  case o2 => simp; rfl
  refine awp_cond _ rfl (fun h3 => ?_) fun h3 => awp_skip ?_
  · refine rx (s := ?s4) [4] [] [] rfl ?o4 ?q4
    case o4 => simp; rfl
    exact awp_ret (RetB rfl)
  simp at h3
  refine awp_seq ?_
  refine rx (s := ?s5) [0, 1, 5] [] [] rfl ?o5 ?q5
  case o5 => simp; rfl
  refine awp_block ?_
  refine awp_loop (ι := Nat) (fun i => ⟨26, [(0, pns a), (1, pns b), (5, .I i)], [], 72⟩) (fun i => i ≤ a.length) (fun i => a.length - i) 0 (Nat.zero_le _) (Le.refl _ _) ?_
  intro i hi
  refine awp_seq ?_
  refine rx (s := ?s6) [0, 1, 5, 14] [] [] rfl ?o6 ?q6
  case o6 => simp; rfl
  refine awp_cond _ rfl (fun h7 => awp_skip ?_) fun h7 => awp_exit (hit ?_)
  · simp at h7
    have hga : a[i]? = some a[i] := List.getElem?_eq_getElem h7
    have hgb : b[i]? = some b[i] := List.getElem?_eq_getElem (by omega)
    have hw := wr1 h7 (by omega)
    generalize a[i] = x at *
    generalize b[i]'(by omega) = y at *
    refine awp_cut (ι := Unit) (fun _ => ⟨26, [(0, pns a), (1, pns b), (5, .I i)], [], 300⟩) (fun _ => True) ?_ fun _ _ => ?_
    · refine awp_block ?_
      refine rxd (s := ?s8) [0, 1, 5, 25] [] [] rfl ?o8 ?q8
      case o8 => simp [hga, hgb]; refine ⟨rfl, ?_⟩; rfl
      refine awp_cond _ rfl (fun h9 => ?_) fun h9 => awp_skip ?_
      · refine rx (s := ?s10) [4] [] [] rfl ?o10 ?q10
        case o10 => simp; rfl
        exact awp_ret (RetB rfl)
      · exact ⟨(), trivial, Le.snap [] rfl rfl (by simp)⟩
    refine awp_reg rfl ?_
    simp [hw]
    exact ⟨i + 1, by omega, by omega, Le.snap [] rfl rfl (by simp)⟩
  refine rx (s := ?s11) [4] [] [] rfl ?o11 ?q11
  case o11 => simp; rfl
  exact awp_ret (RetB rfl)
set_option maxHeartbeats 2000000 in
set_option maxRecDepth 100000 in
theorem Same_any (x y : Stm) (h1 : x.li.length ≤ 1000000) (h2 : x.pi.length ≤ 1000000) : ∃ r : Bool, ACalls Tryz.prog nref03_Same [eS x, eS y] [] (.B r) [] := by
  obtain ⟨r, hr⟩ := SamePins_any x.pi y.pi h2
  have hi := SameInts_ok x.li y.li (by omega)
  refine acB sref03_Same (Nat.le_of_ble_eq_true rfl) ?_
  show awp _ 0 _ _ ⟨87, [(0, eS x), (1, eS y)], [], 16⟩
  refine rx (s := ?s1) [2, 3] [] [16, 24] rfl ?o1 ?q1
  case o1 => simp; rfl
  refine awp_seq ?_
  refine awp_reg rfl ?_
  simp
  repeat' first
    | (refine callf nref03_SameInts rfl ?_; refine call0e hi (by simp) ?_; simp)
    | (refine callf nref03_SamePins rfl ?_; refine call0e hr (by simp) ?_; simp)
    | (refine gcase (fun hb => ?_) (fun hb => ?_) <;> (try rw [hb]) <;> simp [*])
  all_goals exact awp_ret (RetB rfl)
end Go.Proofs.YtnlanlpbgcalcaaGreat
