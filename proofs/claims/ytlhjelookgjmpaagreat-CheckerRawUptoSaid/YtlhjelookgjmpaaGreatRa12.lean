/- Texts of this claim, merged. -/
import Derived.Test.YtlhjelookgjmpaaGreatRa11
import Derived.Test.YtlhjelookgjmpaaGreatRa9
set_option linter.unusedSimpArgs false
set_option linter.unusedVariables false
set_option linter.unusedSectionVars false
namespace Go.Proofs.YtlhjelookgjmpaaGreat
open Go
def ServesE (g : Gr) (seeds order caps : List Int) (P : List (List Int)) (ends : List Int) : Prop :=
  (∀ w ∈ P, WalkC g seeds order w) ∧ RoomP caps P ∧ srt (lasts P) = srt ends
def capAt (caps : List Int) (P : List (List Int)) (k : Nat) : Prop := ∀ h : k < caps.length, (begC P k : Int) ≤ caps[k] ∧ (useC P k : Int) ≤ max 0 (caps[k] - 1)
theorem roomP_iff {c : List Int} {P : List (List Int)} : RoomP c P ↔ ∀ k, capAt c P k := Iff.rfl
set_option maxRecDepth 100000 in
set_option maxHeartbeats 2000000 in
open Classical in
theorem engine_serve_ok (g : Gr) (seeds caps order : List Int) (P : List (List Int)) (ends : List Int) (hg : g.edges.length ≤ 500) (hs : seeds.length ≤ 140737488355328) (ho : order.length ≤ 140737488355328)
    (ho64 : ∀ k ∈ order, 0 ≤ k ∧ k < 64) (hc64 : caps.length ≤ 64) (hcb : ∀ c ∈ caps, 0 ≤ c ∧ c ≤ 1000) (hP : P.length ≤ 100000) (hPw : ∀ w ∈ P, w.length ≤ 100000) (hE : ends.length ≤ 1099511627776) :
    ACalls Tryz.prog nchecker_engine_serve [eEng g seeds caps order, pathsV P, ints ends] [] (.B (decide (ServesE g seeds order caps P ends))) [] := by
  refine schecker_engine_serve.acalls (Nat.le_of_ble_eq_true rfl) (Nat.le_of_ble_eq_true rfl) (Nat.le_refl _) ?_
  show awp _ 0 _ _ ⟨89, [(0, eEng g seeds caps order), (1, pathsV P), (2, ints ends)], [], 16⟩
  refine rx (s := ?s1) [1, 2, 3] [] [16] rfl ?o1 ?q1
  case o1 => simp; rfl
  refine awp_regc ⟨89, [(1, pathsV P), (2, ints ends), (3, .pv (xC g seeds caps order)), (7, .pt 32 0 0), (8, .pt 40 0 0)], [(32, some ⟨64, [cnt fun _ => 0], 0⟩), (40, some ⟨64, [cnt fun _ => 0], 0⟩)], 48⟩ rfl ?_ ?_
  · rw [cnt_zero]
    simp
    exact Le.keep rfl (Nat.le_refl _) (by simp) (by simp [List.replicate])
  refine rk (s := ?s3) [1, 2, 3, 7, 8, 9] [32, 40] rfl ?o3 ?q3
  case o3 => simp; rfl
  refine awp_seq ?_
  refine rk (s := ?s4) [2, 3, 7, 8, 9, 16, 17, 18] [32, 40] rfl ?o4 ?q4
  case o4 => simp; rfl
  refine awp_block ?_
  let B : Nat → Int → Int := fun i k => begC (P.take i) k
  let U : Nat → Int → Int := fun i k => useC (P.take i) k
  let L : Nat → List Int := fun i => lasts (P.take i)
  have hB0 : B 0 = fun _ => 0 := by funext k; simp [B, begC]
  have hU0 : U 0 = fun _ => 0 := by funext k; simp [U, useC]
  have hL0 : L 0 = [] := by simp [L, lasts]
  refine awp_loop (ι := Nat) (fun i => ⟨89, [(2, ints ends), (3, .pv (xC g seeds caps order)), (7, .pt 32 0 0), (8, .pt 40 0 0), (9, .rs 16 0 i), (16, pathsV P), (17, .I P.length), (18, .I i)], [(32, some ⟨64, [cnt (B i)], 0⟩), (40, some ⟨64, [cnt (U i)], 0⟩), (16, some ⟨1, rowsI (L i), 0⟩)], 80⟩)
    (fun i => i ≤ P.length ∧ ∀ w ∈ P.take i, WalkC g seeds order w) (fun i => P.length - i) 0 (by simp) (Le.lst [(32, 32), (40, 40)] [] [(16, 1)] rfl (by simp) (by simp) (by simp) (by simp) (by simp) (by simp) (by simp) (by simp [Up]) (by simp [hB0, hU0, hL0])) ?_
  rintro i ⟨hi, hp⟩
  have hLl : (L i).length = i := by
    have h1 := lasts_len (P := P.take i) fun w hw => by obtain ⟨k, hk, _⟩ := (hp w hw).1; rintro rfl; simp at hk
    rw [List.length_take, Nat.min_eq_left hi] at h1
    exact h1
  refine rk (s := ?s5) [2, 3, 7, 8, 9, 16, 17, 18, 19] [32, 40, 16] rfl ?o5 ?q5
  case o5 => simp; rfl
  refine awp_seq ?_
  refine awp_cond _ rfl (fun h6 => ?_) fun h6 => ?_
  · simp at h6
    have hw1 : IntKind.i64.wrap ((i : Int) + 1) = (i : Int) + 1 := w64 (by omega) (by omega)
    refine awp_skip ?_
    refine awp_seq ?_
    refine awp_block ?_
    obtain ⟨w, hwd⟩ : ∃ w, w = P[i] := ⟨_, rfl⟩
    have hwl : w.length ≤ 100000 := by rw [hwd]; exact hPw _ (List.getElem_mem h6)
    refine rk (s := ?s7) [2, 3, 7, 8, 9, 11, 16, 17, 18] [32, 40, 16] rfl ?o7 ?q7
    case o7 => simp [h6, ← hwd]; rfl
    refine awp_seq ?_
    refine rk (s := ?s8) [2, 3, 7, 8, 9, 11, 16, 17, 18, 25] [32, 40, 16] rfl ?o8 ?q8
    case o8 =>
      simp
      refine call0e (engine_walks_ok g seeds caps order w (by omega) hs ho (by omega)) (by simp) ?_
      simp
      rfl
    refine awp_cond _ rfl (fun h9 => ?_) fun h9 => ?_
    · refine rk (s := ?s10) [6] [] rfl ?o10 ?q10
      case o10 => simp; rfl
      refine awp_ret ?_
      have hn : ¬ ServesE g seeds order caps P ends := fun h => by simp at h9; exact h9 (hwd ▸ h.1 _ (List.getElem_mem h6))
      exact ⟨.inr rfl, RetOk.one (by simp [hn])⟩
    simp at h9
    have hk64 : ∀ j (h : j < w.length), 0 ≤ w[j] ∧ w[j] < 64 := fun j h => ho64 _ (h9.2 j h).1.1
    have hne : w ≠ [] := by obtain ⟨k, hk, _⟩ := h9.1; rintro rfl; simp at hk
    have hpos : 0 < w.length := List.length_pos_iff.2 hne
    obtain ⟨k0, hk0, hk0'⟩ : ∃ k0 : Nat, w[0] = k0 ∧ k0 < 64 := ⟨w[0].toNat, by have := hk64 0 hpos; omega, by have := hk64 0 hpos; omega⟩
    have hhd : w.head? = some (k0 : Int) := by rw [List.head?_eq_getElem?, List.getElem?_eq_getElem hpos, hk0]
    have hBle : B i k0 ≤ 100000 := by
      have := begC_len (P.take i) k0
      have := List.length_take_le i P
      simp only [B]
      omega
    have hB0' : 0 ≤ B i k0 := by simp only [B]; omega
    have hwB : IntKind.i64.wrap (B i k0 + 1) = B i k0 + 1 := w64 (by omega) (by omega)
    have hBn : (fun j => if j = (k0 : Int) then B i k0 + 1 else B i j) = B (i + 1) := by
      funext j
      simp only [B]
      rw [begC_succ P i h6 j, ← hwd, hhd]
      by_cases h : j = (k0 : Int)
      · subst h; simp
      · simp [h, Ne.symm h]
    have hd1 := cnt_drop (B i) hk0'
    have hs1 := cnt_set (B i) hk0' (B i k0 + 1)
    rw [hBn] at hs1
    refine awp_skip ?_
    refine awp_regc ⟨89, [(2, ints ends), (3, .pv (xC g seeds caps order)), (7, .pt 32 0 0), (8, .pt 40 0 0), (9, .rs 16 0 i), (11, ints w), (16, pathsV P), (17, .I P.length), (18, .I i)], [(32, some ⟨64, [cnt (B (i + 1))], 0⟩), (40, some ⟨64, [cnt (U i)], 0⟩), (16, some ⟨1, rowsI (L i), 0⟩)], 208⟩ rfl ?_ ?_
    · simp [hpos, hk0, hk0', hd1, hwB, cnt_len, hs1]
      refine ⟨by omega, by omega, ?_⟩
      exact Le.keep rfl (Nat.le_refl _) (by simp) (by simp)
    obtain ⟨d, hd⟩ : ∃ d, d = w.dropLast := ⟨_, rfl⟩
    have hdl : d.length = w.length - 1 := by rw [hd, List.length_dropLast]
    have hdt : ∀ f : Int → List AV, List.take (w.length - 1) (List.map f w) = List.map f d := fun f => by rw [← List.map_take, hd, List.dropLast_eq_take]
    have hwm : IntKind.i64.wrap ((w.length : Int) - 1) = ((w.length - 1 : Nat) : Int) := by rw [w64 (by omega) (by omega)]; omega
    refine awp_seq ?_
    refine awp_regc ⟨89, [(2, ints ends), (3, .pv (xC g seeds caps order)), (7, .pt 32 0 0), (8, .pt 40 0 0), (9, .rs 16 0 i), (11, ints w), (16, pathsV P), (17, .I P.length), (18, .I i), (37, ints d), (38, .I d.length), (39, .I 0)], [(32, some ⟨64, [cnt (B (i + 1))], 0⟩), (40, some ⟨64, [cnt (U i)], 0⟩), (16, some ⟨1, rowsI (L i), 0⟩)], 264⟩ rfl ?_ ?_
    · simp [hwm, hdt, hdl]
      exact Le.keep rfl (Nat.le_refl _) (by simp) (by simp)
    refine awp_block ?_
    let V : Nat → Int → Int := fun j k => U i k + ((d.take j).count k : Nat)
    have hV0 : V 0 = U i := by funext k; simp [V]
    refine awp_loop (ι := Nat) (fun j => ⟨89, [(2, ints ends), (3, .pv (xC g seeds caps order)), (7, .pt 32 0 0), (8, .pt 40 0 0), (9, .rs 16 0 i), (11, ints w), (16, pathsV P), (17, .I P.length), (18, .I i), (37, ints d), (38, .I d.length), (39, .I j)], [(32, some ⟨64, [cnt (B (i + 1))], 0⟩), (40, some ⟨64, [cnt (V j)], 0⟩), (16, some ⟨1, rowsI (L i), 0⟩)], 264⟩)
      (fun j => j ≤ d.length) (fun j => d.length - j) 0 (Nat.zero_le _) (Le.keep rfl (Nat.le_refl _) (by simp) (by simp [hV0])) ?_
    intro j hj
    refine rk (s := ?s13) [2, 3, 7, 8, 9, 11, 16, 17, 18, 37, 38, 39, 40] [32, 40, 16] rfl ?o13 ?q13
    case o13 => simp; rfl
    refine awp_seq ?_
    refine awp_cond _ rfl (fun h14 => ?_) fun h14 => ?_
    · simp at h14
      have hw2 : IntKind.i64.wrap ((j : Int) + 1) = (j : Int) + 1 := w64 (by omega) (by omega)
      have hdj : d[j] = w[j]'(by omega) := by simp [hd]
      obtain ⟨k1, hk1, hk1'⟩ : ∃ k1 : Nat, d[j] = k1 ∧ k1 < 64 := ⟨d[j].toNat, by have := hk64 j (by omega); omega, by have := hk64 j (by omega); omega⟩
      have hVle : 0 ≤ V j k1 ∧ V j k1 ≤ 100000000000000 := by
        have h1 := useC_len (P := P.take i) (m := 100000) (fun x hx => hPw x (List.mem_of_mem_take hx)) k1
        have h2 := List.length_take_le' i P
        have h3 : (d.take j).count (k1 : Int) ≤ d.length := Nat.le_trans List.count_le_length (List.length_take_le' j d)
        have h4 : 100000 * (P.take i).length ≤ 100000 * P.length := Nat.mul_le_mul_left _ h2
        have h5 : 100000 * P.length ≤ 100000 * 100000 := Nat.mul_le_mul_left _ hP
        simp only [V, U]
        omega
      have hwV : IntKind.i64.wrap (V j k1 + 1) = V j k1 + 1 := w64 (by omega) (by omega)
      have hVn : (fun k => if k = (k1 : Int) then V j k1 + 1 else V j k) = V (j + 1) := by
        funext k
        simp only [V]
        rw [count_take_succ d j h14 k, hk1]
        by_cases h : k = (k1 : Int)
        · subst h; simp; omega
        · simp [h, Ne.symm h]
      have hd2 := cnt_drop (V j) hk1'
      have hs2 := cnt_set (V j) hk1' (V j k1 + 1)
      rw [hVn] at hs2
      refine awp_skip ?_
      refine awp_seq ?_
      refine awp_block ?_
      refine rk (s := ?s15) [2, 3, 7, 8, 9, 11, 13, 16, 17, 18, 37, 38, 39] [32, 40, 16] rfl ?o15 ?q15
      case o15 => simp [h14, hk1]; rfl
      refine awp_run (s := ?s16) rfl ?o16 ?q16
      case o16 =>
        simp [hk1', hd2, hwV, cnt_len, hs2]
        refine ⟨by omega, by omega, ?_⟩
        rfl
      refine awp_run (s := ?s17) rfl ?o17 ?q17
      case o17 => simp [hw2]; rfl
      exact ⟨j + 1, by omega, by omega, Le.go [(32, 32), (40, 40), (16, 16)] [] rfl rfl (by simp) (by simp)⟩
    simp at h14
    obtain rfl : j = d.length := by omega
    have hVe : V d.length = U (i + 1) := by
      funext k
      simp only [V, U]
      rw [useC_succ P i h6 k, ← hwd, ← hd, List.take_of_length_le (Nat.le_refl _)]
      simp
    have hLn : L (i + 1) = L i ++ [w.getLast hne] := by
      have := lasts_succ P i h6 (hwd ▸ hne)
      simp only [L]
      rw [this]
      congr 3
      exact hwd.symm
    have hgl : w[w.length - 1]'(by omega) = w.getLast hne := (List.getLast_eq_getElem hne).symm
    have hti : ∀ f : Int → List AV, List.take i (List.map f (L i)) = List.map f (L i) := fun f => List.take_of_length_le (by simp [hLl])
    refine awp_exit ?_
    refine hit ?_
    refine awp_run (s := ?s18) rfl ?o18 ?q18
    case o18 =>
      simp [hwm, hne, show w.length - 1 < w.length by omega, hgl, hLl, hti]
      refine ⟨by omega, by omega, ?_⟩
      rfl
    refine awp_run (s := ?s19) rfl ?o19 ?q19
    case o19 => simp [hw1]; rfl
    refine ⟨i + 1, ⟨h6, fun x hx => ?_⟩, by omega, Le.go [(32, 32), (40, 40), (336, 16)] [] rfl rfl (by simp) (by simp [hVe, hLn])⟩
    rw [List.take_succ_eq_append_getElem h6] at hx
    rcases List.mem_append.1 hx with hx | hx
    · exact hp x hx
    · rw [List.mem_singleton] at hx
      rw [hx, ← hwd]
      exact h9
  simp at h6
  obtain rfl : i = P.length := by omega
  have hBP : ∀ k, B P.length k = begC P k := fun k => by simp [B]
  have hUP : ∀ k, U P.length k = useC P k := fun k => by simp [U]
  have hLP : L P.length = lasts P := by simp [L]
  have hpP : ∀ w ∈ P, WalkC g seeds order w := fun w hw => hp w (by simpa using hw)
  rw [hLP] at hLl ⊢
  refine awp_exit ?_
  refine hit ?_
  refine awp_seq ?_
  refine rk (s := ?s20) [2, 7, 8, 9, 60, 61, 62] [32, 40, 16] rfl ?o20 ?q20
  case o20 => simp; rfl
  refine awp_block ?_
  refine awp_loop (ι := Nat) (fun k => ⟨89, [(2, ints ends), (7, .pt 32 0 0), (8, .pt 40 0 0), (9, .rs 16 0 P.length), (60, ints caps), (61, .I caps.length), (62, .I k)], [(32, some ⟨64, [cnt (B P.length)], 0⟩), (40, some ⟨64, [cnt (U P.length)], 0⟩), (16, some ⟨1, rowsI (lasts P), 0⟩)], 120⟩)
    (fun k => k ≤ caps.length ∧ ∀ x, x < k → capAt caps P x) (fun k => caps.length - k) 0 (by simp) (Le.keep rfl (Nat.le_refl _) (by simp) (by simp)) ?_
  rintro k ⟨hk, hq⟩
  refine rk (s := ?s21) [2, 7, 8, 9, 60, 61, 62, 63] [32, 40, 16] rfl ?o21 ?q21
  case o21 => simp; rfl
  refine awp_seq ?_
  refine awp_cond _ rfl (fun h7 => ?_) fun h7 => ?_
  · simp at h7
    have hw3 : IntKind.i64.wrap ((k : Int) + 1) = (k : Int) + 1 := w64 (by omega) (by omega)
    have hck := hcb _ (List.getElem_mem h7)
    have hwc : IntKind.i64.wrap (caps[k] - 1) = caps[k] - 1 := w64 (by omega) (by omega)
    have hd3 := cnt_drop (B P.length) (k := k) (by omega)
    have hd4 := cnt_drop (U P.length) (k := k) (by omega)
    rw [hBP] at hd3
    rw [hUP] at hd4
    have hk64' : k < 64 := by omega
    have hcp : capAt caps P k ↔ ((begC P k : Int) ≤ caps[k] ∧ (useC P k : Int) ≤ max 0 (caps[k] - 1)) := ⟨fun h => h h7, fun h _ => h⟩
    refine awp_skip ?_
    refine awp_seq ?_
    refine awp_block ?_
    refine rk (s := ?s22) [2, 7, 8, 9, 14, 15, 60, 61, 62] [32, 40, 16] rfl ?o22 ?q22
    case o22 => simp [h7]; rfl
    refine awp_regc ⟨89, [(2, ints ends), (7, .pt 32 0 0), (8, .pt 40 0 0), (9, .rs 16 0 P.length), (60, ints caps), (61, .I caps.length), (62, .I k), (80, .B (decide (¬ capAt caps P k)))], [(32, some ⟨64, [cnt (B P.length)], 0⟩), (40, some ⟨64, [cnt (U P.length)], 0⟩), (16, some ⟨1, rowsI (lasts P), 0⟩)], 280⟩ rfl ?_ ?_
    · simp [hk64', hd3, hd4, cnt_len]
      refine ⟨by omega, ?_⟩
      refine gcase (fun hb => ?_) (fun hb => ?_) <;> (try rw [hb]) <;> (try simp at hb) <;> simp [hb, hk64', hd3, hd4, cnt_len, hwc]
      · exact Le.go [(32, 32), (40, 40), (16, 16)] [] rfl rfl (by simp <;> exact wkB (by rw [Bool.eq_iff_iff]; simp [hcp]; omega)) (by simp)
      · refine ⟨by omega, ?_⟩
        exact Le.go [(32, 32), (40, 40), (16, 16)] [] rfl rfl (by simp <;> exact wkB (by rw [Bool.eq_iff_iff]; simp [hcp, hb]; split <;> omega)) (by simp)
    refine awp_cond _ rfl (fun h8 => ?_) fun h8 => ?_
    · refine rk (s := ?s23) [6] [] rfl ?o23 ?q23
      case o23 => simp; rfl
      refine awp_ret ?_
      have hn : ¬ ServesE g seeds order caps P ends := fun h => by simp at h8; exact h8 (roomP_iff.1 h.2.1 k)
      exact ⟨.inr rfl, RetOk.one (by simp [hn])⟩
    simp at h8
    refine awp_skip ?_
    refine awp_run (s := ?s24) rfl ?o24 ?q24
    case o24 => simp [hw3]; rfl
    refine ⟨k + 1, ⟨h7, fun x hx => ?_⟩, by omega, Le.go [(32, 32), (40, 40), (16, 16)] [] rfl rfl (by simp) (by simp)⟩
    rcases Nat.lt_succ_iff_lt_or_eq.1 hx with h | rfl
    · exact hq x h
    · exact h8
  simp at h7
  have hroom : RoomP caps P := roomP_iff.2 fun x hx => hq x (by omega) hx
  have hll : (lasts P).length ≤ 1099511627776 := by omega
  have htl : ∀ f : Int → List AV, List.take P.length (List.map f (lasts P)) = List.map f (lasts P) := fun f => List.take_of_length_le (by simp [hLl])
  have htl2 : ∀ (f : Int → List AV) (r : Int → Int → Bool), List.take P.length (List.map f ((lasts P).mergeSort r)) = List.map f ((lasts P).mergeSort r) := fun f r => List.take_of_length_le (by simp [List.length_mergeSort, hLl])
  refine awp_exit ?_
  refine hit ?_
  refine rx (s := ?s25) [6] [] [] rfl ?o25 ?q25
  case o25 =>
    simp
    refine call0k [16] (by simp) (Values_ok (lasts P)) (by simp [htl, hLl]) ?_
    simp [htl, hLl]
    refine callN1 (Sorted_ok (lasts P) hll) (by simp) ?_
    simp [Function.comp_def]
    refine call0e (Values_ok ends) (by simp) ?_
    simp
    refine callN1 (Sorted_ok ends hE) (by simp) ?_
    simp [Function.comp_def]
    refine call0s [144, 168] (EqualI_ok (sorted (lasts P)) (sorted ends) (by rw [sorted_len]; omega)) (by simp [hLl, htl2, take_msort]) (.sc _) ?_
    simp
    rfl
  refine awp_ret ?_
  have hfin : ServesE g seeds order caps P ends ↔ sorted (lasts P) = sorted ends := ⟨fun h => h.2.2, fun h => ⟨hpP, hroom, h⟩⟩
  exact ⟨.inr rfl, RetOk.one (by simp [hfin])⟩
end Go.Proofs.YtlhjelookgjmpaaGreat
namespace Go.Proofs.YtlhjelookgjmpaaGreat
open Go
section
variable {P : Program} {np id : Nat} {h : Nat → Option Ent} {K : AV → List Nat → List (Nat × Option Ent) → Prop} {s s' l k : Nat} {f : Bool} {rows : List (List AV)}
@[simp] theorem k_slvlh2 : aK P np id (.slc s true true false) [.vs s' f rows, .sc (.int .i64 (l : Int)), .sc (.int .i64 (k : Int))] h K = (l ≤ k ∧ k ≤ rows.length ∧ s' = s ∧ K (.vs s false ((rows.drop l).take (k - l))) [] []) := by
  rw [k_slc]
  refine propext ⟨?_, ?_⟩
  · rintro ⟨l', r, m, n, h1, h2, h4, h5, h6, h7, h3, h10, h8, h9⟩
    simp at h4 h1
    subst h1
    obtain ⟨rfl, rfl⟩ : l = l' ∧ k = r := by omega
    exact ⟨h2, h3, h8, by simpa using h9⟩
  · rintro ⟨h1, h2, h3, h4⟩
    exact ⟨l, k, 0, rows.length, rfl, h1, by simp, (fun h => by cases h), (fun h => by cases h), (fun h => by cases h), h2, (fun h => by cases h), h3, by simpa using h4⟩
end
theorem sub_first {k : Int} {l : List Int} : ∀ {s : List Int}, (k :: l).Sublist s ↔ k ∈ s ∧ l.Sublist (s.drop (s.idxOf k + 1))
  | [] => by simp
  | x :: s => by
    rw [sub_cons_iff]
    by_cases h : x = k
    · subst h
      simp [List.idxOf_cons_self]
    · rw [if_neg h, sub_first]
      have hb : (x == k) = false := by simpa using h
      simp [List.idxOf_cons, Ne.symm h, hb]
theorem takeWhile_idx (key : Int) : ∀ (o : List Int), aheadO o key = o.take (o.idxOf key)
  | [] => rfl
  | x :: o => by
    rw [aheadO_cons]
    by_cases h : x = key
    · subst h
      simp [List.idxOf_cons_self]
    · rw [if_neg h, takeWhile_idx key o]
      have hb : (x == key) = false := by simpa using h
      simp [List.idxOf_cons, hb]
open Classical in
theorem engine_before_ok (g : Gr) (seeds caps order l : List Int) (key : Int) (ho : order.length ≤ 1000000) (hl : l.length ≤ 140737488355328) (hk : key ∈ order) :
    ACalls Tryz.prog nchecker_engine_before [eEng g seeds caps order, ints l, .I key] [] (.B (decide (BeforeP order l key))) [] := by
  refine schecker_engine_before.acalls (Nat.le_of_ble_eq_true rfl) (Nat.le_of_ble_eq_true rfl) (Nat.le_refl _) ?_
  show awp _ 0 _ _ ⟨36, [(0, eEng g seeds caps order), (1, ints l), (2, .I key)], [], 16⟩
  obtain ⟨e, he⟩ : ∃ e, e = order.idxOf key := ⟨_, rfl⟩
  have hel : e < order.length := by rw [he]; exact List.idxOf_lt_length_of_mem hk
  have hix : idxI order key = e := by unfold idxI; rw [if_pos hk, he]
  have hidx := slices_Index_Lint_int_ok order key (by omega)
  rw [hix] at hidx
  have hA : aheadO order key = order.take e := by rw [takeWhile_idx, he]
  refine rx (s := ?s1) [1, 2, 3] [] [16] rfl ?o1 ?q1
  case o1 => simp; rfl
  refine rx (s := ?s2) [1, 2, 3, 7] [] [] rfl ?o2 ?q2
  case o2 => simp; rfl
  refine rx (s := ?s3) [1, 3, 7, 8] [] [] rfl ?o3 ?q3
  case o3 => simp; refine call0e hidx (by simp) ?_; simp; rfl
  refine awp_seq ?_
  refine rx (s := ?s4) [3, 7, 8, 16, 17, 18] [] [] rfl ?o4 ?q4
  case o4 => simp; rfl
  refine awp_block ?_
  refine awp_loop (ι := Nat × Nat) (fun p => ⟨36, [(3, .pv (xC g seeds caps order)), (7, .I p.2), (8, .I e), (16, ints l), (17, .I l.length), (18, .I p.1)], [], 104⟩)
    (fun p => p.1 ≤ l.length ∧ p.2 ≤ e ∧ (BeforeP order l key ↔ (l.drop p.1).Sublist ((order.take e).drop p.2))) (fun p => l.length - p.1) (0, 0) ⟨Nat.zero_le _, Nat.zero_le _, by unfold BeforeP; rw [hA]; simp⟩ (Le.go [] [] rfl rfl (by simp) (by simp)) ?_
  rintro ⟨i, a⟩ ⟨hi, ha, hq⟩
  simp only at hi ha hq
  refine rx (s := ?s5) [3, 7, 8, 16, 17, 18, 19] [] [] rfl ?o5 ?q5
  case o5 => simp; rfl
  refine awp_seq ?_
  refine awp_cond _ rfl (fun h6 => ?_) fun h6 => ?_
  · simp at h6
    have hw1 : IntKind.i64.wrap ((i : Int) + 1) = (i : Int) + 1 := w64 (by omega) (by omega)
    rw [List.drop_eq_getElem_cons h6, sub_first] at hq
    obtain ⟨s, hs⟩ : ∃ s, s = (order.take e).drop a := ⟨_, rfl⟩
    have hsl : s.length = e - a := by rw [hs]; simp; omega
    have hmap : ∀ f : Int → List AV, List.take (e - a) (List.drop a (List.map f order)) = List.map f s := fun f => by
      rw [hs, List.drop_take, List.map_take, List.map_drop]
    have hidx2 := slices_Index_Lint_int_ok s l[i] (by omega)
    rw [← hs] at hq
    refine awp_skip ?_
    refine awp_seq ?_
    refine awp_block ?_
    refine rx (s := ?s7) [3, 7, 8, 10, 16, 17, 18] [] [] rfl ?o7 ?q7
    case o7 => simp [h6]; rfl
    refine rx (s := ?s8) [3, 7, 8, 11, 16, 17, 18] [] [] rfl ?o8 ?q8
    case o8 =>
      simp [ha, show e ≤ order.length by omega]
      refine call0e hidx2 (by simp [hmap]) ?_
      simp
      rfl
    refine awp_seq ?_
    refine rx (s := ?s9) [3, 7, 8, 11, 16, 17, 18, 30] [] [] rfl ?o9 ?q9
    case o9 => simp; rfl
    refine awp_cond _ rfl (fun h10 => ?_) fun h10 => ?_
    · simp at h10
      refine rx (s := ?s11) [6] [] [] rfl ?o11 ?q11
      case o11 => simp; rfl
      refine awp_ret ?_
      have hn : ¬ BeforeP order l key := fun h => by
        have hm := (hq.1 h).1
        unfold idxI at h10
        rw [if_pos hm] at h10
        omega
      exact ⟨.inr rfl, RetOk.one (by simp [hn])⟩
    simp at h10
    have hm : l[i] ∈ s := by
      unfold idxI at h10
      split at h10
      · assumption
      · omega
    have hil : s.idxOf l[i] < s.length := List.idxOf_lt_length_of_mem hm
    have hii : idxI s l[i] = (s.idxOf l[i] : Int) := by unfold idxI; rw [if_pos hm]
    obtain ⟨q, hq'⟩ : ∃ q, q = s.idxOf l[i] := ⟨_, rfl⟩
    rw [← hq'] at hii hil
    have hw2 : IntKind.i64.wrap (idxI s l[i] + 1) = (q : Int) + 1 := by rw [hii, w64 (by omega) (by omega)]
    have hw3 : IntKind.i64.wrap ((a : Int) + ((q : Int) + 1)) = (a : Int) + ((q : Int) + 1) := w64 (by omega) (by omega)
    refine awp_skip ?_
    refine awp_run (s := ?s12) rfl ?o12 ?q12
    case o12 => simp [hw2, hw3]; rfl
    refine awp_run (s := ?s13) rfl ?o13 ?q13
    case o13 => simp [hw1]; rfl
    refine ⟨(i + 1, a + (q + 1)), ⟨by simp only; omega, by simp only; omega, ?_⟩, by simp only; omega, Le.go [] [] rfl rfl (by simp [hw3]) (by simp)⟩
    simp only
    rw [hq, ← hq', hs, List.drop_drop]
    simp only [← hs, hm, true_and]
  simp at h6
  obtain rfl : i = l.length := by omega
  have hy : BeforeP order l key := hq.2 (by simp)
  refine awp_exit ?_
  refine hit ?_
  refine rx (s := ?s14) [6] [] [] rfl ?o14 ?q14
  case o14 => simp; rfl
  refine awp_ret ?_
  exact ⟨.inr rfl, RetOk.one (by simp [hy])⟩
end Go.Proofs.YtlhjelookgjmpaaGreat
namespace Go.Proofs.YtlhjelookgjmpaaGreat
open Go
def PathsE (g : Gr) (p : Pol) (P : List (List Int)) (ends : List Int) : Prop :=
  ServesE (levelG g p.lv) p.seeds (ordL (levelG g p.lv) p.seeds) (capsL g p) P ends
def PathsC (g : Gr) (p : Pol) (P : List (List Int)) (ends : List Int) : Prop := (GrOk g ∧ PolOk g.size p) ∧ Diff ends g.size ∧ PathsE g p P ends
theorem capsL_bound {g : Gr} {p : Pol} {n : Int} (hp : PolOk n p) : ∀ c ∈ capsL g p, 0 ≤ c ∧ c ≤ 1000 := by
  intro c hc
  obtain ⟨d, _, rfl⟩ := List.mem_map.1 hc
  exact capOf_bound hp d
theorem ordL_len {g : Gr} {S : List Int} (hg : 0 ≤ g.size) : (ordL g S).length ≤ g.size.toNat := by
  have h := nodup_sub_len (a := ordL g S) (b := (List.range g.size.toNat).map fun (i : Nat) => (i : Int)) (ordL_nodup g S) fun x hx => by
    have := ordL_range hx
    exact List.mem_map.2 ⟨x.toNat, List.mem_range.2 (by omega), by show ((x.toNat : Nat) : Int) = x; omega⟩
  simpa using h
open Classical in
theorem checker_Paths_ok (g : Gr) (p : Pol) (P : List (List Int)) (ends : List Int) (hl : g.edges.length ≤ 140737488355328) (hl2 : g.gone.length ≤ 140737488355328) (hs : p.seeds.length ≤ 1099511627776) (ht : p.table.length ≤ 140737488355328)
    (hN : g.size < 20) (hP : P.length ≤ 100000) (hPw : ∀ w ∈ P, w.length ≤ 100000) (hE : ends.length ≤ 1099511627776) :
    ACalls Tryz.prog nchecker_Paths [eG g, eP p, pathsV P, ints ends] [] (.B (decide (PathsC g p P ends))) [] := by
  refine schecker_Paths.acalls (Nat.le_of_ble_eq_true rfl) (Nat.le_of_ble_eq_true rfl) (Nat.le_refl _) ?_
  show awp _ 0 _ _ ⟨27, [(0, eG g), (1, eP p), (2, pathsV P), (3, ints ends)], [], 16⟩
  have hchk := capacity_Check_ok g p hl hl2 (by omega) ht
  have hdiff := checker_different_ok ends g.size (by omega)
  refine rx (s := ?s1) [2, 3, 4, 5] [] [16, 24] rfl ?o1 ?q1
  case o1 => simp; rfl
  refine awp_regc ⟨27, [(8, .B (decide (PathsC g p P ends)))], [], 184⟩ rfl ?_ ?_
  · by_cases hg : GrOk g
    · by_cases hp : PolOk g.size p
      · rw [if_pos hg, if_pos hp] at hchk
        have hof := checker_of_ok g p hg hN hs
        have hsrv := engine_serve_ok (levelG g p.lv) p.seeds (capsL g p) (ordL (levelG g p.lv) p.seeds) P ends (hg.level p.lv).edges_le (by omega)
          (by have := ordL_len (g := levelG g p.lv) (S := p.seeds) hg.1.1; have : (levelG g p.lv).size = g.size := rfl; omega)
          (fun k hk => by have := ordL_range hk; have : (levelG g p.lv).size = g.size := rfl; omega) (by rw [capsL_len]; omega) (capsL_bound hp) hP hPw hE
        simp
        refine call0e hchk (by simp) ?_
        simp
        refine call0e hdiff (by simp) ?_
        simp
        by_cases hd : Diff ends g.size
        · simp [hd]
          refine call0e hof (by simp) ?_
          simp
          refine call0e hsrv (by simp) ?_
          simp
          exact Le.snap [] rfl rfl (by simp [PathsC, hg, hp, hd, PathsE])
        · simp [hd]
          exact Le.snap [] rfl rfl (by simp [PathsC, hd])
      · rw [if_pos hg, if_neg hp] at hchk
        simp
        refine call0e hchk (by simp) ?_
        simp
        exact Le.snap [] rfl rfl (by simp [PathsC, hp])
    · rw [if_neg hg] at hchk
      simp
      refine call0e hchk (by simp) ?_
      simp
      exact Le.snap [] rfl rfl (by simp [PathsC, hg])
  refine awp_ret ?_
  exact ⟨.inr rfl, RetOk.one (by simp)⟩
theorem has24_ok (l : List Int) (n : Int) (hl : l.length ≤ 140737488355328) : ACalls Tryz.prog nref24_Has [ints l, .I n] [] (.B (decide (n ∈ l))) [] := by
  refine sref24_Has.acalls (Nat.le_of_ble_eq_true rfl) (Nat.le_of_ble_eq_true rfl) (Nat.le_refl _) ?_
  show awp _ 0 _ _ ⟨18, [(0, ints l), (1, .I n)], [], 16⟩
  refine rx (s := ?s1) [0, 1] [] [] rfl ?o1 ?q1
  case o1 => simp; rfl
  refine awp_seq ?_
  refine rx (s := ?s2) [0, 1, 5] [] [] rfl ?o2 ?q2
  case o2 => simp; rfl
  refine awp_block ?_
  refine awp_loop (ι := Nat) (fun i => ⟨18, [(0, ints l), (1, .I n), (5, .I i)], [], 32⟩) (fun i => i ≤ l.length ∧ n ∉ l.take i) (fun i => l.length - i) 0 (by simp) (Le.go [] [] rfl rfl (by simp) (by simp)) ?_
  rintro i ⟨hi, hp⟩
  refine awp_seq ?_
  refine rx (s := ?s3) [0, 1, 5, 9] [] [] rfl ?o3 ?q3
  case o3 => simp; rfl
  refine awp_cond _ rfl (fun h4 => ?_) fun h4 => ?_
  · simp at h4
    have hw : IntKind.i64.wrap ((i : Int) + 1) = (i : Int) + 1 := w64 (by omega) (by omega)
    refine awp_skip ?_
    refine awp_seq ?_
    refine awp_block ?_
    refine rx (s := ?s5) [0, 1, 5, 17] [] [] rfl ?o5 ?q5
    case o5 => simp [h4]; rfl
    refine awp_cond _ rfl (fun h7 => ?_) fun h7 => ?_
    · simp at h7
      refine rx (s := ?s8) [4] [] [] rfl ?o8 ?q8
      case o8 => simp; rfl
      refine awp_ret ?_
      have hm : n ∈ l := h7 ▸ List.getElem_mem h4
      exact ⟨.inr rfl, RetOk.one (by simp [hm])⟩
    simp at h7
    refine awp_skip ?_
    refine awp_reg rfl ?_
    simp [hw]
    refine ⟨i + 1, ⟨h4, ?_⟩, by omega, Le.go [] [] rfl rfl (by simp) (by simp)⟩
    rw [List.take_succ_eq_append_getElem h4, List.mem_append, List.mem_singleton]
    exact fun h => h.elim hp fun e => h7 e.symm
  simp at h4
  have hn : n ∉ l := by rw [List.take_of_length_le (by omega)] at hp; exact hp
  refine awp_exit ?_
  refine hit ?_
  refine rx (s := ?s9) [4] [] [] rfl ?o9 ?q9
  case o9 => simp; rfl
  refine awp_ret ?_
  exact ⟨.inr rfl, RetOk.one (by simp [hn])⟩
def joinN (a : List Int) (k : Nat) : List Int := ((List.range k).map Int.ofNat).filter fun x => decide (x ∈ a)
theorem joinN_succ (a : List Int) (k : Nat) : joinN a (k + 1) = joinN a k ++ if (k : Int) ∈ a then [(k : Int)] else [] := by
  unfold joinN
  rw [List.range_succ, List.map_append, List.filter_append]
  congr 1
  by_cases h : (k : Int) ∈ a
  · rw [if_pos h]
    simp [h]
  · rw [if_neg h]
    simp [h]
theorem joinN_len (a : List Int) (k : Nat) : (joinN a k).length ≤ k := by
  refine Nat.le_trans (List.length_filter_le ..) (by simp)
theorem join24_ok (a b : List Int) (ha : a.length ≤ 140737488355328) (hb : b.length ≤ 140737488355328) : ACalls Tryz.prog nref24_Join [ints a, ints b] [] (.rs 0 0 (joinL (a ++ b)).length) [some ⟨1, rowsI (joinL (a ++ b)), 0⟩] := by
  refine sref24_Join.acalls (Nat.le_of_ble_eq_true rfl) (Nat.le_of_ble_eq_true rfl) (Nat.zero_le _) ?_
  show awp _ 0 _ _ ⟨24, [(0, ints a), (1, ints b)], [], 16⟩
  refine rx (s := ?s1) [0, 1] [] [] rfl ?o1 ?q1
  case o1 => simp; rfl
  refine rx (s := ?s2) [0, 1, 5] [] [] rfl ?o2 ?q2
  case o2 => simp; rfl
  refine awp_seq ?_
  refine rx (s := ?s3) [0, 1, 5, 6] [] [] rfl ?o3 ?q3
  case o3 => simp; rfl
  refine awp_block ?_
  obtain ⟨J, hJ0, hJs, hJl, hJN⟩ : ∃ J : Nat → List Int, J 0 = [] ∧ (∀ k : Nat, J (k + 1) = J k ++ if (k : Int) ∈ a ++ b then [(k : Int)] else []) ∧ (∀ k, (J k).length ≤ k) ∧ J 64 = joinL (a ++ b) :=
    ⟨joinN (a ++ b), rfl, joinN_succ _, joinN_len _, rfl⟩
  refine awp_loop (ι := Nat) (fun i => ⟨24, [(0, ints a), (1, ints b), (5, .rs 16 0 (J i).length), (6, .I i)], [(16, some ⟨1, rowsI (J i), 0⟩)], 40⟩) (fun i => i ≤ 64) (fun i => 64 - i) 0 (by omega) (Le.lst [] [] [(16, 1)] rfl (by simp) (by simp) (by simp) (by simp) (by simp) (by simp) (by simp) (by simp [Up, hJ0]) (by simp [hJ0])) ?_
  intro i hi
  have hJi := hJl i
  have hti : ∀ f : Int → List AV, List.take (J i).length (List.map f (J i)) = List.map f (J i) := fun f => List.take_of_length_le (by simp)
  refine awp_seq ?_
  refine rk (s := ?s4) [0, 1, 5, 6, 8] [16] rfl ?o4 ?q4
  case o4 => simp; rfl
  refine awp_cond _ rfl (fun h5 => ?_) fun h5 => ?_
  · simp at h5
    have hw : IntKind.i64.wrap ((i : Int) + 1) = (i : Int) + 1 := w64 (by omega) (by omega)
    refine awp_skip ?_
    refine awp_cut (ι := Unit) (fun _ => ⟨24, [(0, ints a), (1, ints b), (5, .rs 16 0 (J (i + 1)).length), (6, .I i)], [(16, some ⟨1, rowsI (J (i + 1)), 0⟩)], 200⟩) (fun _ => True) ?_ fun _ _ => ?_
    · refine awp_block ?_
      refine awp_regc ⟨24, [(0, ints a), (1, ints b), (5, .rs 16 0 (J i).length), (6, .I i), (18, .B (decide ((i : Int) ∈ a ++ b)))], [(16, some ⟨1, rowsI (J i), 0⟩)], 120⟩ rfl ?_ ?_
      · simp
        refine call0e (has24_ok a i ha) (by simp) ?_
        simp
        refine gcase (fun hb' => ?_) (fun hb' => ?_) <;> (try rw [hb']) <;> (try simp at hb') <;> simp [hb']
        · exact Le.keep rfl (Nat.le_refl _) (by simp [hb']) (by simp)
        · refine call0e (has24_ok b i hb) (by simp) ?_
          simp
          exact Le.keep rfl (Nat.le_refl _) (by simp [hb']) (by simp)
      refine awp_cond _ rfl (fun h6 => ?_) fun h6 => ?_
      · rw [decide_eq_true_eq] at h6
        refine awp_run (s := ?s7) rfl ?o7 ?q7
        case o7 => simp [hti]; refine ⟨by omega, by omega, ?_⟩; rfl
        exact ⟨(), trivial, Le.go [(144, 16)] [] rfl rfl (by simp [hJs, h6]) (by simp [hJs, h6, Function.comp_def])⟩
      · rw [decide_eq_false_iff_not] at h6
        refine awp_skip ?_
        exact ⟨(), trivial, Le.go [(16, 16)] [] rfl rfl (by simp [hJs, h6]) (by simp [hJs, h6, Function.comp_def])⟩
    refine awp_run (s := ?s8) rfl ?o8 ?q8
    case o8 => simp [hw]; rfl
    exact ⟨i + 1, by omega, by omega, Le.go [(16, 16)] [] rfl rfl (by simp) (by simp [Function.comp_def])⟩
  simp at h5
  obtain rfl : i = 64 := by omega
  refine awp_exit ?_
  refine hit ?_
  refine rk (s := ?s9) [4] [16] rfl ?o9 ?q9
  case o9 => simp; rfl
  refine awp_ret ?_
  exact ⟨.inr rfl, RetOk.out [16] [] rfl (by simp) (by simp) (by simp [hJN]) (by simp [Function.comp_def, hJN])⟩
end Go.Proofs.YtlhjelookgjmpaaGreat
namespace Go.Proofs.YtlhjelookgjmpaaGreat
open Go
abbrev nC (n : Net) : List AV := [.I n.nodes, eEs n.arcs]
abbrev eN (n : Net) : AV := .agg (nC n)
theorem IndexFuncA_ok (f : FuncId) (capt : List AV) (q : Ed → Bool) (l : List Ed) (hl : l.length ≤ 1099511627776) (hs : Still capt) (hc : ∀ e ∈ l, ACalls Tryz.prog f (eE e :: capt) [] (.B (q e)) []) : ACalls Tryz.prog nslices_IndexFunc_Lapi_Arc_api_Arc [eEs l, .fn (.func f) [] capt] [] (.I (idxQ l q)) [] := by
  have hs2 : ∀ ρ sn h, capt.map (conv ρ sn h 2) = capt := fun _ _ _ => hs _ _ _ 1
  have hs3 : ∀ ρ sn h, capt.map (conv ρ sn h 3) = capt := fun _ _ _ => hs _ _ _ 2
  have hs4 : ∀ ρ sn h, capt.map (conv ρ sn h 4) = capt := fun _ _ _ => hs _ _ _ 3
  refine sslices_IndexFunc_Lapi_Arc_api_Arc.acalls (Nat.le_of_ble_eq_true rfl) (Nat.le_of_ble_eq_true rfl) (Nat.le_refl _) ?_
  show awp _ 0 _ _ ⟨19, [(0, eEs l), (1, .fn (.func f) [] capt)], [], 16⟩
  refine awp_seq ?_
  refine awp_run (s := ?s1) rfl ?o1 ?q1
  case o1 => simp; rfl
  refine awp_seq ?_
  refine awp_seq ?_
  refine awp_run (s := ?s2) rfl ?o2 ?q2
  case o2 => simp; rfl
  refine awp_block ?_
  refine awp_loop (ι := Nat) (fun k => ⟨19, [(0, eEs l), (1, .fn (.func f) [] capt), (7, .I l.length), (8, .I k)], [], 16⟩) (fun k => k ≤ l.length ∧ ∀ i, i < k → ∀ h : i < l.length, q l[i] = false) (fun k => l.length - k) (0) ?_ (Le.snap [] rfl rfl (by simp [hs2, hs3, hs4])) ?_
  · simp
  rintro k ⟨hk, hp⟩
  refine awp_seq ?_
  refine awp_run (s := ?s3) rfl ?o3 ?q3
  case o3 => simp; rfl
  refine awp_seq ?_
  refine awp_cond _ rfl (fun h4 => ?_) fun h4 => ?_
  · try simp at h4
    have hw2 : IntKind.i64.wrap ((k : Int) + 1) = (k : Int) + 1 := w64 (by omega) (by omega)
    have hck := hc l[k] (List.getElem_mem h4)
    refine awp_skip ?_
    refine awp_seq ?_
    refine awp_block ?_
    refine awp_seq ?_
    refine awp_run (s := ?s5) rfl ?o5 ?q5
    case o5 => simp [h4, hw2]; rfl
    refine awp_seq ?_
    refine awp_run (s := ?s6) rfl ?o6 ?q6
    case o6 =>
      simp [h4, hw2]
      refine call0e hck ?_ ?_
      · simp [hs2, hs3, hs4]
      simp [h4, hw2]; rfl
    refine awp_cond _ rfl (fun h7 => ?_) fun h7 => ?_
    · try simp at h7
      refine awp_seq ?_
      refine awp_run (s := ?s8) rfl ?o8 ?q8
      case o8 => simp [h4, hw2]; rfl
      refine awp_ret ?_
      exact ⟨.inr rfl, RetOk.one (by simp [idxQ_at h4 hp h7])⟩
    try simp at h7
    refine awp_skip ?_
    refine awp_run (s := ?s9) rfl ?o9 ?q9
    case o9 => simp [h4, hw2]; rfl
    refine ⟨k + 1, ⟨h4, fun i hi => ?_⟩, by omega, Le.snap [] rfl rfl (by simp [h4, hw2, hs2, hs3, hs4])⟩
    rcases Nat.lt_succ_iff_lt_or_eq.1 hi with h | rfl
    · exact hp i h
    · exact fun _ => h7
  try simp at h4
  have hall : ∀ i, i < l.length → ∀ h : i < l.length, q l[i] = false := fun i hi => hp i (by omega)
  refine awp_exit ?_
  refine hit ?_
  refine awp_seq ?_
  refine awp_run (s := ?s10) rfl ?o10 ?q10
  case o10 => simp; rfl
  refine awp_ret ?_
  exact ⟨.inr rfl, RetOk.one (by simp [idxQ_no hall])⟩
theorem ContainsFuncA_ok (f : FuncId) (capt : List AV) (q : Ed → Bool) (l : List Ed) (hl : l.length ≤ 1099511627776) (hs : Still capt) (hc : ∀ e ∈ l, ACalls Tryz.prog f (eE e :: capt) [] (.B (q e)) []) : ACalls Tryz.prog nslices_ContainsFunc_Lapi_Arc_api_Arc [eEs l, .fn (.func f) [] capt] [] (.B (l.any q)) [] := by
  have hs2 : ∀ ρ sn h, capt.map (conv ρ sn h 2) = capt := fun _ _ _ => hs _ _ _ 1
  have hs3 : ∀ ρ sn h, capt.map (conv ρ sn h 3) = capt := fun _ _ _ => hs _ _ _ 2
  have hs4 : ∀ ρ sn h, capt.map (conv ρ sn h 4) = capt := fun _ _ _ => hs _ _ _ 3
  refine sslices_ContainsFunc_Lapi_Arc_api_Arc.acalls (Nat.le_of_ble_eq_true rfl) (Nat.le_of_ble_eq_true rfl) (Nat.le_refl _) ?_
  show awp _ 0 _ _ ⟨9, [(0, eEs l), (1, .fn (.func f) [] capt)], [], 16⟩
  refine awp_seq ?_
  refine awp_run (s := ?s1) rfl ?o1 ?q1
  case o1 => simp; rfl
  have hi : decide (0 ≤ idxQ l q) = l.any q := by
    unfold idxQ
    by_cases h : l.findIdx q < l.length
    · rw [if_pos h]
      have := List.findIdx_getElem (w := h)
      have h2 : l.any q = true := List.any_eq_true.2 ⟨_, List.getElem_mem h, this⟩
      rw [h2]
      simp
    · rw [if_neg h]
      have : l.findIdx q = l.length := by have := List.findIdx_le_length (xs := l) (p := q); omega
      rw [List.findIdx_eq_length] at this
      have h2 : l.any q = false := by
        rw [List.any_eq_false]
        intro x hx
        simp [this x hx]
      rw [h2]
      simp
  refine awp_regc ⟨9, [(4, .B (l.any q))], [], 16⟩ rfl ?_ ?_
  · simp
    refine call0e (IndexFuncA_ok f capt q l hl hs hc) ?_ ?_
    · simp [hs2, hs3, hs4]
    simp
    exact Le.snap [] rfl rfl (by simp; exact wkB hi)
  refine awp_ret ?_
  exact ⟨.inr rfl, RetOk.one (by simp)⟩
theorem flow_Check_c1_ok (n : Net) (a : Ed) (h2 : 2 ≤ n.nodes) (h3 : n.nodes ≤ 130) : ACalls Tryz.prog nflow_Check_c1 [eE a, .pv (nC n)] [] (.B (!decide (ArcOk n.nodes a))) [] := by
  refine sflow_Check_c1.acalls (Nat.le_of_ble_eq_true rfl) (Nat.le_of_ble_eq_true rfl) (Nat.le_refl _) ?_
  show awp _ 0 _ _ ⟨43, [(0, eE a), (1, .pv (nC n))], [], 16⟩
  have hw : IntKind.i64.wrap (n.nodes - 1) = n.nodes - 1 := w64 (by omega) (by omega)
  refine rx (s := ?s1) [1, 2] [] [16] rfl ?o1 ?q1
  case o1 => simp; rfl
  refine awp_regc ⟨43, [(3, .B (!decide (ArcOk n.nodes a)))], [], 400⟩ rfl ?_ ?_
  · simp [hw]
    repeat' first
      | (refine callf nlists_In rfl ?_; refine call0e (lists_In_ok ..) rfl ?_; simp [hw])
      | (refine gcase (fun hb => ?_) (fun hb => ?_) <;> (try rw [hb]) <;> (try simp at hb) <;> simp [hb, hw])
    all_goals exact Le.snap [] rfl rfl (by simp <;> exact wkB (by (try simp at *); grind [ArcOk]))
  refine awp_ret ?_
  exact ⟨.inr rfl, RetOk.one (by simp)⟩
end Go.Proofs.YtlhjelookgjmpaaGreat
namespace Go.Proofs.YtlhjelookgjmpaaGreat
open Go
theorem flow_Check_ok (n : Net) (hl : n.arcs.length ≤ 1099511627776) : ACalls Tryz.prog nflow_Check [eN n] [] (.I (if NetVal n then 0 else 16)) [] := by
  refine sflow_Check.acalls (Nat.le_of_ble_eq_true rfl) (Nat.le_of_ble_eq_true rfl) (Nat.le_refl _) ?_
  show awp _ 0 _ _ ⟨21, [(0, eN n)], [], 16⟩
  refine rx (s := ?s1) [1] [] [16] rfl ?o1 ?q1
  case o1 => simp; rfl
  refine rx (s := ?s2) [1, 3] [] [] rfl ?o2 ?q2
  case o2 => simp; rfl
  refine awp_seq ?_
  refine awp_regc ⟨21, [(20, .B (!decide (NetVal n)))], [], 300⟩ rfl ?_ ?_
  · by_cases h2 : 2 ≤ n.nodes ∧ n.nodes ≤ 130
    · have hcf := ContainsFuncA_ok nflow_Check_c1 [.pv (nC n)] (fun a => !decide (ArcOk n.nodes a)) n.arcs hl (fun ρ sn h k => by simp) (fun e _ => flow_Check_c1_ok n e h2.1 h2.2)
      simp
      refine call0e (lists_In_ok ..) rfl ?_
      simp [h2]
      by_cases h3 : n.arcs.length ≤ 1200
      · simp [show ¬ (1200 < n.arcs.length) by omega, show ¬ (1200 < (n.arcs.length : Int)) by omega]
        refine call0e hcf (by simp) ?_
        simp
        refine Le.snap [] rfl rfl (by simp <;> exact wkB (by rw [Bool.eq_iff_iff]; simp [NetVal, h2, h3]))
      · simp [show (1200 < n.arcs.length) by omega, show (1200 < (n.arcs.length : Int)) by omega]
        refine Le.snap [] rfl rfl (by simp [NetVal, h3])
    · simp
      refine call0e (lists_In_ok ..) rfl ?_
      have h2' : (decide (2 ≤ n.nodes) && decide (n.nodes ≤ 130)) = false := by simpa using fun h => by omega
      simp [h2']
      have hn : ¬ NetVal n := fun h => h2 ⟨h.1, h.2.1⟩
      refine Le.snap [] rfl rfl (by simp [hn])
  refine awp_cond _ rfl (fun h7 => ?_) fun h7 => ?_
  · simp at h7
    refine rx (s := ?s8) [2] [] [] rfl ?o8 ?q8
    case o8 => simp; rfl
    refine awp_ret ?_
    exact ⟨.inr rfl, RetOk.one (by simp [h7])⟩
  simp at h7
  refine awp_skip ?_
  refine rx (s := ?s9) [2] [] [] rfl ?o9 ?q9
  case o9 => simp; rfl
  refine awp_ret ?_
  exact ⟨.inr rfl, RetOk.one (by simp [h7])⟩
def NetPre (n : Net) : Prop := (2 ≤ n.nodes ∧ n.nodes ≤ 130) ∧ n.arcs.length ≤ 1200
def ArcAt (n : Net) (i : Nat) : Prop := ∀ h : i < n.arcs.length, ArcOk n.nodes n.arcs[i]
theorem netVal_iff {n : Net} : NetVal n ↔ NetPre n ∧ ∀ i, ArcAt n i := by
  unfold NetVal NetPre ArcAt
  constructor
  · rintro ⟨a, b, c, d⟩
    exact ⟨⟨⟨a, b⟩, c⟩, fun i h => d _ (List.getElem_mem h)⟩
  · rintro ⟨⟨⟨a, b⟩, c⟩, d⟩
    exact ⟨a, b, c, fun x hx => by obtain ⟨i, hi, rfl⟩ := List.getElem_of_mem hx; exact d i hi⟩
set_option maxRecDepth 100000 in
open Classical in
theorem ref15_Check_ok (n : Net) (hl : n.arcs.length ≤ 1099511627776) : ACalls Tryz.prog nref15_Check [eN n] [] (.I (if NetVal n then 0 else 16)) [] := by
  refine sref15_Check.acalls (Nat.le_of_ble_eq_true rfl) (Nat.le_of_ble_eq_true rfl) (Nat.le_refl _) ?_
  show awp _ 0 _ _ ⟨80, [(0, eN n)], [], 16⟩
  refine rx (s := ?s1) [1] [] [16] rfl ?o1 ?q1
  case o1 => simp; rfl
  refine awp_seq ?_
  refine awp_regc ⟨80, [(1, .pv (nC n)), (18, .B (!decide (NetPre n)))], [], 300⟩ rfl ?_ ?_
  · simp
    repeat' first
      | (refine gcase (fun hb => ?_) (fun hb => ?_) <;> (try rw [hb]) <;> (try simp at hb) <;> simp [hb])
    all_goals exact Le.snap [] rfl rfl (by simp <;> exact wkB (by (try simp at *); grind [NetPre]))
  refine awp_cond _ rfl (fun h3 => ?_) fun h3 => ?_
  · simp at h3
    refine rx (s := ?s4) [2] [] [] rfl ?o4 ?q4
    case o4 => simp; rfl
    refine awp_ret ?_
    exact ⟨.inr rfl, RetOk.one (by simp [netVal_iff, h3])⟩
  simp at h3
  refine awp_skip ?_
  refine awp_seq ?_
  refine rx (s := ?s5) [1, 3] [] [] rfl ?o5 ?q5
  case o5 => simp; rfl
  refine awp_block ?_
  refine awp_loop (ι := Nat) (fun i => ⟨80, [(1, .pv (nC n)), (3, .I i)], [], 308⟩) (fun i => i ≤ n.arcs.length ∧ ∀ k, k < i → ArcAt n k) (fun i => n.arcs.length - i) 0 (by simp) (Le.go [] [] rfl rfl (by simp) (by simp)) ?_
  rintro i ⟨hi, hp⟩
  refine awp_seq ?_
  refine rx (s := ?s6) [1, 3, 23] [] [] rfl ?o6 ?q6
  case o6 => simp; rfl
  refine awp_cond _ rfl (fun h7 => ?_) fun h7 => ?_
  · simp at h7
    have hw : IntKind.i64.wrap ((i : Int) + 1) = (i : Int) + 1 := w64 (by omega) (by omega)
    refine awp_skip ?_
    refine awp_seq ?_
    refine awp_block ?_
    refine awp_regc ⟨80, [(1, .pv (nC n)), (3, .I i), (4, .pv (eC n.arcs[i]))], [], 408⟩ rfl ?_ ?_
    · simp [h7]
      exact Le.snap [388] rfl rfl (by simp)
    refine awp_regc ⟨80, [(1, .pv (nC n)), (3, .I i), (79, .B (!decide (ArcAt n i)))], [], 900⟩ rfl ?_ ?_
    · simp
      have hat : ArcAt n i ↔ ArcOk n.nodes n.arcs[i] := ⟨fun h => h h7, fun h _ => h⟩
      repeat' first
        | (refine gcase (fun hb => ?_) (fun hb => ?_) <;> (try rw [hb]) <;> (try simp at hb) <;> simp [hb])
      all_goals exact Le.snap [] rfl rfl (by simp <;> exact wkB (by (try simp at *); simp only [hat]; grind [ArcOk]))
    refine awp_cond _ rfl (fun h9 => ?_) fun h9 => ?_
    · refine rx (s := ?s10) [2] [] [] rfl ?o10 ?q10
      case o10 => simp; rfl
      refine awp_ret ?_
      have hn : ¬ NetVal n := fun h => by simp at h9; exact h9 ((netVal_iff.1 h).2 i)
      exact ⟨.inr rfl, RetOk.one (by simp [hn])⟩
    simp at h9
    refine awp_skip ?_
    refine awp_run (s := ?s11) rfl ?o11 ?q11
    case o11 => simp; rfl
    refine ⟨i + 1, ⟨h7, fun k hk => ?_⟩, by omega, Le.go [] [] rfl rfl (by simp [hw]) (by simp)⟩
    rcases Nat.lt_succ_iff_lt_or_eq.1 hk with h | rfl
    · exact hp k h
    · exact h9
  simp at h7
  have hy : NetVal n := netVal_iff.2 ⟨h3, fun k hk => hp k (by omega) hk⟩
  refine awp_exit ?_
  refine hit ?_
  refine rx (s := ?s12) [2] [] [] rfl ?o12 ?q12
  case o12 => simp; rfl
  refine awp_ret ?_
  exact ⟨.inr rfl, RetOk.one (by simp [hy])⟩
end Go.Proofs.YtlhjelookgjmpaaGreat
namespace Go.Proofs.YtlhjelookgjmpaaGreat
open Go
open Classical in
theorem cut_Valid_ok (n : Net) (side : List Int) (hl : n.arcs.length ≤ 1099511627776) (hs : side.length ≤ 140737488355328) : ACalls Tryz.prog ncut_Valid [eN n, ints side] [] (.B (decide (SideOk n side))) [] := by
  refine scut_Valid.acalls (Nat.le_of_ble_eq_true rfl) (Nat.le_of_ble_eq_true rfl) (Nat.le_refl _) ?_
  show awp _ 0 _ _ ⟨24, [(0, eN n), (1, ints side)], [], 16⟩
  refine rx (s := ?s1) [1, 2] [] [16] rfl ?o1 ?q1
  case o1 => simp; rfl
  refine awp_regc ⟨24, [(4, .B (decide (SideOk n side)))], [], 300⟩ rfl ?_ ?_
  · have hc := flow_Check_ok n hl
    by_cases hn : NetVal n
    · rw [if_pos hn] at hc
      have hw : IntKind.i64.wrap (n.nodes - 1) = n.nodes - 1 := w64 (by have := hn.1; omega) (by have := hn.2.1; omega)
      simp
      refine call0e hc (by simp) ?_
      simp [hw]
      refine call0e (lists_Rising_ok side 0 (n.nodes - 1) hs) (by simp) ?_
      simp
      refine gcase (fun hb => ?_) (fun hb => ?_) <;> (try rw [hb]) <;> (try simp at hb) <;> simp [hb]
      · refine call0e (contains_ok side 0 hs) (by simp) ?_
        simp
        refine gcase (fun hb2 => ?_) (fun hb2 => ?_) <;> (try rw [hb2]) <;> (try simp at hb2) <;> simp [hb2]
        · refine call0e (contains_ok side 1 hs) (by simp) ?_
          simp
          exact Le.snap [] rfl rfl (by simp [SideOk, hn, hb, hb2])
        · exact Le.snap [] rfl rfl (by simp [SideOk, hn, hb, hb2])
      · exact Le.snap [] rfl rfl (by simp [SideOk, hn, hb])
    · rw [if_neg hn] at hc
      simp
      refine call0e hc (by simp) ?_
      simp
      exact Le.snap [] rfl rfl (by simp [SideOk, hn])
  refine awp_ret ?_
  exact ⟨.inr rfl, RetOk.one (by simp)⟩
open Classical in
theorem ref16_Valid_ok (n : Net) (side : List Int) (hl : n.arcs.length ≤ 1099511627776) (hs : side.length ≤ 140737488355328) : ACalls Tryz.prog nref16_Valid [eN n, ints side] [] (.B (decide (SideOk n side))) [] := by
  refine sref16_Valid.acalls (Nat.le_of_ble_eq_true rfl) (Nat.le_of_ble_eq_true rfl) (Nat.le_refl _) ?_
  show awp _ 0 _ _ ⟨23, [(0, eN n), (1, ints side)], [], 16⟩
  refine rx (s := ?s1) [1, 2] [] [16] rfl ?o1 ?q1
  case o1 => simp; rfl
  refine awp_regc ⟨23, [(4, .B (decide (SideOk n side)))], [], 300⟩ rfl ?_ ?_
  · have hc := ref15_Check_ok n hl
    by_cases hn : NetVal n
    · rw [if_pos hn] at hc
      simp
      refine call0e hc (by simp) ?_
      simp
      refine call0e (ref11_Set_ok side n.nodes hs) (by simp) ?_
      simp
      refine gcase (fun hb => ?_) (fun hb => ?_) <;> (try rw [hb]) <;> (try simp at hb) <;> simp [hb]
      · refine call0e (has_ok side 0 hs) (by simp) ?_
        simp
        refine gcase (fun hb2 => ?_) (fun hb2 => ?_) <;> (try rw [hb2]) <;> (try simp at hb2) <;> simp [hb2]
        · refine call0e (has_ok side 1 hs) (by simp) ?_
          simp
          exact Le.snap [] rfl rfl (by simp [SideOk, hn, hb, hb2])
        · exact Le.snap [] rfl rfl (by simp [SideOk, hn, hb, hb2])
      · exact Le.snap [] rfl rfl (by simp [SideOk, hn, hb])
    · rw [if_neg hn] at hc
      simp
      refine call0e hc (by simp) ?_
      simp
      exact Le.snap [] rfl rfl (by simp [SideOk, hn])
  refine awp_ret ?_
  exact ⟨.inr rfl, RetOk.one (by simp)⟩
open Classical in
theorem ref16_Capacity_ok (n : Net) (side : List Int) (hl : n.arcs.length ≤ 1099511627776) (hs : side.length ≤ 140737488355328) : ACalls Tryz.prog nref16_Capacity [eN n, ints side] [] (.I (if SideOk n side then cutV n.arcs side else 0)) [] := by
  refine sref16_Capacity.acalls (Nat.le_of_ble_eq_true rfl) (Nat.le_of_ble_eq_true rfl) (Nat.le_refl _) ?_
  show awp _ 0 _ _ ⟨46, [(0, eN n), (1, ints side)], [], 16⟩
  refine rx (s := ?s1) [1, 2] [] [16] rfl ?o1 ?q1
  case o1 => simp; rfl
  refine awp_seq ?_
  refine rx (s := ?s2) [1, 2, 10] [] [] rfl ?o2 ?q2
  case o2 => simp; refine call0e (ref16_Valid_ok n side hl hs) (by simp) ?_; simp; rfl
  refine awp_cond _ rfl (fun h3 => ?_) fun h3 => ?_
  · simp at h3
    refine rx (s := ?s4) [4] [] [] rfl ?o4 ?q4
    case o4 => simp; rfl
    refine awp_ret ?_
    exact ⟨.inr rfl, RetOk.one (by simp [h3])⟩
  simp at h3
  have hb1 := h3.1.2.2.1
  refine awp_skip ?_
  refine rx (s := ?s5) [1, 2, 5] [] [] rfl ?o5 ?q5
  case o5 => simp; rfl
  refine awp_seq ?_
  refine rx (s := ?s6) [1, 2, 5, 6] [] [] rfl ?o6 ?q6
  case o6 => simp; rfl
  refine awp_block ?_
  refine awp_loop (ι := Nat) (fun i => ⟨46, [(1, ints side), (2, .pv (nC n)), (5, .I (cutV (n.arcs.take i) side)), (6, .I i)], [], 80⟩) (fun i => i ≤ n.arcs.length) (fun i => n.arcs.length - i) 0 (by simp) (Le.go [] [] rfl rfl (by simp [cutV]) (by simp)) ?_
  intro i hi
  have hcb := cutV_bound (n := n.nodes) (side := side) (arcs := n.arcs.take i) fun a ha => h3.1.2.2.2 a (List.mem_of_mem_take ha)
  have htl := List.length_take_le' i n.arcs
  refine awp_seq ?_
  refine rx (s := ?s7) [1, 2, 5, 6, 15] [] [] rfl ?o7 ?q7
  case o7 => simp; rfl
  refine awp_cond _ rfl (fun h7 => ?_) fun h7 => ?_
  · simp at h7
    have hw : IntKind.i64.wrap ((i : Int) + 1) = (i : Int) + 1 := w64 (by omega) (by omega)
    have hcs := cutV_succ n.arcs side i h7
    have hav := h3.1.2.2.2 _ (List.getElem_mem h7)
    have hwv : IntKind.i64.wrap (cutV (n.arcs.take i) side + n.arcs[i].v) = cutV (n.arcs.take i) side + n.arcs[i].v := w64 (by have := hav.2.2.2.2.2.2.2.1; omega) (by have := hav.2.2.2.2.2.2.2.2; omega)
    refine awp_skip ?_
    refine awp_cut (ι := Unit) (fun _ => ⟨46, [(1, ints side), (2, .pv (nC n)), (5, .I (cutV (n.arcs.take (i + 1)) side)), (6, .I i)], [], 400⟩) (fun _ => True) ?_ fun _ _ => ?_
    · refine awp_block ?_
      refine awp_regc ⟨46, [(1, ints side), (2, .pv (nC n)), (5, .I (cutV (n.arcs.take i) side)), (6, .I i), (36, .B (decide (n.arcs[i].f ∈ side ∧ n.arcs[i].t ∉ side)))], [], 300⟩ rfl ?_ ?_
      · simp [h7]
        refine call0e (has_ok side n.arcs[i].f hs) (by simp) ?_
        simp
        refine gcase (fun hb => ?_) (fun hb => ?_) <;> (try rw [hb]) <;> (try simp at hb) <;> simp [hb, h7]
        · refine call0e (has_ok side n.arcs[i].t hs) (by simp) ?_
          simp
          exact Le.snap [] rfl rfl (by simp [hb])
        · exact Le.snap [] rfl rfl (by simp [hb])
      refine awp_cond _ rfl (fun h8 => ?_) fun h8 => ?_
      · rw [decide_eq_true_eq] at h8
        rw [if_pos h8] at hcs
        refine awp_run (s := ?s9) rfl ?o9 ?q9
        case o9 => simp [h7]; rfl
        exact ⟨(), trivial, Le.go [] [] rfl rfl (by simp [hcs, hwv]) (by simp)⟩
      · rw [decide_eq_false_iff_not] at h8
        rw [if_neg h8] at hcs
        refine awp_skip ?_
        exact ⟨(), trivial, Le.go [] [] rfl rfl (by simp [hcs]) (by simp)⟩
    refine awp_run (s := ?s10) rfl ?o10 ?q10
    case o10 => simp; rfl
    exact ⟨i + 1, by omega, by omega, Le.go [] [] rfl rfl (by simp [hw]) (by simp)⟩
  simp at h7
  obtain rfl : i = n.arcs.length := by omega
  refine awp_exit ?_
  refine hit ?_
  refine rx (s := ?s11) [4] [] [] rfl ?o11 ?q11
  case o11 => simp; rfl
  refine awp_ret ?_
  exact ⟨.inr rfl, RetOk.one (by simp [h3])⟩
open Classical in
theorem ref16_Proves_ok (n : Net) (side : List Int) (most : Int) (hl : n.arcs.length ≤ 1099511627776) (hs : side.length ≤ 140737488355328) : ACalls Tryz.prog nref16_Proves [eN n, ints side, .I most] [] (.B (decide (ProvesP n side most))) [] := by
  refine sref16_Proves.acalls (Nat.le_of_ble_eq_true rfl) (Nat.le_of_ble_eq_true rfl) (Nat.le_refl _) ?_
  show awp _ 0 _ _ ⟨17, [(0, eN n), (1, ints side), (2, .I most)], [], 16⟩
  refine rx (s := ?s1) [1, 2, 3] [] [16] rfl ?o1 ?q1
  case o1 => simp; rfl
  refine awp_regc ⟨17, [(6, .B (decide (ProvesP n side most)))], [], 300⟩ rfl ?_ ?_
  · have hc := ref16_Capacity_ok n side hl hs
    simp
    refine call0e (ref16_Valid_ok n side hl hs) (by simp) ?_
    simp
    by_cases hv : SideOk n side
    · rw [if_pos hv] at hc
      simp [hv]
      refine call0e hc (by simp) ?_
      simp
      exact Le.snap [] rfl rfl (by simp [ProvesP, hv])
    · simp [hv]
      exact Le.snap [] rfl rfl (by simp [ProvesP, hv])
  refine awp_ret ?_
  exact ⟨.inr rfl, RetOk.one (by simp)⟩
end Go.Proofs.YtlhjelookgjmpaaGreat
namespace Go.Proofs.YtlhjelookgjmpaaGreat
open Go
def hereR (N : Nat) (s : List Int) : List (List AV) := (List.range N).map fun (k : Nat) => [AV.B (decide ((k : Int) ∈ s))]
theorem hereR_len (N : Nat) (s : List Int) : (hereR N s).length = N := by simp [hereR]
theorem hereR_nil (N : Nat) : hereR N [] = List.replicate N [AV.B false] := by
  unfold hereR
  simp [List.map_const']
theorem hereR_get {N k : Nat} (hk : k < N) (s : List Int) : (hereR N s)[k]? = some [AV.B (decide ((k : Int) ∈ s))] := by simp [hereR, hk]
@[simp] theorem hereR_at {N k : Nat} {s : List Int} (h : k < (hereR N s).length) : (hereR N s)[k] = [AV.B (decide ((k : Int) ∈ s))] := by simp [hereR]
theorem hereR_set {N k : Nat} (s : List Int) : (hereR N s).set k [AV.B true] = hereR N (s ++ [(k : Int)]) := by
  apply List.ext_getElem?
  intro i
  rw [List.getElem?_set]
  by_cases h : k = i
  · subst h
    rw [if_pos rfl]
    by_cases hk : k < N
    · rw [if_pos (by rw [hereR_len]; exact hk), hereR_get hk]
      simp
    · rw [if_neg (by rw [hereR_len]; exact hk)]
      simp [hereR, hk]
  · rw [if_neg h]
    unfold hereR
    simp only [List.getElem?_map]
    by_cases hi : i < N
    · simp [hi, show ¬ ((i : Int) = k) by omega]
    · simp [hi]
@[simp] theorem conv_hereR {ρ : List (Nat × Nat)} {sn : List Nat} {h : Nat → Option Ent} {N : Nat} {s : List Int} : (hereR N s).map (·.map (conv ρ sn h 4)) = hereR N s := by
  unfold hereR
  rw [List.map_map]
  rfl
set_option maxRecDepth 100000 in
open Classical in
theorem cut_Capacity_ok (n : Net) (side : List Int) (hl : n.arcs.length ≤ 1099511627776) (hs : side.length ≤ 140737488355328) : ACalls Tryz.prog ncut_Capacity [eN n, ints side] [] (.I (if SideOk n side then cutV n.arcs side else 0)) [] := by
  refine scut_Capacity.acalls (Nat.le_of_ble_eq_true rfl) (Nat.le_of_ble_eq_true rfl) (Nat.le_refl _) ?_
  show awp _ 0 _ _ ⟨54, [(0, eN n), (1, ints side)], [], 16⟩
  refine rx (s := ?s1) [1, 2] [] [16] rfl ?o1 ?q1
  case o1 => simp; rfl
  refine awp_seq ?_
  refine rx (s := ?s2) [1, 2, 14] [] [] rfl ?o2 ?q2
  case o2 => simp; refine call0e (cut_Valid_ok n side hl hs) (by simp) ?_; simp; rfl
  refine awp_cond _ rfl (fun h3 => ?_) fun h3 => ?_
  · simp at h3
    refine rx (s := ?s4) [4] [] [] rfl ?o4 ?q4
    case o4 => simp; rfl
    refine awp_ret ?_
    exact ⟨.inr rfl, RetOk.one (by simp [h3])⟩
  simp at h3
  have hb1 := h3.1.2.2.1
  have hn2 := h3.1.1
  have hn3 := h3.1.2.1
  obtain ⟨N, hN, hN3⟩ : ∃ N : Nat, n.nodes = N ∧ N ≤ 130 := ⟨n.nodes.toNat, by omega, by omega⟩
  have hside : ∀ k ∈ side, ∃ j : Nat, k = j ∧ j < N := fun k hk => by
    obtain ⟨i, hi, rfl⟩ := List.getElem_of_mem hk
    have := (h3.2.1 i hi)
    exact ⟨side[i].toNat, by omega, by omega⟩
  refine awp_skip ?_
  refine awp_regc ⟨54, [(1, ints side), (2, .pv (nC n)), (5, .rs 80 0 N)], [(80, some ⟨1, hereR N [], 0⟩)], 96⟩ rfl ?_ ?_
  · rw [hereR_nil]
    simp [hN]
    refine ⟨by omega, ?_⟩
    exact Le.keep rfl (Nat.le_refl _) (by simp [hN]) (by simp [hN])
  refine awp_seq ?_
  refine rk (s := ?s5) [1, 2, 5, 18, 19, 20] [80] rfl ?o5 ?q5
  case o5 => simp; rfl
  refine awp_block ?_
  refine awp_loop (ι := Nat) (fun i => ⟨54, [(1, ints side), (2, .pv (nC n)), (5, .rs 80 0 N), (18, ints side), (19, .I side.length), (20, .I i)], [(80, some ⟨1, hereR N (side.take i), 0⟩)], 120⟩) (fun i => i ≤ side.length) (fun i => side.length - i) 0 (by simp) (Le.keep rfl (Nat.le_refl _) (by simp) (by simp)) ?_
  intro i hi
  refine rk (s := ?s6) [1, 2, 5, 18, 19, 20, 21] [80] rfl ?o6 ?q6
  case o6 => simp; rfl
  refine awp_seq ?_
  refine awp_cond _ rfl (fun h7 => ?_) fun h7 => ?_
  · simp at h7
    have hw : IntKind.i64.wrap ((i : Int) + 1) = (i : Int) + 1 := w64 (by omega) (by omega)
    obtain ⟨j, hj, hjN⟩ := hside _ (List.getElem_mem h7)
    have hset : (hereR N (side.take i)).set j [AV.sc (.bool true)] = hereR N (side.take (i + 1)) := by
      rw [List.take_succ_eq_append_getElem h7, hj]
      exact hereR_set _
    refine awp_skip ?_
    refine awp_seq ?_
    refine awp_block ?_
    refine rk (s := ?s8) [1, 2, 5, 7, 18, 19, 20] [80] rfl ?o8 ?q8
    case o8 => simp [h7, hj]; rfl
    refine awp_run (s := ?s9) rfl ?o9 ?q9
    case o9 => simp [hjN, hereR_len, hset]; rfl
    refine awp_run (s := ?s10) rfl ?o10 ?q10
    case o10 => simp [hw]; rfl
    exact ⟨i + 1, by omega, by omega, Le.go [(80, 80)] [] rfl rfl (by simp) (by simp)⟩
  simp at h7
  obtain rfl : i = side.length := by omega
  rw [List.take_of_length_le (Nat.le_refl _)]
  refine awp_exit ?_
  refine hit ?_
  refine rk (s := ?s11) [1, 2, 5, 8] [80] rfl ?o11 ?q11
  case o11 => simp; rfl
  refine awp_seq ?_
  refine rk (s := ?s12) [5, 8, 29, 30, 31] [80] rfl ?o12 ?q12
  case o12 => simp; rfl
  refine awp_block ?_
  refine awp_loop (ι := Nat) (fun i => ⟨54, [(5, .rs 80 0 N), (8, .I (cutV (n.arcs.take i) side)), (29, eEs n.arcs), (30, .I n.arcs.length), (31, .I i)], [(80, some ⟨1, hereR N side, 0⟩)], 168⟩) (fun i => i ≤ n.arcs.length) (fun i => n.arcs.length - i) 0 (by simp) (Le.go [(80, 80)] [] rfl rfl (by simp [cutV]) (by simp)) ?_
  intro i hi
  have hcb := cutV_bound (n := n.nodes) (side := side) (arcs := n.arcs.take i) fun a ha => h3.1.2.2.2 a (List.mem_of_mem_take ha)
  have htl := List.length_take_le' i n.arcs
  refine rk (s := ?s13) [5, 8, 29, 30, 31, 32] [80] rfl ?o13 ?q13
  case o13 => simp; rfl
  refine awp_seq ?_
  refine awp_cond _ rfl (fun h7 => ?_) fun h7 => ?_
  · simp at h7
    have hw : IntKind.i64.wrap ((i : Int) + 1) = (i : Int) + 1 := w64 (by omega) (by omega)
    have hcs := cutV_succ n.arcs side i h7
    have hav := h3.1.2.2.2 _ (List.getElem_mem h7)
    have hwv : IntKind.i64.wrap (cutV (n.arcs.take i) side + n.arcs[i].v) = cutV (n.arcs.take i) side + n.arcs[i].v := w64 (by have := hav.2.2.2.2.2.2.2.1; omega) (by have := hav.2.2.2.2.2.2.2.2; omega)
    obtain ⟨x, hx⟩ : ∃ x, x = n.arcs[i] := ⟨_, rfl⟩
    rw [← hx] at hcs hav hwv
    obtain ⟨f, hf, hfN⟩ : ∃ f : Nat, x.f = f ∧ f < N := ⟨x.f.toNat, by have := hav.1; omega, by have := hav.1; have := hav.2.1; omega⟩
    obtain ⟨u, hu, huN⟩ : ∃ u : Nat, x.t = u ∧ u < N := ⟨x.t.toNat, by have := hav.2.2.1; omega, by have := hav.2.2.1; have := hav.2.2.2.1; omega⟩
    refine awp_skip ?_
    refine awp_cut (ι := Unit) (fun _ => ⟨54, [(5, .rs 80 0 N), (8, .I (cutV (n.arcs.take (i + 1)) side)), (29, eEs n.arcs), (30, .I n.arcs.length), (31, .I i)], [(80, some ⟨1, hereR N side, 0⟩)], 400⟩) (fun _ => True) ?_ fun _ _ => ?_
    · refine awp_block ?_
      refine awp_regc ⟨54, [(5, .rs 80 0 N), (8, .I (cutV (n.arcs.take i) side)), (10, .pv (eC x)), (29, eEs n.arcs), (30, .I n.arcs.length), (31, .I i)], [(80, some ⟨1, hereR N side, 0⟩)], 208⟩ rfl ?_ ?_
      · simp [h7, ← hx]
        exact Le.go [(80, 80)] [192] rfl rfl (by simp) (by simp)
      refine awp_regc ⟨54, [(5, .rs 80 0 N), (8, .I (cutV (n.arcs.take i) side)), (10, .pv (eC x)), (29, eEs n.arcs), (30, .I n.arcs.length), (31, .I i), (47, .B (decide ((f : Int) ∈ side ∧ (u : Int) ∉ side)))], [(80, some ⟨1, hereR N side, 0⟩)], 312⟩ rfl ?_ ?_
      · simp [hf, hu, hfN, huN, hereR_len]
        refine gcase (fun hb => ?_) (fun hb => ?_) <;> (try rw [hb]) <;> (try simp at hb) <;> simp [hb, hu, huN, hereR_len]
        · exact Le.go [(80, 80)] [] rfl rfl (by simp [hb]) (by simp)
        · exact Le.go [(80, 80)] [] rfl rfl (by simp [hb]) (by simp)
      rw [← hf, ← hu]
      refine awp_cond _ rfl (fun h8 => ?_) fun h8 => ?_
      · rw [decide_eq_true_eq] at h8
        rw [if_pos h8] at hcs
        refine awp_run (s := ?s14) rfl ?o14 ?q14
        case o14 => simp; rfl
        exact ⟨(), trivial, Le.go [(80, 80)] [] rfl rfl (by simp [hcs, hwv]) (by simp)⟩
      · rw [decide_eq_false_iff_not] at h8
        rw [if_neg h8] at hcs
        refine awp_skip ?_
        exact ⟨(), trivial, Le.go [(80, 80)] [] rfl rfl (by simp [hcs]) (by simp)⟩
    refine awp_run (s := ?s15) rfl ?o15 ?q15
    case o15 => simp; rfl
    exact ⟨i + 1, by omega, by omega, Le.go [(80, 80)] [] rfl rfl (by simp [hw]) (by simp)⟩
  simp at h7
  obtain rfl : i = n.arcs.length := by omega
  refine awp_exit ?_
  refine hit ?_
  refine rk (s := ?s16) [4] [] rfl ?o16 ?q16
  case o16 => simp; rfl
  refine awp_ret ?_
  exact ⟨.inr rfl, RetOk.one (by simp [h3])⟩
open Classical in
theorem cut_Proves_ok (n : Net) (side : List Int) (most : Int) (hl : n.arcs.length ≤ 1099511627776) (hs : side.length ≤ 140737488355328) : ACalls Tryz.prog ncut_Proves [eN n, ints side, .I most] [] (.B (decide (ProvesP n side most))) [] := by
  refine scut_Proves.acalls (Nat.le_of_ble_eq_true rfl) (Nat.le_of_ble_eq_true rfl) (Nat.le_refl _) ?_
  show awp _ 0 _ _ ⟨17, [(0, eN n), (1, ints side), (2, .I most)], [], 16⟩
  refine rx (s := ?s1) [1, 2, 3] [] [16] rfl ?o1 ?q1
  case o1 => simp; rfl
  refine awp_regc ⟨17, [(6, .B (decide (ProvesP n side most)))], [], 300⟩ rfl ?_ ?_
  · have hc := cut_Capacity_ok n side hl hs
    simp
    refine call0e (cut_Valid_ok n side hl hs) (by simp) ?_
    simp
    by_cases hv : SideOk n side
    · rw [if_pos hv] at hc
      simp [hv]
      refine call0e hc (by simp) ?_
      simp
      exact Le.snap [] rfl rfl (by simp [ProvesP, hv])
    · simp [hv]
      exact Le.snap [] rfl rfl (by simp [ProvesP, hv])
  refine awp_ret ?_
  exact ⟨.inr rfl, RetOk.one (by simp)⟩
end Go.Proofs.YtlhjelookgjmpaaGreat
namespace Go.Proofs.YtlhjelookgjmpaaGreat
open Go
section
variable {P : Program} {np id : Nat} {h : Nat → Option Ent} {K : AV → List Nat → List (Nat × Option Ent) → Prop} {f : FuncId} {first capt args args' : List AV} {res : AV}
theorem callM2 {i j : Nat} {e1 e2 e1' e2' : Ent} {hs' : List (Option Ent)} (hij : i ≠ j) (h1 : h i = some e1) (h2 : h j = some e2) (he1 : convE [(i, 0), (j, 1)] [] h 4 e1 = e1') (he2 : convE [(i, 0), (j, 1)] [] h 4 e2 = e2')
    (hc : ACalls P f args' [e1', e2'] res hs') (h8 : hs'.length ≤ 10) (he : (first ++ args ++ capt).map (conv [(i, 0), (j, 1)] [] h 4) = args')
    (hk : K (conv (swp [i, j] id) [] (fun _ => none) 4 res) [i, j] (hs'.zipIdx.map fun (e, k) => ((i :: j :: (List.range 8).map (id + ·)).getD k 0, e.map (convE (swp [i, j] id) [] (fun _ => none) 4)))) : aK P np id .call (.fn (.func f) first capt :: args) h K :=
  ⟨[i, j], [], true, args', [e1', e2'], res, hs', by simp [hij], by simp, by simp, by rw [show [i, j].zipIdx = [(i, 0), (j, 1)] from rfl, he]; exact wkL_refl _, by
    rw [show [i, j].zipIdx = [(i, 0), (j, 1)] from rfl]
    simp only [List.map_cons, List.map_nil, h1, h2, Option.map_some, he1, he2], hc, by simpa using h8, .inl rfl, by simpa [swp] using hk⟩
end
theorem split_Entry_ok (k : Int) (h : 0 ≤ k) (h2 : k ≤ 1000000) : ACalls Tryz.prog nsplit_Entry [.I k] [] (.I (2 + 2 * k)) [] := by
  refine ssplit_Entry.acalls (Nat.le_of_ble_eq_true rfl) (Nat.le_of_ble_eq_true rfl) (Nat.le_refl _) ?_
  show awp _ 0 _ _ ⟨6, [(0, .I k)], [], 16⟩
  have hw1 : IntKind.i64.wrap (2 * k) = 2 * k := w64 (by omega) (by omega)
  have hw2 : IntKind.i64.wrap (2 + 2 * k) = 2 + 2 * k := w64 (by omega) (by omega)
  refine rx (s := ?s1) [0] [] [] rfl ?o1 ?q1
  case o1 => simp; rfl
  refine rx (s := ?s2) [2] [] [] rfl ?o2 ?q2
  case o2 => simp [hw1, hw2]; rfl
  refine awp_ret ?_
  exact ⟨.inr rfl, RetOk.one (by simp)⟩
theorem split_Exit_ok (k : Int) (h : 0 ≤ k) (h2 : k ≤ 1000000) : ACalls Tryz.prog nsplit_Exit [.I k] [] (.I (3 + 2 * k)) [] := by
  refine ssplit_Exit.acalls (Nat.le_of_ble_eq_true rfl) (Nat.le_of_ble_eq_true rfl) (Nat.le_refl _) ?_
  show awp _ 0 _ _ ⟨_, [(0, .I k)], [], 16⟩
  have hw2 : IntKind.i64.wrap (2 + 2 * k + 1) = 3 + 2 * k := by rw [w64 (by omega) (by omega)]; omega
  refine rx (s := ?s1) [0] [] [] rfl ?o1 ?q1
  case o1 => simp; rfl
  refine rx (s := ?s2) [2] [] [] rfl ?o2 ?q2
  case o2 => simp; refine call0e (split_Entry_ok k h h2) (by simp) ?_; simp [hw2]; rfl
  refine awp_ret ?_
  exact ⟨.inr rfl, RetOk.one (by simp)⟩
theorem ref14_Entry_ok (k : Int) (h : 0 ≤ k) (h2 : k ≤ 1000000) : ACalls Tryz.prog nref14_Entry [.I k] [] (.I (2 + 2 * k)) [] := by
  refine sref14_Entry.acalls (Nat.le_of_ble_eq_true rfl) (Nat.le_of_ble_eq_true rfl) (Nat.le_refl _) ?_
  show awp _ 0 _ _ ⟨_, [(0, .I k)], [], 16⟩
  have hw1 : IntKind.i64.wrap (2 * k) = 2 * k := w64 (by omega) (by omega)
  have hw2 : IntKind.i64.wrap (2 + 2 * k) = 2 + 2 * k := w64 (by omega) (by omega)
  refine rx (s := ?s1) [0] [] [] rfl ?o1 ?q1
  case o1 => simp; rfl
  refine rx (s := ?s2) [2] [] [] rfl ?o2 ?q2
  case o2 => simp [hw1, hw2]; rfl
  refine awp_ret ?_
  exact ⟨.inr rfl, RetOk.one (by simp)⟩
theorem ref14_Exit_ok (k : Int) (h : 0 ≤ k) (h2 : k ≤ 1000000) : ACalls Tryz.prog nref14_Exit [.I k] [] (.I (3 + 2 * k)) [] := by
  refine sref14_Exit.acalls (Nat.le_of_ble_eq_true rfl) (Nat.le_of_ble_eq_true rfl) (Nat.le_refl _) ?_
  show awp _ 0 _ _ ⟨_, [(0, .I k)], [], 16⟩
  have hw1 : IntKind.i64.wrap (2 * k) = 2 * k := w64 (by omega) (by omega)
  have hw2 : IntKind.i64.wrap (3 + 2 * k) = 3 + 2 * k := w64 (by omega) (by omega)
  refine rx (s := ?s1) [0] [] [] rfl ?o1 ?q1
  case o1 => simp; rfl
  refine rx (s := ?s2) [2] [] [] rfl ?o2 ?q2
  case o2 => simp [hw1, hw2]; rfl
  refine awp_ret ?_
  exact ⟨.inr rfl, RetOk.one (by simp)⟩
abbrev outV (N : Int) (B n : Nat) : Ent := ⟨2, [[.I N, .rs B 0 n]], 0⟩
theorem arc_ok (N f t v : Int) (L : List Ed) (n : Nat) (hL : L.length = n) (hn : n ≤ 1000000) : ACalls Tryz.prog nsplit_Network_c1 [.I f, .I t, .I v, .pt 0 0 0] [outV N 1 n, ⟨3, rowsE L, 0⟩] (.tup []) [some (outV N 2 (n + 1)), none, some ⟨3, rowsE (L ++ [⟨f, t, v⟩]), 0⟩] := by
  refine ssplit_Network_c1.acalls (Nat.le_of_ble_eq_true rfl) (Nat.le_of_ble_eq_true rfl) (Nat.le_of_ble_eq_true rfl) ?_
  show awp _ 2 _ _ ⟨16, [(0, .I f), (1, .I t), (2, .I v), (3, .pt 0 0 0)], [(0, some (outV N 1 n)), (1, some ⟨3, rowsE L, 0⟩)], 16⟩
  have htl : ∀ f : Ed → List AV, List.take n (List.map f L) = List.map f L := fun f => List.take_of_length_le (by simp [hL])
  refine awp_run (s := ?s1) rfl ?o1 ?q1
  case o1 => simp [hL, htl]; refine ⟨by omega, by omega, ?_⟩; rfl
  refine ⟨.inl rfl, ⟨[], rfl, [72], [], by simp [List.range, List.range.loop], by simp, by simp, by simp, ?_⟩⟩
  simp [List.range, List.range.loop]
end Go.Proofs.YtlhjelookgjmpaaGreat
namespace Go.Proofs.YtlhjelookgjmpaaGreat
open Go
def arc1 (c : List Int) (x : Int) : List Ed := if 0 < c.getD x.toNat 0 then [⟨0, 2 + 2 * x, c.getD x.toNat 0⟩] else []
def arc2 (c : List Int) (i : Nat) : List Ed := if 0 < c.getD i 0 then [⟨2 + 2 * (i : Int), 3 + 2 * (i : Int), c.getD i 0 - 1⟩] else []
def arc3 (c : List Int) (x : Int) : List Ed := if 0 < c.getD x.toNat 0 then [⟨2 + 2 * x, 1, 1⟩] else []
def arc4 (c : List Int) (e : Ed) : List Ed := if 0 < c.getD e.f.toNat 0 then [⟨3 + 2 * e.f, 2 + 2 * e.t, 64⟩] else []
theorem filter_map_flat {α : Type} (q : α → Bool) (f : α → Ed) (l : List α) : (l.filter q).map f = l.flatMap fun x => if q x = true then [f x] else [] := by
  induction l with
  | nil => rfl
  | cons x l ih => by_cases h : q x = true <;> simp [h, ih]
theorem netArcs_flat (g : Gr) (p : Pol) (c sinks : List Int) : netArcs g p c sinks = p.seeds.flatMap (arc1 c) ++ (List.range c.length).flatMap (arc2 c) ++ sinks.flatMap (arc3 c) ++ (levelG g p.lv).edges.flatMap (arc4 c) := by
  unfold netArcs
  rw [filter_map_flat, filter_map_flat, filter_map_flat, filter_map_flat]
  simp only [decide_eq_true_eq]
  rfl
theorem flat_succ {α : Type} (f : α → List Ed) (l : List α) (i : Nat) (h : i < l.length) : (l.take (i + 1)).flatMap f = (l.take i).flatMap f ++ f l[i] := by
  rw [List.take_succ_eq_append_getElem h, List.flatMap_append]
  simp
theorem flat_len {α : Type} (f : α → List Ed) (hf : ∀ x, (f x).length ≤ 1) (l : List α) : (l.flatMap f).length ≤ l.length := by
  induction l with
  | nil => simp
  | cons x l ih => rw [List.flatMap_cons, List.length_append, List.length_cons]; have := hf x; omega
theorem arc1_len (c : List Int) (x : Int) : (arc1 c x).length ≤ 1 := by unfold arc1; split <;> simp
theorem arc2_len (c : List Int) (x : Nat) : (arc2 c x).length ≤ 1 := by unfold arc2; split <;> simp
theorem arc3_len (c : List Int) (x : Int) : (arc3 c x).length ≤ 1 := by unfold arc3; split <;> simp
theorem arc4_len (c : List Int) (x : Ed) : (arc4 c x).length ≤ 1 := by unfold arc4; split <;> simp
theorem flat_take_len {α : Type} (f : α → List Ed) (hf : ∀ x, (f x).length ≤ 1) (l : List α) (i : Nat) : ((l.take i).flatMap f).length ≤ l.length := Nat.le_trans (flat_len f hf _) (List.length_take_le' i l)
set_option maxRecDepth 100000 in
set_option maxHeartbeats 4000000 in
theorem split_Network_ok (g : Gr) (p : Pol) (sinks : List Int) (hg : GrOk g) (hp : PolOk g.size p) (hr : Rise sinks 0 (g.size - 1)) (hs : p.seeds.length ≤ 64) (hsl : sinks.length ≤ 64) :
    ACalls Tryz.prog nsplit_Network [eG g, eP p, ints sinks] [] (.tup [eN ⟨2 + 2 * g.size, netArcs g p (capsL g p) sinks⟩, .I 0]) [] := by
  refine ssplit_Network.acalls (Nat.le_of_ble_eq_true rfl) (Nat.le_of_ble_eq_true rfl) (Nat.le_refl _) ?_
  show awp _ 0 _ _ ⟨123, [(0, eG g), (1, eP p), (2, ints sinks)], [], 16⟩
  have hsz := hg.1.1
  have hsz2 := hg.1.2.1
  have hel := hg.edges_le
  have hgl := hg.gone_le
  have hchk := capacity_Check_ok g p (by omega) (by omega) (by omega) (by have := hp.2.2.2.1; omega)
  rw [if_pos hg, if_pos hp] at hchk
  have hcap := capacity_All_ok g p hg (by omega)
  have hcb := capsL_bound (g := g) hp
  have hcl : (capsL g p).length = g.size.toNat := capsL_len
  rw [← hcl] at hcap
  have hlev := graph_Level_ok g p.lv (by omega) (by omega)
  rw [netArcs_flat]
  obtain ⟨C, hC⟩ : ∃ C, C = capsL g p := ⟨_, rfl⟩
  rw [← hC] at hcap hcl hcb ⊢
  have hGe : ∀ e ∈ (levelG g p.lv).edges, e ∈ g.edges := fun e he => (List.mem_filter.1 he).1
  have hGl : (levelG g p.lv).edges.length ≤ 500 := Nat.le_trans (List.length_filter_le ..) hel
  obtain ⟨G, hG⟩ : ∃ G, G = levelG g p.lv := ⟨_, rfl⟩
  rw [← hG] at hlev hGe hGl ⊢
  have hw1 : IntKind.i64.wrap (g.size - 1) = g.size - 1 := w64 (by omega) (by omega)
  have hfit : ∀ e ∈ G.edges, (0 ≤ e.f ∧ e.f < g.size) ∧ (0 ≤ e.t ∧ e.t < g.size) := fun e he => by
    have := hg.fits e (hGe e he)
    unfold Fits at this
    omega
  have hkey : ∀ k : Int, 0 ≤ k → k < g.size → ∃ j : Nat, k = j ∧ j < C.length ∧ j < 64 := fun k h0 h1 => ⟨k.toNat, by omega, by omega, by omega⟩
  have hseed : ∀ k ∈ p.seeds, ∃ j : Nat, k = j ∧ j < C.length ∧ j < 64 := fun k hk => by
    obtain ⟨i, hi, rfl⟩ := List.getElem_of_mem hk
    have := hp.2.1 i hi
    exact hkey _ (by omega) (by omega)
  have hsink : ∀ k ∈ sinks, ∃ j : Nat, k = j ∧ j < C.length ∧ j < 64 := fun k hk => by
    obtain ⟨i, hi, rfl⟩ := List.getElem_of_mem hk
    have := hr i hi
    exact hkey _ (by omega) (by omega)
  refine awp_regc ⟨123, [(2, ints sinks), (3, .pv (gC g)), (4, .pv (pC p)), (6, .pt 32 0 0)], [(32, some ⟨2, [[.I 0, .nilS]], 0⟩)], 48⟩ rfl ?_ ?_
  · simp
    exact Le.go [(32, 32)] [16, 24] rfl rfl (by simp) (by simp)
  refine awp_seq ?_
  refine rk (s := ?s2) [2, 3, 4, 6, 8] [32] rfl ?o2 ?q2
  case o2 => simp; refine call0e hchk (by simp) ?_; simp; rfl
  refine rk (s := ?s3) [2, 3, 4, 6, 24] [32] rfl ?o3 ?q3
  case o3 => simp; rfl
  refine awp_cond _ rfl (fun h4 => ?_) fun h4 => awp_skip ?_
  · simp at h4
  refine awp_seq ?_
  refine rk (s := ?s5) [2, 3, 4, 6, 32] [32] rfl ?o5 ?q5
  case o5 => simp [hw1]; refine call0e (lists_Rising_ok sinks 0 (g.size - 1) (by omega)) (by simp) ?_; simp [hr]; rfl
  refine awp_cond _ rfl (fun h6 => ?_) fun h6 => awp_skip ?_
  · simp at h6
  refine rk (s := ?s7) [2, 3, 4, 6, 9] [32, 176] rfl ?o7 ?q7
  case o7 => simp; refine call0e (split_Entry_ok g.size hsz (by omega)) (by simp) ?_; simp; rfl
  obtain ⟨N, hN⟩ : ∃ N : Int, N = 2 + 2 * g.size := ⟨_, rfl⟩
  simp only [← hN]
  refine rk (s := ?s8) [2, 3, 4, 6, 9, 10] [32, 176] rfl ?o8 ?q8
  case o8 => simp; rfl
  refine awp_regc ⟨123, [(2, ints sinks), (3, .pv (gC g)), (4, .pv (pC p)), (6, .pt 32 0 0), (9, .pt 176 0 0), (10, .fn (.func nsplit_Network_c1) [] [.pt 176 0 0]), (11, ints C)], [(32, some ⟨2, [[.I 0, .nilS]], 0⟩), (176, some ⟨2, [[.I N, .nilS]], 0⟩)], 240⟩ rfl ?_ ?_
  · simp
    refine callN1 hcap (by simp) ?_
    simp [Function.comp_def]
    exact Le.go [(32, 32), (176, 176)] [224] rfl rfl (by simp [Function.comp_def, take_map_len]) (by simp)
  have hb1 : (p.seeds.flatMap (arc1 C)).length ≤ 64 := Nat.le_trans (flat_len _ (arc1_len C) _) hs
  have hb2 : ((List.range C.length).flatMap (arc2 C)).length ≤ 64 := Nat.le_trans (flat_len _ (arc2_len C) _) (by rw [List.length_range]; omega)
  have hb3 : (sinks.flatMap (arc3 C)).length ≤ 64 := Nat.le_trans (flat_len _ (arc3_len C) _) hsl
  have hb4 : (G.edges.flatMap (arc4 C)).length ≤ 500 := Nat.le_trans (flat_len _ (arc4_len C) _) hGl
  obtain ⟨X1, hX1⟩ : ∃ X, X = p.seeds.flatMap (arc1 C) := ⟨_, rfl⟩
  obtain ⟨X2, hX2⟩ : ∃ X, X = (List.range C.length).flatMap (arc2 C) := ⟨_, rfl⟩
  obtain ⟨X3, hX3⟩ : ∃ X, X = sinks.flatMap (arc3 C) := ⟨_, rfl⟩
  obtain ⟨X4, hX4⟩ : ∃ X, X = G.edges.flatMap (arc4 C) := ⟨_, rfl⟩
  obtain ⟨Z2, hZ2⟩ : ∃ Z, Z = X1 ++ X2 := ⟨_, rfl⟩
  obtain ⟨Z3, hZ3⟩ : ∃ Z, Z = Z2 ++ X3 := ⟨_, rfl⟩
  obtain ⟨Z4, hZ4⟩ : ∃ Z, Z = Z3 ++ X4 := ⟨_, rfl⟩
  rw [← hX1] at hb1
  rw [← hX2] at hb2
  rw [← hX3] at hb3
  rw [← hX4] at hb4
  rw [← hX1, ← hX2, ← hX3, ← hX4, ← hZ2, ← hZ3, ← hZ4]
  have hz2 : Z2.length ≤ 128 := by rw [hZ2, List.length_append]; omega
  have hz3 : Z3.length ≤ 192 := by rw [hZ3, List.length_append]; omega
  refine awp_seq ?_
  refine rk (s := ?sa1) [2, 3, 4, 6, 9, 10, 11, 43, 44, 45] [32, 176] rfl ?oa1 ?qa1
  case oa1 => simp; rfl
  refine awp_block ?_
  obtain ⟨Fa, Fa0, Fas, Fal, FaN⟩ : ∃ F : Nat → List Ed, F 0 = [] ∧ (∀ i (h : i < (p.seeds).length), F (i + 1) = F i ++ arc1 C (p.seeds)[i]) ∧ (∀ i, (F i).length ≤ 64) ∧ F (p.seeds).length = (p.seeds).flatMap (arc1 C) :=
    ⟨fun i => ((p.seeds).take i).flatMap (arc1 C), by simp, fun i h => by simp only [flat_succ _ _ i h, List.append_assoc], fun i => by have := flat_take_len _ (arc1_len C) (p.seeds) i; exact Nat.le_trans this hs, by simp⟩
  rw [← hX1] at FaN
  refine awp_loop (ι := Nat) (fun i => ⟨123, [(2, ints sinks), (3, .pv (gC g)), (4, .pv (pC p)), (6, .pt 32 0 0), (9, .pt 176 0 0), (10, .fn (.func nsplit_Network_c1) [] [.pt 176 0 0]), (11, ints C), (43, ints p.seeds), (44, .I p.seeds.length), (45, .I i)], [(32, some ⟨2, [[.I 0, .nilS]], 0⟩), (176, some (outV N 16 (Fa i).length)), (16, some ⟨3, rowsE (Fa i), 0⟩)], 272⟩) (fun i => i ≤ p.seeds.length) (fun i => p.seeds.length - i) 0 (Nat.zero_le _) (Le.lst [(32, 32), (176, 176)] [] [(16, 3)] rfl (by simp) (by simp) (by simp) (by simp) (by simp) (by simp) (by simp) (by simp [Up]) (by simp [Fa0]; refine ⟨EntUp.rfl' (by simp), EntUp.row rfl (by omega) (by simp [UpL, Up])⟩)) ?_
  intro i hi
  refine rk (s := ?sa2) [2, 3, 4, 6, 9, 10, 11, 43, 44, 45, 46] [32, 176, 16] rfl ?oa2 ?qa2
  case oa2 => simp; rfl
  refine awp_seq ?_
  refine awp_cond _ rfl (fun h7 => ?_) fun h7 => ?_
  · simp at h7
    have hw : IntKind.i64.wrap ((i : Int) + 1) = (i : Int) + 1 := w64 (by omega) (by omega)
    have hFi := Fal i
    obtain ⟨k, hk, hkC, hk64⟩ := hseed _ (List.getElem_mem h7)
    have hFn : Fa (i + 1) = Fa i ++ if 0 < C[k] then [⟨0, 2 + 2 * (k : Int), C[k]⟩] else [] := by
      rw [Fas i h7, hk]
      unfold arc1
      simp [hkC]
    refine awp_skip ?_
    refine awp_cut (ι := Unit) (fun _ => ⟨123, [(2, ints sinks), (3, .pv (gC g)), (4, .pv (pC p)), (6, .pt 32 0 0), (9, .pt 176 0 0), (10, .fn (.func nsplit_Network_c1) [] [.pt 176 0 0]), (11, ints C), (43, ints p.seeds), (44, .I p.seeds.length), (45, .I i)], [(32, some ⟨2, [[.I 0, .nilS]], 0⟩), (176, some (outV N 16 (Fa (i + 1)).length)), (16, some ⟨3, rowsE (Fa (i + 1)), 0⟩)], 700⟩) (fun _ => True) ?_ fun _ _ => ?_
    · refine awp_block ?_
      refine rk (s := ?sa3) [2, 3, 4, 6, 9, 10, 11, 13, 43, 44, 45] [32, 176, 16] rfl ?oa3 ?qa3
      case oa3 => simp [h7, hk]; rfl
      refine rk (s := ?sa4) [2, 3, 4, 6, 9, 10, 11, 13, 43, 44, 45, 53] [32, 176, 16] rfl ?oa4 ?qa4
      case oa4 => simp [hkC]; rfl
      refine awp_cond _ rfl (fun h8 => ?_) fun h8 => ?_
      · simp at h8
        rw [if_pos h8] at hFn
        refine awp_drw rfl ?_
        simp [hkC]
        refine call0e (split_Entry_ok k (by omega) (by omega)) (by simp) ?_
        simp [hkC]
        refine callM2 (i := 176) (j := 16) (by decide) rfl rfl (e1' := outV N 1 (Fa i).length) (e2' := ⟨3, rowsE (Fa i), 0⟩) (by simp) (by simp [Function.comp_def]) (arc_ok N 0 (2 + 2 * (k : Int)) C[k] (Fa i) _ rfl (by omega)) (by simp) (by simp) ?_
        simp [Function.comp_def]
        exact ⟨rfl, Le.go [(32, 32), (176, 176), (400, 16)] [] rfl rfl (by simp [hFn]) (by simp [hFn, Function.comp_def])⟩
      · simp at h8
        rw [if_neg (by omega)] at hFn
        refine awp_skip ?_
        exact ⟨(), trivial, Le.go [(32, 32), (176, 176), (16, 16)] [] rfl rfl (by simp [hFn]) (by simp [hFn, Function.comp_def])⟩
    refine awp_run (s := ?sa9) rfl ?oa9 ?qa9
    case oa9 => simp; rfl
    exact ⟨i + 1, by omega, by omega, Le.go [(32, 32), (176, 176), (16, 16)] [] rfl rfl (by simp [hw]) (by simp [Function.comp_def])⟩
  simp at h7
  obtain rfl : i = p.seeds.length := by omega
  rw [FaN]
  refine awp_exit ?_
  refine hit ?_
  refine awp_seq ?_
  refine rk (s := ?sb1) [2, 3, 4, 6, 9, 10, 11, 63, 64, 65] [32, 176, 16] rfl ?ob1 ?qb1
  case ob1 => simp; rfl
  refine awp_block ?_
  obtain ⟨Fb, Fb0, Fbs, Fbl, FbN⟩ : ∃ F : Nat → List Ed, F 0 = X1 ∧ (∀ i (h : i < (List.range C.length).length), F (i + 1) = F i ++ arc2 C (List.range C.length)[i]) ∧ (∀ i, (F i).length ≤ 200) ∧ F (List.range C.length).length = X1 ++ (List.range C.length).flatMap (arc2 C) :=
    ⟨fun i => X1 ++ ((List.range C.length).take i).flatMap (arc2 C), by simp, fun i h => by simp only [flat_succ _ _ i h, List.append_assoc], fun i => by have := flat_take_len _ (arc2_len C) (List.range C.length) i; rw [List.length_range] at this; rw [List.length_append]; omega, by simp⟩
  rw [List.length_range, ← hX2, ← hZ2] at FbN
  refine awp_loop (ι := Nat) (fun i => ⟨123, [(2, ints sinks), (3, .pv (gC g)), (4, .pv (pC p)), (6, .pt 32 0 0), (9, .pt 176 0 0), (10, .fn (.func nsplit_Network_c1) [] [.pt 176 0 0]), (11, ints C), (63, ints C), (64, .I C.length), (65, .I i)], [(32, some ⟨2, [[.I 0, .nilS]], 0⟩), (176, some (outV N 16 (Fb i).length)), (16, some ⟨3, rowsE (Fb i), 0⟩)], 304⟩) (fun i => i ≤ C.length) (fun i => C.length - i) 0 (Nat.zero_le _) (Le.go [(32, 32), (176, 176), (16, 16)] [] rfl rfl (by simp [Fb0]) (by simp [Fb0, Function.comp_def])) ?_
  intro i hi
  refine rk (s := ?sb2) [2, 3, 4, 6, 9, 10, 11, 63, 64, 65, 66] [32, 176, 16] rfl ?ob2 ?qb2
  case ob2 => simp; rfl
  refine awp_seq ?_
  refine awp_cond _ rfl (fun h7 => ?_) fun h7 => ?_
  · simp at h7
    have hw : IntKind.i64.wrap ((i : Int) + 1) = (i : Int) + 1 := w64 (by omega) (by omega)
    have hFi := Fbl i
    have hkC := h7
    have hFn : Fb (i + 1) = Fb i ++ if 0 < C[i] then [⟨2 + 2 * (i : Int), 3 + 2 * (i : Int), C[i] - 1⟩] else [] := by
      rw [Fbs i (by simpa using h7)]
      unfold arc2
      simp [hkC]
    have hci := hcb _ (List.getElem_mem h7)
    have hwc : IntKind.i64.wrap (C[i] - 1) = C[i] - 1 := w64 (by omega) (by omega)
    refine awp_skip ?_
    refine awp_cut (ι := Unit) (fun _ => ⟨123, [(2, ints sinks), (3, .pv (gC g)), (4, .pv (pC p)), (6, .pt 32 0 0), (9, .pt 176 0 0), (10, .fn (.func nsplit_Network_c1) [] [.pt 176 0 0]), (11, ints C), (63, ints C), (64, .I C.length), (65, .I i)], [(32, some ⟨2, [[.I 0, .nilS]], 0⟩), (176, some (outV N 16 (Fb (i + 1)).length)), (16, some ⟨3, rowsE (Fb (i + 1)), 0⟩)], 700⟩) (fun _ => True) ?_ fun _ _ => ?_
    · refine awp_block ?_
      refine rk (s := ?sb3) [2, 3, 4, 6, 9, 10, 11, 14, 15, 63, 64, 65] [32, 176, 16] rfl ?ob3 ?qb3
      case ob3 => simp [h7]; rfl
      refine rk (s := ?sb4) [2, 3, 4, 6, 9, 10, 11, 14, 15, 63, 64, 65, 71] [32, 176, 16] rfl ?ob4 ?qb4
      case ob4 => simp [hkC]; rfl
      refine awp_cond _ rfl (fun h8 => ?_) fun h8 => ?_
      · simp at h8
        rw [if_pos h8] at hFn
        refine awp_reg rfl ?_
        simp [hkC]
        refine call0e (split_Entry_ok i (by omega) (by omega)) (by simp) ?_
        simp [hkC, hwc]
        refine call0e (split_Exit_ok i (by omega) (by omega)) (by simp) ?_
        simp [hkC, hwc]
        refine callM2 (i := 176) (j := 16) (by decide) rfl rfl (e1' := outV N 1 (Fb i).length) (e2' := ⟨3, rowsE (Fb i), 0⟩) (by simp) (by simp [Function.comp_def]) (arc_ok N (2 + 2 * (i : Int)) (3 + 2 * (i : Int)) (C[i] - 1) (Fb i) _ rfl (by omega)) (by simp) (by simp) ?_
        simp [Function.comp_def]
        exact Le.go [(32, 32), (176, 176), (424, 16)] [] rfl rfl (by simp [hFn]) (by simp [hFn, Function.comp_def])
      · simp at h8
        rw [if_neg (by omega)] at hFn
        refine awp_skip ?_
        exact ⟨(), trivial, Le.go [(32, 32), (176, 176), (16, 16)] [] rfl rfl (by simp [hFn]) (by simp [hFn, Function.comp_def])⟩
    refine awp_run (s := ?sb9) rfl ?ob9 ?qb9
    case ob9 => simp; rfl
    exact ⟨i + 1, by omega, by omega, Le.go [(32, 32), (176, 176), (16, 16)] [] rfl rfl (by simp [hw]) (by simp [Function.comp_def])⟩
  simp at h7
  obtain rfl : i = C.length := by omega
  rw [FbN]
  refine awp_exit ?_
  refine hit ?_
  refine awp_seq ?_
  refine rk (s := ?sc1) [3, 4, 6, 9, 10, 11, 81, 82, 83] [32, 176, 16] rfl ?oc1 ?qc1
  case oc1 => simp; rfl
  refine awp_block ?_
  obtain ⟨Fc, Fc0, Fcs, Fcl, FcN⟩ : ∃ F : Nat → List Ed, F 0 = Z2 ∧ (∀ i (h : i < (sinks).length), F (i + 1) = F i ++ arc3 C (sinks)[i]) ∧ (∀ i, (F i).length ≤ 300) ∧ F (sinks).length = Z2 ++ (sinks).flatMap (arc3 C) :=
    ⟨fun i => Z2 ++ ((sinks).take i).flatMap (arc3 C), by simp, fun i h => by simp only [flat_succ _ _ i h, List.append_assoc], fun i => by have := flat_take_len _ (arc3_len C) (sinks) i; simp only [List.length_append]; omega, by simp⟩
  rw [← hX3, ← hZ3] at FcN
  refine awp_loop (ι := Nat) (fun i => ⟨123, [(3, .pv (gC g)), (4, .pv (pC p)), (6, .pt 32 0 0), (9, .pt 176 0 0), (10, .fn (.func nsplit_Network_c1) [] [.pt 176 0 0]), (11, ints C), (81, ints sinks), (82, .I sinks.length), (83, .I i)], [(32, some ⟨2, [[.I 0, .nilS]], 0⟩), (176, some (outV N 16 (Fc i).length)), (16, some ⟨3, rowsE (Fc i), 0⟩)], 336⟩) (fun i => i ≤ sinks.length) (fun i => sinks.length - i) 0 (Nat.zero_le _) (Le.go [(32, 32), (176, 176), (16, 16)] [] rfl rfl (by simp [Fc0]) (by simp [Fc0, Function.comp_def])) ?_
  intro i hi
  refine rk (s := ?sc2) [3, 4, 6, 9, 10, 11, 81, 82, 83, 84] [32, 176, 16] rfl ?oc2 ?qc2
  case oc2 => simp; rfl
  refine awp_seq ?_
  refine awp_cond _ rfl (fun h7 => ?_) fun h7 => ?_
  · simp at h7
    have hw : IntKind.i64.wrap ((i : Int) + 1) = (i : Int) + 1 := w64 (by omega) (by omega)
    have hFi := Fcl i
    obtain ⟨k, hk, hkC, hk64⟩ := hsink _ (List.getElem_mem h7)
    have hFn : Fc (i + 1) = Fc i ++ if 0 < C[k] then [⟨2 + 2 * (k : Int), 1, 1⟩] else [] := by
      rw [Fcs i h7, hk]
      unfold arc3
      simp [hkC]
    refine awp_skip ?_
    refine awp_cut (ι := Unit) (fun _ => ⟨123, [(3, .pv (gC g)), (4, .pv (pC p)), (6, .pt 32 0 0), (9, .pt 176 0 0), (10, .fn (.func nsplit_Network_c1) [] [.pt 176 0 0]), (11, ints C), (81, ints sinks), (82, .I sinks.length), (83, .I i)], [(32, some ⟨2, [[.I 0, .nilS]], 0⟩), (176, some (outV N 16 (Fc (i + 1)).length)), (16, some ⟨3, rowsE (Fc (i + 1)), 0⟩)], 700⟩) (fun _ => True) ?_ fun _ _ => ?_
    · refine awp_block ?_
      refine rk (s := ?sc3) [3, 4, 6, 9, 10, 11, 17, 81, 82, 83] [32, 176, 16] rfl ?oc3 ?qc3
      case oc3 => simp [h7, hk]; rfl
      refine rk (s := ?sc4) [3, 4, 6, 9, 10, 11, 17, 81, 82, 83, 91] [32, 176, 16] rfl ?oc4 ?qc4
      case oc4 => simp [hkC]; rfl
      refine awp_cond _ rfl (fun h8 => ?_) fun h8 => ?_
      · simp at h8
        rw [if_pos h8] at hFn
        refine awp_reg rfl ?_
        simp [hkC]
        refine call0e (split_Entry_ok k (by omega) (by omega)) (by simp) ?_
        simp [hkC]
        refine callM2 (i := 176) (j := 16) (by decide) rfl rfl (e1' := outV N 1 (Fc i).length) (e2' := ⟨3, rowsE (Fc i), 0⟩) (by simp) (by simp [Function.comp_def]) (arc_ok N (2 + 2 * (k : Int)) 1 1 (Fc i) _ rfl (by omega)) (by simp) (by simp) ?_
        simp [Function.comp_def]
        exact Le.go [(32, 32), (176, 176), (432, 16)] [] rfl rfl (by simp [hFn]) (by simp [hFn, Function.comp_def])
      · simp at h8
        rw [if_neg (by omega)] at hFn
        refine awp_skip ?_
        exact ⟨(), trivial, Le.go [(32, 32), (176, 176), (16, 16)] [] rfl rfl (by simp [hFn]) (by simp [hFn, Function.comp_def])⟩
    refine awp_run (s := ?sc9) rfl ?oc9 ?qc9
    case oc9 => simp; rfl
    exact ⟨i + 1, by omega, by omega, Le.go [(32, 32), (176, 176), (16, 16)] [] rfl rfl (by simp [hw]) (by simp [Function.comp_def])⟩
  simp at h7
  obtain rfl : i = sinks.length := by omega
  rw [FcN]
  refine awp_exit ?_
  refine hit ?_
  refine awp_seq ?_
  refine rk (s := ?sd1) [6, 9, 10, 11, 101, 102, 103] [32, 176, 16] rfl ?od1 ?qd1
  case od1 => simp; refine call0e hlev (by simp) ?_; simp; rfl
  refine awp_block ?_
  obtain ⟨Fd, Fd0, Fds, Fdl, FdN⟩ : ∃ F : Nat → List Ed, F 0 = Z3 ∧ (∀ i (h : i < (G.edges).length), F (i + 1) = F i ++ arc4 C (G.edges)[i]) ∧ (∀ i, (F i).length ≤ 900) ∧ F (G.edges).length = Z3 ++ (G.edges).flatMap (arc4 C) :=
    ⟨fun i => Z3 ++ ((G.edges).take i).flatMap (arc4 C), by simp, fun i h => by simp only [flat_succ _ _ i h, List.append_assoc], fun i => by have := flat_take_len _ (arc4_len C) (G.edges) i; simp only [List.length_append]; omega, by simp⟩
  rw [← hX4, ← hZ4] at FdN
  refine awp_loop (ι := Nat) (fun i => ⟨123, [(6, .pt 32 0 0), (9, .pt 176 0 0), (10, .fn (.func nsplit_Network_c1) [] [.pt 176 0 0]), (11, ints C), (101, eEs G.edges), (102, .I G.edges.length), (103, .I i)], [(32, some ⟨2, [[.I 0, .nilS]], 0⟩), (176, some (outV N 16 (Fd i).length)), (16, some ⟨3, rowsE (Fd i), 0⟩)], 400⟩) (fun i => i ≤ G.edges.length) (fun i => G.edges.length - i) 0 (Nat.zero_le _) (Le.go [(32, 32), (176, 176), (16, 16)] [] rfl rfl (by simp [Fd0]) (by simp [Fd0, Function.comp_def])) ?_
  intro i hi
  refine rk (s := ?sd2) [6, 9, 10, 11, 101, 102, 103, 104] [32, 176, 16] rfl ?od2 ?qd2
  case od2 => simp; rfl
  refine awp_seq ?_
  refine awp_cond _ rfl (fun h7 => ?_) fun h7 => ?_
  · simp at h7
    have hw : IntKind.i64.wrap ((i : Int) + 1) = (i : Int) + 1 := w64 (by omega) (by omega)
    have hFi := Fdl i
    obtain ⟨x, hx⟩ : ∃ x, x = G.edges[i] := ⟨_, rfl⟩
    have hfx := hfit _ (List.getElem_mem h7)
    rw [← hx] at hfx
    obtain ⟨k, hk, hkC, hk64⟩ := hkey x.f hfx.1.1 hfx.1.2
    obtain ⟨u, hu, huC, hu64⟩ := hkey x.t hfx.2.1 hfx.2.2
    have hFn : Fd (i + 1) = Fd i ++ if 0 < C[k] then [⟨3 + 2 * (k : Int), 2 + 2 * (u : Int), 64⟩] else [] := by
      rw [Fds i h7, ← hx]
      unfold arc4
      rw [hk, hu]
      simp [hkC]
    refine awp_skip ?_
    refine awp_cut (ι := Unit) (fun _ => ⟨123, [(6, .pt 32 0 0), (9, .pt 176 0 0), (10, .fn (.func nsplit_Network_c1) [] [.pt 176 0 0]), (11, ints C), (101, eEs G.edges), (102, .I G.edges.length), (103, .I i)], [(32, some ⟨2, [[.I 0, .nilS]], 0⟩), (176, some (outV N 16 (Fd (i + 1)).length)), (16, some ⟨3, rowsE (Fd (i + 1)), 0⟩)], 700⟩) (fun _ => True) ?_ fun _ _ => ?_
    · refine awp_block ?_
      refine awp_regc ⟨123, [(6, .pt 32 0 0), (9, .pt 176 0 0), (10, .fn (.func nsplit_Network_c1) [] [.pt 176 0 0]), (11, ints C), (19, .pv (eC x)), (101, eEs G.edges), (102, .I G.edges.length), (103, .I i)], [(32, some ⟨2, [[.I 0, .nilS]], 0⟩), (176, some (outV N 16 (Fd i).length)), (16, some ⟨3, rowsE (Fd i), 0⟩)], 440⟩ rfl ?_ ?_
      · simp [h7, ← hx]
        exact Le.go [(32, 32), (176, 176), (16, 16)] [424] rfl rfl (by simp) (by simp [Function.comp_def])
      refine rk (s := ?sd4) [6, 9, 10, 11, 19, 101, 102, 103, 112] [32, 176, 16] rfl ?od4 ?qd4
      case od4 => simp [hk, hkC]; rfl
      refine awp_cond _ rfl (fun h8 => ?_) fun h8 => ?_
      · simp at h8
        rw [if_pos h8] at hFn
        refine awp_drw rfl ?_
        simp [hk, hu]
        refine call0e (split_Exit_ok k (by omega) (by omega)) (by simp) ?_
        simp [hkC]
        refine call0e (split_Entry_ok u (by omega) (by omega)) (by simp) ?_
        simp [hkC]
        refine callM2 (i := 176) (j := 16) (by decide) rfl rfl (e1' := outV N 1 (Fd i).length) (e2' := ⟨3, rowsE (Fd i), 0⟩) (by simp) (by simp [Function.comp_def]) (arc_ok N (3 + 2 * (k : Int)) (2 + 2 * (u : Int)) 64 (Fd i) _ rfl (by omega)) (by simp) (by simp) ?_
        simp [Function.comp_def]
        exact ⟨rfl, Le.go [(32, 32), (176, 176), (544, 16)] [] rfl rfl (by simp [hFn]) (by simp [hFn, Function.comp_def])⟩
      · simp at h8
        rw [if_neg (by omega)] at hFn
        refine awp_skip ?_
        exact ⟨(), trivial, Le.go [(32, 32), (176, 176), (16, 16)] [] rfl rfl (by simp [hFn]) (by simp [hFn, Function.comp_def])⟩
    refine awp_run (s := ?sd9) rfl ?od9 ?qd9
    case od9 => simp; rfl
    exact ⟨i + 1, by omega, by omega, Le.go [(32, 32), (176, 176), (16, 16)] [] rfl rfl (by simp [hw]) (by simp [Function.comp_def])⟩
  simp at h7
  obtain rfl : i = G.edges.length := by omega
  rw [FdN]
  refine awp_exit ?_
  refine hit ?_
  refine rk (s := ?sz) [6, 7] [32, 16] rfl ?oz ?qz
  case oz => simp; rfl
  refine awp_ret ?_
  exact ⟨.inr rfl, RetOk.out [] [16] rfl (by simp) (by simp) (by simp [hN, Function.comp_def, take_map_len]) (by simp)⟩
end Go.Proofs.YtlhjelookgjmpaaGreat
