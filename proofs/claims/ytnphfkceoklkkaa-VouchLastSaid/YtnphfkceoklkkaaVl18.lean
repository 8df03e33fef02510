/- Texts of this claim, merged. -/
import Derived.Test.YtnphfkceoklkkaaVl17
set_option linter.unusedSimpArgs false
set_option linter.unusedVariables false
set_option linter.unusedSectionVars false
/- VouchLast: the program's contract. -/
namespace Go.Proofs.Ytnphfkceoklkkaa
open Go

abbrev stZ (ti ki a b c : Int) : List AV := [.I 0, .I 0, .sc (.string noB), .I ti, .I ki, .I a, .I b, .I c, .sc (.slice none 0 0), .sc (.slice none 0 0), .sc (.string noB), .I 0, .sc (.string noB)]

/-- Dice, a chain, its ends and revocations, under their numbers. -/
theorem Le.q4 {st st' : St} {L : List Int} {a : Nat} {X : List (List AV)} {E R : List Int} (hX : ∀ ρ sn h m, X.map (List.map (conv ρ sn h (m + 1))) = X) (i j k ro ro' : Nat) (hsz : st'.sz = st.sz)
    (hh : st'.h = [(56, some (dice L a)), (16, some ⟨13, X, ro'⟩), (24, some ⟨1, rwI E, 0⟩), (32, some ⟨1, rwI R, 0⟩)]) (hn : 56 < st'.n) (hd : [56, i, j, k].Nodup) (hro : ro ≤ ro') (hro' : ro' ≤ X.length)
    (h1 : st.hp 56 = some (dice L a)) (h2 : st.hp i = some ⟨13, X, ro⟩) (h3 : st.hp j = some ⟨1, rwI E, 0⟩) (h4 : st.hp k = some ⟨1, rwI R, 0⟩)
    (ht : ∀ p ∈ st'.t, Wk (conv [(56, 56), (i, 16), (j, 24), (k, 32)] [] st.hp 4 (st.get p.1)) p.2) : Le 0 st st' := by
  refine Le.ents [(56, 56), (i, 16), (j, 24), (k, 32)] [] hsz (by simpa using hd) (by simp) (by simp; omega) (by simp) (Nat.zero_le _) ht fun p hp => ?_
  rw [hh] at hp
  simp only [List.mem_cons, List.not_mem_nil, or_false] at hp
  rcases hp with rfl | rfl | rfl | rfl
  · exact ⟨56, _, _, rfl, by simp, h1, EntUp.eq (by simp [Function.comp_def]) (by simp)⟩
  · exact ⟨i, _, _, rfl, by simp, h2, ⟨rfl, by simpa [convE] using hro, hro', .inl (by simp only [convE, hX])⟩⟩
  · exact ⟨j, _, _, rfl, by simp, h3, EntUp.eq (by simp only [convE, rwI_flat]) (by simp)⟩
  · exact ⟨k, _, _, rfl, by simp, h4, EntUp.eq (by simp only [convE, rwI_flat]) (by simp)⟩

/-- What holds between two statements. -/
structure VI (L : List Int) (l : List Stm) (E R : List Int) (a : Nat) (tm : Int) : Prop where
  vl : VL l E R
  ch : Chain 3 l
  tk : ∀ p ∈ l, p.ti ≤ tm ∧ p.ki ≠ 3
  al : a ≤ L.length
  t0 : 0 ≤ tm
  t4 : tm ≤ 4 * l.length

theorem ofD_mem (L : List Int) (a : Nat) {l : List Int} (h : 0 < l.length) : ofD L a l ∈ l := by
  have := nextD_lt (L := L) (a := a) (n := l.length) (by omega)
  obtain ⟨q, hq⟩ : ∃ q : Nat, (nextD L a l.length).1 = q := ⟨(nextD L a l.length).1.toNat, by omega⟩
  have hql : q < l.length := by omega
  unfold ofD
  rw [hq]
  simp [hql]

set_option maxHeartbeats 8000000 in
set_option maxRecDepth 100000 in
theorem law10_VouchLast_ok (L : List Int) : ACalls Try.prog nlaw10_VouchLast [ints L] [] (.B true) [] := by
  refine slaw10_VouchLast.acalls (Nat.le_of_ble_eq_true rfl) (Nat.le_of_ble_eq_true rfl) (Nat.le_refl _) ?_
  show awp _ 0 _ _ ⟨173, [(0, ints L)], [], 16⟩
  refine awp_regc ⟨173, [(0, ints L)], [], 24⟩ rfl (by simp; exact Le.snap [] rfl rfl (by simp)) ?_
  refine awp_seq ?_
  refine awp_regc ⟨173, [(0, ints L), (20, .B (decide (¬ L.length ≤ 400)))], [], 48⟩ rfl ?_ ?_
  · simp
    refine call0e (Light_ok L) rfl ?_
    simp
    exact Le.snap [] rfl rfl (by simp <;> exact wkB (by rw [Bool.eq_iff_iff]; simp))
  refine awp_cond _ rfl (fun h => ?_) fun h => awp_skip ?_
  · refine awp_seq ?_
    refine awp_run (s := ?s2) rfl ?o2 ?q2
    case o2 => simp; refine call0e law10_awake_ok rfl ?_; simp; rfl
    refine awp_ret ?_
    exact ⟨.inr rfl, RetOk.one (by simp)⟩
  have hl : L.length ≤ 400 := by simpa using h
  refine awp_regc ⟨173, [(3, .pt 56 0 0)], [(56, some (dice L 0))], 72⟩ rfl ?_ ?_
  · simp
    refine callN1 (Roll_ok L) rfl ?_
    simp [Function.comp_def]
    exact Le.keep rfl (Nat.le_refl _) (by simp) (by simp)
  refine awp_regc ⟨173, [(3, .pt 56 0 0), (4, .sc (.slice none 0 0))], [(56, some (dice L 0))], 80⟩ rfl ?_ ?_
  · simp
    exact Le.keep rfl (Nat.le_refl _) (by simp) (by simp)
  refine awp_regc ⟨173, [(3, .pt 56 0 0), (4, .sc (.slice none 0 0)), (5, .sc (.slice none 0 0)), (6, .sc (.slice none 0 0))], [(56, some (dice L 0))], 96⟩ rfl ?_ ?_
  · simp
    exact Le.keep rfl (Nat.le_refl _) (by simp) (by simp)
  refine awp_regc ⟨173, [(3, .pt 56 0 0), (4, .sc (.slice none 0 0)), (5, .sc (.slice none 0 0)), (6, .sc (.slice none 0 0)), (7, .I 0)], [(56, some (dice L 0))], 104⟩ rfl ?_ ?_
  · simp
    exact Le.keep rfl (Nat.le_refl _) (by simp) (by simp)
  obtain ⟨N0, hN0, hN6⟩ : ∃ N0 : Nat, 1 + (nextD L 0 6).1 = N0 ∧ N0 ≤ 6 := by
    have := nextD_lt (L := L) (a := 0) (n := 6) (by omega)
    exact ⟨(1 + (nextD L 0 6).1).toNat, by omega, by omega⟩
  have hwN : IntKind.i64.wrap (1 + (nextD L 0 6).1) = (N0 : Int) := by rw [hN0]; exact w64 (by omega) (by omega)
  obtain ⟨a0, ha0⟩ : ∃ a, a = (nextD L 0 6).2 := ⟨_, rfl⟩
  have ha0l : a0 ≤ L.length := by rw [ha0]; exact nextD_le (Nat.zero_le _)
  have hnx0 := Next1_ok L 0 6 hl (Nat.zero_le _) (by omega)
  rw [← ha0] at hnx0
  refine awp_seq ?_
  refine awp_regc ⟨173, [(3, .pt 56 0 0), (4, .sc (.slice none 0 0)), (5, .sc (.slice none 0 0)), (6, .sc (.slice none 0 0)), (7, .I 0), (8, .I N0)], [(56, some (dice L a0))], 136⟩ rfl ?_ ?_
  · simp
    refine callM1 (i := 56) rfl (e' := dice L 0) (by simp [Function.comp_def]) hnx0 (by simp) (by simp) ?_
    simp [Function.comp_def, hwN]
    exact Le.keep rfl (Nat.le_refl _) (by simp) (by simp)
  refine awp_block ?_
  let C : (List Stm × List Int × List Int) × Nat × Int × Nat → St := fun q => ⟨173, [(3, .pt 56 0 0), (4, .rs 16 0 q.1.1.length), (5, .rs 24 0 q.1.1.length), (6, .rs 32 0 q.1.1.length), (7, .I q.2.2.1), (8, .I q.2.2.2)], [(56, some (dice L q.2.1)), (16, some ⟨13, q.1.1.map sC, q.1.1.length⟩), (24, some ⟨1, rwI q.1.2.1, 0⟩), (32, some ⟨1, rwI q.1.2.2, 0⟩)], 136⟩
  refine awp_loop C (fun q => VI L q.1.1 q.1.2.1 q.1.2.2 q.2.1 q.2.2.1 ∧ q.1.1.length + q.2.2.2 ≤ 6) (fun q => q.2.2.2) (([], [], []), a0, 0, N0) ⟨⟨VL.nil, chain_nil 3, by simp, ha0l, Int.le_refl _, by simp⟩, by simpa using hN6⟩ ?_ ?_
  · refine Le.lst [(56, 56)] [] [(16, 13), (24, 1), (32, 1)] rfl (by simp) (by simp) (by simp [C]) (by simp [C]) (by simp) (Nat.zero_le _) (by simp) (by simp [C, Up]) fun p hp e' he' => ?_
    simp [C] at hp
    rcases hp with rfl | rfl | rfl | rfl
    · cases he'
      exact .inl ⟨(56, 56), by simp, rfl, _, rfl, EntUp.eq (by simp [Function.comp_def]) (by simp)⟩
    · cases he'
      exact .inr ⟨by simp, by simp, rfl⟩
    · cases he'
      exact .inr ⟨by simp, by simp, rfl⟩
    · cases he'
      exact .inr ⟨by simp, by simp, rfl⟩
  rintro ⟨⟨l, E, R⟩, a, tm, N⟩ ⟨hI, hlN⟩
  simp only at hI hlN
  have hC : C ((l, E, R), a, tm, N) = ⟨173, [(3, .pt 56 0 0), (4, .rs 16 0 l.length), (5, .rs 24 0 l.length), (6, .rs 32 0 l.length), (7, .I tm), (8, .I N)], [(56, some (dice L a)), (16, some ⟨13, l.map sC, l.length⟩), (24, some ⟨1, rwI E, 0⟩), (32, some ⟨1, rwI R, 0⟩)], 136⟩ := rfl
  rw [hC]
  refine awp_seq ?_
  refine awp_regc ⟨173, [(3, .pt 56 0 0), (4, .rs 16 0 l.length), (5, .rs 24 0 l.length), (6, .rs 32 0 l.length), (7, .I tm), (8, .I N), (28, .B (decide (0 < N)))], [(56, some (dice L a)), (16, some ⟨13, l.map sC, l.length⟩), (24, some ⟨1, rwI E, 0⟩), (32, some ⟨1, rwI R, 0⟩)], 152⟩ rfl ?_ ?_
  · simp
    exact Le.keep rfl (Nat.le_refl _) (by simp) (by simp)
  refine awp_cond _ rfl (fun h => awp_skip ?_) fun h => awp_exit (hit ?_)
  · simp only [decide_eq_true_eq] at h
    refine awp_cut (ι := (List Stm × List Int × List Int) × Nat × Int) (fun q => ⟨173, [(3, .pt 56 0 0), (4, .rs 16 0 q.1.1.length), (5, .rs 24 0 q.1.1.length), (6, .rs 32 0 q.1.1.length), (7, .I q.2.2), (8, .I N)], [(56, some (dice L q.2.1)), (16, some ⟨13, q.1.1.map sC, q.1.1.length⟩), (24, some ⟨1, rwI q.1.2.1, 0⟩), (32, some ⟨1, rwI q.1.2.2, 0⟩)], 1000⟩) (fun q => VI L q.1.1 q.1.2.1 q.1.2.2 q.2.1 q.2.2 ∧ q.1.1.length = l.length + 1) ?_ ?_
    · obtain ⟨hvl, hch, htk, hal, ht0, ht4⟩ := hI
      have hle := hvl.le
      have hlr := hvl.lr
      obtain ⟨n, hn⟩ : ∃ n, n = l.length := ⟨_, rfl⟩
      have hn5 : n ≤ 5 := by omega
      have hXl : (l.map sC).length = n := by rw [List.length_map, hn]
      have hXf := sts_flat l
      have hEl : (rwI E).length = n := by rw [rwI, List.length_map, hle, hn]
      have hRl : (rwI R).length = n := by rw [rwI, List.length_map, hlr, hn]
      -- the time
      have hd1 := nextD_lt (L := L) (a := a) (n := 4) (by omega)
      have hx1 := Next1_ok L a 4 hl hal (by omega)
      obtain ⟨a1, ha1⟩ : ∃ b, b = (nextD L a 4).2 := ⟨_, rfl⟩
      have hal1 : a1 ≤ L.length := by rw [ha1]; exact nextD_le hal
      rw [← ha1] at hx1
      obtain ⟨tm', htm⟩ : ∃ t, t = tm + (1 + (nextD L a 4).1) := ⟨_, rfl⟩
      have hw1 : IntKind.i64.wrap (1 + (nextD L a 4).1) = 1 + (nextD L a 4).1 := w64 (by omega) (by omega)
      have hw2 : IntKind.i64.wrap (tm + (1 + (nextD L a 4).1)) = tm' := by rw [htm]; exact w64 (by omega) (by omega)
      rw [← hn]
      refine awp_block ?_
      refine awp_regc ⟨173, [(3, .pt 56 0 0), (4, .rs 16 0 n), (5, .rs 24 0 n), (6, .rs 32 0 n), (7, .I tm'), (8, .I N)], [(56, some (dice L a1)), (16, some ⟨13, l.map sC, n⟩), (24, some ⟨1, rwI E, 0⟩), (32, some ⟨1, rwI R, 0⟩)], 200⟩ rfl ?_ ?_
      · simp
        refine callM1 (i := 56) rfl (e' := dice L a) (by simp [Function.comp_def]) hx1 (by simp) (by simp) ?_
        simp [Function.comp_def, hw1, hw2]
        exact Le.keep rfl (Nat.le_refl _) (by simp) (by simp)
      have htm1 : tm + 1 ≤ tm' ∧ tm' ≤ tm + 4 := by omega
      have htm24 : 0 ≤ tm' ∧ tm' ≤ 24 := by omega
      clear hw1 hw2 hd1 hx1 htm
      -- the vouch
      have hd2 := nextD_lt (L := L) (a := a1) (n := 3) (by omega)
      have hx2 := Next1_ok L a1 3 hl hal1 (by omega)
      obtain ⟨a2, ha2⟩ : ∃ b, b = (nextD L a1 3).2 := ⟨_, rfl⟩
      have hal2 : a2 ≤ L.length := by rw [ha2]; exact nextD_le hal1
      rw [← ha2] at hx2
      obtain ⟨b0, hb0⟩ : ∃ b, b = 1 + (nextD L a1 3).1 := ⟨_, rfl⟩
      have hw3 : IntKind.i64.wrap (1 + (nextD L a1 3).1) = b0 := by rw [hb0]; exact w64 (by omega) (by omega)
      have hof := Of_ok L a2 [30, 4, 0, 9] (by omega) hal2 (by simp) (by simp)
      have hofm := ofD_mem L a2 (l := [30, 4, 0, 9]) (by simp)
      obtain ⟨a3, ha3⟩ : ∃ b, b = (nextD L a2 ([30, 4, 0, 9] : List Int).length).2 := ⟨_, rfl⟩
      have hal3 : a3 ≤ L.length := by rw [ha3]; exact nextD_le hal2
      rw [← ha3] at hof
      generalize ofD L a2 [30, 4, 0, 9] = d at *
      have hd : 0 ≤ d ∧ d ≤ 30 := by simp at hofm; omega
      obtain ⟨c0, hc0⟩ : ∃ c, c = tm' + d := ⟨_, rfl⟩
      have hw4 : IntKind.i64.wrap (tm' + d) = c0 := by rw [hc0]; exact w64 (by omega) (by omega)
      refine awp_regc ⟨173, [(3, .pt 56 0 0), (4, .rs 16 0 n), (5, .rs 24 0 n), (6, .rs 32 0 n), (7, .I tm'), (8, .I N), (9, .pt 280 0 0)], [(56, some (dice L a3)), (16, some ⟨13, l.map sC, n⟩), (24, some ⟨1, rwI E, 0⟩), (32, some ⟨1, rwI R, 0⟩), (280, some ⟨13, [stZ tm' 1 5 b0 c0], 0⟩)], 296⟩ rfl ?_ ?_
      · simp
        refine callM1 (i := 56) rfl (e' := dice L a1) (by simp [Function.comp_def]) hx2 (by simp) (by simp) ?_
        simp [Function.comp_def, hw3]
        refine callM1s (i := 56) (j := 248) (by decide) (Nat.zero_le _) rfl rfl (e' := dice L a2) (by simp [Function.comp_def]) hof (by simp) (by simp) ?_
        simp [Function.comp_def, hw4, splice]
        exact Le.keep rfl (Nat.le_refl _) (by simp) (by simp)
      have hb03 : 1 ≤ b0 ∧ b0 ≤ 3 := by omega
      have hc03 : tm' ≤ c0 ∧ c0 ≤ 54 := by omega
      clear hw3 hw4 hof hofm hx2 hd2 hb0 hc0
      -- a revocation instead?
      refine awp_cut (ι := (Int × Int × Int × Int) × List Int × Nat) (fun q => ⟨173, [(3, .pt 56 0 0), (4, .rs 16 0 n), (5, .rs 24 0 n), (6, .rs 32 0 n), (7, .I tm'), (8, .I N), (9, .pt 280 0 0)], [(56, some (dice L q.2.2)), (16, some ⟨13, l.map sC, n⟩), (24, some ⟨1, rwI E, 0⟩), (32, some ⟨1, rwI q.2.1, 0⟩), (280, some ⟨13, [stZ tm' q.1.1 q.1.2.1 q.1.2.2.1 q.1.2.2.2], 0⟩)], 560⟩)
        (fun q => q.2.2 ≤ L.length ∧ ((q.1 = (1, 5, b0, c0) ∧ q.2.1 = R) ∨ ∃ k : Nat, k < n ∧ q.1 = (2, (k : Int), 0, 0) ∧ q.2.1 = revR E R k tm')) ?_ ?_
      · have hone := One_ok L a3 3 (by omega) hal3 (by omega) (by omega)
        obtain ⟨ob, hob⟩ : ∃ b, b = decide ((nextD L a3 3).1 = 3 - 1) := ⟨_, rfl⟩
        rw [← hob] at hone
        obtain ⟨a4, ha4⟩ : ∃ b, b = if 0 < n then (nextD L a3 3).2 else a3 := ⟨_, rfl⟩
        have hal4 : a4 ≤ L.length := by
          rw [ha4]
          split
          · exact nextD_le hal3
          · exact hal3
        refine awp_regc ⟨173, [(3, .pt 56 0 0), (4, .rs 16 0 n), (5, .rs 24 0 n), (6, .rs 32 0 n), (7, .I tm'), (8, .I N), (9, .pt 280 0 0), (52, .B (decide (0 < n) && ob))], [(56, some (dice L a4)), (16, some ⟨13, l.map sC, n⟩), (24, some ⟨1, rwI E, 0⟩), (32, some ⟨1, rwI R, 0⟩), (280, some ⟨13, [stZ tm' 1 5 b0 c0], 0⟩)], 352⟩ rfl ?_ ?_
        · by_cases h0 : 0 < n
          · rw [if_pos h0] at ha4
            rw [← ha4] at hone
            simp [h0]
            refine callM1 (i := 56) rfl (e' := dice L a3) (by simp [Function.comp_def]) hone (by simp) (by simp) ?_
            simp [Function.comp_def]
            exact Le.keep rfl (Nat.le_refl _) (by simp) (by simp)
          · rw [if_neg h0] at ha4
            simp [h0]
            exact Le.keep rfl (Nat.le_refl _) (by simp) (by simp [ha4])
        refine awp_cond _ rfl (fun h5 => ?_) fun h5 => awp_skip ?_
        · rw [Bool.and_eq_true] at h5
          have hn0 := of_decide_eq_true h5.1
          have hd5 := nextD_lt (L := L) (a := a4) (n := (n : Int)) (by omega)
          have hx5 := Next1_ok L a4 (n : Int) hl hal4 (by omega)
          obtain ⟨a5, ha5⟩ : ∃ b, b = (nextD L a4 (n : Int)).2 := ⟨_, rfl⟩
          have hal5 : a5 ≤ L.length := by rw [ha5]; exact nextD_le hal4
          rw [← ha5] at hx5
          obtain ⟨k, hk⟩ : ∃ k : Nat, (nextD L a4 (n : Int)).1 = k := ⟨(nextD L a4 (n : Int)).1.toNat, by omega⟩
          rw [hk] at hx5
          have hkn : k < n := by omega
          refine awp_regc ⟨173, [(3, .pt 56 0 0), (4, .rs 16 0 n), (5, .rs 24 0 n), (6, .rs 32 0 n), (7, .I tm'), (8, .I N), (9, .pt 280 0 0), (10, .I k)], [(56, some (dice L a5)), (16, some ⟨13, l.map sC, n⟩), (24, some ⟨1, rwI E, 0⟩), (32, some ⟨1, rwI R, 0⟩), (280, some ⟨13, [stZ tm' 1 5 b0 c0], 0⟩)], 392⟩ rfl ?_ ?_
          · simp
            refine callM1 (i := 56) rfl (e' := dice L a4) (by simp [Function.comp_def]) hx5 (by simp) (by simp) ?_
            simp [Function.comp_def]
            exact Le.keep rfl (Nat.le_refl _) (by simp) (by simp)
          refine awp_regc ⟨173, [(3, .pt 56 0 0), (4, .rs 16 0 n), (5, .rs 24 0 n), (6, .rs 32 0 n), (7, .I tm'), (8, .I N), (9, .pt 280 0 0), (10, .I k)], [(56, some (dice L a5)), (16, some ⟨13, l.map sC, n⟩), (24, some ⟨1, rwI E, 0⟩), (32, some ⟨1, rwI R, 0⟩), (280, some ⟨13, [stZ tm' 2 k 0 0], 0⟩)], 424⟩ rfl ?_ ?_
          · simp [splice]
            exact Le.keep rfl (Nat.le_refl _) (by simp) (by simp)
          have hEk : (rwI E)[k]? = some [AV.I (E.getD k 0)] := by
            have : k < E.length := by omega
            simp [rwI, this]
          have hRk : (rwI R)[k]? = some [AV.I (R.getD k 0)] := by
            have : k < R.length := by omega
            simp [rwI, this]
          have hrev : rwI (revR E R k tm') = if 0 ≤ E.getD k 0 ∧ R.getD k 0 < 0 then (rwI R).set k [AV.I tm'] else rwI R := by
            unfold revR
            split
            · rw [rwI, List.map_set]
            · rfl
          obtain ⟨R2, hR2⟩ : ∃ R2, R2 = revR E R k tm' := ⟨_, rfl⟩
          rw [← hR2] at hrev
          have hfin : ∀ q : (Int × Int × Int × Int) × List Int × Nat, q = ((2, (k : Int), 0, 0), R2, a5) → (q.2.2 ≤ L.length ∧ ((q.1 = (1, 5, b0, c0) ∧ q.2.1 = R) ∨ ∃ k : Nat, k < n ∧ q.1 = (2, (k : Int), 0, 0) ∧ q.2.1 = revR E R k tm')) := fun q hq => by
            subst hq
            exact ⟨hal5, .inr ⟨k, hkn, rfl, hR2⟩⟩
          generalize E.getD k 0 = ek at *
          generalize R.getD k 0 = rk at *
          generalize rwI E = XE at *
          generalize rwI R = XR at *
          refine awp_regc ⟨173, [(3, .pt 56 0 0), (4, .rs 16 0 n), (5, .rs 24 0 n), (6, .rs 32 0 n), (7, .I tm'), (8, .I N), (9, .pt 280 0 0), (10, .I k), (71, .B (decide (0 ≤ ek ∧ rk < 0)))], [(56, some (dice L a5)), (16, some ⟨13, l.map sC, n⟩), (24, some ⟨1, XE, 0⟩), (32, some ⟨1, XR, 0⟩), (280, some ⟨13, [stZ tm' 2 k 0 0], 0⟩)], 520⟩ rfl ?_ ?_
          · by_cases c1 : 0 ≤ ek
            · simp [hkn, hEk, hRk, c1]
              exact Le.keep rfl (Nat.le_refl _) (by simp) (by simp)
            · simp [hkn, hEk, c1]
              exact Le.keep rfl (Nat.le_refl _) (by simp) (by simp)
          refine awp_cond _ rfl (fun h6 => ?_) fun h6 => awp_skip ?_
          · simp only [decide_eq_true_eq] at h6
            rw [if_pos h6] at hrev
            refine awp_reg rfl ?_
            simp [hkn, hRk, splice]
            refine ⟨2, k, 0, 0, R2, a5, ⟨hal5, .inr ⟨k, hkn, ⟨rfl, rfl, rfl, rfl⟩, hR2⟩⟩, ?_⟩
            exact Le.keep rfl (by simp) (by simp) (by simp [hrev])
          · simp only [decide_eq_false_iff_not] at h6
            rw [if_neg h6] at hrev
            refine ⟨((2, (k : Int), 0, 0), R2, a5), hfin _ rfl, ?_⟩
            exact Le.keep rfl (by simp) (by simp) (by simp [hrev])
        · exact ⟨((1, 5, b0, c0), R, a4), ⟨hal4, .inl ⟨rfl, rfl⟩⟩, Le.keep rfl (by simp) (by simp) (by simp)⟩
      rintro ⟨⟨ki, sa, sb, sc⟩, R2, a6⟩ ⟨hal6, hcase⟩
      simp only at hal6 hcase
      have hR2l : R2.length = n := by
        rcases hcase with ⟨_, rfl⟩ | ⟨k, _, _, rfl⟩
        · omega
        · unfold revR
          split
          · rw [List.length_set]; omega
          · omega
      have hkb : (1 ≤ ki ∧ ki ≤ 3) ∧ (ki = 1 → sa = 5 ∧ sb = b0 ∧ sc = c0) ∧ (ki = 2 → ∃ k : Nat, k < n ∧ sa = k ∧ sb = 0 ∧ sc = 0) ∧ ki ≠ 3 := by
        rcases hcase with ⟨he, _⟩ | ⟨k, hkn, he, _⟩
        · cases he
          exact ⟨by omega, fun _ => ⟨rfl, rfl, rfl⟩, fun h => by omega, by omega⟩
        · cases he
          exact ⟨by omega, fun h => by omega, fun _ => ⟨k, hkn, rfl, rfl, rfl⟩, by omega⟩
      obtain ⟨hki, hk1, hk2, hk3⟩ := hkb
      have hT : ¬ BadT l (stN tm' ki sa sb sc) := not_badT fun p hp => by
        have := (htk p hp).1
        show p.ti ≤ tm'
        omega
      have hK : ¬ BadK l := not_badK fun p hp => (htk p hp).2
      have hok : StOk (nx 3 l (stN tm' ki sa sb sc)) := nx_stOk (by omega) (by omega) (by omega) hki (fun h => by
        have := hk1 h
        omega) (fun h => by
        obtain ⟨k, e1, e2, e3, e4⟩ := hk2 h
        omega) (fun h => absurd h hk3)
      have hnext := next_good 3 l _ hch (by omega) (stN_b tm' ki sa sb sc) hT hK hok
      have hch2 := chain_nx hch (stN_b tm' ki sa sb sc) hT hK hok
      obtain ⟨x, hx⟩ : ∃ x, x = nx 3 l (stN tm' ki sa sb sc) := ⟨_, rfl⟩
      rw [← hx] at hnext hch2
      have hxf : x.au = 3 ∧ x.nu = l.length ∧ x.ti = tm' ∧ x.ki = ki ∧ x.a = sa ∧ x.c = sc := by rw [hx]; exact ⟨rfl, rfl, rfl, rfl, rfl, rfl⟩
      have htkl : List.take n (l.map sC) = l.map sC := List.take_of_length_le (by omega)
      have hfin : ∀ E' R', VL (l ++ [x]) E' R' → VI L (l ++ [x]) E' R' a6 tm' := fun E' R' hv => ⟨hv, hch2, fun p hp => by
        rw [List.mem_append] at hp
        rcases hp with hp | hp
        · have := htk p hp
          exact ⟨by omega, this.2⟩
        · rw [List.mem_singleton.1 hp]
          exact ⟨by omega, by omega⟩, hal6, htm24.1, by rw [List.length_append, List.length_singleton]; omega⟩
      have hX2 : (l ++ [x]).map sC = l.map sC ++ [sC x] := by rw [List.map_append]; rfl
      have hXf2 := sts_flat (l ++ [x])
      have hX2l : ((l ++ [x]).map sC).length = n + 1 := by rw [List.length_map, List.length_append, ← hn]; rfl
      have hl2 : (l ++ [x]).length = n + 1 := by rw [List.length_append, ← hn]; rfl
      rw [hX2] at hXf2 hX2l
      have hsts : sts l = .vs 13 false (l.map sC) := rfl
      rw [hsts] at hnext
      generalize hXe : l.map sC = X at *
      refine awp_regc ⟨173, [(3, .pt 56 0 0), (4, .rs 16 0 n), (5, .rs 24 0 n), (6, .rs 32 0 n), (7, .I tm'), (8, .I N), (9, .pt 280 0 0), (11, .pt 608 0 0), (12, .I 0)], [(56, some (dice L a6)), (16, some ⟨13, X, n⟩), (24, some ⟨1, rwI E, 0⟩), (32, some ⟨1, rwI R2, 0⟩), (280, some ⟨13, [stZ tm' ki sa sb sc], 0⟩), (608, some ⟨13, [sC x], 0⟩)], 632⟩ rfl ?_ ?_
      · simp
        refine call0r [16] hnext (by simp [hXl, hXf, htkl]; exact stWk ..) (by simp) ?_
        simp [splice, hXl]
        exact Le.keep rfl (Nat.le_refl _) (by simp) (by simp)
      refine awp_seq ?_
      refine awp_regc ⟨173, [(3, .pt 56 0 0), (4, .rs 16 0 n), (5, .rs 24 0 n), (6, .rs 32 0 n), (7, .I tm'), (8, .I N), (9, .pt 280 0 0), (11, .pt 608 0 0), (83, .B false)], [(56, some (dice L a6)), (16, some ⟨13, X, n⟩), (24, some ⟨1, rwI E, 0⟩), (32, some ⟨1, rwI R2, 0⟩), (280, some ⟨13, [stZ tm' ki sa sb sc], 0⟩), (608, some ⟨13, [sC x], 0⟩)], 648⟩ rfl ?_ ?_
      · simp
        exact Le.keep rfl (Nat.le_refl _) (by simp) (by simp)
      refine awp_cond _ rfl (fun h => by cases h) fun _ => awp_skip ?_
      have htX : List.take n X = X := List.take_of_length_le (by omega)
      refine awp_regc ⟨173, [(3, .pt 56 0 0), (4, .rs 672 0 (n + 1)), (5, .rs 24 0 n), (6, .rs 32 0 n), (7, .I tm'), (8, .I N), (9, .pt 280 0 0)], [(56, some (dice L a6)), (672, some ⟨13, X ++ [sC x], n⟩), (24, some ⟨1, rwI E, 0⟩), (32, some ⟨1, rwI R2, 0⟩), (280, some ⟨13, [stZ tm' ki sa sb sc], 0⟩)], 688⟩ rfl ?_ ?_
      · simp [hXl, htX]
        repeat' apply And.intro
        all_goals first | omega | exact Le.keep rfl (Nat.le_refl _) (by simp) (by simp [htX])
      refine awp_regc ⟨173, [(3, .pt 56 0 0), (4, .rs 672 0 (n + 1)), (5, .rs 24 0 n), (6, .rs 32 0 n), (7, .I tm'), (8, .I N), (9, .pt 280 0 0), (90, .B (decide (ki = 1)))], [(56, some (dice L a6)), (672, some ⟨13, X ++ [sC x], n⟩), (24, some ⟨1, rwI E, 0⟩), (32, some ⟨1, rwI R2, 0⟩), (280, some ⟨13, [stZ tm' ki sa sb sc], 0⟩)], 712⟩ rfl ?_ ?_
      · simp
        exact Le.keep rfl (Nat.le_refl _) (by simp <;> rw [Bool.eq_iff_iff] <;> simp) (by simp)
      have happ : ∀ (Z : List Int) (z : Int), rwI (Z ++ [z]) = rwI Z ++ [[AV.I z]] := fun Z z => by rw [rwI, List.map_append]; rfl
      have hR2x : (rwI R2).length = n := by rw [rwI, List.length_map, hR2l]
      have tE : List.take n (rwI E) = rwI E := List.take_of_length_le (by omega)
      have tR : List.take n (rwI R2) = rwI R2 := List.take_of_length_le (by omega)
      refine awp_cond _ rfl (fun h7 => ?_) fun h7 => ?_
      · simp only [decide_eq_true_eq] at h7
        obtain ⟨e1, e2, e3⟩ := hk1 h7
        have hRR : R2 = R := by
          rcases hcase with ⟨_, hh⟩ | ⟨k, _, he, _⟩
          · exact hh
          · cases he; omega
        have hv2 : VL (l ++ [x]) (E ++ [sc]) (R2 ++ [-1]) := by
          rw [hRR, ← hxf.2.2.2.2.2]
          exact hvl.vouch hxf.1 hxf.2.1 (by omega) (by omega) (by omega) (by omega)
        have q1 := happ E sc
        have q2 := happ R2 (-1)
        refine awp_reg rfl ?_
        generalize rwI E = XE at *
        generalize rwI R2 = XR at *
        simp [hEl, hR2x, tE, tR]
        refine ⟨by omega, by omega, by omega, by omega, l ++ [x], E ++ [sc], R2 ++ [-1], a6, tm', ⟨hfin _ _ hv2, by rw [hl2, hn]⟩, ?_⟩
        rw [hl2, hX2]
        refine Le.q4 hXf2 672 744 768 n (n + 1) rfl rfl (by simp) (by simp) (by omega) (by rw [hX2l]; exact Nat.le_refl _) rfl rfl ?_ ?_ (by simp)
        · rw [q1]; simp [tE]
        · rw [q2]; simp [tR]
      · simp only [decide_eq_false_iff_not] at h7
        obtain ⟨k, hkn, e1, e2⟩ : ∃ k : Nat, k < n ∧ (ki = 2 ∧ sa = k) ∧ R2 = revR E R k tm' := by
          rcases hcase with ⟨he, _⟩ | ⟨k, hkn, he, hh⟩
          · cases he; omega
          · cases he
            exact ⟨k, hkn, ⟨rfl, rfl⟩, hh⟩
        have hv2 : VL (l ++ [x]) (E ++ [-1]) (R2 ++ [-1]) := by
          rw [e2, ← hxf.2.2.1]
          exact hvl.revoke hxf.1 hxf.2.1 (by omega) (by omega) (by omega) (by omega)
        have q1 := happ E (-1)
        have q2 := happ R2 (-1)
        refine awp_reg rfl ?_
        generalize rwI E = XE at *
        generalize rwI R2 = XR at *
        simp [hEl, hR2x, tE, tR]
        refine ⟨by omega, by omega, by omega, by omega, l ++ [x], E ++ [-1], R2 ++ [-1], a6, tm', ⟨hfin _ _ hv2, by rw [hl2, hn]⟩, ?_⟩
        rw [hl2, hX2]
        refine Le.q4 hXf2 672 728 752 n (n + 1) rfl rfl (by simp) (by simp) (by omega) (by rw [hX2l]; exact Nat.le_refl _) rfl rfl ?_ ?_ (by simp)
        · rw [q1]; simp [tE]
        · rw [q2]; simp [tR]
    · rintro ⟨⟨l', E', R'⟩, a', tm'⟩ ⟨hI', hl'⟩
      simp only at hI' hl'
      obtain ⟨N', hN'⟩ : ∃ N', N = N' + 1 := ⟨N - 1, by omega⟩
      have hwn : IntKind.i64.wrap ((N : Int) - 1) = (N' : Int) := by rw [w64 (by omega) (by omega)]; omega
      refine awp_reg rfl ?_
      simp [hwn]
      refine ⟨l', E', R', a', tm', N', ⟨hI', by omega⟩, by omega, ?_⟩
      exact Le.q4 (sts_flat l') 16 24 32 l'.length l'.length rfl rfl (by simp [C]) (by simp) (Nat.le_refl _) (by simp) rfl rfl rfl rfl (by simp [C])
  simp only [decide_eq_false_iff_not] at h
  -- the answers
  obtain ⟨hvl, hch, htk, hal, ht0, ht4⟩ := hI
  have hle := hvl.le
  have hlr := hvl.lr
  obtain ⟨n, hn⟩ : ∃ n, n = l.length := ⟨_, rfl⟩
  have hn6 : n ≤ 6 := by omega
  have hXl : (l.map sC).length = n := by rw [List.length_map, hn]
  have hEl : (rwI E).length = n := by rw [rwI, List.length_map, hle, hn]
  have hRl : (rwI R).length = n := by rw [rwI, List.length_map, hlr, hn]
  have tX : List.take n (l.map sC) = l.map sC := List.take_of_length_le (by omega)
  have tE : List.take n (rwI E) = rwI E := List.take_of_length_le (by omega)
  have tR : List.take n (rwI R) = rwI R := List.take_of_length_le (by omega)
  rw [← hn]
  refine awp_seq ?_
  refine awp_regc ⟨173, [(4, sts l), (5, ints E), (6, ints R), (13, .I (0 : Nat))], [], 160⟩ rfl ?_ ?_
  · generalize hXe : l.map sC = X at *
    generalize hEe : rwI E = XE at *
    generalize hRe : rwI R = XR at *
    have fX : ∀ ρ sn h m, X.map (List.map (conv ρ sn h (m + 1))) = X := fun ρ sn h m => by rw [← hXe]; exact sts_flat l ρ sn h m
    have fE : ∀ ρ sn h m, XE.map (List.map (conv ρ sn h (m + 1))) = XE := fun ρ sn h m => by rw [← hEe]; exact rwI_flat E ρ sn h m
    have fR : ∀ ρ sn h m, XR.map (List.map (conv ρ sn h (m + 1))) = XR := fun ρ sn h m => by rw [← hRe]; exact rwI_flat R ρ sn h m
    simp
    exact Le.snap [16, 24, 32] rfl rfl (by
      simp [hXl, hEl, hRl, tX, tE, tR, fX, fE, fR]
      exact ⟨wkE (by rw [← hXe]), wkE (by rw [← hEe]), wkE (by rw [← hRe])⟩)
  refine awp_block ?_
  refine awp_loop (ι := Nat) (fun t => ⟨173, [(4, sts l), (5, ints E), (6, ints R), (13, .I t)], [], 160⟩) (fun t => t ≤ 40) (fun t => 40 - t) 0 (Nat.zero_le _) (Le.refl _ _) ?_
  intro t ht
  refine awp_seq ?_
  refine awp_regc ⟨173, [(4, sts l), (5, ints E), (6, ints R), (13, .I t), (106, .B (decide (t < 40)))], [], 176⟩ rfl ?_ ?_
  · simp
    exact Le.snap [] rfl rfl (by simp <;> exact wkB (by rw [Bool.eq_iff_iff]; simp; omega))
  refine awp_cond _ rfl (fun h => awp_skip ?_) fun h => awp_exit (hit ?_)
  · simp only [decide_eq_true_eq] at h
    have hwt : IntKind.i64.wrap ((t : Int) + 1) = ((t + 1 : Nat) : Int) := by rw [w64 (by omega) (by omega)]; omega
    refine awp_cut (ι := Unit) (fun _ => ⟨173, [(4, sts l), (5, ints E), (6, ints R), (13, .I t)], [], 600⟩) (fun _ => True) ?_ fun _ _ => ?_
    · refine awp_block ?_
      refine awp_regc ⟨173, [(4, sts l), (5, ints E), (6, ints R), (13, .I t), (14, .I (lastN l E t 0))], [], 184⟩ rfl (by simp; exact Le.snap [] rfl rfl (by simp [lastN])) ?_
      refine awp_cut (ι := Unit) (fun _ => ⟨173, [(4, sts l), (5, ints E), (6, ints R), (13, .I t), (14, .I (lastN l E t n))], [], 224⟩) (fun _ => True) ?_ fun _ _ => ?_
      · refine awp_regc ⟨173, [(4, sts l), (5, ints E), (6, ints R), (13, .I t), (14, .I (lastN l E t 0)), (15, .I (0 : Nat))], [], 192⟩ rfl (by simp; exact Le.snap [] rfl rfl (by simp)) ?_
        refine awp_block ?_
        refine awp_loop (ι := Nat) (fun i => ⟨173, [(4, sts l), (5, ints E), (6, ints R), (13, .I t), (14, .I (lastN l E t i)), (15, .I i)], [], 192⟩) (fun i => i ≤ n) (fun i => n - i) 0 (Nat.zero_le _) (Le.refl _ _) ?_
        intro i hi
        refine awp_seq ?_
        refine awp_regc ⟨173, [(4, sts l), (5, ints E), (6, ints R), (13, .I t), (14, .I (lastN l E t i)), (15, .I i), (112, .B (decide (i < n)))], [], 224⟩ rfl (by simp [← hn]; exact Le.snap [] rfl rfl (by simp)) ?_
        refine awp_cond _ rfl (fun h2 => awp_skip ?_) fun h2 => awp_exit (hit ?_)
        · simp only [decide_eq_true_eq] at h2
          have hwi : IntKind.i64.wrap ((i : Int) + 1) = ((i + 1 : Nat) : Int) := by rw [w64 (by omega) (by omega)]; omega
          obtain ⟨s, hs⟩ : ∃ s, l[i]? = some s := ⟨_, List.getElem?_eq_getElem (by omega)⟩
          obtain ⟨e, he⟩ : ∃ e, E[i]? = some e := ⟨_, List.getElem?_eq_getElem (by omega)⟩
          have hlc : lastC l E t i = (decide (0 ≤ e) && decide (s.ti ≤ t)) := by
            unfold lastC
            rw [hs]
            have : E.getD i 0 = e := by simp [List.getD, he]
            rw [this]
          have hstep : lastN l E t (i + 1) = if (decide (0 ≤ e) && decide (s.ti ≤ t)) = true then (i : Int) else lastN l E t i := by rw [lastN, hlc]
          refine awp_cut (ι := Unit) (fun _ => ⟨173, [(4, sts l), (5, ints E), (6, ints R), (13, .I t), (14, .I (lastN l E t (i + 1))), (15, .I i)], [], 400⟩) (fun _ => True) ?_ fun _ _ => ?_
          · rw [hstep]
            obtain ⟨m, hm⟩ : ∃ m, m = lastN l E t i := ⟨_, rfl⟩
            rw [← hm]
            obtain ⟨hil, hse⟩ := List.getElem?_eq_some_iff.1 hs
            obtain ⟨hiE, hee⟩ := List.getElem?_eq_some_iff.1 he
            refine awp_block ?_
            refine awp_regc ⟨173, [(4, sts l), (5, ints E), (6, ints R), (13, .I t), (14, .I m), (15, .I i), (128, .B (decide (0 ≤ e) && decide (s.ti ≤ t)))], [], 336⟩ rfl ?_ ?_
            · by_cases c1 : 0 ≤ e
              · simp [hiE, hee, hil, hse, c1]
                exact Le.snap [] rfl rfl (by simp)
              · simp [hiE, hee, c1]
                exact Le.snap [] rfl rfl (by simp)
            refine awp_cond _ rfl (fun h3 => ?_) fun h3 => awp_skip ?_
            · rw [if_pos h3]
              refine awp_reg rfl ?_
              simp
              exact Le.snap [] rfl rfl (by simp)
            · rw [if_neg (by rw [h3]; decide)]
              exact ⟨(), trivial, Le.snap [] rfl rfl (by simp)⟩
          refine awp_reg rfl ?_
          simp [hwi]
          exact ⟨i + 1, by omega, by omega, Le.snap [] rfl rfl (by simp)⟩
        simp only [decide_eq_false_iff_not] at h2
        obtain rfl : i = n := by omega
        exact ⟨(), trivial, Le.snap [] rfl rfl (by simp)⟩
      have hn20 : (rawV l l).length < 20 := by have := VL.raw_le l; omega
      have hbt := vouch_Between_ok l 3 5 t (by omega) hn20 (by rw [hvl.gone]; exact .nil)
      obtain ⟨bo, hbo⟩ : ∃ bo, bo = btwV l 3 5 t := ⟨_, rfl⟩
      rw [← hbo] at hbt
      refine awp_regc ⟨173, [(5, ints E), (6, ints R), (4, sts l), (13, .I t), (14, .I (lastN l E t n)), (16, .pv (vC (bo.getD zV))), (17, .B bo.isSome)], [], 296⟩ rfl ?_ ?_
      · generalize bo.getD zV = vb at *
        simp
        refine call0e hbt (by simp) ?_
        simp [splice]
        exact Le.snap [272] rfl rfl (by simp)
      refine awp_regc ⟨173, [(5, ints E), (6, ints R), (4, sts l), (13, .I t), (171, .B false)], [], 584⟩ rfl ?_ ?_
      · rcases lastN_spec l E t n with ⟨h1, _⟩ | ⟨j, h1, hjn, _, _⟩
        · have hb : bo = none := by rw [hbo]; exact hvl.noV (by rw [← hn]; exact h1)
          rw [h1, hb]
          simp
          exact Le.snap [] rfl rfl (by simp)
        · obtain ⟨s, hs⟩ : ∃ s, l[j]? = some s := ⟨_, List.getElem?_eq_getElem (by omega)⟩
          obtain ⟨e, he⟩ : ∃ e, E[j]? = some e := ⟨_, List.getElem?_eq_getElem (by omega)⟩
          obtain ⟨r, hr⟩ : ∃ r, R[j]? = some r := ⟨_, List.getElem?_eq_getElem (by omega)⟩
          have hb := hvl.yesV (t := t) (by rw [← hn]; exact h1) hs he hr
          rw [← hbo] at hb
          have hnu := (hvl.at_ j s hs).2.1
          obtain ⟨hjE, hee⟩ := List.getElem?_eq_some_iff.1 he
          obtain ⟨hjR, hre⟩ := List.getElem?_eq_some_iff.1 hr
          have hv : (vOf l s).nu = j := hnu
          rw [h1]
          generalize vOf l s = v at *
          have hvb : (v.nu != (j : Int)) = false := by simp [hv]
          by_cases c1 : (t : Int) < e
          · by_cases c2 : r < 0
            · rw [if_pos ⟨c1, .inl c2⟩] at hb
              rw [hb]
              simp [hjE, hee, hjR, hre, c1, c2, hvb]
              exact Le.snap [] rfl rfl (by simp)
            · by_cases c3 : (t : Int) < r
              · rw [if_pos ⟨c1, .inr c3⟩] at hb
                rw [hb]
                simp [hjE, hee, hjR, hre, c1, c2, c3, hvb]
                exact Le.snap [] rfl rfl (by simp)
              · rw [if_neg (fun hh => hh.2.elim c2 c3)] at hb
                rw [hb]
                simp [hjE, hee, hjR, hre, c1, c2, c3]
                exact Le.snap [] rfl rfl (by simp)
          · rw [if_neg (fun hh => c1 hh.1)] at hb
            rw [hb]
            simp [hjE, hee, c1]
            exact Le.snap [] rfl rfl (by simp)
      refine awp_cond _ rfl (fun h => by cases h) fun _ => awp_skip ?_
      exact ⟨(), trivial, Le.snap [] rfl rfl (by simp)⟩
    refine awp_reg rfl ?_
    simp [hwt]
    exact ⟨t + 1, by omega, by omega, Le.snap [] rfl rfl (by simp)⟩
  refine awp_seq ?_
  refine awp_run (s := ?s9) rfl ?o9 ?q9
  case o9 => simp; refine call0e law10_awake_ok rfl ?_; simp; rfl
  refine awp_ret ?_
  exact ⟨.inr rfl, RetOk.one (by simp)⟩

end Go.Proofs.Ytnphfkceoklkkaa
