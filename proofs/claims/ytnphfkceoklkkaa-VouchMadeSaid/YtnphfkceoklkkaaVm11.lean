/- Texts of this claim, merged. -/
import Derived.Test.YtnphfkceoklkkaaVm10
set_option linter.unusedSimpArgs false
set_option linter.unusedVariables false
set_option linter.unusedSectionVars false
namespace Go.Proofs.Ytnphfkceoklkkaa
open Go
set_option maxHeartbeats 4000000 in
set_option maxRecDepth 100000 in
theorem Chain_any (L : List Int) (a : Nat) (au : Int) (m : Nat) (hl : L.length ≤ 400) (ha : a ≤ L.length) (hm : m ≤ 100) : ∃ p : (List Stm × Nat) × Nat, (Chain au p.1.1 ∧ p.1.1.length ≤ 100 ∧ p.1.2 ≤ L.length) ∧ ACalls Try.prog nmade_Dice_Chain [.pt 0 0 0, .I au, .I m] [dice L a] (.rs 1 0 p.1.1.length) [some (dice L p.1.2), some ⟨13, p.1.1.map sC, p.2⟩] := by
  refine smade_Dice_Chain.acallsX (args := [.pt 0 0 0, .I au, .I m]) (hs := [dice L a]) (fun p => .rs 1 0 p.1.1.length) (fun p => [some (dice L p.1.2), some ⟨13, p.1.1.map sC, p.2⟩]) (fun p : (List Stm × Nat) × Nat => Chain au p.1.1 ∧ p.1.1.length ≤ 100 ∧ p.1.2 ≤ L.length) (Nat.le_of_ble_eq_true rfl) (Nat.le_of_ble_eq_true rfl) (fun _ => by simp) ?_
  show awp _ 1 _ _ ⟨55, [(0, .pt 0 0 0), (1, .I au), (2, .I m)], [(0, some (dice L a))], 16⟩
  obtain ⟨t0, b, ⟨hb1, _⟩, hn1⟩ := Next_any L a 10 hl ha (by decide)
  obtain ⟨x, c, ⟨hc1, hx1, _, hx3⟩, hn2⟩ := Next_any L b ((m + 1 : Nat) : Int) hl hb1 (by omega)
  have hx4 := hx3 (by omega)
  obtain ⟨y, rfl⟩ : ∃ y : Nat, x = y := ⟨x.toNat, by omega⟩
  have hwm := wr1 (k := m) (N := 101) (by omega) (by omega)
  refine rx (s := ?s1) [0, 1, 2] [0] [] rfl ?o1 ?q1
  case o1 => simp; rfl
  refine rx (s := ?s2) [0, 1, 2, 7] [0] [] rfl ?o2 ?q2
  case o2 => simp; rfl
  refine awp_regc ⟨55, [(0, .pt 0 0 0), (1, .I au), (2, .I m), (7, .nilS), (8, .I t0)], [(0, some (dice L b))], 100⟩ rfl ?_ ?_
  · simp
    refine callM1 (i := 0) rfl (e' := dice L a) (by simp) hn1 (by simp) (by simp) ?_
    simp
    exact Le.keep rfl (by simp) (by simp) (by simp)
  refine awp_seq ?_
  refine awp_regc ⟨55, [(0, .pt 0 0 0), (1, .I au), (7, .nilS), (8, .I t0), (9, .I y)], [(0, some (dice L c))], 200⟩ rfl ?_ ?_
  · simp [hwm]
    refine callM1 (i := 0) rfl (e' := dice L b) (by simp) hn2 (by simp) (by simp) ?_
    simp
    exact Le.keep rfl (by simp) (by simp) (by simp)
  refine awp_block ?_
  refine awp_loop (ι := ((List Stm × Nat) × Nat) × (Int × Nat)) (fun p => ⟨55, [(0, .pt 0 0 0), (1, .I au), (7, .rs 16 0 p.1.1.1.length), (8, .I p.2.1), (9, .I p.2.2)], [(0, some (dice L p.1.1.2)), (16, some ⟨13, p.1.1.1.map sC, p.1.2⟩)], 200⟩) (fun p => Chain au p.1.1.1 ∧ p.1.1.1.length + p.2.2 ≤ 100 ∧ p.1.1.2 ≤ L.length ∧ p.1.2 ≤ p.1.1.1.length) (fun p => p.2.2) ((([], c), 0), (t0, y)) ⟨Chain.nil au, by simp; omega, hc1, Nat.zero_le _⟩ ?_ ?_
  · refine Le.lst [(0, 0)] [] [(16, 13)] rfl (by simp) (by simp) (by simp) (by simp) (by simp) (by simp) (by simp) (by simp [Up]) fun p hp e' he' => ?_
    simp only [List.mem_cons, List.not_mem_nil, or_false] at hp
    rcases hp with rfl | rfl
    · cases he'
      exact .inl ⟨(0, 0), by simp, rfl, _, rfl, EntUp.eq (by simp) (by simp)⟩
    · cases he'
      exact .inr ⟨by simp, by simp, rfl⟩
  rintro ⟨⟨⟨o, b⟩, ro⟩, t, n⟩ ⟨hch, hon, hbl, hro⟩
  simp only at hch hon hbl hro
  simp only
  have hXl : (o.map sC).length = o.length := List.length_map ..
  have hXf := sts_flat o
  have hst : sts o = .vs 13 false (o.map sC) := rfl
  obtain ⟨X, hX⟩ : ∃ X, X = o.map sC := ⟨_, rfl⟩
  rw [← hX] at hXl hXf hst ⊢
  refine awp_seq ?_
  refine rk (s := ?s3) [0, 1, 7, 8, 9, 20] [0, 16] rfl ?o3 ?q3
  case o3 => simp; rfl
  refine awp_cond _ rfl (fun h => awp_skip ?_) fun h => awp_exit (hit ?_)
  · simp only [decide_eq_true_eq] at h
    obtain ⟨z, b2, ⟨hb2, _⟩, hof⟩ := Of_any L b [1, 0, 5, 20] hl hbl (by decide) (by decide)
    obtain ⟨t2, ht2⟩ : ∃ t2, t2 = IntKind.i64.wrap (t + z) := ⟨_, rfl⟩
    obtain ⟨⟨s, b3⟩, ⟨hsb, hb3⟩, hsta⟩ := Statement_any L b2 au t2 hl hb2
    simp only at hsb hb3 hsta
    obtain ⟨r, b4, hb4, hone⟩ := One_any L b3 6 hl hb3 (by decide) (by decide)
    refine awp_cut (ι := (List Stm × Nat) × Nat) (fun p => ⟨55, [(0, .pt 0 0 0), (1, .I au), (7, .rs 16 0 p.1.1.length), (8, .I t2), (9, .I n)], [(0, some (dice L p.1.2)), (16, some ⟨13, p.1.1.map sC, p.2⟩)], 2000⟩) (fun p => Chain au p.1.1 ∧ p.1.1.length + (n - 1) ≤ 100 ∧ p.1.2 ≤ L.length ∧ p.2 ≤ p.1.1.length) ?_ ?_
    · refine awp_block ?_
      refine awp_regc ⟨55, [(0, .pt 0 0 0), (1, .I au), (7, .rs 16 0 o.length), (8, .I t2), (9, .I n)], [(0, some (dice L b2)), (16, some ⟨13, X, ro⟩)], 300⟩ rfl ?_ ?_
      · simp
        refine callM1s (i := 0) (j := 232) (by decide) (by decide) rfl rfl (e' := dice L b) (by simp) hof (by simp) (by simp) ?_
        simp
        exact Le.keep rfl (by simp) (by simp [ht2]) (by simp)
      refine awp_regc ⟨55, [(0, .pt 0 0 0), (1, .I au), (7, .rs 16 0 o.length), (8, .I t2), (9, .I n), (10, .pt 332 0 0)], [(0, some (dice L b3)), (16, some ⟨13, X, ro⟩), (332, some ⟨13, [sC s], 0⟩)], 400⟩ rfl ?_ ?_
      · simp
        refine callM1 (i := 0) rfl (e' := dice L b2) (by simp) hsta (by simp) (by simp) ?_
        simp [splice]
        exact Le.keep rfl (by simp) (by simp) (by simp)
      refine awp_cut (ι := Stm × Nat) (fun p => ⟨55, [(0, .pt 0 0 0), (1, .I au), (7, .rs 16 0 o.length), (8, .I t2), (9, .I n), (10, .pt 332 0 0)], [(0, some (dice L p.2)), (16, some ⟨13, X, ro⟩), (332, some ⟨13, [sC p.1], 0⟩)], 700⟩) (fun p => StB p.1 ∧ p.2 ≤ L.length) ?_ ?_
      · obtain ⟨b5, hb5, hb5'⟩ : ∃ b5, b5 ≤ L.length ∧ b5 = if n = 1 then b4 else b3 := by
          refine ⟨_, ?_, rfl⟩
          split
          · exact hb4
          · exact hb3
        refine awp_regc ⟨55, [(0, .pt 0 0 0), (1, .I au), (7, .rs 16 0 o.length), (8, .I t2), (9, .I n), (10, .pt 332 0 0), (37, .B (decide (n = 1) && r))], [(0, some (dice L b5)), (16, some ⟨13, X, ro⟩), (332, some ⟨13, [sC s], 0⟩)], 500⟩ rfl ?_ ?_
        · by_cases h1 : n = 1
          · have h1' : ((n : Int) == 1) = true := by simp; omega
            rw [if_pos h1] at hb5'
            simp [h1']
            refine callM1 (i := 0) rfl (e' := dice L b3) (by simp) hone (by simp) (by simp) ?_
            simp
            exact Le.keep rfl (by simp) (by simp [h1]) (by simp [hb5'])
          · have h1' : ((n : Int) == 1) = false := by simp; omega
            rw [if_neg h1] at hb5'
            simp [h1']
            exact Le.keep rfl (by simp) (by simp [h1]) (by simp [hb5'])
        refine awp_cond _ rfl (fun h2 => ?_) fun h2 => awp_skip ?_
        · refine awp_reg rfl ?_
          simp [splice]
          refine ⟨dS au t2 3 0 0 0 [] [] noB, b5, ⟨dS_b (by simp) (by simp) (by decide) (by simp), hb5⟩, ?_⟩
          refine Le.ents [(0, 0), (16, 16), (332, 332)] [] rfl (by simp) (by simp) (by simp) (by simp) (by simp) (by simp) fun p hp => ?_
          simp only [List.mem_cons, List.not_mem_nil, or_false] at hp
          rcases hp with rfl | rfl | rfl
          · exact ⟨0, _, _, rfl, by simp, rfl, EntUp.eq (by simp) (by simp)⟩
          · exact ⟨16, _, _, rfl, by simp, rfl, EntUp.eq (by simp [hXf]) (by simp [hXl]; exact hro)⟩
          · exact ⟨332, _, _, rfl, by simp, rfl, EntUp.row (r := dR au t2 3 0 0 0 .nilS .nilS (.sc (.string noB))) (by simp) (Nat.zero_le _) (by simp [UpL, Up]; exact ⟨.nil 1 false, .nil 3 false⟩)⟩
        · exact ⟨(s, b5), ⟨hsb, hb5⟩, Le.keep rfl (by simp) (by simp) (by simp)⟩
      clear hsta hone hof hsb hb3
      rintro ⟨s, b5⟩ ⟨hsb, hb5⟩
      simp only at hsb hb5
      simp only
      obtain ⟨e, x, hnx, hcx⟩ := next_any2 au o s hch (by omega) hsb
      have htk : List.take o.length X = X := List.take_of_length_le (by omega)
      refine awp_regc ⟨55, [(0, .pt 0 0 0), (1, .I au), (7, .rs 16 0 o.length), (8, .I t2), (9, .I n), (11, .pv (sC x)), (12, .I e)], [(0, some (dice L b5)), (16, some ⟨13, X, o.length⟩)], 900⟩ rfl ?_ ?_
      · simp
        refine call0r [16] hnx (by simp [hXl, htk, hXf, hst]) (by simp) ?_
        simp [splice, hXl]
        exact Le.go [(0, 0), (16, 16)] [756] rfl rfl (by simp) (by simp [hXf, hXl])
      refine awp_regc ⟨55, [(0, .pt 0 0 0), (1, .I au), (7, .rs 16 0 o.length), (8, .I t2), (9, .I n), (11, .pv (sC x)), (49, .B (decide (e = 0)))], [(0, some (dice L b5)), (16, some ⟨13, X, o.length⟩)], 1000⟩ rfl ?_ ?_
      · simp
        exact Le.keep rfl (by simp) (by simp <;> rw [Bool.eq_iff_iff] <;> simp) (by simp)
      refine awp_cond _ rfl (fun h5 => ?_) fun h5 => awp_skip ?_
      · simp only [decide_eq_true_eq] at h5
        have hom : (o ++ [x]).map sC = X ++ [sC x] := by rw [List.map_append, ← hX]; rfl
        have hol : (o ++ [x]).length = o.length + 1 := by simp
        refine awp_reg rfl ?_
        simp [hXl, htk]
        refine ⟨by omega, by omega, o ++ [x], b5, o.length, ⟨hcx h5, by rw [hol]; omega, hb5, by rw [hol]; omega⟩, ?_⟩
        rw [hom, hol]
        exact Le.go [(0, 0), (1024, 16)] [] rfl rfl (by simp) (by simp [hXf, hXl])
      · exact ⟨((o, b5), o.length), ⟨hch, by simp only; omega, hb5, Nat.le_refl _⟩, Le.keep rfl (by simp) (by simp) (by simp [hX])⟩
    · rintro ⟨⟨o2, b6⟩, ro2⟩ ⟨h1, h2, h3, h4⟩
      simp only at h1 h2 h3 h4
      have hwn : IntKind.i64.wrap ((n : Int) - 1) = ((n - 1 : Nat) : Int) := by rw [w64 (by omega) (by omega)]; omega
      have hXf2 := sts_flat o2
      refine awp_reg rfl ?_
      simp [hwn]
      exact ⟨o2, b6, ro2, t2, n - 1, ⟨h1, by omega, h3, h4⟩, by omega, Le.go [(0, 0), (16, 16)] [] rfl rfl (by simp) (by simp [Function.comp_def]; exact h4)⟩
  rw [hX]
  refine rx (s := ?s9) [0, 6] [0, 16] [] rfl ?o9 ?q9
  case o9 => simp [Function.comp_def, hro]; rfl
  exact awp_ret (PostX.mk (.inr rfl) ((o, b), ro) ⟨hch, by simp only; omega, hbl⟩ (RetOk.k1m 16 (by simp) rfl (by simp) (by simp [Function.comp_def]) (by simp [Function.comp_def])))
end Go.Proofs.Ytnphfkceoklkkaa
namespace Go.Proofs.Ytnphfkceoklkkaa
open Go
set_option maxHeartbeats 1000000 in
set_option maxRecDepth 100000 in
theorem CopyList_ok (l : List Stm) (hl : l.length ≤ 100000) (hb : ∀ s ∈ l, StB s) : ACalls Try.prog nref03_CopyList [sts l] [] (.rs 0 0 l.length) [some ⟨13, l.map sC, 0⟩] := by
  refine sref03_CopyList.acalls (Nat.le_of_ble_eq_true rfl) (Nat.le_of_ble_eq_true rfl) (Nat.zero_le _) ?_
  show awp _ 0 _ _ ⟨20, [(0, sts l)], [], 16⟩
  refine rx (s := ?s1) [0] [] [] rfl ?o1 ?q1
  case o1 => simp; rfl
  refine rx (s := ?s2) [0, 3] [] [] rfl ?o2 ?q2
  case o2 => simp; rfl
  refine awp_seq ?_
  refine rx (s := ?s3) [0, 3, 4] [] [] rfl ?o3 ?q3
  case o3 => simp; rfl
  let Y : Nat → List (List AV) := fun i => (l.take i).map sC
  have hYl : ∀ i, i ≤ l.length → (Y i).length = i := fun i hi => by simp [Y]; omega
  have hYf : ∀ i ρ sn h m, (Y i).map (List.map (conv ρ sn h (m + 1))) = Y i := fun i => sts_flat _
  have hYs : ∀ i (h : i < l.length), Y (i + 1) = Y i ++ [sC l[i]] := fun i h => by
    simp only [Y]
    rw [List.take_succ_eq_append_getElem h, List.map_append]
    rfl
  have hYn : Y l.length = l.map sC := by simp only [Y]; rw [List.take_length]
  have hY0 : Y 0 = [] := rfl
  clear_value Y
  refine awp_block ?_
  refine awp_loop (ι := Nat) (fun i => ⟨20, [(0, sts l), (3, .rs 16 0 i), (4, .I i)], [(16, some ⟨13, Y i, 0⟩)], 40⟩) (fun i => i ≤ l.length) (fun i => l.length - i) 0 (Nat.zero_le _) (Le.lst [] [] [(16, 13)] rfl (by simp) (by simp) (by simp) (by simp) (by simp) (by simp) (by simp) (by simp [Up]) (by simp [hY0])) ?_
  intro i hi
  refine awp_seq ?_
  refine rk (s := ?s4) [0, 3, 4, 8] [16] rfl ?o4 ?q4
  case o4 => simp; rfl
  refine awp_cond _ rfl (fun h => awp_skip ?_) fun h => awp_exit (hit ?_)
  · simp only [decide_eq_true_eq, Int.ofNat_lt] at h
    have hg : l[i]? = some l[i] := List.getElem?_eq_getElem h
    have hsb := hb l[i] (List.getElem_mem h)
    have hys := hYs i h
    have hyl := hYl i hi
    have hyf := hYf i
    have hyf2 := hYf (i + 1)
    obtain ⟨s, hs⟩ : ∃ s, s = l[i] := ⟨_, rfl⟩
    rw [← hs] at hg hsb hys
    have hcp := ref03_Copy_ok s (by have := hsb.2.2.1; omega) (by have := hsb.2.2.2.1; omega)
    obtain ⟨X, hX⟩ : ∃ X, X = Y i := ⟨_, rfl⟩
    obtain ⟨X2, hX2⟩ : ∃ X2, X2 = Y (i + 1) := ⟨_, rfl⟩
    have htk : List.take i X = X := List.take_of_length_le (by rw [hX]; omega)
    rw [← hX] at hyl hyf hys ⊢
    rw [← hX2] at hyf2 hys
    refine awp_cut (ι := Unit) (fun _ => ⟨20, [(0, sts l), (3, .rs 16 0 (i + 1)), (4, .I i)], [(16, some ⟨13, X2, 0⟩)], 300⟩) (fun _ => True) ?_ fun _ _ => ?_
    · refine awp_block ?_
      refine awp_reg rfl ?_
      simp [hg]
      refine call0e hcp (by simp) ?_
      simp [hyl, htk]
      exact ⟨by omega, by omega, Le.Z1 (z := 13) hyf2 128 16 [] rfl rfl (by simp) (by simp) (by simp [hys]) (by simp)⟩
    have hwi := wr1 h (by omega)
    refine awp_reg rfl ?_
    simp [hwi]
    exact ⟨i + 1, by omega, by omega, Le.Z1 hyf2 16 16 [] rfl (by rw [hX2]) (by simp) (by simp) rfl (by simp)⟩
  simp only [decide_eq_false_iff_not, Int.ofNat_lt] at h
  obtain rfl : i = l.length := by omega
  rw [hYn]
  refine rx (s := ?s9) [2] [16] [] rfl ?o9 ?q9
  case o9 => simp [Function.comp_def]; rfl
  exact awp_ret ⟨.inr rfl, RetOk.out [16] [] rfl (by simp) (by simp) (by simp) (by simp [Function.comp_def])⟩
end Go.Proofs.Ytnphfkceoklkkaa
namespace Go.Proofs.Ytnphfkceoklkkaa
open Go
theorem Le.s3 {st st' : St} {L : List Int} {a : Nat} {X : List (List AV)} {r : List AV} (i j : Nat) (sn : List Nat) (hsz : st'.sz = st.sz) (hh : st'.h = [(0, some (dice L a)), (32, some ⟨13, X, 0⟩), (j, some ⟨13, [r], 0⟩)]) (hj : 0 < j ∧ j ≠ 32 ∧ i ≠ 0 ∧ i ≠ j) (hn : 32 < st'.n ∧ j < st'.n) (hs : ∀ k ∈ sn, 1 ≤ k ∧ k ∉ [0, i, j])
    (hX : ∀ ρ sn h m, X.map (List.map (conv ρ sn h (m + 1))) = X) (hr : ∀ ρ sn h m, r.map (conv ρ sn h (m + 1)) = r) (h1 : st.hp 0 = some (dice L a)) (h2 : st.hp i = some ⟨13, X, 0⟩) (h3 : st.hp j = some ⟨13, [r], 0⟩)
    (ht : ∀ p ∈ st'.t, Wk (conv [(0, 0), (i, 32), (j, j)] sn st.hp 4 (st.get p.1)) p.2) : Le 1 st st' := by
  refine Le.ents [(0, 0), (i, 32), (j, j)] sn hsz (by simp; omega) (by simp; omega) (by simp; omega) (fun k hk => ⟨(hs k hk).1, by simpa using (hs k hk).2⟩) (by omega) ht fun p hp => ?_
  rw [hh] at hp
  simp only [List.mem_cons, List.not_mem_nil, or_false] at hp
  rcases hp with rfl | rfl | rfl
  · exact ⟨0, _, _, rfl, by simp, h1, EntUp.eq (by simp) (by simp)⟩
  · exact ⟨i, _, _, rfl, by simp, h2, EntUp.eq (by simp only [convE, hX]) (by simp)⟩
  · exact ⟨j, _, _, rfl, by simp, h3, EntUp.eq (by simp [hr]) (by simp)⟩
def okL (l : List Stm) : Prop := ∀ s ∈ l, StOk s
set_option maxHeartbeats 8000000 in
set_option maxRecDepth 100000 in
theorem Spoil_any (L : List Int) (a : Nat) (ch : List Stm) (hl : L.length ≤ 400) (ha : a ≤ L.length) (hc : okL ch) (hcl : ch.length ≤ 100) : ∃ p : List Stm × Nat, (okL p.1 ∧ p.1.length ≤ 110 ∧ p.2 ≤ L.length) ∧ ACalls Try.prog nmade_Dice_Spoil [.pt 0 0 0, sts ch] [dice L a] (.rs 1 0 p.1.length) [some (dice L p.2), some ⟨13, p.1.map sC, 0⟩] := by
  have hcp := CopyList_ok ch (by omega) fun s hs => (hc s hs).b
  refine smade_Dice_Spoil.acallsX (args := [.pt 0 0 0, sts ch]) (hs := [dice L a]) (fun p => .rs 1 0 p.1.length) (fun p => [some (dice L p.2), some ⟨13, p.1.map sC, 0⟩]) (fun p : List Stm × Nat => okL p.1 ∧ p.1.length ≤ 110 ∧ p.2 ≤ L.length) (Nat.le_of_ble_eq_true rfl) (Nat.le_of_ble_eq_true rfl) (fun _ => by simp) ?_
  show awp _ 1 _ _ ⟨111, [(0, .pt 0 0 0), (1, sts ch)], [(0, some (dice L a))], 16⟩
  refine rx (s := ?s1) [0, 1] [0] [] rfl ?o1 ?q1
  case o1 => simp; rfl
  refine awp_regc ⟨111, [(0, .pt 0 0 0), (5, .rs 32 0 ch.length)], [(0, some (dice L a)), (32, some ⟨13, ch.map sC, 0⟩)], 50⟩ rfl ?_ ?_
  · simp
    refine callN1 hcp (by simp) ?_
    simp [Function.comp_def]
    exact Le.keep rfl (by simp) (by simp) (by simp)
  refine awp_seq ?_
  refine awp_regc ⟨111, [(0, .pt 0 0 0), (5, .rs 32 0 ch.length), (13, .B (decide (ch.length = 0)))], [(0, some (dice L a)), (32, some ⟨13, ch.map sC, 0⟩)], 80⟩ rfl ?_ ?_
  · simp
    exact Le.keep rfl (by simp) (by simp <;> rw [Bool.eq_iff_iff] <;> simp) (by simp)
  refine awp_cond _ rfl (fun h2 => ?_) fun h2 => awp_skip ?_
  · refine rx (s := ?s3) [0, 4] [0, 32] [] rfl ?o3 ?q3
    case o3 => simp [Function.comp_def]; rfl
    exact awp_ret (PostX.mk (.inr rfl) (ch, a) ⟨hc, by simp only; omega, ha⟩ (RetOk.k1m 32 (by simp) rfl (by simp) (by simp [Function.comp_def]) (by simp [Function.comp_def])))
  simp only [decide_eq_false_iff_not] at h2
  obtain ⟨y0, b0, ⟨hb0, hy1, _, hy2⟩, hn0⟩ := Next_any L a 3 hl ha (by decide)
  have hy3 := hy2 (by decide)
  obtain ⟨y, rfl⟩ : ∃ y : Nat, y0 = y := ⟨y0.toNat, by omega⟩
  refine awp_seq ?_
  refine awp_regc ⟨111, [(0, .pt 0 0 0), (5, .rs 32 0 ch.length), (6, .I y)], [(0, some (dice L b0)), (32, some ⟨13, ch.map sC, 0⟩)], 120⟩ rfl ?_ ?_
  · simp
    refine callM1 (i := 0) rfl (e' := dice L a) (by simp) hn0 (by simp) (by simp) ?_
    simp
    exact Le.keep rfl (by simp) (by simp) (by simp)
  refine awp_block ?_
  refine awp_loop (ι := (List Stm × Nat) × Nat) (fun p => ⟨111, [(0, .pt 0 0 0), (5, .rs 32 0 p.1.1.length), (6, .I p.2)], [(0, some (dice L p.1.2)), (32, some ⟨13, p.1.1.map sC, 0⟩)], 200⟩) (fun p => okL p.1.1 ∧ 0 < p.1.1.length ∧ p.1.1.length + p.2 ≤ 110 ∧ p.1.2 ≤ L.length) (fun p => p.2) ((ch, b0), y) ⟨hc, by simp only; omega, by simp only; omega, hb0⟩ (Le.keep rfl (by simp) (by simp) (by simp)) ?_
  rintro ⟨⟨o, b⟩, n⟩ ⟨hok, ho0, hon, hbl⟩
  simp only at hok ho0 hon hbl
  simp only
  have hXl : (o.map sC).length = o.length := List.length_map ..
  have hXf := sts_flat o
  have hXg : ∀ k (h : k < o.length), (o.map sC)[k]? = some (sC o[k]) := fun k h => by rw [List.getElem?_map, List.getElem?_eq_getElem h]; rfl
  obtain ⟨X, hX⟩ : ∃ X, X = o.map sC := ⟨_, rfl⟩
  rw [← hX] at hXl hXf hXg ⊢
  refine awp_seq ?_
  refine rk (s := ?s4) [0, 5, 6, 18] [0, 32] rfl ?o4 ?q4
  case o4 => simp; rfl
  refine awp_cond _ rfl (fun h => awp_skip ?_) fun h => awp_exit (hit ?_)
  · simp only [decide_eq_true_eq] at h
    refine awp_cut (ι := List Stm × Nat) (fun p => ⟨111, [(0, .pt 0 0 0), (5, .rs 32 0 p.1.length), (6, .I n)], [(0, some (dice L p.2)), (32, some ⟨13, p.1.map sC, 0⟩)], 5000⟩) (fun p => okL p.1 ∧ 0 < p.1.length ∧ p.1.length + (n - 1) ≤ 110 ∧ p.2 ≤ L.length) ?_ ?_
    · obtain ⟨k0, b1, ⟨hb1, hk1, _, hk2⟩, hn1⟩ := Next_any L b o.length hl hbl (by omega)
      have hk3 := hk2 (by omega)
      obtain ⟨k, rfl⟩ : ∃ k : Nat, k0 = k := ⟨k0.toNat, by omega⟩
      have hko : k < o.length := by omega
      have hxk := hXg k hko
      have hxo := hok o[k] (List.getElem_mem hko)
      obtain ⟨x, hx⟩ : ∃ x, x = o[k] := ⟨_, rfl⟩
      rw [← hx] at hxk hxo
      have hxb := hxo.b
      have hcx := ref03_Copy_ok x (by have := hxb.2.2.1; omega) (by have := hxb.2.2.2.1; omega)
      have hxk' : X[k]'(by omega) = sC x := by
        have := List.getElem?_eq_some_iff.1 hxk
        exact this.2
      obtain ⟨w, b2, ⟨hb2, _⟩, hn2⟩ := Next_any L b1 5 hl hb1 (by decide)
      refine awp_block ?_
      refine awp_regc ⟨111, [(0, .pt 0 0 0), (5, .rs 32 0 o.length), (6, .I n), (7, .pt 280 0 0)], [(0, some (dice L b1)), (32, some ⟨13, X, 0⟩), (280, some ⟨13, [sC x], 0⟩)], 320⟩ rfl ?_ ?_
      · simp
        refine callM1 (i := 0) rfl (e' := dice L b) (by simp) hn1 (by simp) (by simp) ?_
        simp [hko, hXl, hxk']
        refine call0e hcx (by simp) ?_
        simp [splice]
        exact Le.keep rfl (by simp) (by simp) (by simp)
      refine awp_cut (ι := (List Stm × Stm) × Nat) (fun p => ⟨111, [(0, .pt 0 0 0), (5, .rs 32 0 p.1.1.length), (6, .I n), (7, .pt 280 0 0)], [(0, some (dice L p.2)), (32, some ⟨13, p.1.1.map sC, 0⟩), (280, some ⟨13, [sC p.1.2], 0⟩)], 2000⟩) (fun p => okL p.1.1 ∧ 0 < p.1.1.length ∧ p.1.1.length ≤ o.length ∧ StB p.1.2 ∧ p.2 ≤ L.length) ?_ ?_
      · refine awp_regc ⟨111, [(0, .pt 0 0 0), (5, .rs 32 0 o.length), (6, .I n), (7, .pt 280 0 0), (30, .I w)], [(0, some (dice L b2)), (32, some ⟨13, X, 0⟩), (280, some ⟨13, [sC x], 0⟩)], 400⟩ rfl ?_ ?_
        · simp
          refine callM1 (i := 0) rfl (e' := dice L b1) (by simp) hn2 (by simp) (by simp) ?_
          simp
          exact Le.keep rfl (by simp) (by simp) (by simp)
        have hxf : ∀ (x : Stm) ρ sn h m, (sC x).map (conv ρ sn h (m + 1)) = sC x := fun x ρ sn h m => by simp
        have hback : ∀ (st : St) (x' : Stm) (c : Nat), st.sz = 111 → st.hp 0 = some (dice L c) → st.hp 32 = some ⟨13, X, 0⟩ → st.hp 280 = some ⟨13, [sC x'], 0⟩ → st.get 0 = .pt 0 0 0 → st.get 5 = .rs 32 0 o.length → st.get 6 = .I n → st.get 7 = .pt 280 0 0 → Le 1 st ⟨111, [(0, .pt 0 0 0), (5, .rs 32 0 o.length), (6, .I n), (7, .pt 280 0 0)], [(0, some (dice L c)), (32, some ⟨13, o.map sC, 0⟩), (280, some ⟨13, [sC x'], 0⟩)], 2000⟩ := fun st x' c g0 g1 g2 g3 g4 g5 g6 g7 => by
          rw [← hX]
          exact Le.s3 32 280 [] g0.symm rfl (by simp) (by simp) (by simp) hXf (hxf x') g1 g2 g3 (by simp [g4, g5, g6, g7])
        refine awp_block ?_
        refine rk (s := ?s11) [0, 5, 6, 7, 30, 47] [0, 32, 280] rfl ?o11 ?q11
        case o11 => simp; rfl
        refine awp_cond _ rfl (fun h12 => ?_) fun h12 => ?_
        · refine rk (s := ?s13) [0, 5, 6, 7] [0, 32, 280] rfl ?o13 ?q13
          case o13 => simp [splice]; rfl
          have hmod := Mod_ok (IntKind.i64.wrap (2 - x.ki)) 2 (by decide)
          refine awp_drw rfl ?_
          simp
          refine call0e hmod (by simp) ?_
          simp [splice]
          exact ⟨rfl, o, { x with ti := IntKind.i64.wrap (x.ti + 1), c := if x.c < IntKind.i64.wrap (IntKind.i64.wrap (x.ti + 1) * modI (IntKind.i64.wrap (2 - x.ki)) 2) then IntKind.i64.wrap (IntKind.i64.wrap (x.ti + 1) * modI (IntKind.i64.wrap (2 - x.ki)) 2) else x.c }, b2, ⟨hok, ho0, Nat.le_refl _, hxb, hb2⟩, hback _ _ _ rfl rfl rfl rfl rfl rfl rfl rfl⟩
        refine rk (s := ?s17) [0, 5, 6, 7, 30, 64] [0, 32, 280] rfl ?o17 ?q17
        case o17 => simp; rfl
        refine awp_cond _ rfl (fun h18 => ?_) fun h18 => ?_
        · obtain ⟨z, b3, ⟨hb3, _⟩, hn3⟩ := Next_any L b2 3 hl hb2 (by decide)
          obtain ⟨⟨d, b4⟩, ⟨hd, hb4⟩, hdg⟩ := Digest_any L b3 hl hb3
          simp only at hd hb4 hdg
          obtain ⟨q, hq⟩ : ∃ q, q = (if 199 < IntKind.i64.wrap (IntKind.i64.wrap (x.nu + 1) + z) then 199 else IntKind.i64.wrap (IntKind.i64.wrap (x.nu + 1) + z)) := ⟨_, rfl⟩
          refine awp_dregc ⟨111, [(0, .pt 0 0 0), (5, .rs 32 0 o.length), (6, .I n), (7, .pt 280 0 0)], [(0, some (dice L b3)), (32, some ⟨13, X, 0⟩), (280, some ⟨13, [sC { x with nu := q }], 0⟩)], 800⟩ rfl ?_ ?_
          · simp
            refine callM1 (i := 0) rfl (e' := dice L b2) (by simp) hn3 (by simp) (by simp) ?_
            simp [splice]
            exact ⟨rfl, Le.keep rfl (by simp) (by simp) (by simp [hq])⟩
          refine rk (s := ?s20) [0, 5, 6, 7, 77] [0, 32, 280] rfl ?o20 ?q20
          case o20 => simp; rfl
          refine awp_cond _ rfl (fun h21 => ?_) fun h21 => awp_skip ?_
          · refine awp_reg rfl ?_
            simp
            refine callM1 (i := 0) rfl (e' := dice L b3) (by simp) hdg (by simp) (by simp) ?_
            simp [splice]
            exact ⟨o, { x with nu := q, pr := d }, b4, ⟨hok, ho0, Nat.le_refl _, ⟨by show d.size ≤ 5000; omega, hxb.2⟩, hb4⟩, hback _ _ _ rfl rfl rfl rfl rfl rfl rfl rfl⟩
          · exact ⟨((o, { x with nu := q }), b3), ⟨hok, ho0, Nat.le_refl _, hxb, hb3⟩, hback _ _ _ rfl rfl rfl rfl rfl rfl rfl rfl⟩
        refine rk (s := ?s28) [0, 5, 6, 7, 30, 81] [0, 32, 280] rfl ?o28 ?q28
        case o28 => simp; rfl
        refine awp_cond _ rfl (fun h22 => ?_) fun h22 => ?_
        · refine awp_reg rfl ?_
          simp [splice]
          exact ⟨o, { x with ti := if 0 < IntKind.i64.wrap (x.ti - 30) then IntKind.i64.wrap (x.ti - 30) else 0 }, b2, ⟨hok, ho0, Nat.le_refl _, hxb, hb2⟩, hback _ _ _ rfl rfl rfl rfl rfl rfl rfl rfl⟩
        refine rk (s := ?s29) [0, 5, 6, 7, 88] [0, 32, 280] rfl ?o29 ?q29
        case o29 => simp; rfl
        refine awp_cond _ rfl (fun h23 => ?_) fun h23 => ?_
        · refine rk (s := ?s30) [0, 5, 6, 7, 92] [0, 32, 280] rfl ?o30 ?q30
          case o30 => simp; rfl
          refine awp_cond _ rfl (fun h24 => ?_) fun h24 => awp_skip ?_
          · obtain ⟨⟨d, b4⟩, ⟨hd, hb4⟩, hdg⟩ := Digest_any L b2 hl hb2
            simp only at hd hb4 hdg
            refine awp_reg rfl ?_
            simp
            refine callM1 (i := 0) rfl (e' := dice L b2) (by simp) hdg (by simp) (by simp) ?_
            simp [splice]
            exact ⟨o, { x with pr := d }, b4, ⟨hok, ho0, Nat.le_refl _, ⟨by show d.size ≤ 5000; omega, hxb.2⟩, hb4⟩, hback _ _ _ rfl rfl rfl rfl rfl rfl rfl rfl⟩
          · exact ⟨((o, x), b2), ⟨hok, ho0, Nat.le_refl _, hxb, hb2⟩, hback _ _ _ rfl rfl rfl rfl rfl rfl rfl rfl⟩
        refine rk (s := ?s31) [0, 5, 6, 7, 33] [0, 32, 280] rfl ?o31 ?q31
        case o31 => simp; rfl
        refine awp_cond _ rfl (fun h25 => ?_) fun h25 => awp_skip ?_
        · have h26 : 1 < o.length := by simp at h25; omega
          obtain ⟨k0, b3, ⟨hb3, hk4, _, hk5⟩, hn3⟩ := Next_any L b2 o.length hl hb2 (by omega)
          have hk6 := hk5 (by omega)
          obtain ⟨j, rfl⟩ : ∃ k : Nat, k0 = k := ⟨k0.toNat, by omega⟩
          obtain ⟨j2, hj2⟩ : ∃ j2, j2 = j + 1 := ⟨_, rfl⟩
          have hwj : IntKind.i64.wrap ((j : Int) + 1) = (j2 : Int) := by rw [w64 (by omega) (by omega)]; omega
          refine awp_regc ⟨111, [(0, .pt 0 0 0), (5, .rs 32 0 o.length), (6, .I n), (7, .pt 280 0 0), (8, .I j)], [(0, some (dice L b3)), (32, some ⟨13, X, 0⟩), (280, some ⟨13, [sC x], 0⟩)], 1000⟩ rfl ?_ ?_
          · simp
            refine callM1 (i := 0) rfl (e' := dice L b2) (by simp) hn3 (by simp) (by simp) ?_
            simp
            exact Le.keep rfl (by simp) (by simp) (by simp)
          have hom : (o.take j ++ o.drop j2).map sC = X.take j ++ X.drop j2 := by rw [hX, List.map_append, List.map_take, List.map_drop]
          have hol : (o.take j ++ o.drop j2).length = o.length - 1 := by rw [List.length_append, List.length_take, List.length_drop]; omega
          have hXf2 := sts_flat (o.take j ++ o.drop j2)
          rw [hom] at hXf2
          have hokn : okL (o.take j ++ o.drop j2) := fun s hs => by
            rcases List.mem_append.1 hs with hs | hs
            · exact hok s (List.mem_of_mem_take hs)
            · exact hok s (List.mem_of_mem_drop hs)
          have hmin : min j o.length = j := by omega
          have hjl : j ≤ o.length := by omega
          have hj2l : j2 ≤ o.length := by omega
          have htk : List.take (o.length - j2) (X.drop j2) = X.drop j2 := List.take_of_length_le (by rw [List.length_drop]; omega)
          have hle : j + (o.length - j2) = o.length - 1 := by omega
          refine awp_drw rfl ?_
          simp [hXl, hmin, hjl, hj2l, hwj, htk]
          refine ⟨by omega, by omega, by omega, by omega, rfl, o.take j ++ o.drop j2, x, b3, ⟨hokn, by rw [hol]; omega, by rw [hol]; omega, hxb, hb3⟩, ?_⟩
          rw [hom, hol, ← hle]
          exact Le.s3 1064 280 [] rfl rfl (by simp) (by simp) (by simp) hXf2 (hxf x) rfl rfl rfl (by simp)
        · exact ⟨((o, x), b2), ⟨hok, ho0, Nat.le_refl _, hxb, hb2⟩, hback _ _ _ rfl rfl rfl rfl rfl rfl rfl rfl⟩
      · rintro ⟨⟨o2, x2⟩, b3⟩ ⟨g1, g2, g3, g4, g5⟩
        simp only at g1 g2 g3 g4 g5
        simp only
        clear hXl hXf hXg hX hxk' hxk
        have hXl : (o2.map sC).length = o2.length := List.length_map ..
        have hXf := sts_flat o2
        obtain ⟨X, hX⟩ : ∃ X, X = o2.map sC := ⟨_, rfl⟩
        rw [← hX] at hXl hXf ⊢
        have hsl := ref03_Seal_ok x2 g4
        obtain ⟨x3, hx3⟩ : ∃ x3 : Stm, x3 = { x2 with sk := x2.au, sd := digS x2 } := ⟨_, rfl⟩
        rw [← hx3] at hsl
        have g6 : StB x3 := by rw [hx3]; exact g4
        obtain ⟨e, he0, hchk⟩ := ref03_Check_ok x3 (by have := g6.2.2.1; omega) (by have := g6.2.2.2.1; omega)
        obtain ⟨r, b4, hb4, hone⟩ := One_any L b3 3 hl g5 (by decide) (by decide)
        refine awp_regc ⟨111, [(0, .pt 0 0 0), (5, .rs 32 0 o2.length), (6, .I n), (7, .pt 280 0 0)], [(0, some (dice L b3)), (32, some ⟨13, X, 0⟩), (280, some ⟨13, [sC x3], 0⟩)], 2200⟩ rfl ?_ ?_
        · simp
          refine call0e hsl (by simp) ?_
          simp [splice]
          exact Le.keep rfl (by simp) (by simp) (by simp)
        obtain ⟨b5, hb5, hb5'⟩ : ∃ b5, b5 ≤ L.length ∧ b5 = if e = 0 then b4 else b3 := by
          refine ⟨_, ?_, rfl⟩
          split
          · exact hb4
          · exact g5
        refine awp_regc ⟨111, [(0, .pt 0 0 0), (5, .rs 32 0 o2.length), (6, .I n), (7, .pt 280 0 0), (105, .B (decide (e = 0) && !r))], [(0, some (dice L b5)), (32, some ⟨13, X, 0⟩), (280, some ⟨13, [sC x3], 0⟩)], 2500⟩ rfl ?_ ?_
        · simp
          refine call0e hchk (by simp) ?_
          by_cases h1 : e = 0
          · have h1' : (e == 0) = true := by simp [h1]
            rw [if_pos h1] at hb5'
            simp [h1']
            refine callM1 (i := 0) rfl (e' := dice L b3) (by simp) hone (by simp) (by simp) ?_
            simp
            exact Le.keep rfl (by simp) (by simp [h1]) (by simp [hb5'])
          · have h1' : (e == 0) = false := by simp [h1]
            rw [if_neg h1] at hb5'
            simp [h1']
            exact Le.keep rfl (by simp) (by simp [h1]) (by simp [hb5'])
        refine awp_cond _ rfl (fun h5 => ?_) fun h5 => awp_skip ?_
        · have h6 : StOk x3 := he0.1 (by simp at h5; exact h5.1)
          have hom : (o2 ++ [x3]).map sC = X ++ [sC x3] := by rw [List.map_append, ← hX]; rfl
          have hol : (o2 ++ [x3]).length = o2.length + 1 := by simp
          have htk : List.take o2.length X = X := List.take_of_length_le (by omega)
          have hokn : okL (o2 ++ [x3]) := fun s hs => by
            rcases List.mem_append.1 hs with hs | hs
            · exact g1 s hs
            · rw [List.mem_singleton] at hs; rw [hs]; exact h6
          refine awp_reg rfl ?_
          simp [hXl, htk]
          refine ⟨by omega, by omega, o2 ++ [x3], b5, ⟨hokn, by rw [hol]; omega, by rw [hol]; omega, hb5⟩, ?_⟩
          rw [hom, hol]
          exact Le.go [(0, 0), (2524, 32)] [] rfl rfl (by simp) (by simp [hXf])
        · exact ⟨(o2, b5), ⟨g1, g2, by simp only; omega, hb5⟩, Le.keep rfl (by simp) (by simp) (by simp [hX])⟩
    · rintro ⟨o2, b6⟩ ⟨h1, h2, h3, h4⟩
      simp only at h1 h2 h3 h4
      have hwn : IntKind.i64.wrap ((n : Int) - 1) = ((n - 1 : Nat) : Int) := by rw [w64 (by omega) (by omega)]; omega
      have hXf2 := sts_flat o2
      refine awp_reg rfl ?_
      simp [hwn]
      exact ⟨o2, b6, n - 1, ⟨h1, h2, by omega, h4⟩, by omega, Le.go [(0, 0), (32, 32)] [] rfl rfl (by simp) (by simp [Function.comp_def])⟩
  rw [hX]
  refine rx (s := ?s9) [0, 4] [0, 32] [] rfl ?o9 ?q9
  case o9 => simp [Function.comp_def]; rfl
  exact awp_ret (PostX.mk (.inr rfl) (o, b) ⟨hok, by simp only; omega, hbl⟩ (RetOk.k1m 32 (by simp) rfl (by simp) (by simp [Function.comp_def]) (by simp [Function.comp_def])))
end Go.Proofs.Ytnphfkceoklkkaa
namespace Go.Proofs.Ytnphfkceoklkkaa
open Go
theorem Chain.okL {a : Int} {c : List Stm} (hc : Chain a c) : okL c := fun s hs => by
  obtain ⟨i, hi, rfl⟩ := List.mem_iff_getElem.1 hs
  exact (hc.1 i hi).ok
set_option maxHeartbeats 1000000 in
set_option maxRecDepth 100000 in
theorem Lists_any (L : List Int) (a : Nat) (A m : Nat) (hl : L.length ≤ 400) (ha : a ≤ L.length) (hA : A ≤ 100) (hm : m ≤ 100) : ∃ p : List Stm × Nat, (okL p.1 ∧ p.1.length ≤ 100000 ∧ p.2 ≤ L.length) ∧ ACalls Try.prog nmade_Dice_Lists [.pt 0 0 0, .I A, .I m] [dice L a] (.rs 1 0 p.1.length) [some (dice L p.2), some ⟨13, p.1.map sC, 0⟩] := by
  refine smade_Dice_Lists.acallsX (args := [.pt 0 0 0, .I A, .I m]) (hs := [dice L a]) (fun p => .rs 1 0 p.1.length) (fun p => [some (dice L p.2), some ⟨13, p.1.map sC, 0⟩]) (fun p : List Stm × Nat => okL p.1 ∧ p.1.length ≤ 100000 ∧ p.2 ≤ L.length) (Nat.le_of_ble_eq_true rfl) (Nat.le_of_ble_eq_true rfl) (fun _ => by simp) ?_
  show awp _ 1 _ _ ⟨23, [(0, .pt 0 0 0), (1, .I A), (2, .I m)], [(0, some (dice L a))], 16⟩
  refine rx (s := ?s1) [0, 1, 2] [0] [] rfl ?o1 ?q1
  case o1 => simp; rfl
  refine rx (s := ?s2) [0, 1, 2, 7] [0] [] rfl ?o2 ?q2
  case o2 => simp; rfl
  refine awp_seq ?_
  refine rx (s := ?s3) [0, 1, 2, 7, 8] [0] [] rfl ?o3 ?q3
  case o3 => simp; rfl
  refine awp_block ?_
  refine awp_loop (ι := (List Stm × Nat) × Nat) (fun p => ⟨23, [(0, .pt 0 0 0), (1, .I A), (2, .I m), (7, .rs 24 0 p.1.1.length), (8, .I p.2)], [(0, some (dice L p.1.2)), (24, some ⟨13, p.1.1.map sC, 0⟩)], 200⟩) (fun p => p.2 ≤ A ∧ okL p.1.1 ∧ p.1.1.length ≤ 110 * p.2 ∧ p.1.2 ≤ L.length) (fun p => A - p.2) (([], a), 0) ⟨Nat.zero_le _, fun s hs => by simp at hs, Nat.zero_le _, ha⟩ ?_ ?_
  · refine Le.lst [(0, 0)] [] [(24, 13)] rfl (by simp) (by simp) (by simp) (by simp) (by simp) (by simp) (by simp) (by simp [Up]) fun p hp e' he' => ?_
    simp only [List.mem_cons, List.not_mem_nil, or_false] at hp
    rcases hp with rfl | rfl
    · cases he'
      exact .inl ⟨(0, 0), by simp, rfl, _, rfl, EntUp.eq (by simp) (by simp)⟩
    · cases he'
      exact .inr ⟨by simp, by simp, rfl⟩
  rintro ⟨⟨o, b⟩, i⟩ ⟨hi, hok, hon, hbl⟩
  simp only at hi hok hon hbl
  simp only
  have hXl : (o.map sC).length = o.length := List.length_map ..
  have hXf := sts_flat o
  obtain ⟨X, hX⟩ : ∃ X, X = o.map sC := ⟨_, rfl⟩
  rw [← hX] at hXl hXf ⊢
  refine awp_seq ?_
  refine rk (s := ?s4) [0, 1, 2, 7, 8, 11] [0, 24] rfl ?o4 ?q4
  case o4 => simp; rfl
  refine awp_cond _ rfl (fun h => awp_skip ?_) fun h => awp_exit (hit ?_)
  · simp only [decide_eq_true_eq, Int.ofNat_lt] at h
    obtain ⟨⟨⟨c, b1⟩, ro⟩, ⟨hc1, hc2, hc3⟩, hch⟩ := Chain_any L b i m hl hbl hm
    simp only at hc1 hc2 hc3 hch
    obtain ⟨⟨d, b2⟩, ⟨hd1, hd2, hd3⟩, hsp⟩ := Spoil_any L b1 c hl hc3 hc1.okL hc2
    simp only at hd1 hd2 hd3 hsp
    have hom : (o ++ d).map sC = X ++ d.map sC := by rw [List.map_append, ← hX]
    have hol : (o ++ d).length = o.length + d.length := List.length_append ..
    have hXf2 := sts_flat (o ++ d)
    have hcf := sts_flat c
    have hcl : (c.map sC).length = c.length := List.length_map ..
    have hdf := sts_flat d
    have hdl : (d.map sC).length = d.length := List.length_map ..
    have hsc : sts c = .vs 13 false (c.map sC) := rfl
    rw [hom] at hXf2
    have hokn : okL (o ++ d) := fun s hs => by
      rcases List.mem_append.1 hs with hs | hs
      · exact hok s hs
      · exact hd1 s hs
    obtain ⟨C, hC⟩ : ∃ C, C = c.map sC := ⟨_, rfl⟩
    obtain ⟨D, hD⟩ : ∃ D, D = d.map sC := ⟨_, rfl⟩
    rw [← hC] at hcf hcl hch hsc
    rw [← hD] at hdf hdl hsp hom hXf2
    rw [hsc] at hsp
    have htX : List.take o.length X = X := List.take_of_length_le (by omega)
    have htC : List.take c.length C = C := List.take_of_length_le (by omega)
    have htD : List.take d.length D = D := List.take_of_length_le (by omega)
    refine awp_cut (ι := Unit) (fun _ => ⟨23, [(0, .pt 0 0 0), (1, .I A), (2, .I m), (7, .rs 24 0 (o.length + d.length)), (8, .I i)], [(0, some (dice L b2)), (24, some ⟨13, X ++ D, 0⟩)], 1000⟩) (fun _ => True) ?_ fun _ _ => ?_
    · refine awp_block ?_
      refine awp_reg rfl ?_
      simp
      refine callM1 (i := 0) rfl (e' := dice L b) (by simp) hch (by simp) (by simp) ?_
      simp [hcf]
      refine callM1s (i := 0) (j := 264) (by decide) (by decide) rfl rfl (e' := dice L b1) (by simp) hsp (by simp) (by simp [hcl, htC, hcf]) ?_
      simp [hXl, htX, hdl, htD, hdf]
      exact ⟨by omega, by omega, Le.go [(0, 0), (280, 24)] [] rfl rfl (by simp) (by simp [hXf, hdf])⟩
    have hwi := wr1 h (by omega)
    refine awp_reg rfl ?_
    simp [hwi]
    refine ⟨o ++ d, b2, i + 1, ⟨by omega, hokn, by rw [hol]; omega, hd3⟩, by omega, ?_⟩
    rw [hom, hol]
    exact Le.go [(0, 0), (24, 24)] [] rfl rfl (by simp) (by simp [hXf, hdf])
  rw [hX]
  refine rx (s := ?s9) [0, 6] [0, 24] [] rfl ?o9 ?q9
  case o9 => simp [Function.comp_def]; rfl
  exact awp_ret (PostX.mk (.inr rfl) (o, b) ⟨hok, by simp only; omega, hbl⟩ (RetOk.k1m 24 (by simp) rfl (by simp) (by simp [Function.comp_def]) (by simp [Function.comp_def])))
set_option maxHeartbeats 1000000 in
set_option maxRecDepth 100000 in
theorem Store_any (L : List Int) (a : Nat) (m : Nat) (hl : L.length ≤ 400) (ha : a ≤ L.length) (hm : m ≤ 100) : ∃ p : List Stm × Nat, (okL p.1 ∧ p.1.length ≤ 1000 ∧ p.2 ≤ L.length) ∧ ACalls Try.prog nmade_Dice_Store [.pt 0 0 0, .I m] [dice L a] (.agg [sts p.1]) [some (dice L p.2)] := by
  obtain ⟨y0, b0, ⟨hb0, hy1, _, hy2⟩, hn0⟩ := Next_any L a 5 hl ha (by decide)
  have hy3 := hy2 (by decide)
  obtain ⟨y, rfl⟩ : ∃ y : Nat, y0 = y := ⟨y0.toNat, by omega⟩
  obtain ⟨z, hz⟩ : ∃ z, z = 1 + y := ⟨_, rfl⟩
  have hwz : IntKind.i64.wrap (1 + (y : Int)) = (z : Int) := by rw [w64 (by omega) (by omega)]; omega
  obtain ⟨⟨l, b1⟩, ⟨hl1, hl2, hb1⟩, hli⟩ := Lists_any L b0 z m hl hb0 (by omega) hm
  simp only at hl1 hl2 hb1 hli
  obtain ⟨s, ⟨hs1, hs2⟩, hst⟩ := MadeStoreOf_any l hl2 fun x hx => (hl1 x hx).b
  refine ⟨(s, b1), ⟨hs2, hs1, hb1⟩, ?_⟩
  refine smade_Dice_Store.acalls (Nat.le_of_ble_eq_true rfl) (Nat.le_of_ble_eq_true rfl) (Nat.le_refl _) ?_
  show awp _ 1 _ _ ⟨12, [(0, .pt 0 0 0), (1, .I m)], [(0, some (dice L a))], 16⟩
  have hXl : (l.map sC).length = l.length := List.length_map ..
  have hXf := sts_flat l
  have hsc : sts l = .vs 13 false (l.map sC) := rfl
  obtain ⟨X, hX⟩ : ∃ X, X = l.map sC := ⟨_, rfl⟩
  rw [← hX] at hXl hXf hli hsc
  rw [hsc] at hst
  have htX : List.take l.length X = X := List.take_of_length_le (by omega)
  refine rx (s := ?s1) [0, 1, 4] [0, 16] [] rfl ?o1 ?q1
  case o1 => simp; rfl
  refine awp_regc ⟨12, [(4, .pv [sts s])], [(0, some (dice L b1))], 300⟩ rfl ?_ (awp_ret ⟨.inr rfl, RetOk.k1 rfl (by simp) (by simp)⟩)
  simp
  refine callM1 (i := 0) rfl (e' := dice L a) (by simp) hn0 (by simp) (by simp) ?_
  simp [hwz]
  refine callM1 (i := 0) rfl (e' := dice L b0) (by simp) hli (by simp) (by simp) ?_
  simp [hXf]
  refine call0r [64] hst (by simp [hXl, htX, hXf]) (by simp) ?_
  simp [splice, hXl]
  exact Le.go [(0, 0)] [16] rfl rfl (by simp) (by simp)
end Go.Proofs.Ytnphfkceoklkkaa
namespace Go.Proofs.Ytnphfkceoklkkaa
open Go
theorem outV {st : St} {X : List (List AV)} (hflat : ∀ ρ sn h m, X.map (List.map (conv ρ sn h (m + 1))) = X) (he : st.hp 0 = some ⟨7, X, 0⟩) : RetOk [] 1 st (.tup []) [some ⟨7, X, 0⟩] :=
  ⟨[], rfl, [], [], by simp [List.range, List.range.loop], by simp, by simp, by simp, by simp [List.range, List.range.loop, he, convE, hflat]⟩
theorem swap2_get {H G T : List Vch} {x y : Vch} {p q : Nat} (hp : H.length = p) (hq : p + 1 + G.length = q) : (rowsV (H ++ x :: (G ++ y :: T)))[p]? = some (vC x) ∧ (rowsV (H ++ x :: (G ++ y :: T)))[q]? = some (vC y) := by
  subst hp hq
  constructor
  · rw [List.getElem?_map, List.getElem?_append_right (by omega)]
    simp
  · rw [List.getElem?_map, List.getElem?_append_right (by omega)]
    have e : H.length + 1 + G.length - H.length = G.length + 1 := by omega
    rw [e, List.getElem?_cons_succ, List.getElem?_append_right (by omega)]
    simp
theorem swap2_set {H G T : List Vch} {x y : Vch} {p q : Nat} (hp : H.length = p) (hq : p + 1 + G.length = q) : ((rowsV (H ++ x :: (G ++ y :: T))).set p (vC y)).set q (vC x) = rowsV (H ++ y :: (G ++ x :: T)) := by
  subst hp hq
  have e1 : (rowsV (H ++ x :: (G ++ y :: T))).set H.length (vC y) = rowsV (H ++ y :: (G ++ y :: T)) := by simp [rowsV, List.set_append]
  rw [e1, rowsV, List.map_append, List.set_append_right _ _ (by simp; omega)]
  have e : H.length + 1 + G.length - (H.map vC).length = G.length + 1 := by simp; omega
  rw [e, List.map_cons, List.set_cons_succ, List.map_append, List.set_append_right _ _ (by simp)]
  simp
set_option maxHeartbeats 4000000 in
set_option maxRecDepth 100000 in
theorem swapRangeV_ok (f : FuncId) (capt : List AV) (hs : StillV capt) (P X Q Y R : List Vch) (n a b t : Nat) (hn : (P ++ (X ++ (Q ++ (Y ++ R)))).length = n) (ha : P.length = a) (hX : X.length = t) (hY : Y.length = t) (hb : a + t + Q.length = b) (hl : n ≤ 1000000) :
    ACalls Try.prog nslices_swapRangeCmpFunc_api_Vouch [.rs 0 0 n, .I a, .I b, .I t, .fn (.func f) [] capt] [⟨7, rowsV (P ++ (X ++ (Q ++ (Y ++ R)))), 0⟩] (.tup []) [some ⟨7, rowsV (P ++ (Y ++ (Q ++ (X ++ R)))), 0⟩] := by
  have hs2 : ∀ ρ sn h, capt.map (conv ρ sn h 2) = capt := fun _ _ _ => hs _ _ _ 1
  have hs3 : ∀ ρ sn h, capt.map (conv ρ sn h 3) = capt := fun _ _ _ => hs _ _ _ 2
  have hs4 : ∀ ρ sn h, capt.map (conv ρ sn h 4) = capt := fun _ _ _ => hs _ _ _ 3
  refine sslices_swapRangeCmpFunc_api_Vouch.acalls (Nat.le_of_ble_eq_true rfl) (Nat.le_of_ble_eq_true rfl) (Nat.le_of_ble_eq_true rfl) ?_
  show awp _ 1 _ _ ⟨38, [(0, .rs 0 0 n), (1, .I a), (2, .I b), (3, .I t), (4, .fn (.func f) [] capt)], [(0, some ⟨7, rowsV (P ++ (X ++ (Q ++ (Y ++ R)))), 0⟩)], 16⟩
  have hab : a + t ≤ b := by omega
  have hbn : b + t + R.length = n := by simp only [List.length_append] at hn; omega
  refine awp_regc ⟨38, [(0, .rs 0 0 n), (1, .I a), (2, .I b), (3, .I t), (10, .I (0 : Nat))], [(0, some ⟨7, rowsV (P ++ (X ++ (Q ++ (Y ++ R)))), 0⟩)], 24⟩ rfl ?_ ?_
  · simp
    exact Le.keep rfl (Nat.le_refl _) (by simp) (by simp)
  refine awp_block ?_
  obtain ⟨F, hF⟩ : ∃ F, F = P ++ (Y ++ (Q ++ (X ++ R))) := ⟨_, rfl⟩
  rw [← hF]
  refine awp_loop (ι := (List Vch × List Vch × List Vch × List Vch) × Nat) (fun q => ⟨38, [(0, .rs 0 0 n), (1, .I a), (2, .I b), (3, .I t), (10, .I q.2)], [(0, some ⟨7, rowsV (q.1.1 ++ (q.1.2.1 ++ (q.1.2.2.1 ++ (q.1.2.2.2 ++ R)))), 0⟩)], 24⟩)
    (fun q => q.1.1.length = a + q.2 ∧ q.1.2.1.length + q.2 = t ∧ q.1.2.2.2.length + q.2 = t ∧ a + t + q.1.2.2.1.length = b + q.2 ∧ F = q.1.1 ++ (q.1.2.2.2 ++ (q.1.2.2.1 ++ (q.1.2.1 ++ R)))) (fun q => t - q.2) ((P, X, Q, Y), 0) ⟨ha, hX, hY, hb, hF⟩ (Le.refl _ _) ?_
  rintro ⟨⟨P, X, Q, Y⟩, i⟩ ⟨h1, h2, h3, h4, h5⟩
  simp only at h1 h2 h3 h4 h5
  refine awp_seq ?_
  refine awp_regc ⟨38, [(0, .rs 0 0 n), (1, .I a), (2, .I b), (3, .I t), (10, .I i), (13, .B (decide (i < t)))], [(0, some ⟨7, rowsV (P ++ (X ++ (Q ++ (Y ++ R)))), 0⟩)], 48⟩ rfl ?_ ?_
  · generalize rowsV (P ++ (X ++ (Q ++ (Y ++ R)))) = Z at *
    simp
    exact Le.keep rfl (Nat.le_refl _) (by simp) (by simp)
  refine awp_cond _ rfl (fun h => awp_skip ?_) fun h => awp_exit (hit ?_)
  · simp only [decide_eq_true_eq] at h
    obtain ⟨x, X, rfl⟩ : ∃ x X', X = x :: X' := by cases X with | nil => simp at h2; omega | cons x X => exact ⟨x, X, rfl⟩
    obtain ⟨y, Y, rfl⟩ : ∃ x X', Y = x :: X' := by cases Y with | nil => simp at h3; omega | cons x X => exact ⟨x, X, rfl⟩
    simp only [List.length_cons] at h2 h3
    have hwi : IntKind.i64.wrap ((i : Int) + 1) = ((i + 1 : Nat) : Int) := by rw [w64 (by omega) (by omega)]; omega
    have hw1 : IntKind.i64.wrap ((a : Int) + (i : Int)) = ((a + i : Nat) : Int) := by rw [w64 (by omega) (by omega)]; omega
    have hw2 : IntKind.i64.wrap ((b : Int) + (i : Int)) = ((b + i : Nat) : Int) := by rw [w64 (by omega) (by omega)]; omega
    have e1 : P ++ (x :: X ++ (Q ++ (y :: Y ++ R))) = P ++ x :: ((X ++ Q) ++ y :: (Y ++ R)) := by simp
    have e2 : P ++ y :: ((X ++ Q) ++ x :: (Y ++ R)) = (P ++ [y]) ++ (X ++ ((Q ++ [x]) ++ (Y ++ R))) := by simp
    have hg := swap2_get (H := P) (G := X ++ Q) (T := Y ++ R) (x := x) (y := y) (p := a + i) (q := b + i) h1 (by rw [List.length_append]; omega)
    have hset := swap2_set (H := P) (G := X ++ Q) (T := Y ++ R) (x := x) (y := y) (p := a + i) (q := b + i) h1 (by rw [List.length_append]; omega)
    obtain ⟨g1, g2⟩ := hg
    rw [e2] at hset
    rw [e1]
    have hai : a + i < n := by omega
    have hbi : b + i < n := by omega
    have hpq : a + i ≠ b + i := by omega
    refine awp_cut (ι := Unit) (fun _ => ⟨38, [(0, .rs 0 0 n), (1, .I a), (2, .I b), (3, .I t), (10, .I i)], [(0, some ⟨7, rowsV ((P ++ [y]) ++ (X ++ ((Q ++ [x]) ++ (Y ++ R)))), 0⟩)], 400⟩) (fun _ => True) ?_ fun _ _ => ?_
    · generalize rowsV ((P ++ [y]) ++ (X ++ ((Q ++ [x]) ++ (Y ++ R)))) = Z2 at *
      generalize rowsV (P ++ x :: ((X ++ Q) ++ y :: (Y ++ R))) = Z at *
      generalize a + i = p at *
      generalize b + i = q at *
      have g3 : (Z.set p (vC y))[q]? = some (vC y) := by
        rw [List.getElem?_set, if_neg hpq]
        exact g2
      refine awp_block ?_
      refine awp_drw rfl ?_
      simp [hw1, hw2, hai, hbi, g1, g2, g3, splice]
      exact ⟨rfl, Le.keep rfl (by simp) (by simp) (by simp; exact hset)⟩
    refine awp_reg rfl ?_
    have hf2 := rowsV_flat ((P ++ [y]) ++ (X ++ ((Q ++ [x]) ++ (Y ++ R))))
    have hne : ∃ Z, Z = rowsV ((P ++ [y]) ++ (X ++ ((Q ++ [x]) ++ (Y ++ R)))) := ⟨_, rfl⟩
    obtain ⟨Z, hZ⟩ := hne
    rw [← hZ] at hf2 ⊢
    simp [hwi]
    refine ⟨P ++ [y], X, Q ++ [x], Y, i + 1, ⟨by simp; omega, by omega, by omega, by simp; omega, by rw [h5]; simp⟩, by omega, ?_⟩
    exact Le.N1 hf2 rfl (by simp) (by simp [hZ]) rfl (by simp)
  simp only [decide_eq_false_iff_not] at h
  have hx0 : X = [] := List.eq_nil_of_length_eq_zero (by omega)
  have hy0 : Y = [] := List.eq_nil_of_length_eq_zero (by omega)
  have hfin : P ++ (X ++ (Q ++ (Y ++ R))) = F := by rw [h5, hx0, hy0]
  rw [hfin]
  exact ⟨.inl rfl, outV (rowsV_flat F) rfl⟩
end Go.Proofs.Ytnphfkceoklkkaa
namespace Go.Proofs.Ytnphfkceoklkkaa
open Go
set_option maxHeartbeats 4000000 in
set_option maxRecDepth 100000 in
theorem rotateV_ok (f : FuncId) (capt : List AV) (hs : StillV capt) (A X Y B : List Vch) (n a m b : Nat) (hn : (A ++ (X ++ (Y ++ B))).length = n) (ha : A.length = a) (hm : a + X.length = m) (hb : m + Y.length = b) (hX : 0 < X.length) (hY : 0 < Y.length) (hl : n ≤ 1000000) :
    ACalls Try.prog nslices_rotateCmpFunc_api_Vouch [.rs 0 0 n, .I a, .I m, .I b, .fn (.func f) [] capt] [⟨7, rowsV (A ++ (X ++ (Y ++ B))), 0⟩] (.tup []) [some ⟨7, rowsV (A ++ (Y ++ (X ++ B))), 0⟩] := by
  have hs2 : ∀ ρ sn h, capt.map (conv ρ sn h 2) = capt := fun _ _ _ => hs _ _ _ 1
  have hs3 : ∀ ρ sn h, capt.map (conv ρ sn h 3) = capt := fun _ _ _ => hs _ _ _ 2
  have hs4 : ∀ ρ sn h, capt.map (conv ρ sn h 4) = capt := fun _ _ _ => hs _ _ _ 3
  refine sslices_rotateCmpFunc_api_Vouch.acalls (Nat.le_of_ble_eq_true rfl) (Nat.le_of_ble_eq_true rfl) (Nat.le_of_ble_eq_true rfl) ?_
  show awp _ 1 _ _ ⟨58, [(0, .rs 0 0 n), (1, .I a), (2, .I m), (3, .I b), (4, .fn (.func f) [] capt)], [(0, some ⟨7, rowsV (A ++ (X ++ (Y ++ B))), 0⟩)], 16⟩
  have hbn : b + B.length = n := by simp only [List.length_append] at hn; omega
  obtain ⟨F, hF⟩ : ∃ F, F = A ++ (Y ++ (X ++ B)) := ⟨_, rfl⟩
  rw [← hF]
  obtain ⟨i, hi⟩ : ∃ i, i = X.length := ⟨_, rfl⟩
  obtain ⟨j, hj⟩ : ∃ i, i = Y.length := ⟨_, rfl⟩
  have hw1 : IntKind.i64.wrap ((m : Int) - (a : Int)) = (i : Int) := by rw [w64 (by omega) (by omega)]; omega
  have hw2 : IntKind.i64.wrap ((b : Int) - (m : Int)) = (j : Int) := by rw [w64 (by omega) (by omega)]; omega
  refine awp_regc ⟨58, [(0, .rs 0 0 n), (2, .I m), (3, .I b), (4, .fn (.func f) [] capt), (10, .I i)], [(0, some ⟨7, rowsV (A ++ (X ++ (Y ++ B))), 0⟩)], 48⟩ rfl ?_ ?_
  · generalize rowsV (A ++ (X ++ (Y ++ B))) = Z at *
    simp [hw1]
    exact Le.keep rfl (Nat.le_refl _) (by simp) (by simp)
  refine awp_regc ⟨58, [(0, .rs 0 0 n), (2, .I m), (4, .fn (.func f) [] capt), (10, .I i), (11, .I j)], [(0, some ⟨7, rowsV (A ++ (X ++ (Y ++ B))), 0⟩)], 80⟩ rfl ?_ ?_
  · generalize rowsV (A ++ (X ++ (Y ++ B))) = Z at *
    simp [hw2]
    exact Le.keep rfl (Nat.le_refl _) (by simp) (by simp)
  refine awp_seq ?_
  refine awp_block ?_
  refine awp_loop (ι := (List Vch × List Vch × List Vch × List Vch) × Nat × Nat) (fun q => ⟨58, [(0, .rs 0 0 n), (2, .I m), (4, .fn (.func f) [] capt), (10, .I q.2.1), (11, .I q.2.2)], [(0, some ⟨7, rowsV (q.1.1 ++ (q.1.2.1 ++ (q.1.2.2.1 ++ q.1.2.2.2))), 0⟩)], 80⟩)
    (fun q => q.1.1.length + q.2.1 = m ∧ q.1.2.1.length = q.2.1 ∧ q.1.2.2.1.length = q.2.2 ∧ 0 < q.2.1 ∧ 0 < q.2.2 ∧ m + q.2.2 + q.1.2.2.2.length = n ∧ F = q.1.1 ++ (q.1.2.2.1 ++ (q.1.2.1 ++ q.1.2.2.2))) (fun q => q.2.1 + q.2.2) ((A, X, Y, B), i, j) ⟨by show A.length + i = m; omega, hi.symm, hj.symm, by show 0 < i; omega, by show 0 < j; omega, by show m + j + B.length = n; omega, hF⟩ (Le.refl _ _) ?_
  rintro ⟨⟨A, X, Y, B⟩, i, j⟩ ⟨h1, h2, h3, h4, h5, h6, h7⟩
  simp only at h1 h2 h3 h4 h5 h6 h7
  refine awp_seq ?_
  refine awp_regc ⟨58, [(0, .rs 0 0 n), (2, .I m), (4, .fn (.func f) [] capt), (10, .I i), (11, .I j), (20, .B (decide (i ≠ j)))], [(0, some ⟨7, rowsV (A ++ (X ++ (Y ++ B))), 0⟩)], 104⟩ rfl ?_ ?_
  · generalize rowsV (A ++ (X ++ (Y ++ B))) = Z at *
    simp
    exact Le.keep rfl (Nat.le_refl _) (by simp <;> rw [Bool.eq_iff_iff] <;> simp <;> omega) (by simp)
  have hwi : IntKind.i64.wrap ((m : Int) - (i : Int)) = ((m - i : Nat) : Int) := by rw [w64 (by omega) (by omega)]; omega
  refine awp_cond _ rfl (fun h => awp_skip ?_) fun h => awp_exit (hit ?_)
  · simp only [decide_eq_true_eq] at h
    refine awp_block ?_
    refine awp_regc ⟨58, [(0, .rs 0 0 n), (2, .I m), (4, .fn (.func f) [] capt), (10, .I i), (11, .I j), (23, .B (decide (j < i)))], [(0, some ⟨7, rowsV (A ++ (X ++ (Y ++ B))), 0⟩)], 128⟩ rfl ?_ ?_
    · generalize rowsV (A ++ (X ++ (Y ++ B))) = Z at *
      simp
      exact Le.keep rfl (Nat.le_refl _) (by simp) (by simp)
    refine awp_cond _ rfl (fun h8 => ?_) fun h8 => ?_
    · simp only [decide_eq_true_eq] at h8
      obtain ⟨X1, X2, rfl, hX1⟩ : ∃ X1 X2, X = X1 ++ X2 ∧ X1.length = j := ⟨X.take j, X.drop j, (List.take_append_drop j X).symm, by rw [List.length_take]; omega⟩
      rw [List.length_append] at h2
      have hsw := swapRangeV_ok f capt hs A X1 X2 Y B n (m - i) m j (by simp only [List.length_append]; omega) (by omega) hX1 h3 (by omega) hl
      have e1 : A ++ (X1 ++ X2 ++ (Y ++ B)) = A ++ (X1 ++ (X2 ++ (Y ++ B))) := by simp
      have e2 : A ++ (Y ++ (X2 ++ (X1 ++ B))) = (A ++ Y) ++ (X2 ++ (X1 ++ B)) := by simp
      rw [e2] at hsw
      rw [e1]
      have hf1 := rowsV_flat (A ++ (X1 ++ (X2 ++ (Y ++ B))))
      refine awp_regc ⟨58, [(0, .rs 0 0 n), (2, .I m), (4, .fn (.func f) [] capt), (10, .I i), (11, .I j)], [(0, some ⟨7, rowsV ((A ++ Y) ++ (X2 ++ (X1 ++ B))), 0⟩)], 192⟩ rfl ?_ ?_
      · have hf2 := rowsV_flat ((A ++ Y) ++ (X2 ++ (X1 ++ B)))
        generalize rowsV ((A ++ Y) ++ (X2 ++ (X1 ++ B))) = Z2 at *
        generalize rowsV (A ++ (X1 ++ (X2 ++ (Y ++ B)))) = Z at *
        simp [hwi]
        refine callM1 (i := 0) rfl (e' := ⟨7, Z, 0⟩) (by simp [convE, hf1]) hsw (by simp) ?_ ?_
        · simp [hs2, hs3, hs4]
        simp [hf2]
        exact Le.keep rfl (Nat.le_refl _) (by simp) (by simp)
      have hwj : IntKind.i64.wrap ((i : Int) - (j : Int)) = ((i - j : Nat) : Int) := by rw [w64 (by omega) (by omega)]; omega
      have hf2 := rowsV_flat ((A ++ Y) ++ (X2 ++ (X1 ++ B)))
      obtain ⟨Z, hZ⟩ : ∃ Z, Z = rowsV ((A ++ Y) ++ (X2 ++ (X1 ++ B))) := ⟨_, rfl⟩
      rw [← hZ] at hf2 ⊢
      refine awp_reg rfl ?_
      simp [hwj]
      refine ⟨A ++ Y, X2, X1, B, i - j, j, ⟨by rw [List.length_append]; omega, by omega, hX1, by omega, h5, by omega, by rw [h7]; simp⟩, by omega, ?_⟩
      exact Le.N1 hf2 rfl (by simp) (by simp [hZ]) rfl (by simp [hs2, hs3, hs4])
    · simp only [decide_eq_false_iff_not] at h8
      obtain ⟨Y1, Y2, rfl, hY1⟩ : ∃ X1 X2, Y = X1 ++ X2 ∧ X1.length = j - i := ⟨Y.take (j - i), Y.drop (j - i), (List.take_append_drop _ Y).symm, by rw [List.length_take]; omega⟩
      rw [List.length_append] at h3
      have hsw := swapRangeV_ok f capt hs A X Y1 Y2 B n (m - i) (m + j - i) i (by simp only [List.length_append]; omega) (by omega) h2 (by omega) (by omega) hl
      have e1 : A ++ (X ++ (Y1 ++ Y2 ++ B)) = A ++ (X ++ (Y1 ++ (Y2 ++ B))) := by simp
      rw [e1]
      have hf1 := rowsV_flat (A ++ (X ++ (Y1 ++ (Y2 ++ B))))
      have hwk : IntKind.i64.wrap ((m : Int) + (j : Int)) = ((m + j : Nat) : Int) := by rw [w64 (by omega) (by omega)]; omega
      have hwk2 : IntKind.i64.wrap (((m + j : Nat) : Int) - (i : Int)) = ((m + j - i : Nat) : Int) := by rw [w64 (by omega) (by omega)]; omega
      refine awp_regc ⟨58, [(0, .rs 0 0 n), (2, .I m), (4, .fn (.func f) [] capt), (10, .I i), (11, .I j)], [(0, some ⟨7, rowsV (A ++ (Y2 ++ (Y1 ++ (X ++ B)))), 0⟩)], 224⟩ rfl ?_ ?_
      · have hf2 := rowsV_flat (A ++ (Y2 ++ (Y1 ++ (X ++ B))))
        generalize rowsV (A ++ (Y2 ++ (Y1 ++ (X ++ B)))) = Z2 at *
        generalize rowsV (A ++ (X ++ (Y1 ++ (Y2 ++ B)))) = Z at *
        generalize m + j = mj at *
        generalize mj - i = mji at *
        generalize m - i = mi at *
        simp [hwi, hwk, hwk2]
        refine callM1 (i := 0) rfl (e' := ⟨7, Z, 0⟩) (by simp [convE, hf1]) hsw (by simp) ?_ ?_
        · simp [hs2, hs3, hs4]
        simp [hf2]
        exact Le.keep rfl (Nat.le_refl _) (by simp) (by simp)
      have hwj : IntKind.i64.wrap ((j : Int) - (i : Int)) = ((j - i : Nat) : Int) := by rw [w64 (by omega) (by omega)]; omega
      have hf2 := rowsV_flat (A ++ (Y2 ++ (Y1 ++ (X ++ B))))
      obtain ⟨Z, hZ⟩ : ∃ Z, Z = rowsV (A ++ (Y2 ++ (Y1 ++ (X ++ B)))) := ⟨_, rfl⟩
      rw [← hZ] at hf2 ⊢
      refine awp_reg rfl ?_
      simp [hwj]
      refine ⟨A, Y2, Y1, X ++ B, i, j - i, ⟨h1, by omega, hY1, h4, by omega, by rw [List.length_append]; omega, by rw [h7]; simp⟩, by omega, ?_⟩
      exact Le.N1 hf2 rfl (by simp) (by simp [hZ]) rfl (by simp [hs2, hs3, hs4])
  have hij : i = j := by simpa using h
  subst hij
  have hsw := swapRangeV_ok f capt hs A X [] Y B n (m - i) m i (by simp only [List.length_append, List.length_nil]; omega) (by omega) h2 h3 (by simp; omega) hl
  simp only [List.nil_append] at hsw
  rw [← h7] at hsw
  have hf1 := rowsV_flat (A ++ (X ++ (Y ++ B)))
  have hf2 := rowsV_flat F
  generalize rowsV F = Z2 at *
  generalize rowsV (A ++ (X ++ (Y ++ B))) = Z at *
  refine awp_run (s := ?s9) rfl ?o9 ?q9
  case o9 =>
    simp [hwi]
    refine callM1 (i := 0) rfl (e' := ⟨7, Z, 0⟩) (by simp [convE, hf1]) hsw (by simp) ?_ ?_
    · simp [hs2, hs3, hs4]
    simp [hf2]
    rfl
  exact ⟨.inl rfl, outV hf2 rfl⟩
end Go.Proofs.Ytnphfkceoklkkaa
namespace Go.Proofs.Ytnphfkceoklkkaa
open Go
def srtV (l : List Vch) : Prop := l.Pairwise fun a b => ¬ ltV b a
instance (a b : Vch) : Decidable (ltV a b) := by unfold ltV; infer_instance
theorem cut_ex (P : Nat → Prop) [DecidablePred P] (lo : Nat) : ∀ d, (∀ i j, lo ≤ i → i < j → j < lo + d → P j → P i) → ∃ q, lo ≤ q ∧ q ≤ lo + d ∧ (∀ k, lo ≤ k → k < q → P k) ∧ ∀ k, q ≤ k → k < lo + d → ¬ P k
  | 0, _ => ⟨lo, Nat.le_refl _, by omega, fun k h1 h2 => by omega, fun k h1 h2 => by omega⟩
  | d + 1, h => by
    by_cases hp : P (lo + d)
    · exact ⟨lo + (d + 1), by omega, Nat.le_refl _, fun k h1 h2 => by
        by_cases he : k = lo + d
        · rw [he]; exact hp
        · exact h k (lo + d) h1 (by omega) (by omega) hp, fun k h1 h2 => by omega⟩
    · obtain ⟨q, h1, h2, h3, h4⟩ := cut_ex P lo d fun i j a b c e => h i j a b (by omega) e
      exact ⟨q, h1, by omega, h3, fun k h5 h6 => by
        by_cases he : k = lo + d
        · rw [he]; exact hp
        · exact h4 k h5 (by omega)⟩
theorem at1 {A S R : List Vch} {k p : Nat} (h : k < S.length) (hp : A.length + k = p) : (rowsV (A ++ (S ++ R)))[p]? = some (vC S[k]) := by
  subst hp
  rw [List.getElem?_map, List.getElem?_append_right (by omega)]
  have e : A.length + k - A.length = k := by omega
  rw [e, List.getElem?_append_left h, List.getElem?_eq_getElem h]
  rfl
theorem at2 {A S T R : List Vch} {k p : Nat} (h : k < T.length) (hp : A.length + S.length + k = p) : (rowsV (A ++ (S ++ (T ++ R))))[p]? = some (vC T[k]) := by
  rw [← List.append_assoc]
  exact at1 h (by rw [List.length_append]; omega)
theorem srtV_at {l : List Vch} (h : srtV l) {i j : Nat} (hi : i < l.length) (hj : j < l.length) (hij : i ≤ j) : ¬ ltV l[j] l[i] := by
  rcases Nat.lt_or_eq_of_le hij with h1 | h1
  · exact List.pairwise_iff_getElem.1 h i j hi hj h1
  · subst h1
    unfold ltV
    omega
theorem ltV_le_lt {a b c : Vch} (h1 : ¬ ltV b a) (h2 : ltV b c) : ltV a c := by unfold ltV at *; omega
theorem ltV_lt_le {a b c : Vch} (h1 : ltV a b) (h2 : ¬ ltV c b) : ltV a c := by unfold ltV at *; omega
theorem srtV_append {a b : List Vch} (ha : srtV a) (hb : srtV b) (h : ∀ x ∈ a, ∀ y ∈ b, ¬ ltV y x) : srtV (a ++ b) := by
  unfold srtV
  rw [List.pairwise_append]
  exact ⟨ha, hb, h⟩
theorem srtV_parts {a b : List Vch} (h : srtV (a ++ b)) : srtV a ∧ srtV b ∧ ∀ x ∈ a, ∀ y ∈ b, ¬ ltV y x := by
  unfold srtV at h
  rw [List.pairwise_append] at h
  exact h
theorem one_left {T : List Vch} {x : Vch} (hT : srtV T) : ∃ q, q ≤ T.length ∧ (∀ k (h : k < T.length), ltV T[k] x ↔ k < q) ∧ srtV (T.take q ++ x :: T.drop q) := by
  obtain ⟨q, _, h2, h3, h4⟩ := cut_ex (fun k => ∃ h : k < T.length, ltV T[k] x) 0 T.length fun i j _ hij hj hp => by
    obtain ⟨hj2, hp⟩ := hp
    exact ⟨by omega, ltV_le_lt (srtV_at hT (by omega) hj2 (by omega)) hp⟩
  rw [Nat.zero_add] at h2 h4
  have key : ∀ k (h : k < T.length), ltV T[k] x ↔ k < q := fun k h => ⟨fun hl => by
    rcases Nat.lt_or_ge k q with h5 | h5
    · exact h5
    · exact absurd ⟨h, hl⟩ (h4 k h5 h), fun hk => (h3 k (Nat.zero_le _) hk).2⟩
  refine ⟨q, h2, key, ?_⟩
  obtain ⟨s1, s2, s3⟩ := srtV_parts (a := T.take q) (b := T.drop q) (by rw [List.take_append_drop]; exact hT)
  have h5 : ∀ y ∈ T.take q, ltV y x := fun y hy => by
    obtain ⟨k, hk, rfl⟩ := List.mem_iff_getElem.1 hy
    rw [List.length_take] at hk
    rw [List.getElem_take]
    exact (key k (by omega)).2 (by omega)
  have h6 : ∀ y ∈ T.drop q, ¬ ltV y x := fun y hy => by
    obtain ⟨k, hk, rfl⟩ := List.mem_iff_getElem.1 hy
    rw [List.length_drop] at hk
    rw [List.getElem_drop]
    exact fun hl => by have := (key (q + k) (by omega)).1 hl; omega
  refine srtV_append s1 ?_ fun y hy z hz => ?_
  · unfold srtV
    rw [List.pairwise_cons]
    exact ⟨h6, s2⟩
  · rcases List.mem_cons.1 hz with rfl | hz
    · exact ltV_asym (h5 y hy)
    · exact s3 y hy z hz
theorem one_right {S : List Vch} {x : Vch} (hS : srtV S) : ∃ q, q ≤ S.length ∧ (∀ k (h : k < S.length), ¬ ltV x S[k] ↔ k < q) ∧ srtV (S.take q ++ x :: S.drop q) := by
  obtain ⟨q, _, h2, h3, h4⟩ := cut_ex (fun k => ∃ h : k < S.length, ¬ ltV x S[k]) 0 S.length fun i j _ hij hj hp => by
    obtain ⟨hj2, hp⟩ := hp
    exact ⟨by omega, fun hl => hp (ltV_lt_le hl (srtV_at hS (by omega) hj2 (by omega)))⟩
  rw [Nat.zero_add] at h2 h4
  have key : ∀ k (h : k < S.length), ¬ ltV x S[k] ↔ k < q := fun k h => ⟨fun hl => by
    rcases Nat.lt_or_ge k q with h5 | h5
    · exact h5
    · exact absurd ⟨h, hl⟩ (h4 k h5 h), fun hk => (h3 k (Nat.zero_le _) hk).2⟩
  refine ⟨q, h2, key, ?_⟩
  obtain ⟨s1, s2, s3⟩ := srtV_parts (a := S.take q) (b := S.drop q) (by rw [List.take_append_drop]; exact hS)
  have h5 : ∀ y ∈ S.take q, ¬ ltV x y := fun y hy => by
    obtain ⟨k, hk, rfl⟩ := List.mem_iff_getElem.1 hy
    rw [List.length_take] at hk
    rw [List.getElem_take]
    exact (key k (by omega)).2 (by omega)
  have h6 : ∀ y ∈ S.drop q, ¬ ltV y x := fun y hy => by
    obtain ⟨k, hk, rfl⟩ := List.mem_iff_getElem.1 hy
    rw [List.length_drop] at hk
    rw [List.getElem_drop]
    refine ltV_asym (Classical.not_not.1 fun hl => ?_)
    have := (key (q + k) (by omega)).1 hl
    omega
  refine srtV_append s1 ?_ fun y hy z hz => ?_
  · unfold srtV
    rw [List.pairwise_cons]
    exact ⟨h6, s2⟩
  · rcases List.mem_cons.1 hz with rfl | hz
    · exact h5 y hy
    · exact s3 y hy z hz
structure CutV (S T : List Vch) (a m b mid lo hi q : Nat) : Prop where
  q1 : lo ≤ q
  q2 : q ≤ hi
  key : ∀ c (h1 : c - a < S.length) (h2 : mid + m - 1 - c - m < T.length), lo ≤ c → c < hi → (¬ ltV T[mid + m - 1 - c - m] S[c - a] ↔ c < q)
  am : a ≤ q
  qm : q ≤ m
  qd : q ≤ mid
  eb : mid + m - q ≤ b
  below : ∀ s ∈ S.drop (q - a), ∀ t ∈ T.take (mid - q), ltV t s
  above : ∀ s ∈ S.take (q - a), ∀ t ∈ T.drop (mid - q), ¬ ltV t s
theorem cutV_ex {S T : List Vch} {a m b mid lo hi : Nat} (hS : srtV S) (hT : srtV T) (h1 : a + S.length = m) (h2 : m + T.length = b) (h3 : 0 < S.length) (h4 : 0 < T.length) (hmid : mid = (a + b) / 2)
    (hlo : (mid < m ∧ lo = mid + m - b ∧ hi = mid) ∨ (m ≤ mid ∧ lo = a ∧ hi = m)) : ∃ q, CutV S T a m b mid lo hi q := by
  have hb : ∀ c, lo ≤ c → c < hi → a ≤ c ∧ c < m ∧ c < mid ∧ mid + m - 1 - c < b := fun c h5 h6 => by omega
  obtain ⟨q, hq1, hq2, hq3, hq4⟩ := cut_ex (fun c => ∃ (h1 : c - a < S.length) (h2 : mid + m - 1 - c - m < T.length), ¬ ltV T[mid + m - 1 - c - m] S[c - a]) lo (hi - lo) fun i j hi1 hij hj hp => by
    have b1 := hb i hi1 (by omega)
    have b2 := hb j (by omega) (by omega)
    obtain ⟨x1, x2, hp⟩ := hp
    refine ⟨by omega, by omega, fun hl => hp ?_⟩
    have s1 := srtV_at hS (i := i - a) (j := j - a) (by omega) (by omega) (by omega)
    have s2 := srtV_at hT (i := mid + m - 1 - j - m) (j := mid + m - 1 - i - m) (by omega) (by omega) (by omega)
    exact ltV_le_lt s2 (ltV_lt_le hl s1)
  have hkey : ∀ c (h1 : c - a < S.length) (h2 : mid + m - 1 - c - m < T.length), lo ≤ c → c < hi → (¬ ltV T[mid + m - 1 - c - m] S[c - a] ↔ c < q) := fun c y1 y2 h5 h6 => ⟨fun hl => by
    rcases Nat.lt_or_ge c q with h7 | h7
    · exact h7
    · exact absurd ⟨y1, y2, hl⟩ (hq4 c h7 (by omega)), fun h7 => (hq3 c h5 h7).2.2⟩
  refine ⟨q, hq1, by omega, hkey, by omega, by omega, by omega, by omega, ?_, ?_⟩
  · intro s hs t ht
    obtain ⟨i, hi', rfl⟩ := List.mem_iff_getElem.1 hs
    obtain ⟨j, hj', rfl⟩ := List.mem_iff_getElem.1 ht
    rw [List.length_drop] at hi'
    rw [List.length_take] at hj'
    rw [List.getElem_drop, List.getElem_take]
    have hqh : q < hi := by omega
    have b1 := hb q hq1 hqh
    have hk := hkey q (by omega) (by omega) hq1 hqh
    have hl : ltV T[mid + m - 1 - q - m] S[q - a] := Classical.not_not.1 fun hn => by have := hk.1 hn; omega
    have s1 := srtV_at hS (i := q - a) (j := q - a + i) (by omega) (by omega) (by omega)
    have s2 := srtV_at hT (i := j) (j := mid + m - 1 - q - m) (by omega) (by omega) (by omega)
    exact ltV_le_lt s2 (ltV_lt_le hl s1)
  · intro s hs t ht hl
    obtain ⟨i, hi', rfl⟩ := List.mem_iff_getElem.1 hs
    obtain ⟨j, hj', rfl⟩ := List.mem_iff_getElem.1 ht
    rw [List.length_take] at hi'
    rw [List.length_drop] at hj'
    rw [List.getElem_drop, List.getElem_take] at hl
    have hql : lo < q := by omega
    have b1 := hb (q - 1) (by omega) (by omega)
    have hk := (hkey (q - 1) (by omega) (by omega) (by omega) (by omega)).2 (by omega)
    have s1 := srtV_at hS (i := i) (j := q - 1 - a) (by omega) (by omega) (by omega)
    have s2 := srtV_at hT (i := mid + m - 1 - (q - 1) - m) (j := mid - q + j) (by omega) (by omega) (by omega)
    exact hk (ltV_le_lt s2 (ltV_lt_le hl s1))
end Go.Proofs.Ytnphfkceoklkkaa
namespace Go.Proofs.Ytnphfkceoklkkaa
open Go
theorem half_v {i j : Nat} (h : i + j ≤ 4000000) : IntKind.i64.wrap ((i : Int) + (j : Int)) = (i : Int) + (j : Int) ∧ IntKind.u64.wrap ((i : Int) + (j : Int)) = (i : Int) + (j : Int) ∧ Int.fdiv ((i : Int) + (j : Int)) 2 = (((i + j) / 2 : Nat) : Int) ∧ IntKind.i64.wrap (((i + j) / 2 : Nat) : Int) = (((i + j) / 2 : Nat) : Int) := by
  refine ⟨w64 (by omega) (by omega), by rw [IntKind.wrap_u64]; omega, ?_, w64 (by omega) (by omega)⟩
  rw [Int.fdiv_eq_ediv_of_nonneg _ (by decide)]
  omega
set_option maxHeartbeats 4000000 in
set_option maxRecDepth 100000 in
theorem symMergeV_one (f : FuncId) (capt : List AV) (hs : StillV capt) (hc : ∀ x y, ACalls Try.prog f (eV x :: eV y :: capt) [] (.I (cmpV x y)) []) (A T B : List Vch) (x : Vch) (n a m b q : Nat) (hn : (A ++ (x :: (T ++ B))).length = n) (ha : A.length = a) (hm : a + 1 = m) (hb : m + T.length = b) (hT : 0 < T.length) (hl : n ≤ 1000000)
    (hq : q ≤ T.length) (hqk : ∀ k (h : k < T.length), ltV T[k] x ↔ k < q) :
    ACalls Try.prog nslices_symMergeCmpFunc_api_Vouch [.rs 0 0 n, .I a, .I m, .I b, .fn (.func f) [] capt] [⟨7, rowsV (A ++ (x :: (T ++ B))), 0⟩] (.tup []) [some ⟨7, rowsV (A ++ (T.take q ++ x :: T.drop q ++ B)), 0⟩] := by
  have hs2 : ∀ ρ sn h, capt.map (conv ρ sn h 2) = capt := fun _ _ _ => hs _ _ _ 1
  have hs3 : ∀ ρ sn h, capt.map (conv ρ sn h 3) = capt := fun _ _ _ => hs _ _ _ 2
  have hs4 : ∀ ρ sn h, capt.map (conv ρ sn h 4) = capt := fun _ _ _ => hs _ _ _ 3
  refine sslices_symMergeCmpFunc_api_Vouch.acalls (Nat.le_of_ble_eq_true rfl) (Nat.le_of_ble_eq_true rfl) (Nat.le_of_ble_eq_true rfl) ?_
  have hbn : b + B.length = n := by simp only [List.length_append, List.length_cons] at hn; omega
  have hga : (rowsV (A ++ (x :: (T ++ B))))[a]? = some (vC x) := at1 (A := A) (S := [x]) (R := T ++ B) (k := 0) (by simp) (by omega)
  have hgt : ∀ h, (h1 : m ≤ h) → (h2 : h < b) → (rowsV (A ++ (x :: (T ++ B))))[h]? = some (vC (T[h - m]'(by omega))) := fun h h1 h2 => at2 (A := A) (S := [x]) (T := T) (R := B) (k := h - m) (by omega) (by simp; omega)
  have hflat := rowsV_flat (A ++ (x :: (T ++ B)))
  obtain ⟨Z, hZ⟩ : ∃ Z, Z = rowsV (A ++ (x :: (T ++ B))) := ⟨_, rfl⟩
  rw [← hZ] at hga hgt hflat ⊢
  show awp _ 1 _ _ ⟨220, [(0, .rs 0 0 n), (1, .I a), (2, .I m), (3, .I b), (4, .fn (.func f) [] capt)], [(0, some ⟨7, Z, 0⟩)], 16⟩
  have hw1 : IntKind.i64.wrap ((m : Int) - a) = (m : Int) - a := w64 (by omega) (by omega)
  refine awp_seq ?_
  refine awp_regc ⟨220, [(0, .rs 0 0 n), (1, .I a), (2, .I m), (3, .I b), (4, .fn (.func f) [] capt), (28, .B true)], [(0, some ⟨7, Z, 0⟩)], 48⟩ rfl ?_ ?_
  · simp [hw1]
    exact Le.keep rfl (Nat.le_refl _) (by simp; omega) (by simp)
  refine awp_cond _ rfl (fun _ => ?_) fun h => by cases h
  refine awp_regc ⟨220, [(0, .rs 0 0 n), (1, .I a), (2, .I m), (3, .I b), (4, .fn (.func f) [] capt), (10, .I m)], [(0, some ⟨7, Z, 0⟩)], 64⟩ rfl (by simp; exact Le.keep rfl (Nat.le_refl _) (by simp) (by simp)) ?_
  refine awp_regc ⟨220, [(0, .rs 0 0 n), (1, .I a), (2, .I m), (3, .I b), (4, .fn (.func f) [] capt), (10, .I m), (11, .I b)], [(0, some ⟨7, Z, 0⟩)], 80⟩ rfl (by simp; exact Le.keep rfl (Nat.le_refl _) (by simp) (by simp)) ?_
  refine awp_seq ?_
  refine awp_block ?_
  refine awp_loop (ι := Nat × Nat) (fun p => ⟨220, [(0, .rs 0 0 n), (1, .I a), (2, .I m), (3, .I b), (4, .fn (.func f) [] capt), (10, .I p.1), (11, .I p.2)], [(0, some ⟨7, Z, 0⟩)], 80⟩) (fun p => m ≤ p.1 ∧ p.1 ≤ m + q ∧ m + q ≤ p.2 ∧ p.2 ≤ b) (fun p => p.2 - p.1) (m, b) ⟨by simp, by simp, by simp; omega, by simp⟩ (Le.refl _ _) ?_
  rintro ⟨i, j⟩ ⟨hj1, hj2, hj3, hj4⟩
  simp only at hj1 hj2 hj3 hj4
  refine awp_seq ?_
  refine awp_regc ⟨220, [(0, .rs 0 0 n), (1, .I a), (2, .I m), (3, .I b), (4, .fn (.func f) [] capt), (10, .I i), (11, .I j), (33, .B (decide (i < j)))], [(0, some ⟨7, Z, 0⟩)], 104⟩ rfl (by simp; exact Le.keep rfl (Nat.le_refl _) (by simp) (by simp)) ?_
  refine awp_cond _ rfl (fun h4 => awp_skip ?_) fun h4 => awp_exit (hit ?_)
  · simp only [decide_eq_true_eq] at h4
    obtain ⟨hw, hu, hd, hw3⟩ := half_v (i := i) (j := j) (by omega)
    refine awp_block ?_
    refine awp_regc ⟨220, [(0, .rs 0 0 n), (1, .I a), (2, .I m), (3, .I b), (4, .fn (.func f) [] capt), (10, .I i), (11, .I j), (12, .I ((i + j) / 2 : Nat))], [(0, some ⟨7, Z, 0⟩)], 160⟩ rfl ?_ ?_
    · simp [hw, hu, hd, hw3, IntKind.bits, -Int.natCast_ediv, -Int.natCast_add]
      exact Le.keep rfl (Nat.le_refl _) (by simp [hw, hu, hd, hw3]) (by simp)
    obtain ⟨h, hh⟩ : ∃ h, h = (i + j) / 2 := ⟨_, rfl⟩
    rw [← hh]
    have hhn : h < n := by omega
    have han : a < n := by omega
    have hg1 := hgt h (by omega) (by omega)
    have hk := hqk (h - m) (by omega)
    have hcc := hc (T[h - m]'(by omega)) x
    have hb2 : decide (cmpV (T[h - m]'(by omega)) x < 0) = decide (h < m + q) := by rw [decide_eq_decide, cmpV_lt, hk]; omega
    generalize T[h - m]'(by omega) = y at *
    have hwq : IntKind.i64.wrap ((h : Int) + 1) = ((h + 1 : Nat) : Int) := by rw [w64 (by omega) (by omega)]; omega
    refine awp_dregc ⟨220, [(0, .rs 0 0 n), (1, .I a), (2, .I m), (3, .I b), (4, .fn (.func f) [] capt), (10, .I i), (11, .I j), (12, .I h), (50, .B (decide (h < m + q)))], [(0, some ⟨7, Z, 0⟩)], 248⟩ rfl ?_ ?_
    · rw [← hb2]
      simp [hg1, hga, hhn, han]
      refine call0e hcc ?_ ?_
      · simp [hs2, hs3, hs4]
      simp
      exact ⟨rfl, Le.keep rfl (Nat.le_refl _) (by simp) (by simp)⟩
    refine awp_cond _ rfl (fun h5 => ?_) fun h5 => ?_
    · simp only [decide_eq_true_eq] at h5
      refine awp_reg rfl ?_
      simp [hwq]
      exact ⟨h + 1, j, ⟨by omega, by omega, by omega, by omega⟩, by omega, Le.N1 hflat rfl (by simp) rfl rfl (by simp [hs2, hs3, hs4])⟩
    · simp only [decide_eq_false_iff_not] at h5
      refine awp_reg rfl ?_
      simp
      exact ⟨i, h, ⟨by omega, by omega, by omega, by omega⟩, by omega, Le.N1 hflat rfl (by simp) rfl rfl (by simp [hs2, hs3, hs4])⟩
  simp only [decide_eq_false_iff_not] at h4
  obtain rfl : i = m + q := by omega
  refine awp_seq ?_
  refine awp_regc ⟨220, [(0, .rs 0 0 n), (1, .I a), (2, .I m), (3, .I b), (4, .fn (.func f) [] capt), (10, .I (m + q : Nat)), (13, .I a)], [(0, some ⟨7, Z, 0⟩)], 120⟩ rfl (by simp; exact Le.keep rfl (Nat.le_refl _) (by simp) (by simp)) ?_
  have hw5 : IntKind.i64.wrap (((m + q : Nat) : Int) - 1) = ((a + q : Nat) : Int) := by rw [w64 (by omega) (by omega)]; omega
  obtain ⟨F, hF⟩ : ∃ F, F = A ++ (T.take q ++ x :: T.drop q ++ B) := ⟨_, rfl⟩
  have hTq : (T.take q).length = q := by rw [List.length_take]; omega
  have hZ2 : A ++ (x :: (T ++ B)) = (A ++ []) ++ x :: (T.take q ++ (T.drop q ++ B)) := by rw [← List.append_assoc (T.take q), List.take_append_drop]; simp
  obtain ⟨D, hD⟩ : ∃ D, D = T.drop q ++ B := ⟨_, rfl⟩
  have hF2 : F = (A ++ []) ++ (T.take q ++ x :: D) := by rw [hF, hD]; simp
  have hDl : a + 1 + q + D.length = n := by rw [hD, List.length_append, List.length_drop]; omega
  rw [← hD] at hZ2
  rw [← hF]
  rw [hZ2] at hZ
  generalize T.take q = T1 at *
  refine awp_block ?_
  obtain ⟨mq, hmq⟩ : ∃ mq, mq = m + q := ⟨_, rfl⟩
  rw [← hmq] at hw5 ⊢
  refine awp_loop (ι := (List Vch × List Vch) × Nat) (fun p => ⟨220, [(0, .rs 0 0 n), (1, .I a), (2, .I m), (3, .I b), (4, .fn (.func f) [] capt), (10, .I mq), (13, .I p.2)], [(0, some ⟨7, rowsV ((A ++ p.1.1) ++ x :: (p.1.2 ++ D)), 0⟩)], 120⟩) (fun p => p.1.1.length + a = p.2 ∧ p.1.1.length + p.1.2.length = q ∧ F = (A ++ p.1.1) ++ (p.1.2 ++ x :: D)) (fun p => p.1.2.length) (([], T1), a) ⟨by simp, by simpa using hTq, hF2⟩ (by rw [hZ]; exact Le.refl _ _) ?_
  rintro ⟨⟨U, V⟩, k⟩ ⟨hk1, hk2, hk3⟩
  simp only at hk1 hk2 hk3
  refine awp_seq ?_
  refine awp_regc ⟨220, [(0, .rs 0 0 n), (1, .I a), (2, .I m), (3, .I b), (4, .fn (.func f) [] capt), (10, .I mq), (13, .I k), (58, .B (decide (k < a + q)))], [(0, some ⟨7, rowsV ((A ++ U) ++ x :: (V ++ D)), 0⟩)], 152⟩ rfl ?_ ?_
  · generalize rowsV ((A ++ U) ++ x :: (V ++ D)) = Z at *
    simp [hw5]
    exact Le.keep rfl (Nat.le_refl _) (by simp <;> omega) (by simp)
  refine awp_cond _ rfl (fun h => awp_skip ?_) fun h => awp_exit (hit ?_)
  · simp only [decide_eq_true_eq] at h
    obtain ⟨y, V, rfl⟩ : ∃ y V', V = y :: V' := by cases V with | nil => simp at hk2; omega | cons y V => exact ⟨y, V, rfl⟩
    simp only [List.length_cons] at hk2
    obtain ⟨k1, hk4⟩ : ∃ k1, k1 = k + 1 := ⟨_, rfl⟩
    have hwk : IntKind.i64.wrap ((k : Int) + 1) = (k1 : Int) := by rw [w64 (by omega) (by omega)]; omega
    have hUl : (A ++ U).length = k := by rw [List.length_append]; omega
    have hg := swap2_get (H := A ++ U) (G := []) (T := V ++ D) (x := x) (y := y) (p := k) (q := k1) hUl (by simp; omega)
    have hset := swap2_set (H := A ++ U) (G := []) (T := V ++ D) (x := x) (y := y) (p := k) (q := k1) hUl (by simp; omega)
    obtain ⟨g1, g2⟩ := hg
    simp only [List.nil_append] at g1 g2 hset
    have e2 : (A ++ U) ++ y :: x :: (V ++ D) = (A ++ (U ++ [y])) ++ x :: (V ++ D) := by simp
    rw [e2] at hset
    have e1 : (A ++ U) ++ x :: (y :: V ++ D) = (A ++ U) ++ x :: y :: (V ++ D) := rfl
    rw [e1]
    have hkn : k < n := by omega
    have hkn1 : k1 < n := by omega
    refine awp_cut (ι := Unit) (fun _ => ⟨220, [(0, .rs 0 0 n), (1, .I a), (2, .I m), (3, .I b), (4, .fn (.func f) [] capt), (10, .I mq), (13, .I k)], [(0, some ⟨7, rowsV ((A ++ (U ++ [y])) ++ x :: (V ++ D)), 0⟩)], 400⟩) (fun _ => True) ?_ fun _ _ => ?_
    · generalize rowsV ((A ++ (U ++ [y])) ++ x :: (V ++ D)) = Z2 at *
      generalize rowsV ((A ++ U) ++ x :: y :: (V ++ D)) = Z at *
      have g3 : (Z.set k (vC y))[k1]? = some (vC x) ∨ (Z.set k (vC y))[k1]? = some (vC y) := .inr (by
        rw [List.getElem?_set, if_neg (by omega)]
        exact g2)
      have g4 : (Z.set k (vC y))[k1]? = some (vC y) := by
        rw [List.getElem?_set, if_neg (by omega)]
        exact g2
      refine awp_block ?_
      refine awp_drw rfl ?_
      simp [hwk, hkn, hkn1, g1, g2, g4, splice]
      exact ⟨rfl, Le.keep rfl (by simp) (by simp) (by simp; exact hset)⟩
    have hf2 := rowsV_flat ((A ++ (U ++ [y])) ++ x :: (V ++ D))
    obtain ⟨Z, hZ⟩ : ∃ Z, Z = rowsV ((A ++ (U ++ [y])) ++ x :: (V ++ D)) := ⟨_, rfl⟩
    rw [← hZ] at hf2 ⊢
    refine awp_reg rfl ?_
    simp [hwk]
    refine ⟨U ++ [y], V, k1, ⟨by simp; omega, by simp; omega, by rw [hk3]; simp⟩, by omega, ?_⟩
    exact Le.N1 hf2 rfl (by simp) (by simp [hZ]) rfl (by simp [hs2, hs3, hs4])
  simp only [decide_eq_false_iff_not] at h
  have hV0 : V = [] := List.eq_nil_of_length_eq_zero (by omega)
  have hfin : (A ++ U) ++ x :: (V ++ D) = F := by rw [hk3, hV0]; rfl
  rw [hfin]
  refine awp_ret ?_
  exact ⟨.inr rfl, outV (rowsV_flat F) rfl⟩
set_option maxHeartbeats 4000000 in
set_option maxRecDepth 100000 in
theorem symMergeV_two (f : FuncId) (capt : List AV) (hs : StillV capt) (hc : ∀ x y, ACalls Try.prog f (eV x :: eV y :: capt) [] (.I (cmpV x y)) []) (A S B : List Vch) (x : Vch) (n a m b q : Nat) (hn : (A ++ (S ++ x :: B)).length = n) (ha : A.length = a) (hm : a + S.length = m) (hb : m + 1 = b) (hS : 1 < S.length) (hl : n ≤ 1000000)
    (hq : q ≤ S.length) (hqk : ∀ k (h : k < S.length), ¬ ltV x S[k] ↔ k < q) :
    ACalls Try.prog nslices_symMergeCmpFunc_api_Vouch [.rs 0 0 n, .I a, .I m, .I b, .fn (.func f) [] capt] [⟨7, rowsV (A ++ (S ++ x :: B)), 0⟩] (.tup []) [some ⟨7, rowsV (A ++ (S.take q ++ x :: S.drop q ++ B)), 0⟩] := by
  have hs2 : ∀ ρ sn h, capt.map (conv ρ sn h 2) = capt := fun _ _ _ => hs _ _ _ 1
  have hs3 : ∀ ρ sn h, capt.map (conv ρ sn h 3) = capt := fun _ _ _ => hs _ _ _ 2
  have hs4 : ∀ ρ sn h, capt.map (conv ρ sn h 4) = capt := fun _ _ _ => hs _ _ _ 3
  refine sslices_symMergeCmpFunc_api_Vouch.acalls (Nat.le_of_ble_eq_true rfl) (Nat.le_of_ble_eq_true rfl) (Nat.le_of_ble_eq_true rfl) ?_
  have hbn : b + B.length = n := by simp only [List.length_append, List.length_cons] at hn; omega
  have hga : (rowsV (A ++ (S ++ x :: B)))[m]? = some (vC x) := at2 (A := A) (S := S) (T := [x]) (R := B) (k := 0) (by simp) (by omega)
  have hgt : ∀ h, (h1 : a ≤ h) → (h2 : h < m) → (rowsV (A ++ (S ++ x :: B)))[h]? = some (vC (S[h - a]'(by omega))) := fun h h1 h2 => at1 (A := A) (S := S) (R := x :: B) (k := h - a) (by omega) (by omega)
  have hflat := rowsV_flat (A ++ (S ++ x :: B))
  obtain ⟨Z, hZ⟩ : ∃ Z, Z = rowsV (A ++ (S ++ x :: B)) := ⟨_, rfl⟩
  rw [← hZ] at hga hgt hflat ⊢
  show awp _ 1 _ _ ⟨220, [(0, .rs 0 0 n), (1, .I a), (2, .I m), (3, .I b), (4, .fn (.func f) [] capt)], [(0, some ⟨7, Z, 0⟩)], 16⟩
  have hw1 : IntKind.i64.wrap ((m : Int) - a) = (m : Int) - a := w64 (by omega) (by omega)
  have hw2 : IntKind.i64.wrap ((b : Int) - m) = (b : Int) - m := w64 (by omega) (by omega)
  refine awp_seq ?_
  refine awp_regc ⟨220, [(0, .rs 0 0 n), (1, .I a), (2, .I m), (3, .I b), (4, .fn (.func f) [] capt), (28, .B false)], [(0, some ⟨7, Z, 0⟩)], 48⟩ rfl ?_ ?_
  · simp [hw1]
    exact Le.keep rfl (Nat.le_refl _) (by simp; omega) (by simp)
  refine awp_cond _ rfl (fun h => by cases h) fun _ => awp_skip ?_
  refine awp_seq ?_
  refine awp_regc ⟨220, [(0, .rs 0 0 n), (1, .I a), (2, .I m), (3, .I b), (4, .fn (.func f) [] capt), (80, .B true)], [(0, some ⟨7, Z, 0⟩)], 80⟩ rfl ?_ ?_
  · simp [hw2]
    exact Le.keep rfl (Nat.le_refl _) (by simp; omega) (by simp)
  refine awp_cond _ rfl (fun _ => ?_) fun h => by cases h
  refine awp_regc ⟨220, [(0, .rs 0 0 n), (1, .I a), (2, .I m), (3, .I b), (4, .fn (.func f) [] capt), (14, .I a)], [(0, some ⟨7, Z, 0⟩)], 96⟩ rfl (by simp; exact Le.keep rfl (Nat.le_refl _) (by simp) (by simp)) ?_
  refine awp_regc ⟨220, [(0, .rs 0 0 n), (1, .I a), (2, .I m), (3, .I b), (4, .fn (.func f) [] capt), (14, .I a), (15, .I m)], [(0, some ⟨7, Z, 0⟩)], 112⟩ rfl (by simp; exact Le.keep rfl (Nat.le_refl _) (by simp) (by simp)) ?_
  refine awp_seq ?_
  refine awp_block ?_
  refine awp_loop (ι := Nat × Nat) (fun p => ⟨220, [(0, .rs 0 0 n), (1, .I a), (2, .I m), (3, .I b), (4, .fn (.func f) [] capt), (14, .I p.1), (15, .I p.2)], [(0, some ⟨7, Z, 0⟩)], 112⟩) (fun p => a ≤ p.1 ∧ p.1 ≤ a + q ∧ a + q ≤ p.2 ∧ p.2 ≤ m) (fun p => p.2 - p.1) (a, m) ⟨by simp, by simp, by simp; omega, by simp⟩ (Le.refl _ _) ?_
  rintro ⟨i, j⟩ ⟨hj1, hj2, hj3, hj4⟩
  simp only at hj1 hj2 hj3 hj4
  refine awp_seq ?_
  refine awp_regc ⟨220, [(0, .rs 0 0 n), (1, .I a), (2, .I m), (3, .I b), (4, .fn (.func f) [] capt), (14, .I i), (15, .I j), (85, .B (decide (i < j)))], [(0, some ⟨7, Z, 0⟩)], 136⟩ rfl (by simp; exact Le.keep rfl (Nat.le_refl _) (by simp) (by simp)) ?_
  refine awp_cond _ rfl (fun h4 => awp_skip ?_) fun h4 => awp_exit (hit ?_)
  · simp only [decide_eq_true_eq] at h4
    obtain ⟨hw, hu, hd, hw3⟩ := half_v (i := i) (j := j) (by omega)
    refine awp_block ?_
    refine awp_regc ⟨220, [(0, .rs 0 0 n), (1, .I a), (2, .I m), (3, .I b), (4, .fn (.func f) [] capt), (14, .I i), (15, .I j), (16, .I ((i + j) / 2 : Nat))], [(0, some ⟨7, Z, 0⟩)], 192⟩ rfl ?_ ?_
    · simp [hw, hu, hd, hw3, IntKind.bits, -Int.natCast_ediv, -Int.natCast_add]
      exact Le.keep rfl (Nat.le_refl _) (by simp [hw, hu, hd, hw3]) (by simp)
    obtain ⟨h, hh⟩ : ∃ h, h = (i + j) / 2 := ⟨_, rfl⟩
    rw [← hh]
    have hhn : h < n := by omega
    have hmn : m < n := by omega
    have hg1 := hgt h (by omega) (by omega)
    have hk := hqk (h - a) (by omega)
    have hcc := hc x (S[h - a]'(by omega))
    have hb2 : (!decide (cmpV x (S[h - a]'(by omega)) < 0)) = decide (h < a + q) := by
      rw [← decide_not, decide_eq_decide, cmpV_lt, hk]; omega
    generalize S[h - a]'(by omega) = y at *
    have hwq : IntKind.i64.wrap ((h : Int) + 1) = ((h + 1 : Nat) : Int) := by rw [w64 (by omega) (by omega)]; omega
    refine awp_dregc ⟨220, [(0, .rs 0 0 n), (1, .I a), (2, .I m), (3, .I b), (4, .fn (.func f) [] capt), (14, .I i), (15, .I j), (16, .I h), (103, .B (decide (h < a + q)))], [(0, some ⟨7, Z, 0⟩)], 288⟩ rfl ?_ ?_
    · rw [← hb2]
      simp [hg1, hga, hhn, hmn]
      refine call0e hcc ?_ ?_
      · simp [hs2, hs3, hs4]
      simp
      exact ⟨rfl, Le.keep rfl (Nat.le_refl _) (by simp) (by simp)⟩
    refine awp_cond _ rfl (fun h5 => ?_) fun h5 => ?_
    · simp only [decide_eq_true_eq] at h5
      refine awp_reg rfl ?_
      simp [hwq]
      exact ⟨h + 1, j, ⟨by omega, by omega, by omega, by omega⟩, by omega, Le.N1 hflat rfl (by simp) rfl rfl (by simp [hs2, hs3, hs4])⟩
    · simp only [decide_eq_false_iff_not] at h5
      refine awp_reg rfl ?_
      simp
      exact ⟨i, h, ⟨by omega, by omega, by omega, by omega⟩, by omega, Le.N1 hflat rfl (by simp) rfl rfl (by simp [hs2, hs3, hs4])⟩
  simp only [decide_eq_false_iff_not] at h4
  obtain rfl : i = a + q := by omega
  refine awp_seq ?_
  refine awp_regc ⟨220, [(0, .rs 0 0 n), (1, .I a), (2, .I m), (3, .I b), (4, .fn (.func f) [] capt), (14, .I (a + q : Nat)), (17, .I m)], [(0, some ⟨7, Z, 0⟩)], 152⟩ rfl (by simp; exact Le.keep rfl (Nat.le_refl _) (by simp) (by simp)) ?_
  obtain ⟨F, hF⟩ : ∃ F, F = A ++ (S.take q ++ x :: S.drop q ++ B) := ⟨_, rfl⟩
  have hSq : (S.take q).length = q := by rw [List.length_take]; omega
  have hSd : (S.drop q).length + q = S.length := by rw [List.length_drop]; omega
  have hZ2 : A ++ (S ++ x :: B) = (A ++ S.take q) ++ ((S.drop q).reverse.reverse ++ x :: ([] ++ B)) := by
    rw [List.reverse_reverse, List.append_assoc A, ← List.append_assoc (S.take q), List.take_append_drop]
    rfl
  obtain ⟨H, hH⟩ : ∃ H, H = A ++ S.take q := ⟨_, rfl⟩
  have hF2 : F = H ++ (x :: ((S.drop q).reverse.reverse ++ ([] ++ B))) := by rw [hF, hH, List.reverse_reverse]; simp
  have hHl : H.length = a + q := by rw [hH, List.length_append]; omega
  rw [← hH] at hZ2
  rw [← hF]
  rw [hZ2] at hZ
  have hWl : (S.drop q).reverse.length + q = S.length := by rw [List.length_reverse]; exact hSd
  generalize (S.drop q).reverse = W at *
  refine awp_block ?_
  obtain ⟨aq, haq⟩ : ∃ aq, aq = a + q := ⟨_, rfl⟩
  rw [← haq] at hHl ⊢
  refine awp_loop (ι := (List Vch × List Vch) × Nat) (fun p => ⟨220, [(0, .rs 0 0 n), (1, .I a), (2, .I m), (3, .I b), (4, .fn (.func f) [] capt), (14, .I aq), (17, .I p.2)], [(0, some ⟨7, rowsV (H ++ (p.1.1.reverse ++ x :: (p.1.2 ++ B))), 0⟩)], 152⟩) (fun p => aq + p.1.1.length = p.2 ∧ p.2 + p.1.2.length = m ∧ F = H ++ (x :: (p.1.1.reverse ++ (p.1.2 ++ B)))) (fun p => p.1.1.length) ((W, []), m) ⟨by show aq + W.length = m; omega, by simp, hF2⟩ (by rw [hZ]; exact Le.refl _ _) ?_
  rintro ⟨⟨W, V⟩, k⟩ ⟨hk1, hk2, hk3⟩
  simp only at hk1 hk2 hk3
  refine awp_seq ?_
  refine awp_regc ⟨220, [(0, .rs 0 0 n), (1, .I a), (2, .I m), (3, .I b), (4, .fn (.func f) [] capt), (14, .I aq), (17, .I k), (110, .B (decide (aq < k)))], [(0, some ⟨7, rowsV (H ++ (W.reverse ++ x :: (V ++ B))), 0⟩)], 176⟩ rfl ?_ ?_
  · generalize rowsV (H ++ (W.reverse ++ x :: (V ++ B))) = Z at *
    simp
    exact Le.keep rfl (Nat.le_refl _) (by simp) (by simp)
  refine awp_cond _ rfl (fun h => awp_skip ?_) fun h => awp_exit (hit ?_)
  · simp only [decide_eq_true_eq] at h
    obtain ⟨y, W, rfl⟩ : ∃ y V', W = y :: V' := by cases W with | nil => simp at hk1; omega | cons y V => exact ⟨y, V, rfl⟩
    simp only [List.length_cons] at hk1
    obtain ⟨j, hj⟩ : ∃ j, j + 1 = k := ⟨k - 1, by omega⟩
    have hwk : IntKind.i64.wrap ((k : Int) - 1) = (j : Int) := by rw [w64 (by omega) (by omega)]; omega
    have hUl : (H ++ W.reverse).length = j := by rw [List.length_append, List.length_reverse]; omega
    have e1 : H ++ ((y :: W).reverse ++ x :: (V ++ B)) = (H ++ W.reverse) ++ y :: x :: (V ++ B) := by simp
    have e2 : (H ++ W.reverse) ++ x :: y :: (V ++ B) = H ++ (W.reverse ++ x :: ((y :: V) ++ B)) := by simp
    have g1 := (mid_getV (H := H ++ W.reverse) (T := V ++ B) (y := y) (x := x) hUl).1
    have g2 := (mid_getV (H := H ++ W.reverse) (T := V ++ B) (y := y) (x := x) hUl).2
    have hset := mid_setV (H := H ++ W.reverse) (T := V ++ B) (y := y) (x := x) hUl
    rw [hj] at g2 hset
    rw [e2] at hset
    rw [e1]
    have hkn : k < n := by omega
    have hjn : j < n := by omega
    refine awp_cut (ι := Unit) (fun _ => ⟨220, [(0, .rs 0 0 n), (1, .I a), (2, .I m), (3, .I b), (4, .fn (.func f) [] capt), (14, .I aq), (17, .I k)], [(0, some ⟨7, rowsV (H ++ (W.reverse ++ x :: ((y :: V) ++ B))), 0⟩)], 400⟩) (fun _ => True) ?_ fun _ _ => ?_
    · generalize rowsV (H ++ (W.reverse ++ x :: ((y :: V) ++ B))) = Z2 at *
      generalize rowsV ((H ++ W.reverse) ++ y :: x :: (V ++ B)) = Z at *
      have g4 : (Z.set k (vC y))[j]? = some (vC y) := by
        rw [List.getElem?_set, if_neg (by omega)]
        exact g1
      refine awp_block ?_
      refine awp_drw rfl ?_
      simp [hwk, hkn, hjn, g1, g2, g4, splice]
      exact ⟨rfl, Le.keep rfl (by simp) (by simp) (by simp; exact hset)⟩
    have hf2 := rowsV_flat (H ++ (W.reverse ++ x :: ((y :: V) ++ B)))
    obtain ⟨Z, hZ⟩ : ∃ Z, Z = rowsV (H ++ (W.reverse ++ x :: ((y :: V) ++ B))) := ⟨_, rfl⟩
    rw [← hZ] at hf2 ⊢
    refine awp_reg rfl ?_
    simp [hwk]
    refine ⟨W, y :: V, j, ⟨by omega, by simp; omega, by rw [hk3]; simp⟩, by omega, ?_⟩
    exact Le.N1 hf2 rfl (by simp) (by simp [hZ]) rfl (by simp [hs2, hs3, hs4])
  simp only [decide_eq_false_iff_not] at h
  have hV0 : W = [] := List.eq_nil_of_length_eq_zero (by omega)
  have hfin : H ++ (W.reverse ++ x :: (V ++ B)) = F := by rw [hk3, hV0]; rfl
  rw [hfin]
  refine awp_ret ?_
  exact ⟨.inr rfl, outV (rowsV_flat F) rfl⟩
end Go.Proofs.Ytnphfkceoklkkaa
namespace Go.Proofs.Ytnphfkceoklkkaa
open Go
theorem srtV_one {a b : List Vch} (ha : srtV a) (hb : srtV b) (h : a = [] ∨ b = []) : srtV (a ++ b) := by
  rcases h with rfl | rfl
  · exact hb
  · rw [List.append_nil]; exact ha
theorem srtV_perm {a b c d : List Vch} (h1 : a.Perm b) (h2 : c.Perm d) (hp : ∀ x ∈ b, ∀ y ∈ d, ¬ ltV y x) (ha : srtV a) (hc : srtV c) : srtV (a ++ c) :=
  srtV_append ha hc fun x hx y hy => hp x (h1.mem_iff.1 hx) y (h2.mem_iff.1 hy)
set_option maxHeartbeats 4000000 in
set_option maxRecDepth 100000 in
theorem symMerge_walk (f : FuncId) (capt : List AV) (hs : StillV capt) (hc : ∀ x y, ACalls Try.prog f (eV x :: eV y :: capt) [] (.I (cmpV x y)) []) (n a m b mid mm lo hi q e : Nat) (Z Z1 Z2 Z3 : List (List AV))
    (hf0 : ∀ ρ sn h m, Z.map (List.map (conv ρ sn h (m + 1))) = Z) (hf1 : ∀ ρ sn h m, Z1.map (List.map (conv ρ sn h (m + 1))) = Z1) (hf2 : ∀ ρ sn h m, Z2.map (List.map (conv ρ sn h (m + 1))) = Z2) (hf3 : ∀ ρ sn h m, Z3.map (List.map (conv ρ sn h (m + 1))) = Z3)
    (ham : a + 1 < m) (hmb : m + 1 < b) (hbn : b ≤ n) (hl : n ≤ 1000000) (hmid : mid = (a + b) / 2) (hmm : mm = mid + m) (hA : mid < m → lo + b = mm ∧ hi = mid) (hB : m ≤ mid → lo = a ∧ hi = m) (hq1 : lo ≤ q) (hq2 : q ≤ hi) (he : e + q = mm) (hal : a ≤ lo) (him : hi ≤ m) (himd : hi ≤ mid)
    (hkey : ∀ c d, lo ≤ c → c < hi → c + d + 1 = mm → d < n ∧ ∃ x y, Z[c]? = some (vC x) ∧ Z[d]? = some (vC y) ∧ (¬ cmpV y x < 0 ↔ c < q))
    (hrot : q < m → m < e → ACalls Try.prog nslices_rotateCmpFunc_api_Vouch [.rs 0 0 n, .I q, .I m, .I e, .fn (.func f) [] capt] [⟨7, Z, 0⟩] (.tup []) [some ⟨7, Z1, 0⟩]) (hrot' : ¬ (q < m ∧ m < e) → Z = Z1)
    (hm1 : a < q → q < mid → ACalls Try.prog nslices_symMergeCmpFunc_api_Vouch [.rs 0 0 n, .I a, .I q, .I mid, .fn (.func f) [] capt] [⟨7, Z1, 0⟩] (.tup []) [some ⟨7, Z2, 0⟩]) (hm1' : ¬ (a < q ∧ q < mid) → Z1 = Z2)
    (hm2 : mid < e → e < b → ACalls Try.prog nslices_symMergeCmpFunc_api_Vouch [.rs 0 0 n, .I mid, .I e, .I b, .fn (.func f) [] capt] [⟨7, Z2, 0⟩] (.tup []) [some ⟨7, Z3, 0⟩]) (hm2' : ¬ (mid < e ∧ e < b) → Z2 = Z3) :
    ACalls Try.prog nslices_symMergeCmpFunc_api_Vouch [.rs 0 0 n, .I a, .I m, .I b, .fn (.func f) [] capt] [⟨7, Z, 0⟩] (.tup []) [some ⟨7, Z3, 0⟩] := by
  have hs2 : ∀ ρ sn h, capt.map (conv ρ sn h 2) = capt := fun _ _ _ => hs _ _ _ 1
  have hs3 : ∀ ρ sn h, capt.map (conv ρ sn h 3) = capt := fun _ _ _ => hs _ _ _ 2
  have hs4 : ∀ ρ sn h, capt.map (conv ρ sn h 4) = capt := fun _ _ _ => hs _ _ _ 3
  have hw1 : IntKind.i64.wrap ((m : Int) - a) = (m : Int) - a := w64 (by omega) (by omega)
  have hw2 : IntKind.i64.wrap ((b : Int) - m) = (b : Int) - m := w64 (by omega) (by omega)
  have hne1 : ¬ ((m : Int) - a = 1) := by omega
  have hne2 : ¬ ((b : Int) - m = 1) := by omega
  obtain ⟨p, hp⟩ : ∃ p, p + 1 = mm := ⟨mm - 1, by omega⟩
  have hw4 : IntKind.i64.wrap ((mid : Int) + (m : Int)) = (mm : Int) := by rw [w64 (by omega) (by omega)]; omega
  have hw5 : mid < m → IntKind.i64.wrap ((mm : Int) - (b : Int)) = (lo : Int) := fun h => by have := hA h; rw [w64 (by omega) (by omega)]; omega
  have hw6 : IntKind.i64.wrap ((mm : Int) - 1) = (p : Int) := by rw [w64 (by omega) (by omega)]; omega
  have hw7 : IntKind.i64.wrap ((mm : Int) - (q : Int)) = (e : Int) := by rw [w64 (by omega) (by omega)]; omega
  obtain ⟨hwA, hwB, hwC, hwD⟩ := half_v (i := a) (j := b) (by omega)
  rw [← hmid] at hwC hwD
  refine sslices_symMergeCmpFunc_api_Vouch.acalls (Nat.le_of_ble_eq_true rfl) (Nat.le_of_ble_eq_true rfl) (Nat.le_of_ble_eq_true rfl) ?_
  show awp _ 1 _ _ ⟨220, [(0, .rs 0 0 n), (1, .I a), (2, .I m), (3, .I b), (4, .fn (.func f) [] capt)], [(0, some ⟨7, Z, 0⟩)], 16⟩
  refine awp_seq ?_
  refine rk (s := ?s01) [0, 1, 2, 3, 4, 28] [0] rfl ?o01 ?q01
  case o01 => simp [hw1, hne1]; rfl
  refine awp_cond _ rfl (fun h => by simp [hne1] at h) fun _ => awp_skip ?_
  refine awp_seq ?_
  refine rk (s := ?s02) [0, 1, 2, 3, 4, 80] [0] rfl ?o02 ?q02
  case o02 => simp [hw2, hne2]; rfl
  refine awp_cond _ rfl (fun h => by simp [hne2] at h) fun _ => awp_skip ?_
  refine rk (s := ?s1) [0, 1, 2, 3, 4, 18] [0] rfl ?o1 ?q1
  case o1 => simp [hwA, hwB, hwC, hwD, IntKind.bits, -Int.natCast_ediv, -Int.natCast_add]; rfl
  refine rk (s := ?s2) [0, 1, 2, 3, 4, 18, 19] [0] rfl ?o2 ?q2
  case o2 => simp [hw4]; rfl
  refine rk (s := ?s3) [0, 1, 2, 3, 4, 18, 19, 20, 21] [0] rfl ?o3 ?q3
  case o3 => simp; rfl
  clear hwA hwB hwC hwD
  refine awp_cut (ι := Unit) (fun _ => ⟨220, [(0, .rs 0 0 n), (1, .I a), (2, .I m), (3, .I b), (4, .fn (.func f) [] capt), (18, .I mid), (19, .I mm), (20, .I lo), (21, .I hi)], [(0, some ⟨7, Z, 0⟩)], 300⟩) (fun _ => True) ?_ fun _ _ => ?_
  · refine rk (s := ?s4) [0, 1, 2, 3, 4, 18, 19, 20, 21, 140] [0] rfl ?o4 ?q4
    case o4 => simp; rfl
    refine awp_cond _ rfl (fun h5 => ?_) fun h5 => ?_
    · simp only [decide_eq_true_eq, Int.ofNat_lt] at h5
      refine rk (s := ?s5) [0, 1, 2, 3, 4, 18, 19, 20] [0] rfl ?o5 ?q5
      case o5 => simp [hw5 h5]; rfl
      refine awp_reg rfl ?_
      simp
      exact Le.keep rfl (by simp) (by simp [(hA h5).2]) (by simp)
    · simp only [decide_eq_false_iff_not, Int.ofNat_lt] at h5
      have hB' := hB (by omega)
      refine rk (s := ?s6) [0, 1, 2, 3, 4, 18, 19, 20] [0] rfl ?o6 ?q6
      case o6 => simp; rfl
      refine awp_reg rfl ?_
      simp
      exact Le.keep rfl (by simp) (by simp [hB'.1, hB'.2]) (by simp)
  refine rk (s := ?s7) [0, 1, 2, 3, 4, 18, 19, 20, 21, 22] [0] rfl ?o7 ?q7
  case o7 => simp [hw6]; rfl
  refine awp_seq ?_
  refine awp_block ?_
  refine awp_loop (ι := Nat × Nat) (fun p' => ⟨220, [(0, .rs 0 0 n), (1, .I a), (2, .I m), (3, .I b), (4, .fn (.func f) [] capt), (18, .I mid), (19, .I mm), (20, .I p'.1), (21, .I p'.2), (22, .I p)], [(0, some ⟨7, Z, 0⟩)], 400⟩) (fun p => lo ≤ p.1 ∧ p.1 ≤ q ∧ q ≤ p.2 ∧ p.2 ≤ hi) (fun p => p.2 - p.1) (lo, hi) ⟨by simp, by simpa using hq1, by simpa using hq2, by simp⟩ (Le.keep rfl (by simp) (by simp) (by simp)) ?_
  rintro ⟨i, j⟩ ⟨hj1, hj2, hj3, hj4⟩
  simp only at hj1 hj2 hj3 hj4
  refine awp_seq ?_
  refine rk (s := ?s8) [0, 1, 2, 3, 4, 18, 19, 20, 21, 22, 151] [0] rfl ?o8 ?q8
  case o8 => simp; rfl
  refine awp_cond _ rfl (fun h4 => awp_skip ?_) fun h4 => awp_exit (hit ?_)
  · simp only [decide_eq_true_eq, Int.ofNat_lt] at h4
    obtain ⟨hw, hu, hd, hw3⟩ := half_v (i := i) (j := j) (by omega)
    refine awp_block ?_
    obtain ⟨c, hcc⟩ : ∃ c, c = (i + j) / 2 := ⟨_, rfl⟩
    rw [← hcc] at hd hw3
    refine rk (s := ?s9) [0, 1, 2, 3, 4, 18, 19, 20, 21, 22, 23] [0] rfl ?o9 ?q9
    case o9 => simp [hw, hu, hd, hw3, IntKind.bits, -Int.natCast_ediv, -Int.natCast_add]; rfl
    obtain ⟨d, hd2⟩ : ∃ d, c + d + 1 = mm := ⟨p - c, by omega⟩
    obtain ⟨hdn, x, y, hg1, hg2, hk2⟩ := hkey c d (by omega) (by omega) hd2
    have hcmp := hc y x
    have hb2 : (!decide (cmpV y x < 0)) = decide (c < q) := by rw [← decide_not, decide_eq_decide]; exact hk2
    have hwd : IntKind.i64.wrap ((p : Int) - (c : Int)) = (d : Int) := by rw [w64 (by omega) (by omega)]; omega
    have hcn : c < n := by omega
    have hwq : IntKind.i64.wrap ((c : Int) + 1) = ((c + 1 : Nat) : Int) := by rw [w64 (by omega) (by omega)]; omega
    refine awp_dregc ⟨220, [(0, .rs 0 0 n), (1, .I a), (2, .I m), (3, .I b), (4, .fn (.func f) [] capt), (18, .I mid), (19, .I mm), (20, .I i), (21, .I j), (22, .I p), (23, .I c), (171, .B (decide (c < q)))], [(0, some ⟨7, Z, 0⟩)], 600⟩ rfl ?_ ?_
    · rw [← hb2]
      simp [hg1, hg2, hwd, hdn, hcn]
      refine call0e hcmp ?_ ?_
      · simp [hs2, hs3, hs4]
      simp
      exact ⟨rfl, Le.keep rfl (by simp) (by simp) (by simp)⟩
    refine awp_cond _ rfl (fun h5 => ?_) fun h5 => ?_
    · simp only [decide_eq_true_eq] at h5
      refine awp_reg rfl ?_
      simp [hwq]
      exact ⟨c + 1, j, ⟨by omega, by omega, by omega, by omega⟩, by omega, Le.N1 hf0 rfl (by simp) rfl rfl (by simp [hs2, hs3, hs4])⟩
    · simp only [decide_eq_false_iff_not] at h5
      refine awp_reg rfl ?_
      simp
      exact ⟨i, c, ⟨by omega, by omega, by omega, by omega⟩, by omega, Le.N1 hf0 rfl (by simp) rfl rfl (by simp [hs2, hs3, hs4])⟩
  simp only [decide_eq_false_iff_not, Int.ofNat_lt] at h4
  obtain rfl : i = q := by omega
  refine rk (s := ?s10) [0, 1, 2, 3, 4, 18, 20, 24] [0] rfl ?o10 ?q10
  case o10 => simp [hw7]; rfl
  refine awp_cut (ι := Unit) (fun _ => ⟨220, [(0, .rs 0 0 n), (1, .I a), (2, .I m), (3, .I b), (4, .fn (.func f) [] capt), (18, .I mid), (20, .I i), (24, .I e)], [(0, some ⟨7, Z1, 0⟩)], 1000⟩) (fun _ => True) ?_ fun _ _ => ?_
  · refine awp_regc ⟨220, [(0, .rs 0 0 n), (1, .I a), (2, .I m), (3, .I b), (4, .fn (.func f) [] capt), (18, .I mid), (20, .I i), (24, .I e), (185, .B (decide (i < m ∧ m < e)))], [(0, some ⟨7, Z, 0⟩)], 700⟩ rfl ?_ ?_
    · by_cases c1 : i < m
      · simp [c1]
        exact Le.keep rfl (by simp) (by simp) (by simp)
      · simp [c1]
        exact Le.keep rfl (by simp) (by simp) (by simp)
    refine awp_cond _ rfl (fun h5 => ?_) fun h5 => awp_skip ?_
    · simp only [decide_eq_true_eq] at h5
      refine awp_reg rfl ?_
      simp
      refine callM1 (i := 0) rfl (e' := ⟨7, Z, 0⟩) (by simp [hf0]) (hrot h5.1 h5.2) (by simp) (by simp [hs2, hs3, hs4]) ?_
      simp [hf1]
      exact Le.keep rfl (by simp) (by simp) (by simp)
    · simp only [decide_eq_false_iff_not] at h5
      exact ⟨(), trivial, Le.keep rfl (by simp) (by simp) (by simp [hrot' h5])⟩
  refine awp_cut (ι := Unit) (fun _ => ⟨220, [(0, .rs 0 0 n), (1, .I a), (2, .I m), (3, .I b), (4, .fn (.func f) [] capt), (18, .I mid), (20, .I i), (24, .I e)], [(0, some ⟨7, Z2, 0⟩)], 2000⟩) (fun _ => True) ?_ fun _ _ => ?_
  · refine awp_regc ⟨220, [(0, .rs 0 0 n), (1, .I a), (2, .I m), (3, .I b), (4, .fn (.func f) [] capt), (18, .I mid), (20, .I i), (24, .I e), (199, .B (decide (a < i ∧ i < mid)))], [(0, some ⟨7, Z1, 0⟩)], 1500⟩ rfl ?_ ?_
    · by_cases c1 : a < i
      · simp [c1]
        exact Le.keep rfl (by simp) (by simp) (by simp)
      · simp [c1]
        exact Le.keep rfl (by simp) (by simp) (by simp)
    refine awp_cond _ rfl (fun h5 => ?_) fun h5 => awp_skip ?_
    · simp only [decide_eq_true_eq] at h5
      refine awp_reg rfl ?_
      simp
      refine callM1 (i := 0) rfl (e' := ⟨7, Z1, 0⟩) (by simp [hf1]) (hm1 h5.1 h5.2) (by simp) (by simp [hs2, hs3, hs4]) ?_
      simp [hf2]
      exact Le.keep rfl (by simp) (by simp) (by simp)
    · simp only [decide_eq_false_iff_not] at h5
      exact ⟨(), trivial, Le.keep rfl (by simp) (by simp) (by simp [hm1' h5])⟩
  refine awp_regc ⟨220, [(0, .rs 0 0 n), (3, .I b), (4, .fn (.func f) [] capt), (18, .I mid), (24, .I e), (213, .B (decide (mid < e ∧ e < b)))], [(0, some ⟨7, Z2, 0⟩)], 2500⟩ rfl ?_ ?_
  · by_cases c1 : mid < e
    · simp [c1]
      exact Le.keep rfl (by simp) (by simp) (by simp)
    · simp [c1]
      exact Le.keep rfl (by simp) (by simp) (by simp)
  refine awp_cond _ rfl (fun h5 => ?_) fun h5 => awp_skip ?_
  · simp only [decide_eq_true_eq] at h5
    refine awp_reg rfl ?_
    simp
    refine callM1 (i := 0) rfl (e' := ⟨7, Z2, 0⟩) (by simp [hf2]) (hm2 h5.1 h5.2) (by simp) (by simp [hs2, hs3, hs4]) ?_
    simp [hf3]
    exact outV hf3 rfl
  · simp only [decide_eq_false_iff_not] at h5
    rw [hm2' h5]
    exact ⟨.inl rfl, outV hf3 rfl⟩
set_option maxHeartbeats 4000000 in
set_option maxRecDepth 100000 in
theorem symMergeV_ok (f : FuncId) (capt : List AV) (hs : StillV capt) (hc : ∀ x y, ACalls Try.prog f (eV x :: eV y :: capt) [] (.I (cmpV x y)) []) : ∀ (k : Nat) (A S T B : List Vch) (n a m b : Nat), S.length + T.length = k → (A ++ (S ++ (T ++ B))).length = n → A.length = a → a + S.length = m → m + T.length = b →
    0 < S.length → 0 < T.length → n ≤ 1000000 → srtV S → srtV T → ∃ R : List Vch, R.Perm (S ++ T) ∧ srtV R ∧
    ACalls Try.prog nslices_symMergeCmpFunc_api_Vouch [.rs 0 0 n, .I a, .I m, .I b, .fn (.func f) [] capt] [⟨7, rowsV (A ++ (S ++ (T ++ B))), 0⟩] (.tup []) [some ⟨7, rowsV (A ++ (R ++ B)), 0⟩] := by
  intro k
  induction k using Nat.strongRecOn with
  | ind k ih =>
  intro A S T B n a m b hk hn ha hm hb hS0 hT0 hl hSs hTs
  by_cases hS1 : S.length = 1
  · obtain ⟨x, rfl⟩ := List.length_eq_one_iff.1 hS1
    obtain ⟨q, hq, hqk, hsr⟩ := one_left (x := x) hTs
    refine ⟨T.take q ++ x :: T.drop q, ?_, hsr, ?_⟩
    · refine (List.perm_middle).trans ?_
      rw [List.take_append_drop]
      exact List.Perm.refl _
    · exact symMergeV_one f capt hs hc A T B x n a m b q hn ha (by simpa using hm) hb hT0 hl hq hqk
  by_cases hT1 : T.length = 1
  · obtain ⟨x, rfl⟩ := List.length_eq_one_iff.1 hT1
    obtain ⟨q, hq, hqk, hsr⟩ := one_right (x := x) hSs
    refine ⟨S.take q ++ x :: S.drop q, ?_, hsr, ?_⟩
    · refine (List.perm_middle).trans ?_
      rw [List.take_append_drop]
      exact (List.perm_append_singleton x S).symm
    · exact symMergeV_two f capt hs hc A S B x n a m b q hn ha hm (by simpa using hb) (by omega) hl hq hqk
  obtain ⟨mid, hmid⟩ : ∃ mid, mid = (a + b) / 2 := ⟨_, rfl⟩
  obtain ⟨lo, hlo⟩ : ∃ lo, lo = if mid < m then mid + m - b else a := ⟨_, rfl⟩
  obtain ⟨hi, hhi⟩ : ∃ hi, hi = if mid < m then mid else m := ⟨_, rfl⟩
  obtain ⟨q, hq⟩ := cutV_ex (lo := lo) (hi := hi) hSs hTs hm hb hS0 hT0 hmid (by
    by_cases h : mid < m
    · rw [if_pos h] at hlo hhi; exact .inl ⟨h, hlo, hhi⟩
    · rw [if_neg h] at hlo hhi; exact .inr ⟨by omega, hlo, hhi⟩)
  have hbn : b + B.length = n := by simp only [List.length_append] at hn; omega
  have hlo2 : a ≤ lo ∧ lo ≤ hi ∧ hi ≤ m ∧ hi ≤ mid ∧ mid + m ≤ b + lo := by
    by_cases h : mid < m
    · rw [if_pos h] at hlo hhi; omega
    · rw [if_neg h] at hlo hhi; omega
  obtain ⟨q1, q2, key, am, qm, qd, eb, below, above⟩ := hq
  obtain ⟨e, he⟩ : ∃ e, e = mid + m - q := ⟨_, rfl⟩
  have hbelow : ∀ s ∈ S.drop (q - a), ∀ t ∈ T.take (mid - q), ¬ ltV s t := fun s h1 t h2 => ltV_asym (below s h1 t h2)
  obtain ⟨sS1, sS2, sS3⟩ := srtV_parts (a := S.take (q - a)) (b := S.drop (q - a)) (by rw [List.take_append_drop]; exact hSs)
  obtain ⟨sT1, sT2, sT3⟩ := srtV_parts (a := T.take (mid - q)) (b := T.drop (mid - q)) (by rw [List.take_append_drop]; exact hTs)
  have lS1 : a + (S.take (q - a)).length = q := by rw [List.length_take]; omega
  have lT1 : q + (T.take (mid - q)).length = mid := by rw [List.length_take]; omega
  have lS2 : mid + (S.drop (q - a)).length = e := by rw [List.length_drop]; omega
  have lT2 : e + (T.drop (mid - q)).length = b := by rw [List.length_drop]; omega
  have hST : S ++ T = S.take (q - a) ++ S.drop (q - a) ++ (T.take (mid - q) ++ T.drop (mid - q)) := by rw [List.take_append_drop, List.take_append_drop]
  have hZ1 : A ++ (S ++ (T ++ B)) = A ++ S.take (q - a) ++ (S.drop (q - a) ++ (T.take (mid - q) ++ (T.drop (mid - q) ++ B))) := by
    rw [List.append_assoc A, ← List.append_assoc (S.take (q - a)), List.take_append_drop, ← List.append_assoc (T.take (mid - q)), List.take_append_drop]
  have hab : a < mid ∧ mid < b := by omega
  have hrot := rotateV_ok f capt hs (A ++ S.take (q - a)) (S.drop (q - a)) (T.take (mid - q)) (T.drop (mid - q) ++ B) n q m e (by rw [← hZ1]; exact hn) (by rw [List.length_append]; omega) (by rw [List.length_drop]; omega) (by omega)
  generalize hgS1 : S.take (q - a) = S1 at *
  generalize hgS2 : S.drop (q - a) = S2 at *
  generalize hgT1 : T.take (mid - q) = T1 at *
  generalize hgT2 : T.drop (mid - q) = T2 at *
  have hga : ∀ c, (h1 : a ≤ c) → (h2 : c < m) → (rowsV (A ++ (S ++ (T ++ B))))[c]? = some (vC (S[c - a]'(by omega))) := fun c h1 h2 => at1 (A := A) (S := S) (R := T ++ B) (k := c - a) (by omega) (by omega)
  have hgt : ∀ c, (h1 : m ≤ c) → (h2 : c < b) → (rowsV (A ++ (S ++ (T ++ B))))[c]? = some (vC (T[c - m]'(by omega))) := fun c h1 h2 => at2 (A := A) (S := S) (T := T) (R := B) (k := c - m) (by omega) (by omega)
  obtain ⟨R1, hp1, hs1, hc1, hn1⟩ : ∃ R1 : List Vch, R1.Perm (S1 ++ T1) ∧ srtV R1 ∧ (a < q ∧ q < mid → ACalls Try.prog nslices_symMergeCmpFunc_api_Vouch [.rs 0 0 n, .I a, .I q, .I mid, .fn (.func f) [] capt] [⟨7, rowsV (A ++ (S1 ++ (T1 ++ (S2 ++ (T2 ++ B))))), 0⟩] (.tup []) [some ⟨7, rowsV (A ++ (R1 ++ (S2 ++ (T2 ++ B)))), 0⟩]) ∧ (¬ (a < q ∧ q < mid) → R1 = S1 ++ T1) := by
    by_cases h : a < q ∧ q < mid
    · obtain ⟨R, h1, h2, h3⟩ := ih (S1.length + T1.length) (by omega) A S1 T1 (S2 ++ (T2 ++ B)) n a q mid rfl (by simp only [List.length_append]; omega) ha lS1 lT1 (by omega) (by omega) hl sS1 sT1
      exact ⟨R, h1, h2, fun _ => h3, fun hh => absurd h hh⟩
    · refine ⟨S1 ++ T1, List.Perm.refl _, srtV_one sS1 sT1 ?_, fun hh => absurd hh h, fun _ => rfl⟩
      by_cases h2 : a < q
      · exact .inr (List.eq_nil_of_length_eq_zero (by omega))
      · exact .inl (List.eq_nil_of_length_eq_zero (by omega))
  have lR1 : R1.length + a = mid := by rw [hp1.length_eq, List.length_append]; omega
  obtain ⟨R2, hp2, hs2, hc2, hn2⟩ : ∃ R2 : List Vch, R2.Perm (S2 ++ T2) ∧ srtV R2 ∧ (mid < e ∧ e < b → ACalls Try.prog nslices_symMergeCmpFunc_api_Vouch [.rs 0 0 n, .I mid, .I e, .I b, .fn (.func f) [] capt] [⟨7, rowsV (A ++ (R1 ++ (S2 ++ (T2 ++ B)))), 0⟩] (.tup []) [some ⟨7, rowsV (A ++ (R1 ++ R2 ++ B)), 0⟩]) ∧ (¬ (mid < e ∧ e < b) → R2 = S2 ++ T2) := by
    by_cases h : mid < e ∧ e < b
    · obtain ⟨R, h1, h2, h3⟩ := ih (S2.length + T2.length) (by omega) (A ++ R1) S2 T2 B n mid e b rfl (by simp only [List.length_append]; omega) (by rw [List.length_append]; omega) lS2 lT2 (by omega) (by omega) hl sS2 sT2
      refine ⟨R, h1, h2, fun _ => ?_, fun hh => absurd h hh⟩
      rw [List.append_assoc A, List.append_assoc A] at h3
      rw [List.append_assoc R1]
      exact h3
    · refine ⟨S2 ++ T2, List.Perm.refl _, srtV_one sS2 sT2 ?_, fun hh => absurd hh h, fun _ => rfl⟩
      by_cases h2 : mid < e
      · exact .inr (List.eq_nil_of_length_eq_zero (by omega))
      · exact .inl (List.eq_nil_of_length_eq_zero (by omega))
  refine ⟨R1 ++ R2, ?_, srtV_perm hp1 hp2 (fun x hx y hy => ?_) hs1 hs2, ?_⟩
  · rw [hST]
    refine (hp1.append hp2).trans ?_
    simp only [List.append_assoc]
    refine List.Perm.append_left _ ?_
    rw [← List.append_assoc, ← List.append_assoc]
    exact List.Perm.append_right _ List.perm_append_comm
  · rcases List.mem_append.1 hx with h | h <;> rcases List.mem_append.1 hy with h' | h'
    · exact sS3 x h y h'
    · exact above x h y h'
    · exact hbelow y h' x h
    · exact sT3 x h y h'
  refine symMerge_walk f capt hs hc n a m b mid (mid + m) lo hi q e _ (rowsV (A ++ (S1 ++ (T1 ++ (S2 ++ (T2 ++ B)))))) (rowsV (A ++ (R1 ++ (S2 ++ (T2 ++ B))))) _ (rowsV_flat _) (rowsV_flat _) (rowsV_flat _) (rowsV_flat _)
    (by omega) (by omega) (by omega) hl hmid rfl (fun h => by rw [if_pos h] at hlo hhi; omega) (fun h => by rw [if_neg (by omega)] at hlo hhi; omega) q1 q2 (by omega) hlo2.1 hlo2.2.2.1 hlo2.2.2.2.1 (fun c d h1 h2 h3 => ?_) (fun h1 h2 => ?_) (fun h => ?_) (fun h1 h2 => hc1 ⟨h1, h2⟩) (fun h => by rw [hn1 h, List.append_assoc]) (fun h1 h2 => hc2 ⟨h1, h2⟩) (fun h => by rw [hn2 h, List.append_assoc R1, List.append_assoc S2])
  · have hd : mid + m - 1 - c = d := by omega
    refine ⟨by omega, S[c - a]'(by omega), T[d - m]'(by omega), hga c (by omega) (by omega), hgt d (by omega) (by omega), ?_⟩
    rw [cmpV_lt]
    have hk2 := key c (by omega) (by omega) h1 h2
    simp only [hd] at hk2
    exact hk2
  · have hr := hrot (by omega) (by omega) hl
    rw [← hZ1, List.append_assoc A S1] at hr
    exact hr
  · rw [hZ1, List.append_assoc A S1]
    by_cases h6 : q < m
    · have : T1 = [] := List.eq_nil_of_length_eq_zero (by omega)
      rw [this]
      rfl
    · have : S2 = [] := List.eq_nil_of_length_eq_zero (by omega)
      rw [this]
      rfl
end Go.Proofs.Ytnphfkceoklkkaa
