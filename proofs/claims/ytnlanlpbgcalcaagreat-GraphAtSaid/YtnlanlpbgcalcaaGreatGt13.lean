/- Texts of this claim, merged. -/
import Derived.Test.YtnlanlpbgcalcaaGreatGt12
import Derived.Test.YtnlanlpbgcalcaaGreatGt8
import Derived.Test.YtnlanlpbgcalcaaGreatGt11
set_option linter.unusedSimpArgs false
set_option linter.unusedVariables false
set_option linter.unusedSectionVars false
namespace Go.Proofs.YtnlanlpbgcalcaaGreat
open Go
set_option maxHeartbeats 1000000 in
set_option maxRecDepth 100000 in
theorem CopyList_ok (l : List Stm) (hl : l.length ≤ 100000) (hb : ∀ s ∈ l, StB s) : ACalls Tryz.prog nref03_CopyList [sts l] [] (.rs 0 0 l.length) [some ⟨13, l.map sC, 0⟩] := by
  refine sref03_CopyList.acalls (Nat.le_of_ble_eq_true rfl) (Nat.le_of_ble_eq_true rfl) (Nat.zero_le _) ?_
  show awp _ 0 _ _ ⟨20, [(0, sts l)], [], 16⟩
  refine rx (s := ?s1) [0] [] [] rfl ?o1 ?q1
  case o1 => simp; rfl
  refine rx (s := ?s2) [0, 3] [] [] rfl ?o2 ?q2
  case o2 => simp; rfl
  refine awp_seq ?_
  refine rx (s := ?s3) [0, 3, 4] [] [] rfl ?o3 ?q3
  case o3 => simp; rfl
  let Y : Nat → List (List AV) := fun i => (l.take i).map sC
  have hYl : ∀ i, i ≤ l.length → (Y i).length = i := fun i hi => by simp [Y]; omega
  have hYf : ∀ i ρ sn h m, (Y i).map (List.map (conv ρ sn h (m + 1))) = Y i := fun i => sts_flat _
  have hYs : ∀ i (h : i < l.length), Y (i + 1) = Y i ++ [sC l[i]] := fun i h => by
    simp only [Y]
    rw [List.take_succ_eq_append_getElem h, List.map_append]
    rfl
  have hYn : Y l.length = l.map sC := by simp only [Y]; rw [List.take_length]
  have hY0 : Y 0 = [] := rfl
  clear_value Y
  refine awp_block ?_
  refine awp_loop (ι := Nat) (fun i => ⟨20, [(0, sts l), (3, .rs 16 0 i), (4, .I i)], [(16, some ⟨13, Y i, 0⟩)], 40⟩) (fun i => i ≤ l.length) (fun i => l.length - i) 0 (Nat.zero_le _) (Le.lst [] [] [(16, 13)] rfl (by simp) (by simp) (by simp) (by simp) (by simp) (by simp) (by simp) (by simp [Up]) (by simp [hY0])) ?_
  intro i hi
  refine awp_seq ?_
  refine rk (s := ?s4) [0, 3, 4, 8] [16] rfl ?o4 ?q4
  case o4 => simp; rfl
  refine awp_cond _ rfl (fun h => awp_skip ?_) fun h => awp_exit (hit ?_)
  · simp only [decide_eq_true_eq, Int.ofNat_lt] at h
    have hg : l[i]? = some l[i] := List.getElem?_eq_getElem h
    have hsb := hb l[i] (List.getElem_mem h)
    have hys := hYs i h
    have hyl := hYl i hi
    have hyf := hYf i
    have hyf2 := hYf (i + 1)
    obtain ⟨s, hs⟩ : ∃ s, s = l[i] := ⟨_, rfl⟩
    rw [← hs] at hg hsb hys
    have hcp := ref03_Copy_ok s (by have := hsb.2.2.1; omega) (by have := hsb.2.2.2.1; omega)
    obtain ⟨X, hX⟩ : ∃ X, X = Y i := ⟨_, rfl⟩
    obtain ⟨X2, hX2⟩ : ∃ X2, X2 = Y (i + 1) := ⟨_, rfl⟩
    have htk : List.take i X = X := List.take_of_length_le (by rw [hX]; omega)
    rw [← hX] at hyl hyf hys ⊢
    rw [← hX2] at hyf2 hys
    refine awp_cut (ι := Unit) (fun _ => ⟨20, [(0, sts l), (3, .rs 16 0 (i + 1)), (4, .I i)], [(16, some ⟨13, X2, 0⟩)], 300⟩) (fun _ => True) ?_ fun _ _ => ?_
    · refine awp_block ?_
      refine awp_reg rfl ?_
      simp [hg]
      refine call0e hcp (by simp) ?_
      simp [hyl, htk]
      exact ⟨by omega, by omega, Le.Z1 (z := 13) hyf2 128 16 [] rfl rfl (by simp) (by simp) (by simp [hys]) (by simp)⟩
    have hwi := wr1 h (by omega)
    refine awp_reg rfl ?_
    simp [hwi]
    exact ⟨i + 1, by omega, by omega, Le.Z1 hyf2 16 16 [] rfl (by rw [hX2]) (by simp) (by simp) rfl (by simp)⟩
  simp only [decide_eq_false_iff_not, Int.ofNat_lt] at h
  obtain rfl : i = l.length := by omega
  rw [hYn]
  refine rx (s := ?s9) [2] [16] [] rfl ?o9 ?q9
  case o9 => simp [Function.comp_def]; rfl
  exact awp_ret ⟨.inr rfl, RetOk.out [16] [] rfl (by simp) (by simp) (by simp) (by simp [Function.comp_def])⟩
end Go.Proofs.YtnlanlpbgcalcaaGreat
namespace Go.Proofs.YtnlanlpbgcalcaaGreat
open Go
theorem Le.s3 {st st' : St} {L : List Int} {a : Nat} {X : List (List AV)} {r : List AV} (i j : Nat) (sn : List Nat) (hsz : st'.sz = st.sz) (hh : st'.h = [(0, some (dice L a)), (32, some ⟨13, X, 0⟩), (j, some ⟨13, [r], 0⟩)]) (hj : 0 < j ∧ j ≠ 32 ∧ i ≠ 0 ∧ i ≠ j) (hn : 32 < st'.n ∧ j < st'.n) (hs : ∀ k ∈ sn, 1 ≤ k ∧ k ∉ [0, i, j])
    (hX : ∀ ρ sn h m, X.map (List.map (conv ρ sn h (m + 1))) = X) (hr : ∀ ρ sn h m, r.map (conv ρ sn h (m + 1)) = r) (h1 : st.hp 0 = some (dice L a)) (h2 : st.hp i = some ⟨13, X, 0⟩) (h3 : st.hp j = some ⟨13, [r], 0⟩)
    (ht : ∀ p ∈ st'.t, Wk (conv [(0, 0), (i, 32), (j, j)] sn st.hp 4 (st.get p.1)) p.2) : Le 1 st st' := by
  refine Le.ents [(0, 0), (i, 32), (j, j)] sn hsz (by simp; omega) (by simp; omega) (by simp; omega) (fun k hk => ⟨(hs k hk).1, by simpa using (hs k hk).2⟩) (by omega) ht fun p hp => ?_
  rw [hh] at hp
  simp only [List.mem_cons, List.not_mem_nil, or_false] at hp
  rcases hp with rfl | rfl | rfl
  · exact ⟨0, _, _, rfl, by simp, h1, EntUp.eq (by simp) (by simp)⟩
  · exact ⟨i, _, _, rfl, by simp, h2, EntUp.eq (by simp only [convE, hX]) (by simp)⟩
  · exact ⟨j, _, _, rfl, by simp, h3, EntUp.eq (by simp [hr]) (by simp)⟩
def okL (l : List Stm) : Prop := ∀ s ∈ l, StOk s
set_option maxHeartbeats 8000000 in
set_option maxRecDepth 100000 in
theorem Spoil_any (L : List Int) (a : Nat) (ch : List Stm) (hl : L.length ≤ 400) (ha : a ≤ L.length) (hc : okL ch) (hcl : ch.length ≤ 100) : ∃ p : List Stm × Nat, (okL p.1 ∧ p.1.length ≤ ch.length + 3 ∧ p.2 ≤ L.length) ∧ ACalls Tryz.prog nmade_Dice_Spoil [.pt 0 0 0, sts ch] [dice L a] (.rs 1 0 p.1.length) [some (dice L p.2), some ⟨13, p.1.map sC, 0⟩] := by
  have hcp := CopyList_ok ch (by omega) fun s hs => (hc s hs).b
  refine smade_Dice_Spoil.acallsX (args := [.pt 0 0 0, sts ch]) (hs := [dice L a]) (fun p => .rs 1 0 p.1.length) (fun p => [some (dice L p.2), some ⟨13, p.1.map sC, 0⟩]) (fun p : List Stm × Nat => okL p.1 ∧ p.1.length ≤ ch.length + 3 ∧ p.2 ≤ L.length) (Nat.le_of_ble_eq_true rfl) (Nat.le_of_ble_eq_true rfl) (fun _ => by simp) ?_
  show awp _ 1 _ _ ⟨111, [(0, .pt 0 0 0), (1, sts ch)], [(0, some (dice L a))], 16⟩
  refine rx (s := ?s1) [0, 1] [0] [] rfl ?o1 ?q1
  case o1 => simp; rfl
  refine awp_regc ⟨111, [(0, .pt 0 0 0), (5, .rs 32 0 ch.length)], [(0, some (dice L a)), (32, some ⟨13, ch.map sC, 0⟩)], 50⟩ rfl ?_ ?_
  · simp
    refine callN1 hcp (by simp) ?_
    simp [Function.comp_def]
    exact Le.keep rfl (by simp) (by simp) (by simp)
  refine awp_seq ?_
  refine awp_regc ⟨111, [(0, .pt 0 0 0), (5, .rs 32 0 ch.length), (13, .B (decide (ch.length = 0)))], [(0, some (dice L a)), (32, some ⟨13, ch.map sC, 0⟩)], 80⟩ rfl ?_ ?_
  · simp
    exact Le.keep rfl (by simp) (by simp <;> rw [Bool.eq_iff_iff] <;> simp) (by simp)
  refine awp_cond _ rfl (fun h2 => ?_) fun h2 => awp_skip ?_
  · refine rx (s := ?s3) [0, 4] [0, 32] [] rfl ?o3 ?q3
    case o3 => simp [Function.comp_def]; rfl
    exact awp_ret (PostX.mk (.inr rfl) (ch, a) ⟨hc, by simp only; omega, ha⟩ (RetOk.k1m 32 (by simp) rfl (by simp) (by simp [Function.comp_def]) (by simp [Function.comp_def])))
  simp only [decide_eq_false_iff_not] at h2
  obtain ⟨y0, b0, ⟨hb0, hy1, _, hy2⟩, hn0⟩ := Next_any L a 3 hl ha (by decide)
  have hy3 := hy2 (by decide)
  obtain ⟨y, rfl⟩ : ∃ y : Nat, y0 = y := ⟨y0.toNat, by omega⟩
  refine awp_seq ?_
  refine awp_regc ⟨111, [(0, .pt 0 0 0), (5, .rs 32 0 ch.length), (6, .I y)], [(0, some (dice L b0)), (32, some ⟨13, ch.map sC, 0⟩)], 120⟩ rfl ?_ ?_
  · simp
    refine callM1 (i := 0) rfl (e' := dice L a) (by simp) hn0 (by simp) (by simp) ?_
    simp
    exact Le.keep rfl (by simp) (by simp) (by simp)
  refine awp_block ?_
  refine awp_loop (ι := (List Stm × Nat) × Nat) (fun p => ⟨111, [(0, .pt 0 0 0), (5, .rs 32 0 p.1.1.length), (6, .I p.2)], [(0, some (dice L p.1.2)), (32, some ⟨13, p.1.1.map sC, 0⟩)], 200⟩) (fun p => okL p.1.1 ∧ 0 < p.1.1.length ∧ p.1.1.length + p.2 ≤ ch.length + 3 ∧ p.1.2 ≤ L.length) (fun p => p.2) ((ch, b0), y) ⟨hc, by simp only; omega, by simp only; omega, hb0⟩ (Le.keep rfl (by simp) (by simp) (by simp)) ?_
  rintro ⟨⟨o, b⟩, n⟩ ⟨hok, ho0, hon, hbl⟩
  simp only at hok ho0 hon hbl
  simp only
  have hXl : (o.map sC).length = o.length := List.length_map ..
  have hXf := sts_flat o
  have hXg : ∀ k (h : k < o.length), (o.map sC)[k]? = some (sC o[k]) := fun k h => by rw [List.getElem?_map, List.getElem?_eq_getElem h]; rfl
  obtain ⟨X, hX⟩ : ∃ X, X = o.map sC := ⟨_, rfl⟩
  rw [← hX] at hXl hXf hXg ⊢
  refine awp_seq ?_
  refine rk (s := ?s4) [0, 5, 6, 18] [0, 32] rfl ?o4 ?q4
  case o4 => simp; rfl
  refine awp_cond _ rfl (fun h => awp_skip ?_) fun h => awp_exit (hit ?_)
  · simp only [decide_eq_true_eq] at h
    refine awp_cut (ι := List Stm × Nat) (fun p => ⟨111, [(0, .pt 0 0 0), (5, .rs 32 0 p.1.length), (6, .I n)], [(0, some (dice L p.2)), (32, some ⟨13, p.1.map sC, 0⟩)], 5000⟩) (fun p => okL p.1 ∧ 0 < p.1.length ∧ p.1.length + (n - 1) ≤ ch.length + 3 ∧ p.2 ≤ L.length) ?_ ?_
    · obtain ⟨k0, b1, ⟨hb1, hk1, _, hk2⟩, hn1⟩ := Next_any L b o.length hl hbl (by omega)
      have hk3 := hk2 (by omega)
      obtain ⟨k, rfl⟩ : ∃ k : Nat, k0 = k := ⟨k0.toNat, by omega⟩
      have hko : k < o.length := by omega
      have hxk := hXg k hko
      have hxo := hok o[k] (List.getElem_mem hko)
      obtain ⟨x, hx⟩ : ∃ x, x = o[k] := ⟨_, rfl⟩
      rw [← hx] at hxk hxo
      have hxb := hxo.b
      have hcx := ref03_Copy_ok x (by have := hxb.2.2.1; omega) (by have := hxb.2.2.2.1; omega)
      have hxk' : X[k]'(by omega) = sC x := by
        have := List.getElem?_eq_some_iff.1 hxk
        exact this.2
      obtain ⟨w, b2, ⟨hb2, _⟩, hn2⟩ := Next_any L b1 5 hl hb1 (by decide)
      refine awp_block ?_
      refine awp_regc ⟨111, [(0, .pt 0 0 0), (5, .rs 32 0 o.length), (6, .I n), (7, .pt 280 0 0)], [(0, some (dice L b1)), (32, some ⟨13, X, 0⟩), (280, some ⟨13, [sC x], 0⟩)], 320⟩ rfl ?_ ?_
      · simp
        refine callM1 (i := 0) rfl (e' := dice L b) (by simp) hn1 (by simp) (by simp) ?_
        simp [hko, hXl, hxk']
        refine call0e hcx (by simp) ?_
        simp [splice]
        exact Le.keep rfl (by simp) (by simp) (by simp)
      refine awp_cut (ι := (List Stm × Stm) × Nat) (fun p => ⟨111, [(0, .pt 0 0 0), (5, .rs 32 0 p.1.1.length), (6, .I n), (7, .pt 280 0 0)], [(0, some (dice L p.2)), (32, some ⟨13, p.1.1.map sC, 0⟩), (280, some ⟨13, [sC p.1.2], 0⟩)], 2000⟩) (fun p => okL p.1.1 ∧ 0 < p.1.1.length ∧ p.1.1.length ≤ o.length ∧ StB p.1.2 ∧ p.2 ≤ L.length) ?_ ?_
      · refine awp_regc ⟨111, [(0, .pt 0 0 0), (5, .rs 32 0 o.length), (6, .I n), (7, .pt 280 0 0), (30, .I w)], [(0, some (dice L b2)), (32, some ⟨13, X, 0⟩), (280, some ⟨13, [sC x], 0⟩)], 400⟩ rfl ?_ ?_
        · simp
          refine callM1 (i := 0) rfl (e' := dice L b1) (by simp) hn2 (by simp) (by simp) ?_
          simp
          exact Le.keep rfl (by simp) (by simp) (by simp)
        have hxf : ∀ (x : Stm) ρ sn h m, (sC x).map (conv ρ sn h (m + 1)) = sC x := fun x ρ sn h m => by simp
        have hback : ∀ (st : St) (x' : Stm) (c : Nat), st.sz = 111 → st.hp 0 = some (dice L c) → st.hp 32 = some ⟨13, X, 0⟩ → st.hp 280 = some ⟨13, [sC x'], 0⟩ → st.get 0 = .pt 0 0 0 → st.get 5 = .rs 32 0 o.length → st.get 6 = .I n → st.get 7 = .pt 280 0 0 → Le 1 st ⟨111, [(0, .pt 0 0 0), (5, .rs 32 0 o.length), (6, .I n), (7, .pt 280 0 0)], [(0, some (dice L c)), (32, some ⟨13, o.map sC, 0⟩), (280, some ⟨13, [sC x'], 0⟩)], 2000⟩ := fun st x' c g0 g1 g2 g3 g4 g5 g6 g7 => by
          rw [← hX]
          exact Le.s3 32 280 [] g0.symm rfl (by simp) (by simp) (by simp) hXf (hxf x') g1 g2 g3 (by simp [g4, g5, g6, g7])
        refine awp_block ?_
        refine rk (s := ?s11) [0, 5, 6, 7, 30, 47] [0, 32, 280] rfl ?o11 ?q11
        case o11 => simp; rfl
        refine awp_cond _ rfl (fun h12 => ?_) fun h12 => ?_
        · refine rk (s := ?s13) [0, 5, 6, 7] [0, 32, 280] rfl ?o13 ?q13
          case o13 => simp [splice]; rfl
          have hmod := Mod_ok (IntKind.i64.wrap (2 - x.ki)) 2 (by decide)
          refine awp_drw rfl ?_
          simp
          refine call0e hmod (by simp) ?_
          simp [splice]
          exact ⟨rfl, o, { x with ti := IntKind.i64.wrap (x.ti + 1), c := if x.c < IntKind.i64.wrap (IntKind.i64.wrap (x.ti + 1) * modI (IntKind.i64.wrap (2 - x.ki)) 2) then IntKind.i64.wrap (IntKind.i64.wrap (x.ti + 1) * modI (IntKind.i64.wrap (2 - x.ki)) 2) else x.c }, b2, ⟨hok, ho0, Nat.le_refl _, hxb, hb2⟩, hback _ _ _ rfl rfl rfl rfl rfl rfl rfl rfl⟩
        refine rk (s := ?s17) [0, 5, 6, 7, 30, 64] [0, 32, 280] rfl ?o17 ?q17
        case o17 => simp; rfl
        refine awp_cond _ rfl (fun h18 => ?_) fun h18 => ?_
        · obtain ⟨z, b3, ⟨hb3, _⟩, hn3⟩ := Next_any L b2 3 hl hb2 (by decide)
          obtain ⟨⟨d, b4⟩, ⟨hd, hb4⟩, hdg⟩ := Digest_any L b3 hl hb3
          simp only at hd hb4 hdg
          obtain ⟨q, hq⟩ : ∃ q, q = (if 199 < IntKind.i64.wrap (IntKind.i64.wrap (x.nu + 1) + z) then 199 else IntKind.i64.wrap (IntKind.i64.wrap (x.nu + 1) + z)) := ⟨_, rfl⟩
          refine awp_dregc ⟨111, [(0, .pt 0 0 0), (5, .rs 32 0 o.length), (6, .I n), (7, .pt 280 0 0)], [(0, some (dice L b3)), (32, some ⟨13, X, 0⟩), (280, some ⟨13, [sC { x with nu := q }], 0⟩)], 800⟩ rfl ?_ ?_
          · simp
            refine callM1 (i := 0) rfl (e' := dice L b2) (by simp) hn3 (by simp) (by simp) ?_
            simp [splice]
            exact ⟨rfl, Le.keep rfl (by simp) (by simp) (by simp [hq])⟩
          refine rk (s := ?s20) [0, 5, 6, 7, 77] [0, 32, 280] rfl ?o20 ?q20
          case o20 => simp; rfl
          refine awp_cond _ rfl (fun h21 => ?_) fun h21 => awp_skip ?_
          · refine awp_reg rfl ?_
            simp
            refine callM1 (i := 0) rfl (e' := dice L b3) (by simp) hdg (by simp) (by simp) ?_
            simp [splice]
            exact ⟨o, { x with nu := q, pr := d }, b4, ⟨hok, ho0, Nat.le_refl _, ⟨by show d.size ≤ 5000; omega, hxb.2⟩, hb4⟩, hback _ _ _ rfl rfl rfl rfl rfl rfl rfl rfl⟩
          · exact ⟨((o, { x with nu := q }), b3), ⟨hok, ho0, Nat.le_refl _, hxb, hb3⟩, hback _ _ _ rfl rfl rfl rfl rfl rfl rfl rfl⟩
        refine rk (s := ?s28) [0, 5, 6, 7, 30, 81] [0, 32, 280] rfl ?o28 ?q28
        case o28 => simp; rfl
        refine awp_cond _ rfl (fun h22 => ?_) fun h22 => ?_
        · refine awp_reg rfl ?_
          simp [splice]
          exact ⟨o, { x with ti := if 0 < IntKind.i64.wrap (x.ti - 30) then IntKind.i64.wrap (x.ti - 30) else 0 }, b2, ⟨hok, ho0, Nat.le_refl _, hxb, hb2⟩, hback _ _ _ rfl rfl rfl rfl rfl rfl rfl rfl⟩
        refine rk (s := ?s29) [0, 5, 6, 7, 88] [0, 32, 280] rfl ?o29 ?q29
        case o29 => simp; rfl
        refine awp_cond _ rfl (fun h23 => ?_) fun h23 => ?_
        · refine rk (s := ?s30) [0, 5, 6, 7, 92] [0, 32, 280] rfl ?o30 ?q30
          case o30 => simp; rfl
          refine awp_cond _ rfl (fun h24 => ?_) fun h24 => awp_skip ?_
          · obtain ⟨⟨d, b4⟩, ⟨hd, hb4⟩, hdg⟩ := Digest_any L b2 hl hb2
            simp only at hd hb4 hdg
            refine awp_reg rfl ?_
            simp
            refine callM1 (i := 0) rfl (e' := dice L b2) (by simp) hdg (by simp) (by simp) ?_
            simp [splice]
            exact ⟨o, { x with pr := d }, b4, ⟨hok, ho0, Nat.le_refl _, ⟨by show d.size ≤ 5000; omega, hxb.2⟩, hb4⟩, hback _ _ _ rfl rfl rfl rfl rfl rfl rfl rfl⟩
          · exact ⟨((o, x), b2), ⟨hok, ho0, Nat.le_refl _, hxb, hb2⟩, hback _ _ _ rfl rfl rfl rfl rfl rfl rfl rfl⟩
        refine rk (s := ?s31) [0, 5, 6, 7, 33] [0, 32, 280] rfl ?o31 ?q31
        case o31 => simp; rfl
        refine awp_cond _ rfl (fun h25 => ?_) fun h25 => awp_skip ?_
        · have h26 : 1 < o.length := by simp at h25; omega
          obtain ⟨k0, b3, ⟨hb3, hk4, _, hk5⟩, hn3⟩ := Next_any L b2 o.length hl hb2 (by omega)
          have hk6 := hk5 (by omega)
          obtain ⟨j, rfl⟩ : ∃ k : Nat, k0 = k := ⟨k0.toNat, by omega⟩
          obtain ⟨j2, hj2⟩ : ∃ j2, j2 = j + 1 := ⟨_, rfl⟩
          have hwj : IntKind.i64.wrap ((j : Int) + 1) = (j2 : Int) := by rw [w64 (by omega) (by omega)]; omega
          refine awp_regc ⟨111, [(0, .pt 0 0 0), (5, .rs 32 0 o.length), (6, .I n), (7, .pt 280 0 0), (8, .I j)], [(0, some (dice L b3)), (32, some ⟨13, X, 0⟩), (280, some ⟨13, [sC x], 0⟩)], 1000⟩ rfl ?_ ?_
          · simp
            refine callM1 (i := 0) rfl (e' := dice L b2) (by simp) hn3 (by simp) (by simp) ?_
            simp
            exact Le.keep rfl (by simp) (by simp) (by simp)
          have hom : (o.take j ++ o.drop j2).map sC = X.take j ++ X.drop j2 := by rw [hX, List.map_append, List.map_take, List.map_drop]
          have hol : (o.take j ++ o.drop j2).length = o.length - 1 := by rw [List.length_append, List.length_take, List.length_drop]; omega
          have hXf2 := sts_flat (o.take j ++ o.drop j2)
          rw [hom] at hXf2
          have hokn : okL (o.take j ++ o.drop j2) := fun s hs => by
            rcases List.mem_append.1 hs with hs | hs
            · exact hok s (List.mem_of_mem_take hs)
            · exact hok s (List.mem_of_mem_drop hs)
          have hmin : min j o.length = j := by omega
          have hjl : j ≤ o.length := by omega
          have hj2l : j2 ≤ o.length := by omega
          have htk : List.take (o.length - j2) (X.drop j2) = X.drop j2 := List.take_of_length_le (by rw [List.length_drop]; omega)
          have hle : j + (o.length - j2) = o.length - 1 := by omega
          refine awp_drw rfl ?_
          simp [hXl, hmin, hjl, hj2l, hwj, htk]
          refine ⟨by omega, by omega, by omega, by omega, rfl, o.take j ++ o.drop j2, x, b3, ⟨hokn, by rw [hol]; omega, by rw [hol]; omega, hxb, hb3⟩, ?_⟩
          rw [hom, hol, ← hle]
          exact Le.s3 1064 280 [] rfl rfl (by simp) (by simp) (by simp) hXf2 (hxf x) rfl rfl rfl (by simp)
        · exact ⟨((o, x), b2), ⟨hok, ho0, Nat.le_refl _, hxb, hb2⟩, hback _ _ _ rfl rfl rfl rfl rfl rfl rfl rfl⟩
      · rintro ⟨⟨o2, x2⟩, b3⟩ ⟨g1, g2, g3, g4, g5⟩
        simp only at g1 g2 g3 g4 g5
        simp only
        clear hXl hXf hXg hX hxk' hxk
        have hXl : (o2.map sC).length = o2.length := List.length_map ..
        have hXf := sts_flat o2
        obtain ⟨X, hX⟩ : ∃ X, X = o2.map sC := ⟨_, rfl⟩
        rw [← hX] at hXl hXf ⊢
        have hsl := ref03_Seal_ok x2 g4
        obtain ⟨x3, hx3⟩ : ∃ x3 : Stm, x3 = { x2 with sk := x2.au, sd := digS x2 } := ⟨_, rfl⟩
        rw [← hx3] at hsl
        have g6 : StB x3 := by rw [hx3]; exact g4
        obtain ⟨e, he0, hchk⟩ := ref03_Check_ok x3 (by have := g6.2.2.1; omega) (by have := g6.2.2.2.1; omega)
        obtain ⟨r, b4, hb4, hone⟩ := One_any L b3 3 hl g5 (by decide) (by decide)
        refine awp_regc ⟨111, [(0, .pt 0 0 0), (5, .rs 32 0 o2.length), (6, .I n), (7, .pt 280 0 0)], [(0, some (dice L b3)), (32, some ⟨13, X, 0⟩), (280, some ⟨13, [sC x3], 0⟩)], 2200⟩ rfl ?_ ?_
        · simp
          refine call0e hsl (by simp) ?_
          simp [splice]
          exact Le.keep rfl (by simp) (by simp) (by simp)
        obtain ⟨b5, hb5, hb5'⟩ : ∃ b5, b5 ≤ L.length ∧ b5 = if e = 0 then b4 else b3 := by
          refine ⟨_, ?_, rfl⟩
          split
          · exact hb4
          · exact g5
        refine awp_regc ⟨111, [(0, .pt 0 0 0), (5, .rs 32 0 o2.length), (6, .I n), (7, .pt 280 0 0), (105, .B (decide (e = 0) && !r))], [(0, some (dice L b5)), (32, some ⟨13, X, 0⟩), (280, some ⟨13, [sC x3], 0⟩)], 2500⟩ rfl ?_ ?_
        · simp
          refine call0e hchk (by simp) ?_
          by_cases h1 : e = 0
          · have h1' : (e == 0) = true := by simp [h1]
            rw [if_pos h1] at hb5'
            simp [h1']
            refine callM1 (i := 0) rfl (e' := dice L b3) (by simp) hone (by simp) (by simp) ?_
            simp
            exact Le.keep rfl (by simp) (by simp [h1]) (by simp [hb5'])
          · have h1' : (e == 0) = false := by simp [h1]
            rw [if_neg h1] at hb5'
            simp [h1']
            exact Le.keep rfl (by simp) (by simp [h1]) (by simp [hb5'])
        refine awp_cond _ rfl (fun h5 => ?_) fun h5 => awp_skip ?_
        · have h6 : StOk x3 := he0.1 (by simp at h5; exact h5.1)
          have hom : (o2 ++ [x3]).map sC = X ++ [sC x3] := by rw [List.map_append, ← hX]; rfl
          have hol : (o2 ++ [x3]).length = o2.length + 1 := by simp
          have htk : List.take o2.length X = X := List.take_of_length_le (by omega)
          have hokn : okL (o2 ++ [x3]) := fun s hs => by
            rcases List.mem_append.1 hs with hs | hs
            · exact g1 s hs
            · rw [List.mem_singleton] at hs; rw [hs]; exact h6
          refine awp_reg rfl ?_
          simp [hXl, htk]
          refine ⟨by omega, by omega, o2 ++ [x3], b5, ⟨hokn, by rw [hol]; omega, by rw [hol]; omega, hb5⟩, ?_⟩
          rw [hom, hol]
          exact Le.go [(0, 0), (2524, 32)] [] rfl rfl (by simp) (by simp [hXf])
        · exact ⟨(o2, b5), ⟨g1, g2, by simp only; omega, hb5⟩, Le.keep rfl (by simp) (by simp) (by simp [hX])⟩
    · rintro ⟨o2, b6⟩ ⟨h1, h2, h3, h4⟩
      simp only at h1 h2 h3 h4
      have hwn : IntKind.i64.wrap ((n : Int) - 1) = ((n - 1 : Nat) : Int) := by rw [w64 (by omega) (by omega)]; omega
      have hXf2 := sts_flat o2
      refine awp_reg rfl ?_
      simp [hwn]
      exact ⟨o2, b6, n - 1, ⟨h1, h2, by omega, h4⟩, by omega, Le.go [(0, 0), (32, 32)] [] rfl rfl (by simp) (by simp [Function.comp_def])⟩
  rw [hX]
  refine rx (s := ?s9) [0, 4] [0, 32] [] rfl ?o9 ?q9
  case o9 => simp [Function.comp_def]; rfl
  exact awp_ret (PostX.mk (.inr rfl) (o, b) ⟨hok, by simp only; omega, hbl⟩ (RetOk.k1m 32 (by simp) rfl (by simp) (by simp [Function.comp_def]) (by simp [Function.comp_def])))
end Go.Proofs.YtnlanlpbgcalcaaGreat
namespace Go.Proofs.YtnlanlpbgcalcaaGreat
open Go
theorem Chain.okL {a : Int} {c : List Stm} (hc : Chain a c) : okL c := fun s hs => by
  obtain ⟨i, hi, rfl⟩ := List.mem_iff_getElem.1 hs
  exact (hc.1 i hi).ok
set_option maxHeartbeats 1000000 in
set_option maxRecDepth 100000 in
theorem Lists_any (L : List Int) (a : Nat) (A m : Nat) (hl : L.length ≤ 400) (ha : a ≤ L.length) (hA : A ≤ 100) (hm : m ≤ 100) : ∃ p : List Stm × Nat, (okL p.1 ∧ p.1.length ≤ A * (m + 3) ∧ p.2 ≤ L.length) ∧ ACalls Tryz.prog nmade_Dice_Lists [.pt 0 0 0, .I A, .I m] [dice L a] (.rs 1 0 p.1.length) [some (dice L p.2), some ⟨13, p.1.map sC, 0⟩] := by
  refine smade_Dice_Lists.acallsX (args := [.pt 0 0 0, .I A, .I m]) (hs := [dice L a]) (fun p => .rs 1 0 p.1.length) (fun p => [some (dice L p.2), some ⟨13, p.1.map sC, 0⟩]) (fun p : List Stm × Nat => okL p.1 ∧ p.1.length ≤ A * (m + 3) ∧ p.2 ≤ L.length) (Nat.le_of_ble_eq_true rfl) (Nat.le_of_ble_eq_true rfl) (fun _ => by simp) ?_
  show awp _ 1 _ _ ⟨23, [(0, .pt 0 0 0), (1, .I A), (2, .I m)], [(0, some (dice L a))], 16⟩
  refine rx (s := ?s1) [0, 1, 2] [0] [] rfl ?o1 ?q1
  case o1 => simp; rfl
  refine rx (s := ?s2) [0, 1, 2, 7] [0] [] rfl ?o2 ?q2
  case o2 => simp; rfl
  refine awp_seq ?_
  refine rx (s := ?s3) [0, 1, 2, 7, 8] [0] [] rfl ?o3 ?q3
  case o3 => simp; rfl
  refine awp_block ?_
  refine awp_loop (ι := (List Stm × Nat) × Nat) (fun p => ⟨23, [(0, .pt 0 0 0), (1, .I A), (2, .I m), (7, .rs 24 0 p.1.1.length), (8, .I p.2)], [(0, some (dice L p.1.2)), (24, some ⟨13, p.1.1.map sC, 0⟩)], 200⟩) (fun p => p.2 ≤ A ∧ okL p.1.1 ∧ p.1.1.length ≤ p.2 * (m + 3) ∧ p.1.2 ≤ L.length) (fun p => A - p.2) (([], a), 0) ⟨Nat.zero_le _, fun s hs => by simp at hs, Nat.zero_le _, ha⟩ ?_ ?_
  · refine Le.lst [(0, 0)] [] [(24, 13)] rfl (by simp) (by simp) (by simp) (by simp) (by simp) (by simp) (by simp) (by simp [Up]) fun p hp e' he' => ?_
    simp only [List.mem_cons, List.not_mem_nil, or_false] at hp
    rcases hp with rfl | rfl
    · cases he'
      exact .inl ⟨(0, 0), by simp, rfl, _, rfl, EntUp.eq (by simp) (by simp)⟩
    · cases he'
      exact .inr ⟨by simp, by simp, rfl⟩
  rintro ⟨⟨o, b⟩, i⟩ ⟨hi, hok, hon, hbl⟩
  simp only at hi hok hon hbl
  have hmul : i * (m + 3) ≤ A * (m + 3) := Nat.mul_le_mul_right _ hi
  have hmax : A * (m + 3) ≤ 100 * 103 := Nat.mul_le_mul hA (by omega)
  have hsuc : (i + 1) * (m + 3) = i * (m + 3) + (m + 3) := Nat.succ_mul ..
  have hlen : ¬ (i < A) → o.length ≤ A * (m + 3) := fun _ => Nat.le_trans hon hmul
  simp only
  have hXl : (o.map sC).length = o.length := List.length_map ..
  have hXf := sts_flat o
  obtain ⟨X, hX⟩ : ∃ X, X = o.map sC := ⟨_, rfl⟩
  rw [← hX] at hXl hXf ⊢
  refine awp_seq ?_
  refine rk (s := ?s4) [0, 1, 2, 7, 8, 11] [0, 24] rfl ?o4 ?q4
  case o4 => simp; rfl
  refine awp_cond _ rfl (fun h => awp_skip ?_) fun h => awp_exit (hit ?_)
  · simp only [decide_eq_true_eq, Int.ofNat_lt] at h
    obtain ⟨⟨⟨c, b1⟩, ro⟩, ⟨hc1, hc2, hc3⟩, hch⟩ := Chain_any L b i m hl hbl hm
    simp only at hc1 hc2 hc3 hch
    obtain ⟨⟨d, b2⟩, ⟨hd1, hd2, hd3⟩, hsp⟩ := Spoil_any L b1 c hl hc3 hc1.okL (by omega)
    simp only at hd1 hd2 hd3 hsp
    have hom : (o ++ d).map sC = X ++ d.map sC := by rw [List.map_append, ← hX]
    have hol : (o ++ d).length = o.length + d.length := List.length_append ..
    have hXf2 := sts_flat (o ++ d)
    have hcf := sts_flat c
    have hcl : (c.map sC).length = c.length := List.length_map ..
    have hdf := sts_flat d
    have hdl : (d.map sC).length = d.length := List.length_map ..
    have hsc : sts c = .vs 13 false (c.map sC) := rfl
    rw [hom] at hXf2
    have hokn : okL (o ++ d) := fun s hs => by
      rcases List.mem_append.1 hs with hs | hs
      · exact hok s hs
      · exact hd1 s hs
    obtain ⟨C, hC⟩ : ∃ C, C = c.map sC := ⟨_, rfl⟩
    obtain ⟨D, hD⟩ : ∃ D, D = d.map sC := ⟨_, rfl⟩
    rw [← hC] at hcf hcl hch hsc
    rw [← hD] at hdf hdl hsp hom hXf2
    rw [hsc] at hsp
    have htX : List.take o.length X = X := List.take_of_length_le (by omega)
    have htC : List.take c.length C = C := List.take_of_length_le (by omega)
    have htD : List.take d.length D = D := List.take_of_length_le (by omega)
    refine awp_cut (ι := Unit) (fun _ => ⟨23, [(0, .pt 0 0 0), (1, .I A), (2, .I m), (7, .rs 24 0 (o.length + d.length)), (8, .I i)], [(0, some (dice L b2)), (24, some ⟨13, X ++ D, 0⟩)], 1000⟩) (fun _ => True) ?_ fun _ _ => ?_
    · refine awp_block ?_
      refine awp_reg rfl ?_
      simp
      refine callM1 (i := 0) rfl (e' := dice L b) (by simp) hch (by simp) (by simp) ?_
      simp [hcf]
      refine callM1s (i := 0) (j := 264) (by decide) (by decide) rfl rfl (e' := dice L b1) (by simp) hsp (by simp) (by simp [hcl, htC, hcf]) ?_
      simp [hXl, htX, hdl, htD, hdf]
      exact ⟨by omega, by omega, Le.go [(0, 0), (280, 24)] [] rfl rfl (by simp) (by simp [hXf, hdf])⟩
    have hwi := wr1 h (by omega)
    refine awp_reg rfl ?_
    simp [hwi]
    refine ⟨o ++ d, b2, i + 1, ⟨by omega, hokn, by rw [hol]; omega, hd3⟩, by omega, ?_⟩
    rw [hom, hol]
    exact Le.go [(0, 0), (24, 24)] [] rfl rfl (by simp) (by simp [hXf, hdf])
  rw [hX]
  refine rx (s := ?s9) [0, 6] [0, 24] [] rfl ?o9 ?q9
  case o9 => simp [Function.comp_def]; rfl
  exact awp_ret (PostX.mk (.inr rfl) (o, b) ⟨hok, Nat.le_trans hon hmul, hbl⟩ (RetOk.k1m 24 (by simp) rfl (by simp) (by simp [Function.comp_def]) (by simp [Function.comp_def])))
set_option maxHeartbeats 1000000 in
set_option maxRecDepth 100000 in
theorem Store_any (L : List Int) (a : Nat) (m : Nat) (hl : L.length ≤ 400) (ha : a ≤ L.length) (hm : m ≤ 100) : ∃ p : List Stm × Nat, (okL p.1 ∧ p.1.length ≤ 5 * (m + 3) ∧ p.2 ≤ L.length) ∧ ACalls Tryz.prog nmade_Dice_Store [.pt 0 0 0, .I m] [dice L a] (.agg [sts p.1]) [some (dice L p.2)] := by
  obtain ⟨y0, b0, ⟨hb0, hy1, _, hy2⟩, hn0⟩ := Next_any L a 5 hl ha (by decide)
  have hy3 := hy2 (by decide)
  obtain ⟨y, rfl⟩ : ∃ y : Nat, y0 = y := ⟨y0.toNat, by omega⟩
  obtain ⟨z, hz⟩ : ∃ z, z = 1 + y := ⟨_, rfl⟩
  have hwz : IntKind.i64.wrap (1 + (y : Int)) = (z : Int) := by rw [w64 (by omega) (by omega)]; omega
  obtain ⟨⟨l, b1⟩, ⟨hl1, hl2, hb1⟩, hli⟩ := Lists_any L b0 z m hl hb0 (by omega) hm
  simp only at hl1 hl2 hb1 hli
  obtain ⟨s, ⟨⟨_, hs1⟩, hs2⟩, hst⟩ := MadeStoreOf_any l (by have : z * (m + 3) ≤ 5 * (m + 3) := Nat.mul_le_mul_right _ (by omega); omega) fun x hx => (hl1 x hx).b
  refine ⟨(s, b1), ⟨hs2, by have : z * (m + 3) ≤ 5 * (m + 3) := Nat.mul_le_mul_right _ (by omega); simp only; omega, hb1⟩, ?_⟩
  refine smade_Dice_Store.acalls (Nat.le_of_ble_eq_true rfl) (Nat.le_of_ble_eq_true rfl) (Nat.le_refl _) ?_
  show awp _ 1 _ _ ⟨12, [(0, .pt 0 0 0), (1, .I m)], [(0, some (dice L a))], 16⟩
  have hXl : (l.map sC).length = l.length := List.length_map ..
  have hXf := sts_flat l
  have hsc : sts l = .vs 13 false (l.map sC) := rfl
  obtain ⟨X, hX⟩ : ∃ X, X = l.map sC := ⟨_, rfl⟩
  rw [← hX] at hXl hXf hli hsc
  rw [hsc] at hst
  have htX : List.take l.length X = X := List.take_of_length_le (by omega)
  refine rx (s := ?s1) [0, 1, 4] [0, 16] [] rfl ?o1 ?q1
  case o1 => simp; rfl
  refine awp_regc ⟨12, [(4, .pv [sts s])], [(0, some (dice L b1))], 300⟩ rfl ?_ (awp_ret ⟨.inr rfl, RetOk.k1 rfl (by simp) (by simp)⟩)
  simp
  refine callM1 (i := 0) rfl (e' := dice L a) (by simp) hn0 (by simp) (by simp) ?_
  simp [hwz]
  refine callM1 (i := 0) rfl (e' := dice L b0) (by simp) hli (by simp) (by simp) ?_
  simp [hXf]
  refine call0r [64] hst (by simp [hXl, htX, hXf]) (by simp) ?_
  simp [splice, hXl]
  exact Le.go [(0, 0)] [16] rfl rfl (by simp) (by simp)
end Go.Proofs.YtnlanlpbgcalcaaGreat
namespace Go.Proofs.YtnlanlpbgcalcaaGreat
open Go
open Classical in
set_option maxRecDepth 100000 in
theorem graph_Without_ok (g : Gr) (f t : Int) (hl : g.edges.length * 24 ≤ 140737488355328) (hl2 : g.gone.length * 8 ≤ 140737488355328) : ACalls Tryz.prog ngraph_Without [eG g, .I f, .I t] [] (.tup [eG (withoutR g f t).1, .I (withoutR g f t).2]) [] := by
  refine sgraph_Without.acalls (Nat.le_of_ble_eq_true rfl) (Nat.le_of_ble_eq_true rfl) (Nat.le_refl _) ?_
  show awp _ 0 _ _ ⟨37, [(0, eG g), (1, .I f), (2, .I t)], [], 16⟩
  refine awp_regc ⟨37, [(1, .I f), (2, .I t), (3, .pv (gC g)), (6, .pt 24 0 0)], [(24, some ⟨3, [[.I 0, .nilS, .nilS]], 0⟩)], 32⟩ rfl ?_ ?_
  · simp
    exact Le.var1 24 [16] rfl rfl (Nat.le_of_ble_eq_true rfl) (by decide) rfl (by simp) (by simp) (by simp)
  refine awp_seq ?_
  refine awp_seq ?_
  refine awp_run (s := ?s1) rfl ?o1 ?q1
  case o1 => simp; refine call0e (graph_Check_ok g (by omega) (by omega)) rfl ?_; simp; rfl
  refine awp_cond _ rfl (fun h2 => ?_) fun h2 => ?_
  · have hg : ¬ GrOk g := by
      intro hg
      simp [hg] at h2
    refine awp_seq ?_
    refine awp_run (s := ?s3) rfl ?o3 ?q3
    case o3 => simp; rfl
    refine awp_ret ?_
    refine ⟨.inr rfl, ?_⟩
    show RetOk [(6, some (true, 3)), (7, none)] 0 _ _ _
    refine RetOk.out (vs := [.agg [.I 0, .nilS, .nilS], .I 14]) [] [] (by simp) (by simp) (by simp) ?_ (by simp)
    have hr : withoutR g f t = (emptyG, 14) := by grind [withoutR]
    simp [hr, emptyG]
    exact wkT2 (wkA3 (.refl _) (.nil _ _) (.nil _ _)) (.refl _)
  have hg : GrOk g := by
    rcases Classical.em (GrOk g) with h | h
    · exact h
    · simp [h] at h2
  have h500 : g.edges.length ≤ 500 := hg.1.2.2.1
  refine awp_skip ?_
  refine awp_seq ?_
  refine awp_run (s := ?s4) rfl ?o4 ?q4
  case o4 => simp; refine call0e (BinarySearch_ok g.edges ⟨f, t, 0⟩ (Nat.le_trans hg.1.2.2.1 (by omega)) (hg.mono _)) rfl ?_; simp; rfl
  refine awp_seq ?_
  refine awp_seq ?_
  refine awp_run (s := ?s5) rfl ?o5 ?q5
  case o5 => simp; rfl
  refine awp_cond _ rfl (fun h6 => ?_) fun h6 => ?_
  · try simp at h6
    refine awp_seq ?_
    refine awp_run (s := ?s7) rfl ?o7 ?q7
    case o7 => simp; rfl
    refine awp_ret ?_
    refine ⟨.inr rfl, ?_⟩
    show RetOk [(6, some (true, 3)), (7, none)] 0 _ _ _
    refine RetOk.out (vs := [.agg [.I 0, .nilS, .nilS], .I 19]) [] [] (by simp) (by simp) (by simp) ?_ (by simp)
    have hr : withoutR g f t = (emptyG, 19) := by grind [withoutR]
    simp [hr, emptyG]
    exact wkT2 (wkA3 (.refl _) (.nil _ _) (.nil _ _)) (.refl _)
  try simp at h6
  refine awp_skip ?_
  refine awp_regc ⟨37, [(6, .pt 24 0 0), (8, .I (idxE g.edges ⟨f, t, 0⟩)), (10, .pt 176 0 0)], [(24, some ⟨3, [[.I 0, .nilS, .nilS]], 0⟩), (176, some ⟨3, [[.I g.size, .rs 168 0 g.edges.length, .rs 169 0 g.gone.length]], 0⟩), (168, some ⟨3, g.edges.map fun e : Ed => [AV.I e.f, AV.I e.t, AV.I e.v], 0⟩), (169, some ⟨1, g.gone.map fun n => [AV.I n], 0⟩)], 192⟩ rfl ?_ ?_
  · simp
    refine callN2 (graph_copied_ok g hl hl2) rfl ?_
    simp [Function.comp_def]
    exact Le.keep rfl (Nat.le_refl _) (by simp) (by simp)
  have hr : withoutR g f t = (minusE g f t, 0) := by grind [withoutR]
  rw [hr]
  unfold minusE
  have hlt : idxE g.edges ⟨f, t, 0⟩ < g.edges.length := h6.1
  have hk : ∃ k, k = idxE g.edges ⟨f, t, 0⟩ := ⟨_, rfl⟩
  obtain ⟨k, hk⟩ := hk
  rw [← hk] at hlt ⊢
  obtain ⟨k1, hk1⟩ : ∃ k1, k1 = k + 1 := ⟨_, rfl⟩
  have hw : IntKind.i64.wrap ((k : Int) + 1) = (k1 : Int) := by rw [w64 (by omega) (by omega)]; omega
  obtain ⟨R, hR⟩ : ∃ R, R = g.edges.map fun e : Ed => [AV.I e.f, AV.I e.t, AV.I e.v] := ⟨_, rfl⟩
  rw [← hR]
  have hRl : R.length = g.edges.length := by simp [hR]
  have hRf : Flat R := by rw [hR]; exact flatE _
  obtain ⟨E, hE⟩ : ∃ E, E = g.edges.take k ++ g.edges.drop k1 := ⟨_, rfl⟩
  have hEl : E.length = g.edges.length - 1 := by subst hE; simp; omega
  have hrows : R.take k ++ R.drop k1 = E.map fun e : Ed => [AV.I e.f, AV.I e.t, AV.I e.v] := by subst hE hR; simp [List.map_take, List.map_drop]
  have hins := delE_ok R g.edges.length k k1 hRl hlt hk1 hRf (by omega)
  rw [hrows, ← hEl] at hins
  rw [← hk1, ← hE]
  refine awp_regc ⟨37, [(6, .pt 24 0 0), (10, .pt 176 0 0)], [(24, some ⟨3, [[.I 0, .nilS, .nilS]], 0⟩), (176, some ⟨3, [[.I g.size, .rs 168 0 E.length, .rs 169 0 g.gone.length]], 0⟩), (168, some ⟨3, (E.map fun e : Ed => [AV.I e.f, AV.I e.t, AV.I e.v]) ++ [[.I 0, .I 0, .I 0]], 0⟩), (169, some ⟨1, g.gone.map fun n => [AV.I n], 0⟩)], 256⟩ rfl ?_ ?_
  · simp [hw]
    refine callM1 (i := 168) rfl ?_ hins (by simp) ?_ ?_
    · have := hRf [(168, 0)] []
      simp only [convE, this]
    · simp
    simp [Function.comp_def]
    exact Le.keep rfl (Nat.le_refl _) (by simp) (by simp)
  refine awp_seq ?_
  refine awp_run (s := ?s21) rfl ?o21 ?q21
  case o21 => simp; rfl
  refine awp_ret ?_
  refine ⟨.inr rfl, ?_⟩
  show RetOk [(6, some (true, 3)), (7, none)] 0 _ _ _
  refine RetOk.out (vs := [.agg [.I g.size, .rs 168 0 E.length, .rs 169 0 g.gone.length], .I 0]) [] [168, 169] (by simp) (by simp) (by simp) ?_ (by simp)
  simp [Function.comp_def, take_map_len]
end Go.Proofs.YtnlanlpbgcalcaaGreat
namespace Go.Proofs.YtnlanlpbgcalcaaGreat
open Go
theorem EqG.rfl' (a : Gr) : EqG a a := ⟨rfl, rfl, rfl⟩
theorem law11_same_ok (a b : Gr) (e f : Int) (hl : a.edges.length ≤ 140737488355328) (hl2 : a.gone.length ≤ 140737488355328) : ACalls Tryz.prog nlaw11_same [eG a, eG b, .I e, .I f] [] (.B (decide (e = f ∧ EqG a b))) [] := by
  refine slaw11_same.acalls (Nat.le_of_ble_eq_true rfl) (Nat.le_of_ble_eq_true rfl) (Nat.le_refl _) ?_
  show awp _ 0 _ _ ⟨17, [(0, eG a), (1, eG b), (2, .I e), (3, .I f)], [], 16⟩
  refine awp_regc ⟨17, [(2, .I e), (3, .I f), (4, .pv (gC a)), (5, .pv (gC b))], [], 16⟩ rfl ?_ ?_
  · simp
    exact Le.snap [16, 24] rfl rfl (by simp)
  refine awp_regc ⟨17, [(8, .B (decide (e = f ∧ EqG a b)))], [], 16⟩ rfl ?_ ?_
  · simp
    repeat' first
      | (refine callf nref11_Same rfl ?_; refine call0e (ref11_Same_ok a b hl hl2) rfl ?_; simp)
      | (refine gcase (fun hb => ?_) (fun hb => ?_) <;> (try rw [hb]) <;> (try simp at hb) <;> simp [*])
    all_goals exact Le.snap [] rfl rfl (by simp <;> exact wkB (by (try simp at *); grind))
  refine awp_ret ?_
  exact ⟨.inr rfl, RetOk.one (by simp)⟩
abbrev gA : Gr := ⟨3, [⟨0, 2, 2⟩], []⟩
abbrev gN : Gr := ⟨3, [], []⟩
theorem gN_ok : GrOk gN := by
  refine ⟨⟨by decide, by decide, by decide, fun i h => absurd h (by simp)⟩, fun i h => absurd h (by simp)⟩
theorem gA_ok : GrOk gA := by
  refine ⟨⟨by decide, by decide, by decide, fun i h => absurd h (by simp)⟩, fun i h => ?_⟩
  obtain rfl : i = 0 := by simpa using h
  refine ⟨?_, ?_, ?_, fun h => by omega⟩
  · show Fits gA ⟨0, 2, 2⟩
    decide
  · show (1 : Int) ≤ 2
    decide
  · show (2 : Int) ≤ 3
    decide
theorem g65_bad : ¬ GrOk ⟨65, [], []⟩ := fun h => by have := h.1.2.1; simp at this
theorem withR_N : withR gN ⟨0, 2, 2⟩ = (gA, 0) := by
  have h1 : Fits gN ⟨0, 2, 2⟩ := by decide
  have h2 : ¬ AtE gN.edges (idxE gN.edges ⟨0, 2, 0⟩) 0 2 := by decide
  have h3 : plusE gN ⟨0, 2, 2⟩ = gA := rfl
  unfold withR
  simp only [gN_ok, h1, not_true_eq_false, if_false, h3]
  rw [if_neg (by decide), if_neg (by simpa using h2), if_neg (by decide)]
theorem withoutR_A : withoutR gA 0 2 = (gN, 0) := by
  have h2 : AtE gA.edges (idxE gA.edges ⟨0, 2, 0⟩) 0 2 := by decide
  have h3 : minusE gA 0 2 = gN := rfl
  unfold withoutR
  simp only [gA_ok, h2, not_true_eq_false, if_false, h3]
open Classical in
set_option maxRecDepth 100000 in
theorem law11_awake_ok : ACalls Tryz.prog nlaw11_awake [] [] (.B true) [] := by
  refine slaw11_awake.acalls (Nat.le_of_ble_eq_true rfl) (Nat.le_of_ble_eq_true rfl) (Nat.le_refl _) ?_
  show awp _ 0 _ _ ⟨64, [], [], 16⟩
  refine awp_seq ?_
  refine awp_run (s := ?s1) rfl ?o1 ?q1
  case o1 => simp; rfl
  refine awp_regc ⟨64, [(1, .pv (gC gA)), (2, .I 0)], [], 16⟩ rfl ?_ ?_
  · simp
    repeat' first
      | (refine callf ngraph_With rfl ?_; refine call0 (graph_With_ok gN ⟨0, 2, 2⟩ (by simp) (by simp)) (by simp; exact wkA3 (.refl _) (.nil _ _) (.nil _ _)) ?_; simp [withR_N])
    all_goals exact Le.snap [72] rfl rfl (by simp; exact .refl _)
  refine awp_regc ⟨64, [(1, .pv (gC gA)), (2, .I 0), (3, .pv (gC gN)), (4, .I 0)], [], 16⟩ rfl ?_ ?_
  · simp
    repeat' first
      | (refine callf ngraph_Without rfl ?_; refine call0e (graph_Without_ok gA 0 2 (by simp) (by simp)) rfl ?_; simp [withoutR_A])
    all_goals exact Le.snap [56] rfl rfl (by simp; exact .refl _)
  have hO : outs [⟨0, 2, 2⟩] 0 = [2] := rfl
  have hI : inns [⟨0, 2, 2⟩] 2 = [0] := rfl
  refine awp_regc ⟨64, [(1, .pv (gC gA)), (2, .I 0), (3, .pv (gC gN)), (4, .I 0), (5, .vs 1 false [[.I 2]])], [], 16⟩ rfl ?_ ?_
  · simp
    refine callN1 (graph_Out_ok gA 0 (by simp)) rfl ?_
    simp [hO]
    exact Le.snap [24] rfl rfl (by simp)
  refine awp_regc ⟨64, [(0, .B true)], [], 16⟩ rfl ?_ ?_
  · simp
    repeat' first
      | (refine callf ngraph_Check rfl ?_; refine call0e (graph_Check_ok gA (by simp) (by simp)) rfl ?_; simp [gA_ok])
      | (refine callf ngraph_Check rfl ?_; refine call0 (graph_Check_ok ⟨65, [], []⟩ (by simp) (by simp)) (by simp; exact wkA3 (.refl _) (.nil _ _) (.nil _ _)) ?_; simp [g65_bad])
      | (refine callf ngraph_In rfl ?_; refine callN1 (graph_In_ok gA 2 (by simp)) rfl ?_; simp [hI])
      | (refine gcase (fun hb => ?_) (fun hb => ?_) <;> (try rw [hb]) <;> (try simp at hb) <;> simp [*])
    all_goals exact Le.snap [] rfl rfl (by simp <;> exact wkB (by (try simp at *); grind))
  refine awp_ret ?_
  exact ⟨.inr rfl, RetOk.one (by simp)⟩
end Go.Proofs.YtnlanlpbgcalcaaGreat
namespace Go.Proofs.YtnlanlpbgcalcaaGreat
open Go
theorem atR_len (l : List Stm) (t lv : Int) : (atR l t lv).1.edges.length ≤ l.length ∧ (atR l t lv).1.gone.length ≤ l.length := by
  have h1 := edgesAt_len (actV l t) lv
  have h2 := actV_len l t
  have h3 := goneR_le l t
  unfold atR
  split
  · split
    · exact ⟨by show (edgesAt (actV l t) lv).length ≤ _; omega, h3⟩
    · exact ⟨Nat.zero_le _, Nat.zero_le _⟩
  · exact ⟨Nat.zero_le _, Nat.zero_le _⟩
set_option maxHeartbeats 4000000 in
set_option maxRecDepth 100000 in
theorem law11_GraphAt_ok (L : List Int) (tm lv : Int) : ACalls Tryz.prog nlaw11_GraphAt [ints L, .I tm, .I lv] [] (.B true) [] := by
  refine slaw11_GraphAt.acalls (Nat.le_of_ble_eq_true rfl) (Nat.le_of_ble_eq_true rfl) (Nat.le_refl _) ?_
  show awp _ 0 _ _ ⟨89, [(0, ints L), (1, .I tm), (2, .I lv)], [], 16⟩
  refine rx (s := ?s1) [0, 1, 2] [] [] rfl ?o1 ?q1
  case o1 => simp; rfl
  refine awp_seq ?_
  refine awp_regc ⟨89, [(0, ints L), (1, .I tm), (2, .I lv), (23, .B (decide (¬ L.length ≤ 400)))], [], 56⟩ rfl ?_ ?_
  · simp
    refine call0e (Light_ok L) rfl ?_
    simp
    exact Le.snap [] rfl rfl (by simp <;> exact wkB (by rw [Bool.eq_iff_iff]; simp))
  refine awp_cond _ rfl (fun h => ?_) fun h => awp_skip ?_
  · refine rx (s := ?s2) [6] [] [] rfl ?o2 ?q2
    case o2 => simp; refine call0e law11_awake_ok rfl ?_; simp; rfl
    exact awp_ret ⟨.inr rfl, RetOk.one (by simp)⟩
  have hl : L.length ≤ 400 := by simpa using h
  obtain ⟨⟨s, b⟩, ⟨hs1, hs2, hb⟩, hst⟩ := Store_any L 0 6 hl (Nat.zero_le _) (by decide)
  simp only at hs1 hs2 hb hst
  obtain ⟨c, ⟨hc1, hc2, _⟩, hct⟩ := StoreCounted_any s (by omega) fun x hx => (hs1 x hx).b
  obtain ⟨t, ht⟩ : ∃ t, t = modI tm 70 := ⟨_, rfl⟩
  have hmod := Mod_ok tm 70 (by decide)
  rw [← ht] at hmod
  have hsame : ∀ t lv, ACalls Tryz.prog nlaw11_same [eG (atR c t lv).1, eG (atR c t lv).1, .I (atR c t lv).2, .I (atR c t lv).2] [] (.B true) [] := fun t lv => by
    have h1 := atR_len c t lv
    have h2 := law11_same_ok (atR c t lv).1 (atR c t lv).1 (atR c t lv).2 (atR c t lv).2 (by omega) (by omega)
    rw [decide_eq_true (⟨rfl, rfl, rfl, rfl⟩ : (atR c t lv).2 = (atR c t lv).2 ∧ EqG (atR c t lv).1 (atR c t lv).1)] at h2
    exact h2
  have hAt : ∀ t lv, ACalls Tryz.prog ngraph_At [sts c, .I t, .I lv] [] (.tup [eG (atR c t lv).1, .I (atR c t lv).2]) [] := fun t lv => graph_At_ok c t lv (by omega) (hc1.sort (by omega)) (hc1.asc t)
  have hRt : ∀ t lv, ACalls Tryz.prog nref11_At [sts c, .I t, .I lv] [] (.tup [eG (atR c t lv).1, .I (atR c t lv).2]) [] := fun t lv => ref11_At_ok c t lv (by omega) hc1
  have hA1 := hAt t 1
  have hA3 := hAt t 3
  rw [atR_few (by decide) (by decide) (by omega)] at hA1 hA3
  have g1 := goneR_le c t
  have g2 := actV_len c t
  have g3 := edgesAt_len (actV c t) 1
  have g4 := edgesAt_len (actV c t) 3
  have hLev := graph_Level_ok (atG c t 1) 3 (by show (edgesAt (actV c t) 1).length ≤ _; omega) (by show (goneR c t).length ≤ _; omega)
  rw [level_at c t 3 (by decide)] at hLev
  have hSm := ref11_Same_ok (atG c t 3) (atG c t 3) (by show (edgesAt (actV c t) 3).length ≤ _; omega) (by show (goneR c t).length ≤ _; omega)
  rw [show decide (EqG (atG c t 3) (atG c t 3)) = true from decide_eq_true ⟨rfl, rfl, rfl⟩] at hSm
  obtain ⟨G1, hG1⟩ : ∃ G, G = atG c t 1 := ⟨_, rfl⟩
  obtain ⟨G3, hG3⟩ : ∃ G, G = atG c t 3 := ⟨_, rfl⟩
  simp only [← hG1, ← hG3] at hA1 hA3 hLev hSm
  have htk : List.take c.length (c.map sC) = c.map sC := List.take_of_length_le (by simp)
  refine awp_regc ⟨89, [(1, .I tm), (2, .I lv), (7, .pt 64 0 0)], [(64, some (dice L 0))], 100⟩ rfl ?_ ?_
  · simp
    refine callN1 (Roll_ok L) rfl ?_
    simp [Function.comp_def]
    exact Le.go [(64, 64)] [] rfl rfl (by simp) (by simp)
  refine awp_regc ⟨89, [(1, .I tm), (2, .I lv), (8, sts c)], [], 200⟩ rfl ?_ ?_
  · simp
    refine callM1 (i := 64) rfl (e' := dice L 0) (by simp) hst (by simp) (by simp) ?_
    simp
    refine callN1 hct (by simp) ?_
    simp [Function.comp_def]
    exact Le.snap [116] rfl rfl (by simp [Function.comp_def]; exact wkE (congrArg _ htk))
  obtain ⟨Lv, hLv⟩ : ∃ Lv : List Int, Lv = [1, 2, 3, lv] := ⟨_, rfl⟩
  have hLvl : Lv.length = 4 := by rw [hLv]; rfl
  obtain ⟨Tv, hTv⟩ : ∃ Tv : List Int, Tv = [t, tm] := ⟨_, rfl⟩
  have hTvl : Tv.length = 2 := by rw [hTv]; rfl
  refine awp_cut (ι := Unit) (fun _ => ⟨89, [(1, .I tm), (8, sts c)], [], 5000⟩) (fun _ => True) ?_ fun _ _ => ?_
  · refine awp_regc ⟨89, [(1, .I tm), (8, sts c), (31, ints Lv), (32, .I (4 : Nat)), (33, .I (0 : Nat))], [], 300⟩ rfl ?_ ?_
    · simp
      exact Le.snap [208] rfl rfl (by simp [hLv]; exact .refl _)
    refine awp_block ?_
    refine awp_loop (ι := Nat) (fun i => ⟨89, [(1, .I tm), (8, sts c), (31, ints Lv), (32, .I (4 : Nat)), (33, .I i)], [], 400⟩) (fun i => i ≤ 4) (fun i => 4 - i) 0 (Nat.zero_le _) (Le.snap [] rfl rfl (by simp)) ?_
    intro i hi
    refine awp_regc ⟨89, [(1, .I tm), (8, sts c), (31, ints Lv), (32, .I (4 : Nat)), (33, .I i), (34, .B (decide (i < 4)))], [], 420⟩ rfl ?_ ?_
    · simp
      exact Le.snap [] rfl rfl (by simp <;> exact wkB (by rw [Bool.eq_iff_iff]; simp; omega))
    refine awp_seq ?_
    refine awp_cond _ rfl (fun h => awp_skip ?_) fun h => awp_exit (hit ?_)
    · simp only [decide_eq_true_eq] at h
      obtain ⟨x, hx⟩ : ∃ x, Lv[i] = x := ⟨_, rfl⟩
      have hg : Lv[i]? = some x := by rw [List.getElem?_eq_getElem (by omega), hx]
      have hwi := wr1 h (by omega)
      refine awp_cut (ι := Unit) (fun _ => ⟨89, [(1, .I tm), (8, sts c), (31, ints Lv), (32, .I (4 : Nat)), (33, .I i)], [], 4000⟩) (fun _ => True) ?_ fun _ _ => ?_
      · refine awp_block ?_
        refine awp_regc ⟨89, [(1, .I tm), (8, sts c), (10, .I x), (31, ints Lv), (32, .I (4 : Nat)), (33, .I i)], [], 500⟩ rfl ?_ ?_
        · simp [hg]
          exact Le.snap [] rfl rfl (by simp)
        refine awp_regc ⟨89, [(1, .I tm), (8, sts c), (10, .I x), (31, ints Lv), (32, .I (4 : Nat)), (33, .I i), (40, ints Tv), (41, .I (2 : Nat)), (42, .I (0 : Nat))], [], 600⟩ rfl ?_ ?_
        · simp
          refine call0e hmod (by simp) ?_
          simp
          exact Le.snap [524] rfl rfl (by simp [hTv]; exact .refl _)
        refine awp_block ?_
        refine awp_loop (ι := Nat) (fun j => ⟨89, [(1, .I tm), (8, sts c), (10, .I x), (31, ints Lv), (32, .I (4 : Nat)), (33, .I i), (40, ints Tv), (41, .I (2 : Nat)), (42, .I j)], [], 700⟩) (fun j => j ≤ 2) (fun j => 2 - j) 0 (Nat.zero_le _) (Le.snap [] rfl rfl (by simp)) ?_
        intro j hj
        refine awp_regc ⟨89, [(1, .I tm), (8, sts c), (10, .I x), (31, ints Lv), (32, .I (4 : Nat)), (33, .I i), (40, ints Tv), (41, .I (2 : Nat)), (42, .I j), (43, .B (decide (j < 2)))], [], 720⟩ rfl ?_ ?_
        · simp
          exact Le.snap [] rfl rfl (by simp <;> exact wkB (by rw [Bool.eq_iff_iff]; simp; omega))
        refine awp_seq ?_
        refine awp_cond _ rfl (fun h' => awp_skip ?_) fun h' => awp_exit (hit ?_)
        · simp only [decide_eq_true_eq] at h'
          obtain ⟨y, hy⟩ : ∃ y, Tv[j] = y := ⟨_, rfl⟩
          have hgt : Tv[j]? = some y := by rw [List.getElem?_eq_getElem (by omega), hy]
          have hwj := wr1 h' (by omega)
          have hsm := hsame y x
          have hat := hAt y x
          have hrt := hRt y x
          generalize atR c y x = R at *
          obtain ⟨g, e⟩ := R
          simp only at hsm hat hrt
          refine awp_cut (ι := Unit) (fun _ => ⟨89, [(1, .I tm), (8, sts c), (10, .I x), (31, ints Lv), (32, .I (4 : Nat)), (33, .I i), (40, ints Tv), (41, .I (2 : Nat)), (42, .I j)], [], 2000⟩) (fun _ => True) ?_ fun _ _ => ?_
          · refine awp_block ?_
            refine awp_regc ⟨89, [(1, .I tm), (8, sts c), (10, .I x), (12, .I y), (31, ints Lv), (32, .I (4 : Nat)), (33, .I i), (40, ints Tv), (41, .I (2 : Nat)), (42, .I j)], [], 760⟩ rfl ?_ ?_
            · simp [hgt]
              exact Le.snap [] rfl rfl (by simp)
            refine awp_regc ⟨89, [(1, .I tm), (8, sts c), (10, .I x), (12, .I y), (13, .pv (gC g)), (14, .I e), (31, ints Lv), (32, .I (4 : Nat)), (33, .I i), (40, ints Tv), (41, .I (2 : Nat)), (42, .I j)], [], 900⟩ rfl ?_ ?_
            · simp
              refine call0e hat (by simp) ?_
              simp [splice]
              exact Le.snap [816] rfl rfl (by simp)
            refine awp_regc ⟨89, [(1, .I tm), (8, sts c), (10, .I x), (13, .pv (gC g)), (14, .I e), (15, .pv (gC g)), (16, .I e), (31, ints Lv), (32, .I (4 : Nat)), (33, .I i), (40, ints Tv), (41, .I (2 : Nat)), (42, .I j)], [], 1000⟩ rfl ?_ ?_
            · simp
              refine call0e hrt (by simp) ?_
              simp [splice]
              exact Le.snap [956] rfl rfl (by simp)
            refine awp_regc ⟨89, [(1, .I tm), (8, sts c), (10, .I x), (31, ints Lv), (32, .I (4 : Nat)), (33, .I i), (40, ints Tv), (41, .I (2 : Nat)), (42, .I j), (65, .B false)], [], 1200⟩ rfl ?_ ?_
            · simp
              refine call0e hsm (by simp) ?_
              simp
              exact Le.snap [] rfl rfl (by simp)
            exact awp_cond _ rfl (fun h5 => by cases h5) fun h5 => awp_skip ⟨(), trivial, Le.snap [] rfl rfl (by simp)⟩
          refine awp_reg rfl ?_
          simp [hwj]
          exact ⟨j + 1, by omega, by omega, Le.snap [] rfl rfl (by simp)⟩
        · exact ⟨(), trivial, Le.snap [] rfl rfl (by simp)⟩
      refine awp_reg rfl ?_
      simp [hwi]
      exact ⟨i + 1, by omega, by omega, Le.snap [] rfl rfl (by simp)⟩
    · exact ⟨(), trivial, Le.snap [] rfl rfl (by simp)⟩
  refine awp_regc ⟨89, [(1, .I tm), (8, sts c), (17, .pv (gC G1))], [], 5100⟩ rfl ?_ ?_
  · simp
    refine call0e hmod (by simp) ?_
    simp
    refine call0e hA1 (by simp) ?_
    simp [splice]
    exact Le.snap [5056] rfl rfl (by simp)
  refine awp_regc ⟨89, [(17, .pv (gC G1)), (19, .pv (gC G3))], [], 5200⟩ rfl ?_ ?_
  · simp
    refine call0e hmod (by simp) ?_
    simp
    refine call0e hA3 (by simp) ?_
    simp [splice]
    exact Le.snap [5156] rfl rfl (by simp)
  refine awp_dregc ⟨89, [(6, .B true)], [], 6000⟩ rfl ?_ (awp_ret ⟨.inr rfl, RetOk.one (by simp)⟩)
  simp
  refine call0e law11_awake_ok rfl ?_
  simp
  refine call0e hLev (by simp) ?_
  simp
  refine call0e hSm (by simp) ?_
  simp
  exact ⟨rfl, Le.snap [] rfl rfl (by simp)⟩
end Go.Proofs.YtnlanlpbgcalcaaGreat
