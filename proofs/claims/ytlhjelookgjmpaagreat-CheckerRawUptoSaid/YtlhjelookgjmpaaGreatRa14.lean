/- Texts of this claim, merged. -/
import Derived.Test.YtlhjelookgjmpaaGreatRa13
import Derived.Test.YtlhjelookgjmpaaGreatRa9
set_option linter.unusedSimpArgs false
set_option linter.unusedVariables false
set_option linter.unusedSectionVars false
namespace Go.Proofs.YtlhjelookgjmpaaGreat
open Go
theorem ofD_in3 (L : List Int) (a : Nat) {l : List Int} (h : 0 < l.length) : ofD L a l ∈ l := by
  have := nextD_lt (L := L) (a := a) (n := l.length) (by omega)
  obtain ⟨q, hq⟩ : ∃ q : Nat, (nextD L a l.length).1 = q := ⟨(nextD L a l.length).1.toNat, by omega⟩
  have hql : q < l.length := by omega
  unfold ofD
  rw [hq]
  simp [hql]
theorem Next_a (L : List Int) (a : Nat) (n : Int) (hl : L.length ≤ 400) (ha : a ≤ L.length) (h0 : 0 < n) (hn : n ≤ 1000000) : ∃ (x : Nat) (b : Nat), (b ≤ L.length ∧ (x : Int) < n) ∧ ACalls Tryz.prog nmade_Dice_Next [.pt 0 0 0, .I n] [dice L a] (.I x) [some (dice L b)] := by
  have := nextD_lt (L := L) (a := a) h0
  obtain ⟨q, hq⟩ : ∃ q : Nat, (nextD L a n).1 = q := ⟨(nextD L a n).1.toNat, by omega⟩
  exact ⟨q, _, ⟨nextD_le ha, by omega⟩, by rw [← hq]; exact Next_ok L a n (by omega) ha (by omega)⟩
theorem Of_a (L : List Int) (a : Nat) (l : List Int) (hl : L.length ≤ 400) (ha : a ≤ L.length) (h0 : 0 < l.length) (hl2 : l.length ≤ 100) : ∃ (x : Int) (b : Nat), (b ≤ L.length ∧ x ∈ l) ∧ ACalls Tryz.prog nmade_Dice_Of [.pt 0 0 0, ints l] [dice L a] (.I x) [some (dice L b)] :=
  ⟨_, _, ⟨nextD_le ha, ofD_in3 L a h0⟩, Of_ok L a l (by omega) ha h0 (by omega)⟩
theorem One_a (L : List Int) (a : Nat) (n : Int) (hl : L.length ≤ 400) (ha : a ≤ L.length) (hn0 : 0 ≤ n) (hn : n ≤ 1000000) : ∃ (x : Bool) (b : Nat), b ≤ L.length ∧ ACalls Tryz.prog nmade_Dice_One [.pt 0 0 0, .I n] [dice L a] (.B x) [some (dice L b)] :=
  ⟨_, _, nextD_le ha, One_ok L a n (by omega) ha hn0 (by omega)⟩
section
variable {P : Program} {np id : Nat} {h : Nat → Option Ent} {K : AV → List Nat → List (Nat × Option Ent) → Prop} {f : FuncId} {first capt args args' : List AV} {res : AV}
theorem callN1sZ {j : Nat} {e ej : Ent} (hnp : np ≤ j) (hj : h j = some ej) (hc : ACalls P f args' [] res [some e]) (he : (first ++ args ++ capt).map (conv [] [j] h 4) = args')
    (hk : K (conv (swp [] id) [] (fun _ => none) 4 res) [j] [(id, some (convE (swp [] id) [] (fun _ => none) 4 e)), (j, some { ej with ro := ej.rows.length })]) : aK P np id .call (.fn (.func f) first capt :: args) h K :=
  ⟨[], [j], true, args', [], res, [some e], by simp, by simp, by simpa using hnp, by rw [List.zipIdx_nil, he]; exact wkL_refl _, rfl, hc, by simp, .inl rfl, by simpa [swp, hj] using hk⟩
end
def TabL (t : List Int) : Prop := ∀ i (h : i < t.length), 1 ≤ t[i] ∧ t[i] ≤ 1000 ∧ (0 < i → t[i] ≤ t[i - 1])
theorem tabL_snoc {t : List Int} {v : Int} (h : TabL t) (h1 : 1 ≤ v) (h2 : v ≤ 1000) (h3 : ∀ x ∈ t, v ≤ x) : TabL (t ++ [v]) := by
  intro i hi
  rw [List.length_append, List.length_singleton] at hi
  by_cases hit : i < t.length
  · rw [List.getElem_append_left hit]
    obtain ⟨a, b, c⟩ := h i hit
    refine ⟨a, b, fun hp => ?_⟩
    rw [List.getElem_append_left (by omega)]
    exact c hp
  · obtain rfl : i = t.length := by omega
    simp only [List.getElem_concat_length]
    refine ⟨h1, h2, fun hp => ?_⟩
    rw [List.getElem_append_left (by omega)]
    exact h3 _ (List.getElem_mem _)
set_option maxRecDepth 100000 in
set_option maxHeartbeats 4000000 in
theorem Policy_a (L : List Int) (a : Nat) (g : Gr) (hl : L.length ≤ 400) (ha : a ≤ L.length) (h0 : 0 < g.size) (hn : g.size ≤ 1000) :
    ∃ x : Pol × Nat, (PolOk g.size x.1 ∧ x.1.seeds.length ≤ 2 ∧ x.1.table.length ≤ 4 ∧ x.2 ≤ L.length) ∧ ACalls Tryz.prog nmade_Dice_Policy [.pt 0 0 0, eG g] [dice L a] (eP x.1) [some (dice L x.2)] := by
  refine smade_Dice_Policy.acallsX (args := [.pt 0 0 0, eG g]) (hs := [dice L a]) (fun x => eP x.1) (fun x => [some (dice L x.2)]) (fun x : Pol × Nat => PolOk g.size x.1 ∧ x.1.seeds.length ≤ 2 ∧ x.1.table.length ≤ 4 ∧ x.2 ≤ L.length) (Nat.le_of_ble_eq_true rfl) (Nat.le_of_ble_eq_true rfl) (fun _ => by simp) ?_
  show awp _ 1 _ _ ⟨50, [(0, .pt 0 0 0), (1, eG g)], [(0, some (dice L a))], 16⟩
  obtain ⟨k1, b1, ⟨hb1, hk1⟩, hc1⟩ := Next_a L a g.size hl ha h0 (by omega)
  obtain ⟨lv, b2, ⟨hb2, hlv⟩, hc2⟩ := Of_a L b1 [1, 1, 2, 3] hl hb1 (by simp) (by simp)
  have hlv' : 1 ≤ lv ∧ lv ≤ 3 := by simp at hlv; omega
  obtain ⟨o, b3, hb3, hc3⟩ := One_a L b2 3 hl hb2 (by omega) (by omega)
  refine awp_regc ⟨50, [(0, .pt 0 0 0), (3, .pv (gC g)), (4, .pt 24 0 0)], [(0, some (dice L a)), (24, some ⟨3, [[.nilS, .nilS, .I 0]], 0⟩)], 32⟩ rfl ?_ ?_
  · simp
    exact Le.go [(0, 0), (24, 24)] [16] rfl rfl (by simp) (by simp)
  refine awp_regc ⟨50, [(0, .pt 0 0 0), (3, .pv (gC g)), (4, .pt 24 0 0), (5, .pt 104 0 0)], [(0, some (dice L b2)), (24, some ⟨3, [[.nilS, .nilS, .I 0]], 0⟩), (104, some ⟨3, [[.rs 17 0 1, .nilS, .I lv]], 0⟩), (17, some ⟨1, rowsI [(k1 : Int)], 0⟩)], 120⟩ rfl ?_ ?_
  · simp
    refine callM1 (i := 0) rfl (e' := dice L a) (by simp) hc1 (by simp) (by simp) ?_
    simp
    refine callM1s (i := 0) (j := 80) (by decide) (by decide) rfl rfl (e' := dice L b1) (by simp) hc2 (by simp) (by simp) ?_
    simp
    exact Le.go [(0, 0), (24, 24), (104, 104), (64, 17)] [] rfl rfl (by simp) (by simp)
  refine awp_cut (ι := List Int × Nat) (fun s => ⟨50, [(0, .pt 0 0 0), (4, .pt 24 0 0), (5, .pt 104 0 0)], [(0, some (dice L s.2)), (24, some ⟨3, [[.nilS, .nilS, .I 0]], 0⟩), (104, some ⟨3, [[.rs 17 0 s.1.length, .nilS, .I lv]], 0⟩), (17, some ⟨1, rowsI s.1, 0⟩)], 300⟩)
    (fun s => s.2 ≤ L.length ∧ s.1 ≠ [] ∧ s.1.length ≤ 2 ∧ s.1.Pairwise (· < ·) ∧ ∀ k ∈ s.1, 0 ≤ k ∧ k < g.size) ?_ fun s hs => ?_
  · refine awp_regc ⟨50, [(0, .pt 0 0 0), (3, .pv (gC g)), (4, .pt 24 0 0), (5, .pt 104 0 0), (18, .B o)], [(0, some (dice L b3)), (24, some ⟨3, [[.nilS, .nilS, .I 0]], 0⟩), (104, some ⟨3, [[.rs 17 0 1, .nilS, .I lv]], 0⟩), (17, some ⟨1, rowsI [(k1 : Int)], 0⟩)], 136⟩ rfl ?_ ?_
    · simp
      refine callM1 (i := 0) rfl (e' := dice L b2) (by simp) hc3 (by simp) (by simp) ?_
      simp
      exact Le.keep rfl (Nat.le_refl _) (by simp) (by simp)
    cases o with
    | true =>
      refine awp_cond _ rfl (fun _ => ?_) fun h => by cases h
      obtain ⟨k2, b4, ⟨hb4, hk2⟩, hc4⟩ := Next_a L b3 g.size hl hb3 h0 (by omega)
      have hput := Put_ok [(k1 : Int)] k2 (by simp)
      obtain ⟨S, hS⟩ : ∃ S, S = putL [(k1 : Int)] k2 := ⟨_, rfl⟩
      rw [← hS] at hput
      refine awp_drw rfl ?_
      simp
      refine callM1 (i := 0) rfl (e' := dice L b3) (by simp) hc4 (by simp) (by simp) ?_
      simp
      refine callN1sZ (j := 17) (by decide) rfl hput (by simp) ?_
      simp [Function.comp_def]
      refine ⟨rfl, S, b4, ⟨hb4, ?_, ?_, ?_, fun k hk => ?_⟩, Le.go [(0, 0), (24, 24), (104, 104), (184, 17)] [] rfl rfl (by simp) (by simp [Function.comp_def])⟩
      · intro h
        have : (k1 : Int) ∈ S := by rw [hS]; exact mem_putL.2 (.inl (by simp))
        rw [h] at this
        cases this
      · rw [hS]; exact putL_len _ _
      · rw [hS]; exact putL_pair (by simp)
      · rw [hS] at hk
        rcases mem_putL.1 hk with h | h
        · simp at h; omega
        · omega
    | false =>
      refine awp_cond _ rfl (fun h => by cases h) fun _ => ?_
      refine awp_skip ?_
      exact ⟨([(k1 : Int)], b3), ⟨hb3, by simp, by simp, by simp, by simp; omega⟩, Le.go [(0, 0), (24, 24), (104, 104), (17, 17)] [] rfl rfl (by simp) (by simp)⟩
  obtain ⟨S, b4⟩ := s
  obtain ⟨hb4, hS1, hS2, hS3, hS4⟩ := hs
  simp only at hb4 hS1 hS2 hS3 hS4
  obtain ⟨v0, b5, ⟨hb5, hv0⟩, hc5⟩ := Of_a L b4 [3, 2, 1, 6, 0] hl hb4 (by simp) (by simp)
  have hv0' : 0 ≤ v0 ∧ v0 ≤ 6 := by simp at hv0; omega
  have hwv : IntKind.i64.wrap (1 + v0) = 1 + v0 := w64 (by omega) (by omega)
  obtain ⟨n0, b6, ⟨hb6, hn0⟩, hc6⟩ := Next_a L b5 4 hl hb5 (by omega) (by omega)
  have hwn : IntKind.i64.wrap (1 + (n0 : Int)) = ((n0 + 1 : Nat) : Int) := by rw [w64 (by omega) (by omega)]; omega
  refine awp_regc ⟨50, [(0, .pt 0 0 0), (4, .pt 24 0 0), (5, .pt 104 0 0), (6, .I (1 + v0))], [(0, some (dice L b5)), (24, some ⟨3, [[.nilS, .nilS, .I 0]], 0⟩), (104, some ⟨3, [[.rs 17 0 S.length, .nilS, .I lv]], 0⟩), (17, some ⟨1, rowsI S, 0⟩)], 400⟩ rfl ?_ ?_
  · simp
    refine callM1s (i := 0) (j := 308) (by decide) (by decide) rfl rfl (e' := dice L b4) (by simp) hc5 (by simp) (by simp) ?_
    simp [hwv]
    exact Le.go [(0, 0), (24, 24), (104, 104), (17, 17)] [] rfl rfl (by simp) (by simp [Function.comp_def])
  refine awp_seq ?_
  refine awp_regc ⟨50, [(0, .pt 0 0 0), (4, .pt 24 0 0), (5, .pt 104 0 0), (6, .I (1 + v0)), (7, .I (n0 + 1 : Nat))], [(0, some (dice L b6)), (24, some ⟨3, [[.nilS, .nilS, .I 0]], 0⟩), (104, some ⟨3, [[.rs 17 0 S.length, .nilS, .I lv]], 0⟩), (17, some ⟨1, rowsI S, 0⟩)], 432⟩ rfl ?_ ?_
  · simp
    refine callM1 (i := 0) rfl (e' := dice L b5) (by simp) hc6 (by simp) (by simp) ?_
    simp [hwn]
    exact Le.go [(0, 0), (24, 24), (104, 104), (17, 17)] [] rfl rfl (by simp) (by simp [Function.comp_def])
  refine awp_block ?_
  refine awp_loop (ι := (List Int × Int) × (Nat × Nat)) (fun s => ⟨50, [(0, .pt 0 0 0), (4, .pt 24 0 0), (5, .pt 104 0 0), (6, .I s.1.2), (7, .I s.2.1)], [(0, some (dice L s.2.2)), (24, some ⟨3, [[.nilS, .nilS, .I 0]], 0⟩), (104, some ⟨3, [[.rs 17 0 S.length, .rs 18 0 s.1.1.length, .I lv]], 0⟩), (17, some ⟨1, rowsI S, 0⟩), (18, some ⟨1, rowsI s.1.1, 0⟩)], 432⟩)
    (fun s => s.1.1.length + s.2.1 = n0 + 1 ∧ TabL s.1.1 ∧ (1 ≤ s.1.2 ∧ s.1.2 ≤ 7) ∧ (∀ x ∈ s.1.1, s.1.2 ≤ x) ∧ s.2.2 ≤ L.length) (fun s => s.2.1) (([], 1 + v0), (n0 + 1, b6)) ⟨by simp, fun i h => by simp at h, ⟨by simp only; omega, by simp only; omega⟩, by simp, hb6⟩
    (Le.lst [(0, 0), (24, 24), (104, 104), (17, 17)] [] [(18, 1)] rfl (by simp) (by simp) (by simp) (by simp) (by simp) (by simp) (by simp) (by simp [Up]) (by simp [Function.comp_def]; exact ⟨EntUp.rfl' (by simp), EntUp.rfl' (by simp), EntUp.row rfl (by omega) (by simp [UpL, Up]), EntUp.rfl' (by simp)⟩)) ?_
  rintro ⟨⟨T, v⟩, n, b⟩ ⟨hTn, hT, hv, hTv, hb⟩
  simp only at hTn hT hv hTv hb
  refine awp_seq ?_
  refine rk (s := ?s7) [0, 4, 5, 6, 7, 35] [0, 24, 104, 17, 18] rfl ?o7 ?q7
  case o7 => simp; rfl
  refine awp_cond _ rfl (fun h8 => ?_) fun h8 => ?_
  · simp at h8
    obtain ⟨m, rfl⟩ : ∃ m, n = m + 1 := ⟨n - 1, by omega⟩
    have hwm : IntKind.i64.wrap (((m + 1 : Nat) : Int) - 1) = (m : Int) := by rw [w64 (by omega) (by omega)]; omega
    have hwm2 : IntKind.i64.wrap (m : Int) = (m : Int) := w64 (by omega) (by omega)
    obtain ⟨d, b', ⟨hb', hd⟩, hc7⟩ := Next_a L b 3 hl hb (by omega) (by omega)
    have hwd : IntKind.i64.wrap (v - (d : Int)) = v - (d : Int) := w64 (by omega) (by omega)
    have htl : ∀ f : Int → List AV, List.take T.length (List.map f T) = List.map f T := fun f => List.take_of_length_le (by simp)
    refine awp_skip ?_
    refine awp_seq ?_
    refine awp_block ?_
    refine awp_regc ⟨50, [(0, .pt 0 0 0), (4, .pt 24 0 0), (5, .pt 104 0 0), (6, .I v), (7, .I (m + 1 : Nat))], [(0, some (dice L b)), (24, some ⟨3, [[.nilS, .nilS, .I 0]], 0⟩), (104, some ⟨3, [[.rs 17 0 S.length, .rs 18 0 (T ++ [v]).length, .I lv]], 0⟩), (17, some ⟨1, rowsI S, 0⟩), (18, some ⟨1, rowsI (T ++ [v]), 0⟩)], 512⟩ rfl ?_ ?_
    · simp [htl]
      refine ⟨by omega, by omega, ?_⟩
      exact Le.go [(0, 0), (24, 24), (104, 104), (17, 17), (480, 18)] [] rfl rfl (by simp) (by simp [Function.comp_def])
    refine awp_run (s := ?s9) rfl ?o9 ?q9
    case o9 =>
      simp
      refine callM1 (i := 0) rfl (e' := dice L b) (by simp) hc7 (by simp) (by simp) ?_
      simp [hwd]
      rfl
    refine awp_run (s := ?s10) rfl ?o10 ?q10
    case o10 => simp; rfl
    refine ⟨((T ++ [v], if 1 < v - d then v - d else 1), (m, b')), ⟨by simp only [List.length_append, List.length_singleton]; omega, tabL_snoc hT hv.1 (by omega) hTv, ⟨by simp only; split <;> omega, by simp only; split <;> omega⟩, fun x hx => ?_, hb'⟩, by simp only; omega, Le.go [(0, 0), (24, 24), (104, 104), (17, 17), (18, 18)] [] rfl rfl (by simp [hwm2]) (by simp [Function.comp_def])⟩
    have : v ≤ x := by
      rcases List.mem_append.1 hx with h | h
      · exact hTv x h
      · rw [List.mem_singleton] at h; omega
    simp only
    split <;> omega
  simp at h8
  obtain rfl : n = 0 := by omega
  refine awp_exit ?_
  refine hit ?_
  refine rk (s := ?s11) [4] [0, 24, 17, 18] rfl ?o11 ?q11
  case o11 => simp; rfl
  refine awp_ret ?_
  refine PostX.mk (.inr rfl) (⟨S, T, lv⟩, b) ⟨⟨hS1, rise_of_pair hS3 hS4, by simp only; omega, by simp only; omega, hlv'.1, hlv'.2, hT⟩, hS2, by simp only; omega, hb⟩ ?_
  refine ⟨_, rfl, [], [17, 18], by simp [List.range, List.range.loop], by simp, by simp, ?_, ?_⟩
  · simp [List.range, List.range.loop, Function.comp_def, take_map_len]
  · simp [List.range, List.range.loop]
end Go.Proofs.YtlhjelookgjmpaaGreat
namespace Go.Proofs.YtlhjelookgjmpaaGreat
open Go
def gW : Gr := ⟨3, [⟨0, 1, 1⟩, ⟨0, 2, 1⟩], []⟩
def pW : Pol := ⟨[0], [2], 1⟩
theorem gW_ok : GrOk gW := by
  refine ⟨⟨by decide +revert, by decide +revert, by decide +revert, fun i h => by simp [gW] at h⟩, fun i h => ?_⟩
  have : i = 0 ∨ i = 1 := by simp [gW] at h; omega
  rcases this with rfl | rfl
  · exact ⟨by unfold Fits; simp [gW], by decide +revert, by decide +revert, fun h => by cases h⟩
  · exact ⟨by unfold Fits; simp [gW], by decide +revert, by decide +revert, fun h => by decide +revert⟩
theorem pW_ok : PolOk gW.size pW := by
  refine ⟨by decide +revert, fun i h => ?_, by decide +revert, by decide +revert, by decide +revert, by decide +revert, fun i h => ?_⟩
  · obtain rfl : i = 0 := by simp [pW] at h; omega
    exact ⟨by decide +revert, by decide +revert, fun h => by cases h⟩
  · obtain rfl : i = 0 := by simp [pW] at h; omega
    exact ⟨by decide +revert, by decide +revert, fun h => by cases h⟩
theorem gW_order : ordL (levelG gW 1) [0] = [0, 1, 2] := by decide
theorem gW_caps : capsL gW pW = [2, 1, 1] := by decide
theorem paths_yes : PathsC gW pW [[0], [0, 1]] [0, 1] := by
  refine ⟨⟨gW_ok, pW_ok⟩, ⟨by decide +revert, by decide +revert⟩, ?_⟩
  unfold PathsE
  show ServesE (levelG gW 1) [0] (ordL (levelG gW 1) [0]) _ _ _
  rw [gW_caps, gW_order, servesE_iff]
  refine ⟨fun w hw => ?_, fun k h => ?_, rfl⟩
  · simp at hw
    rcases hw with rfl | rfl
    · exact ⟨⟨0, rfl, by decide +revert⟩, by decide +revert, by decide +revert, fun i h => by simp at h⟩
    · refine ⟨⟨0, rfl, by decide +revert⟩, by decide +revert, by decide +revert, fun i h => ?_⟩
      obtain rfl : i = 0 := by simp at h; omega
      exact ⟨⟨0, 1, 1⟩, by decide +revert, by decide +revert⟩
  · have : k = 0 ∨ k = 1 ∨ k = 2 := by simp at h; omega
    rcases this with rfl | rfl | rfl <;> decide +revert
theorem paths_no : ¬ PathsC gW pW [[0], [0, 1], [0, 2]] [0, 1, 2] := by
  intro h
  have h1 := h.2.2
  unfold PathsE at h1
  rw [gW_caps] at h1
  have h2 := (h1.2.1 0 (by decide +revert)).1
  revert h2
  decide
section
variable {P : Program} {np id : Nat} {h : Nat → Option Ent} {K : AV → List Nat → List (Nat × Option Ent) → Prop} {f : FuncId} {first capt args args' : List AV} {res : AV}
theorem call0w (sn : List Nat) (hc : ACalls P f args' [] res []) (hw : WkL ((first ++ args ++ capt).map (conv [] sn h 4)) args') (hp : Plain res)
    (hk : K (conv (((List.range 8).map (id + ·)).zipIdx.map fun (a, b) => (b, a)) [] (fun _ => none) 4 res) sn []) : aK P np id .call (.fn (.func f) first capt :: args) h K :=
  ⟨[], sn, false, args', [], res, [], by simp, by simp, by simp, by rw [List.zipIdx_nil]; exact hw, rfl, hc, by simp, .inr ⟨hp, by simp⟩, hk⟩
end
theorem wkG3 {a b c a' b' c' : AV} (h1 : Wk a a') (h2 : Wk b b') (h3 : Wk c c') : Wk (.agg [a, b, c]) (.agg [a', b', c']) :=
  .agg _ _ rfl fun i => match i with | 0 => h1 | 1 => h2 | 2 => h3 | _ + 3 => .refl _
set_option maxRecDepth 100000 in
open Classical in
theorem awake44_ok : ACalls Tryz.prog nlaw44_awake [] [] (.B true) [] := by
  refine slaw44_awake.acalls (Nat.le_of_ble_eq_true rfl) (Nat.le_of_ble_eq_true rfl) (Nat.le_refl _) ?_
  show awp _ 0 _ _ ⟨28, [], [], 16⟩
  have h1 := checker_Paths_ok gW pW [[0], [0, 1]] [0, 1] (by decide) (by decide) (by decide) (by decide) (by decide) (by decide) (by decide) (by decide)
  have h2 := checker_Paths_ok gW pW [[0], [0, 1], [0, 2]] [0, 1, 2] (by decide) (by decide) (by decide) (by decide) (by decide) (by decide) (by decide) (by decide)
  rw [decide_eq_true paths_yes] at h1
  rw [decide_eq_false paths_no] at h2
  refine rx (s := ?s1) [] [] [] rfl ?o1 ?q1
  case o1 => simp; rfl
  refine rk (s := ?s2) [1] [40, 56] rfl ?o2 ?q2
  case o2 => simp; rfl
  refine rk (s := ?s3) [1, 2] [40, 56, 72, 80, 96] rfl ?o3 ?q3
  case o3 => simp; rfl
  refine rx (s := ?s4) [0] [] [] rfl ?o4 ?q4
  case o4 =>
    simp
    refine call0w [40, 72, 80, 128, 136, 144, 152] h1 (by simp [gW, pW, Wk.refl]; exact ⟨wkG3 (.refl _) (.refl _) (.nil _ _), wkG3 (.refl _) (.refl _) (.refl _), .refl _, .refl _⟩) (.sc _) ?_
    simp
    refine call0w [40, 72, 80, 192, 200, 208, 216, 224] h2 (by simp [gW, pW, Wk.refl]; exact ⟨wkG3 (.refl _) (.refl _) (.nil _ _), wkG3 (.refl _) (.refl _) (.refl _), .refl _, .refl _⟩) (.sc _) ?_
    simp
    rfl
  refine awp_ret ?_
  exact ⟨.inr rfl, RetOk.one (by simp)⟩
end Go.Proofs.YtlhjelookgjmpaaGreat
namespace Go.Proofs.YtlhjelookgjmpaaGreat
open Go
theorem pathsCR {g : Gr} (p : Pol) (P : List (List Int)) (ends : List Int) : PathsC g p P ends ↔ PathsR g p P ends := by
  unfold PathsC PathsR PathsE Diff
  rw [servesE_iff]
  refine and_congr_right fun h => ?_
  rw [← paths_iff (size := g.size) fun k hk => by have h := ordL_range hk; exact h]
def sumL (P : List (List Int)) : Nat := (P.map List.length).sum
theorem sumL_succ (P : List (List Int)) (i : Nat) (h : i < P.length) : sumL (P.take (i + 1)) = sumL (P.take i) + P[i].length := by
  unfold sumL
  rw [List.take_succ_eq_append_getElem h, List.map_append, List.sum_append]
  simp
theorem sumL_le {P : List (List Int)} {m : Nat} (h : ∀ w ∈ P, w.length ≤ m) : sumL P ≤ m * P.length := by
  unfold sumL
  induction P with
  | nil => simp
  | cons w P ih =>
    rw [List.map_cons, List.sum_cons, List.length_cons, Nat.mul_add, Nat.mul_one]
    have h1 := ih fun x hx => h x (List.mem_cons_of_mem _ hx)
    have h2 := h w (List.mem_cons_self ..)
    omega
theorem le_sumL {P : List (List Int)} {w : List Int} (h : w ∈ P) : w.length ≤ sumL P := by
  unfold sumL
  induction P with
  | nil => cases h
  | cons x P ih =>
    rw [List.map_cons, List.sum_cons]
    rcases List.mem_cons.1 h with rfl | h
    · omega
    · have := ih h; omega
theorem roll_a (L : List Int) (hl : L.length ≤ 400) : ∃ (g : Gr) (b : Nat), (GrOk g ∧ 2 ≤ g.size ∧ g.size ≤ 9 ∧ b ≤ L.length) ∧ ACalls Tryz.prog nmade_Dice_Graph [.pt 0 0 0] [dice L 0] (eG g) [some (dice L b)] :=
  have h := graphD_made L 0 (Nat.zero_le _)
  ⟨_, _, ⟨h.ok, h.lo, h.hi, h.at_⟩, Graph_ok L 0 hl (Nat.zero_le _)⟩
set_option maxRecDepth 100000 in
set_option maxHeartbeats 4000000 in
open Classical in
theorem law44_CheckerRaw_ok (L : List Int) (x : Expl) (ends : List Int) (hb : x.before.length ≤ 2000000) (hp : x.paths.length ≤ 2000000) (hw : ∀ w ∈ x.paths, w.length ≤ 2000000) (hsd : x.side.length ≤ 2000000) (he : ends.length ≤ 2000000) :
    ACalls Tryz.prog nlaw44_CheckerRaw [ints L, eX x, ints ends] [] (.B true) [] := by
  refine slaw44_CheckerRaw.acalls (Nat.le_of_ble_eq_true rfl) (Nat.le_of_ble_eq_true rfl) (Nat.le_refl _) ?_
  show awp _ 0 _ _ ⟨149, [(0, ints L), (1, eX x), (2, ints ends)], [], 16⟩
  have hsum := sumL_le hw
  have hsum2 : 2000000 * x.paths.length ≤ 2000000 * 2000000 := Nat.mul_le_mul_left _ hp
  have hwa : ∀ a b : Nat, a + b ≤ 8000000000000 → IntKind.i64.wrap ((a : Int) + (b : Int)) = ((a + b : Nat) : Int) := fun a b h => by rw [w64 (by omega) (by omega)]; omega
  refine rk (s := ?s1) [0, 2, 4] [16] rfl ?o1 ?q1
  case o1 => simp; rfl
  obtain ⟨S0, hS0⟩ : ∃ S0 : Nat, S0 = x.paths.length + x.before.length + x.side.length + ends.length := ⟨_, rfl⟩
  refine awp_regc ⟨149, [(0, ints L), (2, ints ends), (4, .pt 16 0 0), (7, .I S0)], [(16, some ⟨5, [xE x], 0⟩)], 152⟩ rfl ?_ ?_
  · have e1 := hwa x.paths.length x.before.length (by omega)
    have e2 := hwa (x.paths.length + x.before.length) x.side.length (by omega)
    have e3 := hwa (x.paths.length + x.before.length + x.side.length) ends.length (by omega)
    simp only [Int.natCast_add] at e1 e2 e3
    simp [e1, e2, e3]
    exact Le.keep rfl (Nat.le_refl _) (by simp [hS0]) (by simp)
  refine awp_seq ?_
  refine rk (s := ?s3) [0, 2, 4, 7, 8] [16] rfl ?o3 ?q3
  case o3 => simp; rfl
  refine awp_block ?_
  obtain ⟨M, hM0, hMs, hMb, hMe⟩ : ∃ M : Nat → Nat, M 0 = S0 ∧ (∀ i (h : i < x.paths.length), M (i + 1) = M i + x.paths[i].length) ∧ (∀ i, M i ≤ S0 + 2000000 * 2000000) ∧ M x.paths.length = S0 + sumL x.paths :=
    ⟨fun i => S0 + sumL (x.paths.take i), by simp [sumL], fun i h => by simp only [sumL_succ x.paths i h]; omega, fun i => by
      have h1 := sumL_le (P := x.paths.take i) (m := 2000000) fun w hw' => hw w (List.mem_of_mem_take hw')
      have h2 := List.length_take_le' i x.paths
      have h3 : 2000000 * (x.paths.take i).length ≤ 2000000 * x.paths.length := Nat.mul_le_mul_left _ h2
      simp only
      omega, by simp⟩
  refine awp_loop (ι := Nat) (fun i => ⟨149, [(0, ints L), (2, ints ends), (4, .pt 16 0 0), (7, .I (M i)), (8, .I i)], [(16, some ⟨5, [xE x], 0⟩)], 160⟩) (fun i => i ≤ x.paths.length) (fun i => x.paths.length - i) 0 (Nat.zero_le _) (Le.keep rfl (Nat.le_refl _) (by simp [hM0]) (by simp)) ?_
  intro i hi
  refine awp_seq ?_
  refine rk (s := ?s4) [0, 2, 4, 7, 8, 35] [16] rfl ?o4 ?q4
  case o4 => simp; rfl
  refine awp_cond _ rfl (fun h5 => ?_) fun h5 => ?_
  · simp at h5
    have hw1 : IntKind.i64.wrap ((i : Int) + 1) = (i : Int) + 1 := w64 (by omega) (by omega)
    have hss := hMs i h5
    have hsl := hMb i
    have hwi := hw _ (List.getElem_mem h5)
    have e1 := hwa (M i) x.paths[i].length (by omega)
    refine awp_skip ?_
    refine awp_seq ?_
    refine awp_block ?_
    refine awp_run (s := ?s5) rfl ?o5 ?q5
    case o5 => simp [h5]; rfl
    refine awp_run (s := ?s6) rfl ?o6 ?q6
    case o6 => simp; rfl
    simp only [Int.natCast_add] at e1
    exact ⟨i + 1, by omega, by omega, Le.go [(16, 16)] [] rfl rfl (by simp [hw1, hss, e1]) (by simp)⟩
  simp at h5
  obtain rfl : i = x.paths.length := by omega
  obtain ⟨S, hS⟩ : ∃ S : Nat, S = S0 + sumL x.paths := ⟨_, rfl⟩
  rw [hMe, ← hS]
  refine awp_exit ?_
  refine hit ?_
  refine awp_seq ?_
  refine awp_regc ⟨149, [(0, ints L), (2, ints ends), (4, .pt 16 0 0), (52, .B (decide (¬ (L.length ≤ 400 ∧ S ≤ 300))))], [(16, some ⟨5, [xE x], 0⟩)], 300⟩ rfl ?_ ?_
  · simp
    refine call0e (mk_Light_ok L) (by simp) ?_
    simp
    by_cases hL : L.length ≤ 400
    · simp [hL]
      exact Le.go [(16, 16)] [] rfl rfl (by simp [hL]; exact wkB (by rw [Bool.eq_iff_iff]; simp; omega)) (by simp)
    · simp [hL]
      exact Le.go [(16, 16)] [] rfl rfl (by simp [hL]) (by simp)
  refine awp_cond _ rfl (fun h7 => ?_) fun h7 => ?_
  · refine rk (s := ?s8) [6] [] rfl ?o8 ?q8
    case o8 => simp; refine call0e awake44_ok (by simp) ?_; simp; rfl
    refine awp_ret ?_
    exact ⟨.inr rfl, RetOk.one (by simp)⟩
  rw [decide_eq_false_iff_not, Decidable.not_not] at h7
  obtain ⟨hL, hS3⟩ := h7
  have hx : SmallX x := ⟨by omega, by omega, fun w hw' => by have := le_sumL hw'; omega, by omega⟩
  have hEl : ends.length ≤ 100000 := by omega
  obtain ⟨g, b1, ⟨hg, hg2, hg9, hb1⟩, hcg⟩ := roll_a L hL
  obtain ⟨⟨p, b2⟩, ⟨hp1, hp2, hp3, hb2⟩, hcp⟩ := Policy_a L b1 g hL hb1 (by omega) (by omega)
  simp only at hp1 hp2 hp3 hb2 hcp
  have hel := hg.edges_le
  have hgl := hg.gone_le
  refine awp_skip ?_
  refine awp_regc ⟨149, [(2, ints ends), (4, .pt 16 0 0), (9, .pt 20 0 0)], [(16, some ⟨5, [xE x], 0⟩), (20, some (dice L 0))], 400⟩ rfl ?_ ?_
  · simp
    refine callN1 (Roll_ok L) (by simp) ?_
    simp
    exact Le.go [(16, 16), (308, 20)] [] rfl rfl (by simp) (by simp)
  refine awp_regc ⟨149, [(2, ints ends), (4, .pt 16 0 0), (9, .pt 20 0 0), (10, .pv (gC g))], [(16, some ⟨5, [xE x], 0⟩), (20, some (dice L b1))], 500⟩ rfl ?_ ?_
  · simp
    refine callM1 (i := 20) rfl (e' := dice L 0) (by simp) hcg (by simp) (by simp) ?_
    simp
    exact Le.go [(16, 16), (20, 20)] [416] rfl rfl (by simp) (by simp)
  refine awp_regc ⟨149, [(2, ints ends), (4, .pt 16 0 0), (10, .pv (gC g)), (11, .pv (pC p))], [(16, some ⟨5, [xE x], 0⟩)], 600⟩ rfl ?_ ?_
  · simp
    refine callM1 (i := 20) rfl (e' := dice L b1) (by simp) hcp (by simp) (by simp) ?_
    simp
    exact Le.go [(16, 16)] [524] rfl rfl (by simp) (by simp)
  refine awp_seq ?_
  refine rk (s := ?s12) [2, 4, 10, 11, 12] [16] rfl ?o12 ?q12
  case o12 => simp; rfl
  refine awp_block ?_
  refine awp_loop (ι := Nat × (Expl × List Int)) (fun s => ⟨149, [(2, ints s.2.2), (4, .pt 16 0 0), (10, .pv (gC g)), (11, .pv (pC p)), (12, .I s.1)], [(16, some ⟨5, [xE s.2.1], 0⟩)], 608⟩)
    (fun s => s.1 ≤ 2 ∧ SmallX s.2.1 ∧ s.2.2.length ≤ 100000) (fun s => 2 - s.1) (0, (x, ends)) ⟨Nat.zero_le _, hx, hEl⟩ (Le.keep rfl (Nat.le_refl _) (by simp) (by simp)) ?_
  clear hx hEl
  rintro ⟨it, ⟨x, E⟩⟩ ⟨hit0, hx, hEl⟩
  simp only at hit0 hx hEl
  refine awp_seq ?_
  refine rk (s := ?s13) [2, 4, 10, 11, 12, 62] [16] rfl ?o13 ?q13
  case o13 => simp; rfl
  refine awp_cond _ rfl (fun h14 => ?_) fun h14 => ?_
  · simp at h14
    have hwit : IntKind.i64.wrap ((it : Int) + 1) = (it : Int) + 1 := w64 (by omega) (by omega)
    have hk1 := checker_Check_ok g p x (by omega) (by omega) (by omega) (by omega) (by omega) hx
    have hk2 := ref44_Check_ok g p x (by omega) (by omega) (by omega) (by omega) hx
    have hk3 := checker_Paths_ok g p x.paths E (by omega) (by omega) (by omega) (by omega) (by omega) hx.p hx.w (by omega)
    have hk4 := ref44_Paths_ok g p x.paths E (by omega) (by omega) (by omega) (by omega) hx.p hx.w (by omega)
    rw [show decide (PathsC g p x.paths E) = decide (PathsR g p x.paths E) from decide_eq_decide.2 (pathsCR p x.paths E)] at hk3
    refine awp_skip ?_
    refine awp_seq ?_
    refine awp_block ?_
    refine awp_seq ?_
    refine awp_dregc ⟨149, [(2, ints E), (4, .pt 16 0 0), (10, .pv (gC g)), (11, .pv (pC p)), (12, .I it), (88, .B false)], [(16, some ⟨5, [xE x], 0⟩)], 1000⟩ rfl ?_ ?_
    · simp
      refine call0e hk1 (by simp) ?_
      simp
      refine call0e hk2 (by simp) ?_
      simp
      refine call0e hk3 (by simp) ?_
      simp
      refine call0e hk4 (by simp) ?_
      simp
      exact ⟨rfl, Le.go [(16, 16)] [] rfl rfl (by simp) (by simp)⟩
    refine awp_cond _ rfl (fun h16 => by cases h16) fun _ => ?_
    refine awp_skip ?_
    have hjn := join24_ok x.before [] (by have := hx.b; omega) (by simp)
    rw [List.append_nil] at hjn
    obtain ⟨J, hJ⟩ : ∃ J, J = joinL x.before := ⟨_, rfl⟩
    have hJl : J.length ≤ 64 := by rw [hJ]; exact joinL_len _
    rw [← hJ] at hjn
    have hxk := mk_Mod_ok x.key g.size (by omega)
    obtain ⟨K, hK⟩ : ∃ K, K = modI x.key g.size := ⟨_, rfl⟩
    rw [← hK] at hxk
    refine awp_regc ⟨149, [(4, .pt 16 0 0), (10, .pv (gC g)), (11, .pv (pC p)), (12, .I it)], [(16, some ⟨5, [xE { x with key := K }], 0⟩)], 1056⟩ rfl ?_ ?_
    · simp
      refine call0e hxk (by simp) ?_
      simp
      exact Le.go [(16, 16)] [] rfl rfl (by simp) (by simp)
    refine awp_regc ⟨149, [(4, .pt 16 0 0), (10, .pv (gC g)), (11, .pv (pC p)), (12, .I it)], [(16, some ⟨5, [xE { x with key := K, before := J }], 0⟩)], 1096⟩ rfl ?_ ?_
    · simp
      refine callN1w2 hjn (by simp [Wk.refl, ints, Wk.nil]) ?_
      simp [Function.comp_def]
      exact Le.go [(16, 16)] [1072] rfl rfl (by simp) (by simp [Function.comp_def, take_map_len])
    refine rk (s := ?s20) [4, 10, 11, 12, 13] [16] rfl ?o20 ?q20
    case o20 => simp; rfl
    refine rk (s := ?s21) [2, 4, 10, 11, 12, 13] [16] rfl ?o21 ?q21
    case o21 => simp; rfl
    refine awp_seq ?_
    refine rk (s := ?s22) [2, 4, 10, 11, 12, 13, 14] [16] rfl ?o22 ?q22
    case o22 => simp; rfl
    refine awp_block ?_
    have hpl := hx.p
    obtain ⟨y, hy⟩ : ∃ y : Expl, y = { x with key := K, before := J } := ⟨_, rfl⟩
    have hyp : y.paths = x.paths := by rw [hy]
    rw [← hy]
    let f : List Int → List Int := fun w => w.map fun k => modI k g.size
    have hfl : ∀ w, (f w).length = w.length := fun w => by simp [f]
    obtain ⟨Q, hQ0, hQs, hQl, hQN⟩ : ∃ Q : Nat → List (List Int), Q 0 = [] ∧ (∀ i (h : i < x.paths.length), Q (i + 1) = Q i ++ [f x.paths[i]]) ∧ (∀ i, i ≤ x.paths.length → (Q i).length = i) ∧ Q x.paths.length = x.paths.map f :=
      ⟨fun i => (x.paths.take i).map f, by simp, fun i h => by simp only [List.take_succ_eq_append_getElem h, List.map_append]; rfl, fun i hi => by simp [hi], by simp⟩
    obtain ⟨F, hF0, hFs, hFl⟩ : ∃ F : Nat → List Int, F 0 = [] ∧ (∀ i (h : i < x.paths.length), F (i + 1) = F i ++ (f x.paths[i]).getLast?.toList) ∧ (∀ i, (F i).length ≤ x.paths.length) :=
      ⟨fun i => lasts ((x.paths.take i).map f), by simp [lasts], fun i h => by
        simp only [lasts, List.take_succ_eq_append_getElem h, List.map_append, List.filterMap_append]
        cases h2 : (f x.paths[i]).getLast? <;> simp [h2], fun i => Nat.le_trans (List.length_filterMap_le ..) (by simp; omega)⟩
    refine awp_loop (ι := Nat) (fun i => ⟨149, [(2, .rs 19 0 (F i).length), (4, .pt 16 0 0), (10, .pv (gC g)), (11, .pv (pC p)), (12, .I it), (13, .rs 18 0 i), (14, .I i)], [(16, some ⟨5, [xE y], 0⟩), (18, some ⟨1, (Q i).map fun w => [ints w], 0⟩), (19, some ⟨1, rowsI (F i), 0⟩)], 1120⟩)
      (fun i => i ≤ x.paths.length) (fun i => x.paths.length - i) 0 (Nat.zero_le _) (Le.lst [(16, 16)] [] [(18, 1), (19, 1)] rfl (by simp) (by simp) (by simp) (by simp) (by simp) (by simp) (by simp) (by simp [Up, hF0]) (by simp [hF0, hQ0]; exact EntUp.rfl' (by simp))) ?_
    intro i hi
    have hFi := hFl i
    have hQi := hQl i hi
    refine awp_seq ?_
    refine rk (s := ?s23) [2, 4, 10, 11, 12, 13, 14, 103] [16, 18, 19] rfl ?o23 ?q23
    case o23 => simp; rfl
    refine awp_cond _ rfl (fun h24 => ?_) fun h24 => ?_
    · rw [hyp] at h24
      simp at h24
      have hwi : IntKind.i64.wrap ((i : Int) + 1) = (i : Int) + 1 := w64 (by omega) (by omega)
      obtain ⟨w, hwd⟩ : ∃ w, w = x.paths[i] := ⟨_, rfl⟩
      have hwl : w.length ≤ 100000 := by rw [hwd]; exact hx.w _ (List.getElem_mem h24)
      have hQn := hQs i h24
      have hFn := hFs i h24
      rw [← hwd] at hQn hFn
      refine awp_skip ?_
      refine awp_seq ?_
      refine awp_block ?_
      refine rk (s := ?s25) [2, 4, 10, 11, 12, 13, 14, 15] [16, 18, 19] rfl ?o25 ?q25
      case o25 => simp; rfl
      refine awp_seq ?_
      refine rk (s := ?s26) [2, 4, 10, 11, 12, 13, 14, 15, 16] [16, 18, 19] rfl ?o26 ?q26
      case o26 => simp; rfl
      refine awp_block ?_
      obtain ⟨D, hD0, hDs, hDl, hDN⟩ : ∃ D : Nat → List Int, D 0 = [] ∧ (∀ j (h : j < w.length), D (j + 1) = D j ++ [modI w[j] g.size]) ∧ (∀ j, j ≤ w.length → (D j).length = j) ∧ D w.length = f w :=
        ⟨fun j => f (w.take j), by simp [f], fun j h => by simp only [f, List.take_succ_eq_append_getElem h, List.map_append]; rfl, fun j hj => by simp [f, hj], by simp [f]⟩
      refine awp_loop (ι := Nat) (fun j => ⟨149, [(2, .rs 19 0 (F i).length), (4, .pt 16 0 0), (10, .pv (gC g)), (11, .pv (pC p)), (12, .I it), (13, .rs 18 0 i), (14, .I i), (15, .rs 17 0 j), (16, .I j)], [(16, some ⟨5, [xE y], 0⟩), (18, some ⟨1, (Q i).map fun w => [ints w], 0⟩), (19, some ⟨1, rowsI (F i), 0⟩), (17, some ⟨1, rowsI (D j), 0⟩)], 1176⟩)
        (fun j => j ≤ w.length) (fun j => w.length - j) 0 (Nat.zero_le _) (Le.lst [(16, 16), (18, 18), (19, 19)] [] [(17, 1)] rfl (by simp) (by simp) (by simp) (by simp) (by simp) (by simp) (by simp) (by simp [Up]) (by simp [hD0, Function.comp_def]; exact ⟨EntUp.rfl' (by simp), EntUp.rfl' (by simp), EntUp.rfl' (by simp)⟩)) ?_
      intro j hj
      have hDj := hDl j hj
      refine awp_seq ?_
      refine rk (s := ?s27) [2, 4, 10, 11, 12, 13, 14, 15, 16, 113] [16, 18, 19, 17] rfl ?o27 ?q27
      case o27 => simp [hyp, h24, ← hwd]; rfl
      refine awp_cond _ rfl (fun h28 => ?_) fun h28 => ?_
      · simp at h28
        have hwj : IntKind.i64.wrap ((j : Int) + 1) = (j : Int) + 1 := w64 (by omega) (by omega)
        have htj : ∀ f : Int → List AV, List.take j (List.map f (D j)) = List.map f (D j) := fun f => List.take_of_length_le (by simp [hDj])
        refine awp_skip ?_
        refine awp_seq ?_
        refine awp_block ?_
        refine awp_drw rfl ?_
        simp [hyp, h24, ← hwd, h28]
        refine call0e (mk_Mod_ok w[j] g.size (by omega)) (by simp) ?_
        simp [hDj, htj]
        refine ⟨by omega, by omega, rfl, ?_⟩
        refine awp_run (s := ?s28) rfl ?o28 ?q28
        case o28 => simp; rfl
        exact ⟨j + 1, by omega, by omega, Le.go [(16, 16), (18, 18), (19, 19), (1344, 17)] [] rfl rfl (by simp [hwj]) (by simp [Function.comp_def, hDs j h28])⟩
      simp at h28
      obtain rfl : j = w.length := by omega
      rw [hDN]
      have hm : (f w).length = w.length := hfl w
      have htq : ∀ f : List Int → List AV, List.take i (List.map f (Q i)) = List.map f (Q i) := fun f => List.take_of_length_le (by simp [hQi])
      have htF : ∀ f : Int → List AV, List.take (F i).length (List.map f (F i)) = List.map f (F i) := fun f => List.take_of_length_le (by simp)
      refine awp_exit ?_
      refine hit ?_
      refine rk (s := ?s29) [2, 4, 10, 11, 12, 13, 14, 15] [16, 19, 17, 1264] rfl ?o29 ?q29
      case o29 => simp [hQi, htq]; refine ⟨by omega, by omega, ?_⟩; rfl
      refine rk (s := ?s30) [2, 4, 10, 11, 12, 13, 14, 15, 136] [16, 19, 17, 1264] rfl ?o30 ?q30
      case o30 => simp; rfl
      have htw : ∀ g : Int → List AV, List.take w.length (List.map g (f w)) = List.map g (f w) := fun g => List.take_of_length_le (by simp [hm])
      refine awp_cond _ rfl (fun h31 => ?_) fun h31 => ?_
      · simp at h31
        obtain ⟨m, hmm⟩ : ∃ m, w.length = m + 1 := ⟨w.length - 1, by omega⟩
        have hwm : IntKind.i64.wrap ((w.length : Int) - 1) = (m : Int) := by rw [w64 (by omega) (by omega)]; omega
        have hw1 : m < (f w).length := by omega
        have hmw : m < w.length := by omega
        obtain ⟨z, hz⟩ : ∃ z, z = (f w)[m] := ⟨_, rfl⟩
        have hget : (f w)[m]? = some z := by rw [List.getElem?_eq_getElem hw1, hz]
        have hgl : (f w).getLast?.toList = [z] := by
          rw [List.getLast?_eq_getElem?, hm, hmm, Nat.add_sub_cancel, hget]
          rfl
        rw [hgl] at hFn
        refine awp_run (s := ?s31) rfl ?o31 ?q31
        case o31 => simp [hwm, hget, hmw, htF, h31]; refine ⟨by omega, by omega, ?_⟩; rfl
        refine awp_run (s := ?s32) rfl ?o32 ?q32
        case o32 => simp; rfl
        exact ⟨i + 1, by omega, by omega, Le.go [(16, 16), (1264, 18), (1368, 19)] [17] rfl rfl (by simp [hwi, hFn]) (by simp [Function.comp_def, hQn, hFn, htw, hm])⟩
      · simp at h31
        have hw0 : w = [] := by simpa using h31
        have hgl : (f w).getLast?.toList = [] := by rw [hw0]; rfl
        rw [hgl, List.append_nil] at hFn
        refine awp_skip ?_
        refine awp_run (s := ?s33) rfl ?o33 ?q33
        case o33 => simp; rfl
        exact ⟨i + 1, by omega, by omega, Le.go [(16, 16), (1264, 18), (19, 19)] [17] rfl rfl (by simp [hwi, hFn]) (by simp [Function.comp_def, hQn, hFn, htw, hm])⟩
    rw [hyp] at h24
    simp at h24
    obtain rfl : i = x.paths.length := by omega
    rw [hQN]
    obtain ⟨R, hR⟩ : ∃ R, R = x.paths.map f := ⟨_, rfl⟩
    have hRl : R.length = x.paths.length := by rw [hR]; simp
    rw [← hR]
    refine awp_exit ?_
    refine hit ?_
    refine awp_run (s := ?s34) rfl ?o34 ?q34
    case o34 => simp; rfl
    refine awp_run (s := ?s35) rfl ?o35 ?q35
    case o35 => simp; rfl
    refine ⟨(it + 1, ({ y with paths := R }, F x.paths.length)), ⟨by simp only; omega, ⟨?_, ?_, ?_, ?_⟩, by simp only; omega⟩, by simp only; omega, Le.go [(16, 16)] [18, 19] rfl rfl (by simp [hwit, Function.comp_def, take_map_len]) (by simp [Function.comp_def, ← hRl, take_map_len])⟩
    · simp only [hy]; omega
    · simp only; omega
    · intro w hw'
      simp only [hR] at hw'
      obtain ⟨v, hv, rfl⟩ := List.mem_map.1 hw'
      rw [hfl]
      exact hx.w v hv
    · simp only [hy]; exact hx.s
  refine awp_exit ?_
  refine hit ?_
  refine rk (s := ?s99) [6] [] rfl ?o99 ?q99
  case o99 => simp; refine call0e awake44_ok (by simp) ?_; simp; rfl
  refine awp_ret ?_
  exact ⟨.inr rfl, RetOk.one (by simp)⟩
end Go.Proofs.YtlhjelookgjmpaaGreat
