/- Texts of this claim, merged. -/
import Derived.Test.YtlhjelookgjmpaaGreatRb14
set_option linter.unusedSimpArgs false
set_option linter.unusedVariables false
set_option linter.unusedSectionVars false
namespace Go.Proofs.YtlhjelookgjmpaaGreat
open Go
def turnS (g : Gr) (p : Pol) (x : Expl) (turn less : Int) (n t d i : Nat) : St :=
  ⟨135, [(2, .sc (.int .u8 turn)), (3, .sc (.int .u8 less)), (10, .pv (gC g)), (11, .pv (pC p)), (12, .pv (xE x)), (14, .I n), (15, .rs 40 0 (rotP x.paths t i).length), (16, .rs 41 0 (fewP x.paths t d i).length), (17, .rs 42 0 (lasts (fewP x.paths t d i)).length), (18, .I i)],
    [(40, some ⟨1, (rotP x.paths t i).map fun w => [ints w], 0⟩), (41, some ⟨1, (fewP x.paths t d i).map fun w => [ints w], 0⟩), (42, some ⟨1, rowsI (lasts (fewP x.paths t d i)), 0⟩)], 700⟩
set_option maxRecDepth 100000 in
set_option maxHeartbeats 4000000 in
open Classical in
theorem law44_CheckerTurned_ok (L : List Int) (key turn less : Int) (_ : 0 ≤ key) (_ : key ≤ 255) (ht0 : 0 ≤ turn) (ht1 : turn ≤ 255) (hd0 : 0 ≤ less) (hd1 : less ≤ 255) :
    ACalls Tryz.prog nlaw44_CheckerTurned [ints L, .sc (.int .u8 key), .sc (.int .u8 turn), .sc (.int .u8 less)] [] (.B true) [] := by
  refine slaw44_CheckerTurned.acalls (Nat.le_of_ble_eq_true rfl) (Nat.le_of_ble_eq_true rfl) (Nat.le_refl _) ?_
  show awp _ 0 _ _ ⟨135, [(0, ints L), (1, .sc (.int .u8 key)), (2, .sc (.int .u8 turn)), (3, .sc (.int .u8 less))], [], 16⟩
  refine rx (s := ?s1) [0, 1, 2, 3] [] [] rfl ?o1 ?q1
  case o1 => simp; rfl
  refine awp_seq ?_
  refine rx (s := ?s2) [0, 1, 2, 3, 23] [] [] rfl ?o2 ?q2
  case o2 => simp; refine call0e (mk_Light_ok L) (by simp) ?_; simp; rfl
  refine awp_cond _ rfl (fun h3 => ?_) fun h3 => ?_
  · refine rx (s := ?s4) [8] [] [] rfl ?o4 ?q4
    case o4 => simp; refine call0e awake44_ok (by simp) ?_; simp; rfl
    refine awp_ret ?_
    exact ⟨.inr rfl, RetOk.one (by simp)⟩
  simp at h3
  obtain ⟨g, b1, ⟨hg, hg2, hg9, hb1⟩, hcg⟩ := roll_a L h3
  obtain ⟨⟨p, b2⟩, ⟨hp1, hp2, hp3, hb2⟩, hcp⟩ := Policy_a L b1 g h3 hb1 (by omega) (by omega)
  simp only at hp1 hp2 hp3 hb2 hcp
  have hel := hg.edges_le
  have hgl := hg.gone_le
  refine awp_skip ?_
  refine awp_regc ⟨135, [(1, .sc (.int .u8 key)), (2, .sc (.int .u8 turn)), (3, .sc (.int .u8 less)), (9, .pt 20 0 0)], [(20, some (dice L 0))], 100⟩ rfl ?_ ?_
  · simp
    refine callN1 (Roll_ok L) (by simp) ?_
    simp
    exact Le.go [(56, 20)] [] rfl rfl (by simp) (by simp)
  refine awp_regc ⟨135, [(1, .sc (.int .u8 key)), (2, .sc (.int .u8 turn)), (3, .sc (.int .u8 less)), (9, .pt 20 0 0), (10, .pv (gC g))], [(20, some (dice L b1))], 200⟩ rfl ?_ ?_
  · simp
    refine callM1 (i := 20) rfl (e' := dice L 0) (by simp) hcg (by simp) (by simp) ?_
    simp
    exact Le.go [(20, 20)] [116] rfl rfl (by simp) (by simp)
  refine awp_regc ⟨135, [(1, .sc (.int .u8 key)), (2, .sc (.int .u8 turn)), (3, .sc (.int .u8 less)), (10, .pv (gC g)), (11, .pv (pC p))], [], 300⟩ rfl ?_ ?_
  · simp
    refine callM1 (i := 20) rfl (e' := dice L b1) (by simp) hcp (by simp) (by simp) ?_
    simp
    exact Le.go [] [224] rfl rfl (by simp) (by simp)
  obtain ⟨kk, hkk⟩ : ∃ kk, kk = (IntKind.i64.wrap key).tmod g.size := ⟨_, rfl⟩
  obtain ⟨x, e, hx, hcf⟩ := for_any g p kk hg hp1 (by omega)
  refine awp_dregc ⟨135, [(2, .sc (.int .u8 turn)), (3, .sc (.int .u8 less)), (10, .pv (gC g)), (11, .pv (pC p)), (12, .pv (xE x)), (13, .I e)], [], 400⟩ rfl ?_ ?_
  · have hg0 : g.size ≠ 0 := by omega
    simp [hg0, ← hkk]
    refine call0e hcf (by simp) ?_
    simp
    exact ⟨rfl, Le.go [] [388] rfl rfl (by simp) (by simp)⟩
  refine awp_seq ?_
  refine awp_regc ⟨135, [(2, .sc (.int .u8 turn)), (3, .sc (.int .u8 less)), (10, .pv (gC g)), (11, .pv (pC p)), (12, .pv (xE x)), (49, .B (decide (¬ (e = 0 ∧ x.acc = true))))], [], 500⟩ rfl ?_ ?_
  · rcases hx with ⟨rfl, hx⟩ | ⟨rfl, rfl⟩
    · simp
      exact Le.go [] [] rfl rfl (by simp) (by simp)
    · simp
      exact Le.go [] [] rfl rfl (by simp) (by simp)
  refine awp_cond _ rfl (fun h10 => ?_) fun h10 => ?_
  · refine rx (s := ?s11) [8] [] [] rfl ?o11 ?q11
    case o11 => simp; refine call0e awake44_ok (by simp) ?_; simp; rfl
    refine awp_ret ?_
    exact ⟨.inr rfl, RetOk.one (by simp)⟩
  rw [decide_eq_false_iff_not, Decidable.not_not] at h10
  obtain ⟨he0, hacc⟩ := h10
  have hx : ForR g p (ordL (levelG g p.lv) p.seeds) kk x := by
    rcases hx with ⟨_, hx⟩ | ⟨rfl, _⟩
    · exact hx
    · cases he0
  have hxk := hx.key_
  subst hxk
  have hin := hx.acc_iff.1 hacc
  have hb := hx.bounds hg hp1
  have hserve := hx.yes_serves hg hp1 hin
  obtain ⟨_, hat, _⟩ := hx.at_ hg
  have hxb := hb.b
  have hxp := hb.p
  have hxw := hb.w
  obtain ⟨A, hA⟩ : ∃ A, A = x.before ++ [x.key] := ⟨_, rfl⟩
  have hAl : A.length = x.before.length + 1 := by rw [hA, List.length_append]; rfl
  have hAn : A.Nodup := by rw [hA]; exact hat.nodup
  have hAr : ∀ k ∈ A, 0 ≤ k ∧ k < g.size := by rw [hA]; exact hat.range
  rw [← hA] at hserve
  obtain ⟨n, hn⟩ : ∃ n, n = x.paths.length := ⟨_, rfl⟩
  have hn0 : 0 < x.paths.length := by have := hserve.1; omega
  obtain ⟨t, rfl⟩ : ∃ t : Nat, turn = t := ⟨turn.toNat, by omega⟩
  obtain ⟨dd, rfl⟩ : ∃ dd : Nat, less = dd := ⟨less.toNat, by omega⟩
  obtain ⟨d, hd⟩ : ∃ d, d = dd % n := ⟨_, rfl⟩
  have hdn : d < x.paths.length := by rw [hd, hn]; exact Nat.mod_lt _ hn0
  obtain ⟨r1, r2, r3, r4⟩ := turned hg hp1 hAn hAr hn0 hserve t d
  have r4 := r4 hdn
  have hwt : IntKind.i64.wrap (t : Int) = (t : Int) := w64 (by omega) (by omega)
  have hwd : IntKind.i64.wrap (dd : Int) = (dd : Int) := w64 (by omega) (by omega)
  have hmd : ((dd : Int)).tmod (n : Int) = (d : Int) := by rw [hd, Int.tmod_eq_emod_of_nonneg (by omega)]; rfl
  refine awp_skip ?_
  refine rx (s := ?s12) [2, 3, 10, 11, 12, 14] [] [] rfl ?o12 ?q12
  case o12 => simp; rfl
  refine rx (s := ?s13) [2, 3, 10, 11, 12, 14, 15, 16] [] [] rfl ?o13 ?q13
  case o13 => simp; rfl
  refine rx (s := ?s14) [2, 3, 10, 11, 12, 14, 15, 16, 17] [] [] rfl ?o14 ?q14
  case o14 => simp; rfl
  refine awp_seq ?_
  refine rx (s := ?s15) [2, 3, 10, 11, 12, 14, 15, 16, 17, 18] [] [] rfl ?o15 ?q15
  case o15 => simp; rfl
  refine awp_block ?_
  rw [← hn]
  refine awp_loop (ι := Nat) (fun i => turnS g p x t dd n t d i) (fun i => i ≤ n) (fun i => n - i) 0 (Nat.zero_le _)
    (Le.lst [] [] [(40, 1), (41, 1), (42, 1)] rfl (by simp) (by simp) (by simp [turnS]) (by simp [turnS]) (by simp) (by simp [turnS]) (by simp) (by simp [turnS, Up, rotP, fewP, lasts]) (by simp [turnS, rotP, fewP, lasts])) ?_
  intro i hi
  obtain ⟨R, hR⟩ : ∃ R, R = rotP x.paths t i := ⟨_, rfl⟩
  obtain ⟨F, hF⟩ : ∃ F, F = fewP x.paths t d i := ⟨_, rfl⟩
  obtain ⟨E, hE⟩ : ∃ E, E = lasts F := ⟨_, rfl⟩
  have hRl : R.length = i := by rw [hR, rotP_len]
  have hFl : F.length ≤ i := by rw [hF]; exact fewP_len _ _ _ _
  have hEl : E.length ≤ i := by rw [hE]; exact Nat.le_trans (List.length_filterMap_le _ _) hFl
  show awp _ 0 _ _ ⟨135, [(2, .sc (.int .u8 t)), (3, .sc (.int .u8 dd)), (10, .pv (gC g)), (11, .pv (pC p)), (12, .pv (xE x)), (14, .I n), (15, .rs 40 0 (rotP x.paths t i).length), (16, .rs 41 0 (fewP x.paths t d i).length), (17, .rs 42 0 (lasts (fewP x.paths t d i)).length), (18, .I i)],
    [(40, some ⟨1, (rotP x.paths t i).map fun w => [ints w], 0⟩), (41, some ⟨1, (fewP x.paths t d i).map fun w => [ints w], 0⟩), (42, some ⟨1, rowsI (lasts (fewP x.paths t d i)), 0⟩)], 700⟩
  rw [← hR, ← hF, ← hE]
  refine awp_seq ?_
  refine awp_regc ⟨135, [(2, .sc (.int .u8 t)), (3, .sc (.int .u8 dd)), (10, .pv (gC g)), (11, .pv (pC p)), (12, .pv (xE x)), (14, .I n), (15, .rs 40 0 R.length), (16, .rs 41 0 F.length), (17, .rs 42 0 E.length), (18, .I i), (56, .B (decide (i < n)))],
    [(40, some ⟨1, R.map fun w => [ints w], 0⟩), (41, some ⟨1, F.map fun w => [ints w], 0⟩), (42, some ⟨1, rowsI E, 0⟩)], 800⟩ rfl ?_ ?_
  · simp
    exact Le.go [(40, 40), (41, 41), (42, 42)] [] rfl rfl (by simp) (by simp [Function.comp_def])
  refine awp_cond _ rfl (fun h17 => ?_) fun h17 => ?_
  · simp at h17
    have hwi : IntKind.i64.wrap ((i : Int) + 1) = (i : Int) + 1 := w64 (by omega) (by omega)
    have hwit : IntKind.i64.wrap ((i : Int) + (t : Int)) = ((i + t : Nat) : Int) := by rw [w64 (by omega) (by omega)]; omega
    obtain ⟨q, hq⟩ : ∃ q, q = (i + t) % n := ⟨_, rfl⟩
    have hqn : q < x.paths.length := by rw [hq, hn]; exact Nat.mod_lt _ hn0
    have hmi : (((i + t : Nat) : Int)).tmod (n : Int) = (q : Int) := by rw [hq, Int.tmod_eq_emod_of_nonneg (by omega)]; rfl
    obtain ⟨w, hw⟩ : ∃ w, w = rotW x.paths t i := ⟨_, rfl⟩
    have hwm : w ∈ x.paths := by rw [hw]; exact rotW_mem t i hn0
    have hwq : x.paths[q]? = some w := by
      rw [hw, List.getElem?_eq_getElem hqn]
      unfold rotW
      rw [← hn, ← hq, List.getD_eq_getElem?_getD, List.getElem?_eq_getElem hqn]
      rfl
    have hwx : x.paths[q] = w := Option.some.inj ((List.getElem?_eq_getElem hqn).symm.trans hwq)
    have hw0 : 0 < w.length := List.length_pos_iff.2 (hserve.2.2.1 w hwm).ne
    have hwl := hxw w hwm
    have hnz : n ≠ 0 := by omega
    refine awp_skip ?_
    refine awp_cut (ι := Unit) (fun _ => ⟨135, [(2, .sc (.int .u8 t)), (3, .sc (.int .u8 dd)), (10, .pv (gC g)), (11, .pv (pC p)), (12, .pv (xE x)), (14, .I n), (15, .rs 40 0 (rotP x.paths t (i + 1)).length), (16, .rs 41 0 (fewP x.paths t d (i + 1)).length), (17, .rs 42 0 (lasts (fewP x.paths t d (i + 1))).length), (18, .I i)],
      [(40, some ⟨1, (rotP x.paths t (i + 1)).map fun w => [ints w], 0⟩), (41, some ⟨1, (fewP x.paths t d (i + 1)).map fun w => [ints w], 0⟩), (42, some ⟨1, rowsI (lasts (fewP x.paths t d (i + 1))), 0⟩)], 1900⟩) (fun _ => True) ?_ fun _ _ => ?_
    · rw [rotP_succ, fewP_succ, lasts_app, ← hR, ← hF, ← hE, ← hw]
      refine awp_block ?_
      refine awp_dregc ⟨135, [(2, .sc (.int .u8 t)), (3, .sc (.int .u8 dd)), (10, .pv (gC g)), (11, .pv (pC p)), (12, .pv (xE x)), (14, .I n), (15, .rs 40 0 R.length), (16, .rs 41 0 F.length), (17, .rs 42 0 E.length), (18, .I i), (19, ints w)],
        [(40, some ⟨1, R.map fun w => [ints w], 0⟩), (41, some ⟨1, F.map fun w => [ints w], 0⟩), (42, some ⟨1, rowsI E, 0⟩)], 1000⟩ rfl ?_ ?_
      · simp only [Int.natCast_add] at hwit hmi
        simp [hwt, hwit, hmi, hwq, hqn, hnz]
        exact ⟨rfl, Le.go [(40, 40), (41, 41), (42, 42)] [] rfl rfl (by simp [hwx]) (by simp [Function.comp_def])⟩
      refine awp_regc ⟨135, [(2, .sc (.int .u8 t)), (3, .sc (.int .u8 dd)), (10, .pv (gC g)), (11, .pv (pC p)), (12, .pv (xE x)), (14, .I n), (15, .rs 40 0 (R ++ [w]).length), (16, .rs 41 0 F.length), (17, .rs 42 0 E.length), (18, .I i), (19, ints w)],
        [(40, some ⟨1, (R ++ [w]).map fun w => [ints w], 0⟩), (41, some ⟨1, F.map fun w => [ints w], 0⟩), (42, some ⟨1, rowsI E, 0⟩)], 1100⟩ rfl ?_ ?_
      · simp [take_map_len]
        exact ⟨by omega, by omega, Le.go [(1024, 40), (41, 41), (42, 42)] [] rfl rfl (by simp) (by simp [Function.comp_def])⟩
      refine awp_regc ⟨135, [(2, .sc (.int .u8 t)), (3, .sc (.int .u8 dd)), (10, .pv (gC g)), (11, .pv (pC p)), (12, .pv (xE x)), (14, .I n), (15, .rs 40 0 (R ++ [w]).length), (16, .rs 41 0 F.length), (17, .rs 42 0 E.length), (18, .I i), (19, ints w), (78, .B (decide (i ≠ d)))],
        [(40, some ⟨1, (R ++ [w]).map fun w => [ints w], 0⟩), (41, some ⟨1, F.map fun w => [ints w], 0⟩), (42, some ⟨1, rowsI E, 0⟩)], 1200⟩ rfl ?_ ?_
      · simp [hwd, hmd, hnz]
        exact Le.go [(40, 40), (41, 41), (42, 42)] [] rfl rfl (by simp <;> exact wkB (by rw [Bool.eq_iff_iff]; simp; omega)) (by simp [Function.comp_def])
      refine awp_cond _ rfl (fun h21 => ?_) fun h21 => ?_
      · rw [decide_eq_true_eq] at h21
        rw [if_pos h21, lasts_one hw0]
        have hgl2 : w[w.length - 1]? = some w[w.length - 1] := List.getElem?_eq_getElem (by omega)
        have hwl1 : IntKind.i64.wrap ((w.length : Int) - 1) = ((w.length - 1 : Nat) : Int) := by rw [w64 (by omega) (by omega)]; omega
        obtain ⟨z, hz⟩ : ∃ z, z = w.length - 1 := ⟨_, rfl⟩
        have hzw : z < w.length := by omega
        obtain ⟨lz, hlz⟩ : ∃ lz, lz = w[z] := ⟨_, rfl⟩
        have hgz : w[z]? = some lz := by rw [List.getElem?_eq_getElem hzw, hlz]
        have hlz3 : w[z] = lz := hlz.symm
        rw [← hz] at hwl1
        have hlz2 : w[w.length - 1] = lz := by rw [hlz]; congr 1; omega
        rw [hlz2]
        refine awp_regc ⟨135, [(2, .sc (.int .u8 t)), (3, .sc (.int .u8 dd)), (10, .pv (gC g)), (11, .pv (pC p)), (12, .pv (xE x)), (14, .I n), (15, .rs 40 0 (R ++ [w]).length), (16, .rs 41 0 (F ++ [w]).length), (17, .rs 42 0 E.length), (18, .I i), (19, ints w)],
          [(40, some ⟨1, (R ++ [w]).map fun w => [ints w], 0⟩), (41, some ⟨1, (F ++ [w]).map fun w => [ints w], 0⟩), (42, some ⟨1, rowsI E, 0⟩)], 1300⟩ rfl ?_ ?_
        · simp [take_map_len]
          exact ⟨by omega, by omega, Le.go [(40, 40), (1224, 41), (42, 42)] [] rfl rfl (by simp) (by simp [Function.comp_def])⟩
        refine awp_reg rfl ?_
        simp [hwl1, hgz, hzw, take_map_len]
        exact ⟨by omega, by omega, Le.go [(40, 40), (41, 41), (1364, 42)] [] rfl rfl (by simp) (by simp [Function.comp_def, hlz3])⟩
      · rw [decide_eq_false_iff_not, Decidable.not_not] at h21
        rw [if_neg (fun h => h h21)]
        refine awp_skip ?_
        exact ⟨(), trivial, Le.go [(40, 40), (41, 41), (42, 42)] [] rfl rfl (by simp [lasts]) (by simp [Function.comp_def, lasts])⟩
    refine awp_reg rfl ?_
    simp
    exact ⟨i + 1, by omega, by omega, Le.go [(40, 40), (41, 41), (42, 42)] [] rfl rfl (by simp [turnS, hwi]) (by simp [turnS, Function.comp_def])⟩
  simp at h17
  obtain rfl : i = n := by omega
  refine awp_exit ?_
  refine hit ?_
  have hRw : ∀ w ∈ R, w.length ≤ 200 := fun w hw => by
    rw [hR] at hw
    obtain ⟨j, _, rfl⟩ := List.mem_map.1 hw
    exact hxw _ (rotW_mem t j hn0)
  have hFw : ∀ w ∈ F, w.length ≤ 200 := fun w hw => by
    rw [hF] at hw
    obtain ⟨j, _, rfl⟩ := List.mem_map.1 hw
    exact hxw _ (rotW_mem t j hn0)
  rw [← hn, ← hR] at r1 r2
  rw [← hn, ← hF] at r3 r4
  rw [← hE] at r3
  have hj := join24_ok A [] (by omega) (by simp)
  rw [List.append_nil] at hj
  obtain ⟨J, hJ⟩ : ∃ J, J = joinL A := ⟨_, rfl⟩
  have hJl : J.length ≤ 64 := by rw [hJ]; exact joinL_len _
  rw [← hJ] at hj r2
  have k1 := checker_Paths_ok g p R A (by omega) (by omega) (by omega) (by omega) (by omega) (by omega) (fun w hw => Nat.le_trans (hRw w hw) (by omega)) (by omega)
  have k2 := checker_Paths_ok g p R J (by omega) (by omega) (by omega) (by omega) (by omega) (by omega) (fun w hw => Nat.le_trans (hRw w hw) (by omega)) (by omega)
  have k3 := checker_Paths_ok g p F E (by omega) (by omega) (by omega) (by omega) (by omega) (by omega) (fun w hw => Nat.le_trans (hFw w hw) (by omega)) (by omega)
  have k4 := checker_Paths_ok g p F A (by omega) (by omega) (by omega) (by omega) (by omega) (by omega) (fun w hw => Nat.le_trans (hFw w hw) (by omega)) (by omega)
  rw [decide_eq_true r1] at k1
  rw [decide_eq_true r2] at k2
  rw [decide_eq_true r3] at k3
  rw [decide_eq_false r4] at k4
  have hd1 : List.take (x.before.length + 1) (List.map (fun n => [AV.I n]) x.before ++ [[AV.I x.key]]) = List.map (fun n => [AV.I n]) A := by rw [List.take_of_length_le (by simp), hA, List.map_append]; rfl
  refine awp_dregc ⟨135, [(10, .pv (gC g)), (11, .pv (pC p)), (14, .I i), (15, pathsV R), (16, pathsV F), (17, ints E), (20, ints A)], [], 1000⟩ rfl ?_ ?_
  · simp
    refine ⟨by omega, by omega, by omega, by omega, rfl, Le.go [] [856, 40, 41, 42] rfl rfl (by simp [Function.comp_def, take_map_len, hd1]) (by simp)⟩
  refine awp_dregc ⟨135, [(8, .B true)], [], 1500⟩ rfl ?_ ?_
  · simp
    refine call0e k1 (by simp) ?_
    simp
    refine callN1w2 hj (by simp [Wk.refl, ints, Wk.nil]) ?_
    simp [Function.comp_def]
    refine call0w [1080] k2 (by simp [take_map_len, Function.comp_def, Wk.refl]) (.sc _) ?_
    simp
    refine call0e k3 (by simp) ?_
    simp
    refine gcase (fun hb => ?_) (fun hb => ?_)
    · rw [hb]
      simp
      refine call0e awake44_ok (by simp) ?_
      simp
      exact ⟨rfl, Le.go [] [] rfl rfl (by simp) (by simp)⟩
    · rw [hb]
      simp
      refine call0e k4 (by simp) ?_
      simp
      refine call0e awake44_ok (by simp) ?_
      simp
      exact ⟨rfl, Le.go [] [] rfl rfl (by simp) (by simp)⟩
  refine awp_ret ?_
  exact ⟨.inr rfl, RetOk.one (by simp)⟩
end Go.Proofs.YtlhjelookgjmpaaGreat
namespace Go.Proofs.YtlhjelookgjmpaaGreat
open Go Go.ChangeShapes Go.WideShapes Go.ChangeAt Go.RowKit
set_option maxRecDepth 100000 in
theorem checkerTurned_contract (H : Type) (enc : TypeId × Value → H) (W : World) (base : Nat) (args : Array Value) (ds gs : List (DataW H)) (before : List MemPlace)
    (hval : ∀ (j : Nat) t v, Tryz.f3.params[j]? = some t → args[j]? = some v → Value.okWide Tryz.prog W .any base t v)
    (hW : DataW.Whole enc Tryz.prog Tryz.f3.params.toList Rows.checkerTurnedSpec.vars false W args.toList ds gs before) :
    Calls Tryz.prog 3 args W fun e W' => ∃ v, e = .returned v ∧ Rows.checkerTurnedSpec.post enc Tryz.prog Tryz.f3 false true false false W args v W' := by
  have hp : Tryz.f3.params.toList = [22, 5, 5, 5] := by rw [Tryz.params3]
  have hlen : ∃ d0 d1 d2 d3, ds = [d0, d1, d2, d3] := by
    obtain ⟨p, q, hA, _⟩ := hW
    rw [hp] at hA
    obtain ⟨_, _, d0, _, _, _, _, rfl, _, _, hA⟩ := trodAll_cons hA
    obtain ⟨_, _, d1, _, _, _, _, rfl, _, _, hA⟩ := trodAll_cons hA
    obtain ⟨_, _, d2, _, _, _, _, rfl, _, _, hA⟩ := trodAll_cons hA
    obtain ⟨_, _, d3, _, _, _, _, rfl, _, _, hA⟩ := trodAll_cons hA
    obtain ⟨_, rfl, _⟩ := trodAll_nil hA
    exact ⟨d0, d1, d2, d3, rfl⟩
  obtain ⟨d0, d1, d2, d3, rfl⟩ := hlen
  refine law_bridge (P := Tryz.prog) (f := Tryz.f3) (s := Rows.checkerTurnedSpec) (n := 2) (tb := 4) laidK hp ?_ ?_ Tryz.underlying4 ?_ hval hW ?_ ?_ ?_ fun xs hxs => ?_
  · kernel_rfl
  · kernel_rfl
  · rfl
  · rfl
  · rfl
  · rfl
  obtain ⟨e0, e1, e2, e3, x0, x1, x2, x3, he, rfl, h0, h1, h2, h3⟩ := args4 hxs
  obtain ⟨l0, w0⟩ := intsArg_of (tI := 3) Tryz.underlying3 Tryz.underlying22 (by kernel_rfl) h0
  obtain ⟨n1, rfl, f1, f1b⟩ := byteArg_of Tryz.underlying5 h1
  obtain ⟨n2, rfl, f2, f2b⟩ := byteArg_of Tryz.underlying5 h2
  obtain ⟨n3, rfl, f3, f3b⟩ := byteArg_of Tryz.underlying5 h3
  refine acalls_wk (ys := [ints l0, .sc (.int .u8 n1), .sc (.int .u8 n2), .sc (.int .u8 n3)]) rfl (fun i hi => ?_) (law44_CheckerTurned_ok l0 n1 n2 n3 f1 f1b f2 f2b f3 f3b)
  match i with
  | 0 => exact w0
  | 1 => exact .refl _
  | 2 => exact .refl _
  | 3 => exact .refl _
set_option maxRecDepth 100000 in
theorem checkerTurned_lifted (os : Os) (started : os.Started) (H : Type) (enc : TypeId × Value → H) :
    ReturnsInHanded {} Tryz.checked os 3 .any (Rows.checkerTurnedSpec.pre6 enc Tryz.prog Tryz.f3 Rows.checkerTurnedRow.domain false) (Rows.checkerTurnedSpec.post enc Tryz.prog Tryz.f3 false true false false) := by
  refine returnsInHanded_of_change (C := Tryz.checked) ownK started (by kernel_rfl) Tryz.func3
    (ChangeSpec.witness6 (enc := enc) (C := Tryz.checked) false ⟨#[], #[.slice none 0 0, .int .u8 0, .int .u8 0, .int .u8 0], []⟩ 3 (by kernel_rfl) (by kernel_rfl) (by kernel_rfl) (by kernel_rfl)) ?_
  intro W base args ds gs before hval hW _ _
  exact checkerTurned_contract H enc W base args ds gs before hval hW
theorem checkerTurned : Rows.CheckerTurnedSaid :=
  OpenClaim.holds_of_wide 3 Tryz.f3 rfl rfl rfl rfl rfl rfl rfl ⟨rfl, rfl, rfl, rfl, rfl⟩ rfl rfl rfl rfl rfl (by kernel_rfl) Tryz.func3 (by kernel_rfl)
    (of_decide_eq_true (by kernel_rfl)) (by unfold Func.isWrapper; first | (rw [if_pos (by decide +kernel)]; kernel_rfl) | (rw [if_neg (by decide +kernel)]; exact ⟨rfl, rfl⟩))
    (fun os started H enc _ => checkerTurned_lifted os started H enc)
end Go.Proofs.YtlhjelookgjmpaaGreat
