/- Texts of this claim, merged. -/
import Derived.Test.YtlhjelookgjmpaaGreatRc15
import Derived.Test.YtlhjelookgjmpaaGreatRc14
import Derived.Test.YtlhjelookgjmpaaGreatRc9
set_option linter.unusedSimpArgs false
set_option linter.unusedVariables false
set_option linter.unusedSectionVars false
namespace Go.Proofs.YtlhjelookgjmpaaGreat
open Go
structure ExplB (x : Expl) (m : Nat) : Prop where
 b : x.before.length ≤ m
 p : x.paths.length ≤ m
 w : ∀ w ∈ x.paths, w.length ≤ m
 s : x.side.length ≤ m
structure CSt where
 i : Nat
 own : Bool
def copyS (L : List Int) (a : Nat) (x : Expl) (size : Int) (k0 : Nat) : CSt → St
 | ⟨i, false⟩ => ⟨201, [(0, .pt 0 0 0), (2, .I size), (4, .pt 16 0 0), (6, .pt 24 0 0), (7, .rs 32 0 i), (8, .I i)],
   [(0, some (dice L a)), (16, some ⟨5, [[.I x.key, .B x.acc, .rs 30 0 x.before.length, pathsV x.paths, .rs 31 0 x.side.length]], 0⟩), (24, some ⟨5, [[.I 0, .B false, .nilS, .nilS, .nilS]], 0⟩), (30, some ⟨1, rowsI x.before, 0⟩), (31, some ⟨1, rowsI x.side, 0⟩),
    (32, some ⟨1, (x.paths.take i).map fun w => [ints w], 0⟩)], 700⟩
 | ⟨i, true⟩ => ⟨201, [(0, .pt 0 0 0), (2, .I size), (4, .pt 16 0 0), (6, .pt 24 0 0), (7, .rs 32 0 i), (8, .I i)],
   [(0, some (dice L a)), (16, some ⟨5, [[.I x.key, .B x.acc, .rs 30 0 x.before.length, pathsV x.paths, .rs 31 0 x.side.length]], 0⟩), (24, some ⟨5, [[.I 0, .B false, .nilS, .nilS, .nilS]], 0⟩), (30, some ⟨1, rowsI x.before, 0⟩), (31, some ⟨1, rowsI x.side, 0⟩),
    (33, some ⟨1, rowsI (x.paths.getD k0 []), 0⟩), (32, some ⟨1, ((x.paths.take k0).map fun w => [ints w]) ++ [[.rs 33 0 (x.paths.getD k0 []).length]] ++ (((x.paths.take i).drop (k0 + 1)).map fun w => [ints w]), 0⟩)], 700⟩
def finS (L : List Int) (a : Nat) (x : Expl) (size : Int) (k0 : Nat) : Bool → St
 | false => ⟨201, [(0, .pt 0 0 0), (2, .I size), (4, .pt 16 0 0), (6, .pt 24 0 0), (7, .rs 32 0 x.paths.length)],
   [(0, some (dice L a)), (16, some ⟨5, [[.I x.key, .B x.acc, .rs 30 0 x.before.length, pathsV x.paths, .rs 31 0 x.side.length]], 0⟩), (24, some ⟨5, [[.I 0, .B false, .nilS, .nilS, .nilS]], 0⟩), (30, some ⟨1, rowsI x.before, 0⟩), (31, some ⟨1, rowsI x.side, 0⟩),
    (32, some ⟨1, x.paths.map fun w => [ints w], 0⟩)], 900⟩
 | true => ⟨201, [(0, .pt 0 0 0), (2, .I size), (4, .pt 16 0 0), (6, .pt 24 0 0), (7, .rs 32 0 x.paths.length)],
   [(0, some (dice L a)), (16, some ⟨5, [[.I x.key, .B x.acc, .rs 30 0 x.before.length, pathsV x.paths, .rs 31 0 x.side.length]], 0⟩), (24, some ⟨5, [[.I 0, .B false, .nilS, .nilS, .nilS]], 0⟩), (30, some ⟨1, rowsI x.before, 0⟩), (31, some ⟨1, rowsI x.side, 0⟩),
    (33, some ⟨1, rowsI (x.paths.getD k0 []), 0⟩), (32, some ⟨1, ((x.paths.take k0).map fun w => [ints w]) ++ [[.rs 33 0 (x.paths.getD k0 []).length]] ++ ((x.paths.drop (k0 + 1)).map fun w => [ints w]), 0⟩)], 900⟩
theorem set_mid {α : Type} {Q T : List α} {r r' : α} {k : Nat} (h : Q.length = k) : (Q ++ [r] ++ T).set k r' = Q ++ [r'] ++ T := by
 subst h
 rw [List.append_assoc, List.set_append_right _ _ (Nat.le_refl _), List.append_assoc]
 simp
theorem get_mid {α : Type} {Q T : List α} {r : α} {k : Nat} (h : Q.length = k) : (Q ++ [r] ++ T)[k]? = some r := by
 subst h
 simp
set_option maxRecDepth 100000 in
set_option maxHeartbeats 40000000 in
theorem bend_a (L : List Int) (a : Nat) (x : Expl) (size : Int) (m : Nat) (hl : L.length ≤ 400) (ha : a ≤ L.length) (h0 : 0 < size) (hn : size ≤ 64) (hx : ExplB x m) (hm : m ≤ 10000) :
  ∃ y : Expl × Nat, (ExplB y.1 (m + 64) ∧ y.2 ≤ L.length) ∧ ACalls Tryz.prog nlaw44_bend [.pt 0 0 0, eX x, .I size] [dice L a] (eX y.1) [some (dice L y.2)] := by
 refine slaw44_bend.acallsX (args := [.pt 0 0 0, eX x, .I size]) (hs := [dice L a]) (fun y => eX y.1) (fun y => [some (dice L y.2)]) (fun y : Expl × Nat => ExplB y.1 (m + 64) ∧ y.2 ≤ L.length) (Nat.le_of_ble_eq_true rfl) (Nat.le_of_ble_eq_true rfl) (fun _ => Nat.le_refl _) ?_
 show awp _ 1 _ _ ⟨201, [(0, .pt 0 0 0), (1, eX x), (2, .I size)], [(0, some (dice L a))], 16⟩
 have hxb := hx.b
 have hxp := hx.p
 have hxs := hx.s
 refine awp_regc ⟨201, [(0, .pt 0 0 0), (2, .I size), (4, .pt 16 0 0), (6, .pt 24 0 0)], [(0, some (dice L a)), (16, some ⟨5, [xE x], 0⟩), (24, some ⟨5, [[.I 0, .B false, .nilS, .nilS, .nilS]], 0⟩)], 100⟩ rfl ?_ ?_
 ·simp
  exact Le.go [(0, 0), (16, 16), (24, 24)] [] rfl rfl (by simp) (by simp [Function.comp_def])
 refine awp_regc ⟨201, [(0, .pt 0 0 0), (2, .I size), (4, .pt 16 0 0), (6, .pt 24 0 0)], [(0, some (dice L a)), (16, some ⟨5, [[.I x.key, .B x.acc, .rs 30 0 x.before.length, pathsV x.paths, ints x.side]], 0⟩), (24, some ⟨5, [[.I 0, .B false, .nilS, .nilS, .nilS]], 0⟩), (30, some ⟨1, rowsI x.before, 0⟩)], 200⟩ rfl ?_ ?_
 ·simp [splice]
  exact ⟨by omega, by omega, Le.go [(0, 0), (16, 16), (24, 24), (124, 30)] [] rfl rfl (by simp) (by simp [Function.comp_def])⟩
 refine awp_regc ⟨201, [(0, .pt 0 0 0), (2, .I size), (4, .pt 16 0 0), (6, .pt 24 0 0)], [(0, some (dice L a)), (16, some ⟨5, [[.I x.key, .B x.acc, .rs 30 0 x.before.length, pathsV x.paths, .rs 31 0 x.side.length]], 0⟩), (24, some ⟨5, [[.I 0, .B false, .nilS, .nilS, .nilS]], 0⟩), (30, some ⟨1, rowsI x.before, 0⟩), (31, some ⟨1, rowsI x.side, 0⟩)], 300⟩ rfl ?_ ?_
 ·simp [splice]
  exact ⟨by omega, by omega, Le.go [(0, 0), (16, 16), (24, 24), (30, 30), (224, 31)] [] rfl rfl (by simp) (by simp [Function.comp_def])⟩
 refine awp_regc ⟨201, [(0, .pt 0 0 0), (2, .I size), (4, .pt 16 0 0), (6, .pt 24 0 0), (7, .nilS)], [(0, some (dice L a)), (16, some ⟨5, [[.I x.key, .B x.acc, .rs 30 0 x.before.length, pathsV x.paths, .rs 31 0 x.side.length]], 0⟩), (24, some ⟨5, [[.I 0, .B false, .nilS, .nilS, .nilS]], 0⟩), (30, some ⟨1, rowsI x.before, 0⟩), (31, some ⟨1, rowsI x.side, 0⟩)], 400⟩ rfl ?_ ?_
 ·simp
  exact Le.go [(0, 0), (16, 16), (24, 24), (30, 30), (31, 31)] [] rfl rfl (by simp) (by simp [Function.comp_def])
 have hxw := hx.w
 obtain ⟨c, b1, ⟨hb1, hc12⟩, hcN⟩ := Next_a L a 12 hl ha (by omega) (by omega)
 obtain ⟨k, hkN⟩ : ∃ k : Nat, 0 < x.paths.length → k < x.paths.length ∧ ∃ b2 : Nat, b2 ≤ L.length ∧ ACalls Tryz.prog nmade_Dice_Next [.pt 0 0 0, .I x.paths.length] [dice L b1] (.I k) [some (dice L b2)] := by
  by_cases h : 0 < x.paths.length
  ·obtain ⟨k, b2, ⟨h1, h2⟩, h3⟩ := Next_a L b1 x.paths.length hl hb1 (by omega) (by omega)
   exact ⟨k, fun _ => ⟨by omega, b2, h1, h3⟩⟩
  ·exact ⟨0, fun h' => absurd h' h⟩
 obtain ⟨k0, hk5, hk6, hk7⟩ : ∃ k0 : Nat, (c = 5 → k0 = k) ∧ (c = 6 → k0 = 0) ∧ (c ≠ 5 → c ≠ 6 → k0 = x.paths.length) := by
  by_cases h5 : c = 5
  ·exact ⟨k, fun _ => rfl, fun h => by omega, fun h => absurd h5 h⟩
  ·by_cases h6 : c = 6
   ·exact ⟨0, fun h => absurd h h5, fun _ => rfl, fun _ h => absurd h6 h⟩
   ·exact ⟨x.paths.length, fun h => absurd h h5, fun h => absurd h h6, fun _ _ => rfl⟩
 refine awp_cut (ι := Bool) (finS L a x size k0) (fun own => (own = false → x.paths.length ≤ k0) ∧ (own = true → k0 < x.paths.length)) ?_ ?_
 ·refine awp_regc ⟨201, [(0, .pt 0 0 0), (2, .I size), (4, .pt 16 0 0), (6, .pt 24 0 0), (7, .nilS), (8, .I 0)], [(0, some (dice L a)), (16, some ⟨5, [[.I x.key, .B x.acc, .rs 30 0 x.before.length, pathsV x.paths, .rs 31 0 x.side.length]], 0⟩), (24, some ⟨5, [[.I 0, .B false, .nilS, .nilS, .nilS]], 0⟩), (30, some ⟨1, rowsI x.before, 0⟩), (31, some ⟨1, rowsI x.side, 0⟩)], 500⟩ rfl ?_ ?_
  ·simp
   exact Le.go [(0, 0), (16, 16), (24, 24), (30, 30), (31, 31)] [] rfl rfl (by simp) (by simp [Function.comp_def])
  refine awp_block ?_
  refine awp_loop (ι := CSt) (copyS L a x size k0) (fun s => s.i ≤ x.paths.length ∧ (s.own = false → s.i ≤ k0) ∧ (s.own = true → k0 < s.i)) (fun s => x.paths.length - s.i) ⟨0, false⟩ ⟨Nat.zero_le _, fun _ => Nat.zero_le _, fun h => by cases h⟩
   (Le.lst [(0, 0), (16, 16), (24, 24), (30, 30), (31, 31)] [] [(32, 1)] rfl (by simp) (by simp) (by simp [copyS]) (by simp [copyS]) (by simp) (by simp [copyS]) (by simp) (by simp [copyS, Up]) (by simp [copyS, Function.comp_def]; exact ⟨EntUp.rfl' (by simp), EntUp.rfl' (by simp), EntUp.rfl' (by simp), EntUp.rfl' (by simp), EntUp.rfl' (by simp)⟩)) ?_
  rintro ⟨i, own⟩ ⟨hi, hf, ht⟩
  simp only at hi hf ht
  cases own with
  | false =>
   have hf := hf rfl
   obtain ⟨Q, hQ⟩ : ∃ Q, Q = x.paths.take i := ⟨_, rfl⟩
   have hQl : Q.length = i := by rw [hQ, List.length_take]; omega
   show awp _ 1 _ _ ⟨201, [(0, .pt 0 0 0), (2, .I size), (4, .pt 16 0 0), (6, .pt 24 0 0), (7, .rs 32 0 i), (8, .I i)], [(0, some (dice L a)), (16, some ⟨5, [[.I x.key, .B x.acc, .rs 30 0 x.before.length, pathsV x.paths, .rs 31 0 x.side.length]], 0⟩), (24, some ⟨5, [[.I 0, .B false, .nilS, .nilS, .nilS]], 0⟩), (30, some ⟨1, rowsI x.before, 0⟩), (31, some ⟨1, rowsI x.side, 0⟩), (32, some ⟨1, (x.paths.take i).map fun w => [ints w], 0⟩)], 700⟩
   rw [← hQ]
   refine awp_seq ?_
   refine awp_regc ⟨201, [(0, .pt 0 0 0), (2, .I size), (4, .pt 16 0 0), (6, .pt 24 0 0), (7, .rs 32 0 i), (8, .I i), (25, .B (decide (i < x.paths.length)))], [(0, some (dice L a)), (16, some ⟨5, [[.I x.key, .B x.acc, .rs 30 0 x.before.length, pathsV x.paths, .rs 31 0 x.side.length]], 0⟩), (24, some ⟨5, [[.I 0, .B false, .nilS, .nilS, .nilS]], 0⟩), (30, some ⟨1, rowsI x.before, 0⟩), (31, some ⟨1, rowsI x.side, 0⟩), (32, some ⟨1, Q.map fun w => [ints w], 0⟩)], 800⟩ rfl ?_ ?_
   ·simp
    exact Le.go [(0, 0), (16, 16), (24, 24), (30, 30), (31, 31), (32, 32)] [] rfl rfl (by simp) (by simp [Function.comp_def])
   refine awp_cond _ rfl (fun h7 => ?_) fun h7 => ?_
   ·simp at h7
    have hw : IntKind.i64.wrap ((i : Int) + 1) = (i : Int) + 1 := w64 (by omega) (by omega)
    obtain ⟨w, hwd⟩ : ∃ w, w = x.paths[i] := ⟨_, rfl⟩
    have hwl : w.length ≤ m := by rw [hwd]; exact hx.w _ (List.getElem_mem h7)
    have hpi : x.paths[i]? = some w := by rw [List.getElem?_eq_getElem h7, hwd]
    have hts : x.paths.take (i + 1) = Q ++ [w] := by rw [List.take_succ_eq_append_getElem h7, ← hwd, hQ]
    have htQ : ∀ h : List Int → List AV, List.take i (List.map h Q) = List.map h Q := fun h => List.take_of_length_le (by simp [hQl])
    refine awp_skip ?_
    refine awp_seq ?_
    refine awp_block ?_
    refine awp_run (s := ?s30) rfl ?o30 ?q30
    case o30 => simp [hpi, h7, ← hwd, htQ, hQl]; refine ⟨by omega, by omega, by omega, by omega, ?_⟩; rfl
    refine awp_run (s := ?s31) rfl ?o31 ?q31
    case o31 => simp; rfl
    by_cases hk : i = k0
    ·subst hk
     refine ⟨⟨i + 1, true⟩, ⟨h7, (fun h => by cases h), fun _ => Nat.lt_succ_self i⟩, Nat.sub_lt_sub_left h7 (Nat.lt_succ_self i), ?_⟩
     have hgd : x.paths.getD i [] = w := by rw [List.getD_eq_getElem?_getD, hpi]; rfl
     have hdr : (x.paths.take (i + 1)).drop (i + 1) = [] := List.drop_eq_nil_of_le (by rw [List.length_take]; omega)
     show Le 1 _ ⟨201, _, _, 700⟩
     rw [hgd, ← hQ, hdr]
     exact Le.go [(0, 0), (16, 16), (24, 24), (30, 30), (31, 31), (856, 33), (872, 32)] [] rfl rfl (by simp [hw]) (by simp [Function.comp_def])
    ·refine ⟨⟨i + 1, false⟩, ⟨h7, fun _ => Nat.lt_of_le_of_ne hf hk, fun h => by cases h⟩, Nat.sub_lt_sub_left h7 (Nat.lt_succ_self i), ?_⟩
     show Le 1 _ ⟨201, _, [_, _, _, _, _, (32, some ⟨1, (x.paths.take (i + 1)).map fun w => [ints w], 0⟩)], 700⟩
     rw [hts]
     exact Le.go [(0, 0), (16, 16), (24, 24), (30, 30), (31, 31), (872, 32)] [856] rfl rfl (by simp [hw]) (by simp [Function.comp_def, take_map_len])
   ·simp at h7
    obtain rfl : i = x.paths.length := by omega
    refine awp_exit ?_
    refine hit ?_
    refine ⟨false, ⟨fun _ => hf, fun h => (by cases h)⟩, ?_⟩
    show Le 1 _ ⟨201, _, [_, _, _, _, _, (32, some ⟨1, x.paths.map fun w => [ints w], 0⟩)], 900⟩
    rw [hQ, List.take_length]
    exact Le.go [(0, 0), (16, 16), (24, 24), (30, 30), (31, 31), (32, 32)] [] rfl rfl (by simp) (by simp [Function.comp_def])
  | true =>
   have ht := ht rfl
   obtain ⟨Q, hQ⟩ : ∃ Q, Q = x.paths.take k0 := ⟨_, rfl⟩
   obtain ⟨T, hT⟩ : ∃ T, T = (x.paths.take i).drop (k0 + 1) := ⟨_, rfl⟩
   obtain ⟨v, hv⟩ : ∃ v, v = x.paths.getD k0 [] := ⟨_, rfl⟩
   have hQl : Q.length = k0 := by rw [hQ, List.length_take]; omega
   have hTl : T.length = i - (k0 + 1) := by rw [hT, List.length_drop, List.length_take]; omega
   show awp _ 1 _ _ ⟨201, [(0, .pt 0 0 0), (2, .I size), (4, .pt 16 0 0), (6, .pt 24 0 0), (7, .rs 32 0 i), (8, .I i)], [(0, some (dice L a)), (16, some ⟨5, [[.I x.key, .B x.acc, .rs 30 0 x.before.length, pathsV x.paths, .rs 31 0 x.side.length]], 0⟩), (24, some ⟨5, [[.I 0, .B false, .nilS, .nilS, .nilS]], 0⟩), (30, some ⟨1, rowsI x.before, 0⟩), (31, some ⟨1, rowsI x.side, 0⟩), (33, some ⟨1, rowsI (x.paths.getD k0 []), 0⟩), (32, some ⟨1, ((x.paths.take k0).map fun w => [ints w]) ++ [[.rs 33 0 (x.paths.getD k0 []).length]] ++ (((x.paths.take i).drop (k0 + 1)).map fun w => [ints w]), 0⟩)], 700⟩
   rw [← hQ, ← hT, ← hv]
   refine awp_seq ?_
   refine awp_regc ⟨201, [(0, .pt 0 0 0), (2, .I size), (4, .pt 16 0 0), (6, .pt 24 0 0), (7, .rs 32 0 i), (8, .I i), (25, .B (decide (i < x.paths.length)))], [(0, some (dice L a)), (16, some ⟨5, [[.I x.key, .B x.acc, .rs 30 0 x.before.length, pathsV x.paths, .rs 31 0 x.side.length]], 0⟩), (24, some ⟨5, [[.I 0, .B false, .nilS, .nilS, .nilS]], 0⟩), (30, some ⟨1, rowsI x.before, 0⟩), (31, some ⟨1, rowsI x.side, 0⟩), (33, some ⟨1, rowsI v, 0⟩), (32, some ⟨1, (Q.map fun w => [ints w]) ++ [[.rs 33 0 v.length]] ++ (T.map fun w => [ints w]), 0⟩)], 800⟩ rfl ?_ ?_
   ·simp
    exact Le.go [(0, 0), (16, 16), (24, 24), (30, 30), (31, 31), (32, 32), (33, 33)] [] rfl rfl (by simp) (by simp [Function.comp_def])
   refine awp_cond _ rfl (fun h7 => ?_) fun h7 => ?_
   ·simp at h7
    have hw : IntKind.i64.wrap ((i : Int) + 1) = (i : Int) + 1 := w64 (by omega) (by omega)
    obtain ⟨w, hwd⟩ : ∃ w, w = x.paths[i] := ⟨_, rfl⟩
    have hwl : w.length ≤ m := by rw [hwd]; exact hx.w _ (List.getElem_mem h7)
    have hpi : x.paths[i]? = some w := by rw [List.getElem?_eq_getElem h7, hwd]
    have hts : (x.paths.take (i + 1)).drop (k0 + 1) = T ++ [w] := by rw [List.take_succ_eq_append_getElem h7, ← hwd, hT, List.drop_append_of_le_length (by rw [List.length_take]; omega)]
    obtain ⟨Z, hZ⟩ : ∃ Z, Z = (Q.map fun w => [ints w]) ++ [[.rs 33 0 v.length]] ++ (T.map fun w => [ints w]) := ⟨_, rfl⟩
    have hZl : Z.length = i := by rw [hZ]; simp [hQl, hTl]; omega
    have htZ : List.take i Z = Z := List.take_of_length_le (by omega)
    rw [← hZ]
    refine awp_skip ?_
    refine awp_seq ?_
    refine awp_block ?_
    refine awp_run (s := ?s40) rfl ?o40 ?q40
    case o40 => simp [hpi, h7, ← hwd, htZ, hZl]; refine ⟨by omega, by omega, by omega, by omega, ?_⟩; rfl
    refine awp_run (s := ?s41) rfl ?o41 ?q41
    case o41 => simp; rfl
    refine ⟨⟨i + 1, true⟩, ⟨h7, (fun h => by cases h), fun _ => Nat.lt_succ_of_lt ht⟩, Nat.sub_lt_sub_left h7 (Nat.lt_succ_self i), ?_⟩
    show Le 1 _ ⟨201, _, [_, _, _, _, _, _, (32, some ⟨1, ((x.paths.take k0).map fun w => [ints w]) ++ [[.rs 33 0 (x.paths.getD k0 []).length]] ++ (((x.paths.take (i + 1)).drop (k0 + 1)).map fun w => [ints w]), 0⟩)], 700⟩
    rw [hts, ← hQ, ← hv]
    exact Le.go [(0, 0), (16, 16), (24, 24), (30, 30), (31, 31), (33, 33), (872, 32)] [856] rfl rfl (by simp [hw]) (by simp [Function.comp_def, take_map_len, hZ])
   ·simp at h7
    obtain rfl : i = x.paths.length := by omega
    refine awp_exit ?_
    refine hit ?_
    refine ⟨true, ⟨(fun h => by cases h), fun _ => ht⟩, ?_⟩
    show Le 1 _ ⟨201, _, [_, _, _, _, _, _, (32, some ⟨1, ((x.paths.take k0).map fun w => [ints w]) ++ [[.rs 33 0 (x.paths.getD k0 []).length]] ++ ((x.paths.drop (k0 + 1)).map fun w => [ints w]), 0⟩)], 900⟩
    rw [← hQ, ← hv, hT, List.take_length]
    exact Le.go [(0, 0), (16, 16), (24, 24), (30, 30), (31, 31), (33, 33), (32, 32)] [] rfl rfl (by simp) (by simp [Function.comp_def])
 intro own ho
 obtain ⟨hof, hot⟩ := ho
 cases own with
 | false =>
  have hof := hof rfl
  show awp _ 1 _ _ ⟨201, [(0, .pt 0 0 0), (2, .I size), (4, .pt 16 0 0), (6, .pt 24 0 0), (7, .rs 32 0 x.paths.length)], [(0, some (dice L a)), (16, some ⟨5, [[.I x.key, .B x.acc, .rs 30 0 x.before.length, pathsV x.paths, .rs 31 0 x.side.length]], 0⟩), (24, some ⟨5, [[.I 0, .B false, .nilS, .nilS, .nilS]], 0⟩), (30, some ⟨1, rowsI x.before, 0⟩), (31, some ⟨1, rowsI x.side, 0⟩), (32, some ⟨1, x.paths.map fun w => [ints w], 0⟩)], 900⟩
  refine rx (s := ?s1) [0, 2, 4, 6] [0, 16, 24, 30, 31, 32] [] rfl ?o1 ?q1
  case o1 => simp [splice, Function.comp_def]; rfl
  refine awp_cut (ι := Expl × Nat) (fun y => ⟨201, [(4, .pt 16 0 0), (6, .pt 24 0 0)], [(0, some (dice L y.2)), (16, some ⟨5, [xE y.1], 0⟩), (24, some ⟨5, [[.I 0, .B false, .nilS, .nilS, .nilS]], 0⟩)], 2000⟩) (fun y => ExplB y.1 (m + 64) ∧ y.2 ≤ L.length) ?_ fun y hy => ?_
  ·refine rx (s := ?s2) [0, 2, 4, 6, 41] [0, 16, 24, 30, 31, 32] [] rfl ?o2 ?q2
   case o2 =>
    simp
    refine callM1 (i := 0) rfl (e' := dice L a) (by simp) hcN (by simp) (by simp) ?_
    simp [Function.comp_def]
    rfl
   refine awp_block ?_
   refine rx (s := ?s10) [0, 2, 4, 6, 41, 42] [0, 16, 24, 30, 31, 32] [] rfl ?o10 ?q10
   case o10 => simp [Function.comp_def]; rfl
   refine awp_cond _ rfl (fun h10 => ?_) fun h10 => ?_
   ·simp at h10
    obtain ⟨v, b2, ⟨hb2, hv⟩, hcv⟩ := Next_a L b1 (size + 1) hl hb1 (by omega) (by omega)
    have hw : IntKind.i64.wrap (size + 1) = size + 1 := w64 (by omega) (by omega)
    refine awp_reg rfl ?_
    simp [hw, splice]
    refine callM1 (i := 0) rfl (e' := dice L b1) (by simp) hcv (by simp) (by simp) ?_
    simp [splice]
    exact ⟨⟨v, x.acc, x.before, x.paths, x.side⟩, b2, ⟨⟨by simp only; omega, by simp only; omega, fun w hw => Nat.le_trans (hxw w hw) (by omega), by simp only; omega⟩, by omega⟩, Le.go [(0, 0), (16, 16), (24, 24)] [30, 31, 32] rfl rfl (by simp) (by simp [Function.comp_def, take_map_len])⟩
   simp at h10
   refine rx (s := ?s11) [0, 2, 4, 6, 41, 49] [0, 16, 24, 30, 31, 32] [] rfl ?o11 ?q11
   case o11 => simp [Function.comp_def]; rfl
   refine awp_cond _ rfl (fun h11 => ?_) fun h11 => ?_
   ·simp at h11
    refine awp_reg rfl ?_
    simp [splice]
    exact ⟨⟨x.key, !x.acc, x.before, x.paths, x.side⟩, b1, ⟨⟨by simp only; omega, by simp only; omega, fun w hw => Nat.le_trans (hxw w hw) (by omega), by simp only; omega⟩, by omega⟩, Le.go [(0, 0), (16, 16), (24, 24)] [30, 31, 32] rfl rfl (by simp) (by simp [Function.comp_def, take_map_len])⟩
   simp at h11
   refine rx (s := ?s12) [0, 2, 4, 6, 41, 55] [0, 16, 24, 30, 31, 32] [] rfl ?o12 ?q12
   case o12 => simp [Function.comp_def]; rfl
   refine awp_cond _ rfl (fun h12 => ?_) fun h12 => ?_
   ·simp at h12
    refine rx (s := ?s13) [4, 6, 60] [0, 16, 24, 30, 31, 32] [] rfl ?o13 ?q13
    case o13 => simp [Function.comp_def]; rfl
    refine awp_cond _ rfl (fun h13 => ?_) fun h13 => ?_
    ·simp at h13
     refine awp_reg rfl ?_
     simp
     refine k_slr 1 (i := 30) rfl rfl (by omega) ?_
     have hd1 : 1 + (x.before.length - 1) ≤ x.before.length := by omega
     have hd2 : ∀ f : Int → List AV, List.take (x.before.length - 1) (List.map f x.before).tail = List.map f x.before.tail := fun f => by rw [List.take_of_length_le (by simp), List.map_tail]
     simp [splice]
     exact ⟨⟨x.key, x.acc, x.before.tail, x.paths, x.side⟩, b1, ⟨⟨by simp only [List.length_tail]; omega, by simp only; omega, fun w hw => Nat.le_trans (hxw w hw) (by omega), by simp only; omega⟩, by omega⟩, Le.go [(0, 0), (16, 16), (24, 24)] [30, 31, 32] rfl rfl (by simp) (by simp [Function.comp_def, take_map_len, hd1, hd2])⟩
    simp at h13
    refine awp_skip ?_
    exact ⟨(⟨x.key, x.acc, x.before, x.paths, x.side⟩, b1), ⟨⟨by simp only; omega, by simp only; omega, fun w hw => Nat.le_trans (hxw w hw) (by omega), by simp only; omega⟩, by omega⟩, Le.go [(0, 0), (16, 16), (24, 24)] [30, 31, 32] rfl rfl (by simp) (by simp [Function.comp_def, take_map_len])⟩
   simp at h12
   refine rx (s := ?s14) [0, 2, 4, 6, 41, 65] [0, 16, 24, 30, 31, 32] [] rfl ?o14 ?q14
   case o14 => simp [Function.comp_def]; rfl
   refine awp_cond _ rfl (fun h14 => ?_) fun h14 => ?_
   ·simp at h14
    obtain ⟨v, b2, ⟨hb2, hv⟩, hcv⟩ := Next_a L b1 size hl hb1 (by omega) (by omega)
    refine awp_drw rfl ?_
    simp
    refine callM1 (i := 0) rfl (e' := dice L b1) (by simp) hcv (by simp) (by simp) ?_
    simp [splice, take_map_len]
    have hd2 : ∀ (f : Int → List AV) (u : List AV), List.take (x.before.length + 1) (List.map f x.before ++ [u]) = List.map f x.before ++ [u] := fun f u => List.take_of_length_le (by simp)
    refine ⟨by omega, by omega, ?_⟩
    exact ⟨rfl, ⟨x.key, x.acc, x.before ++ [(v : Int)], x.paths, x.side⟩, b2, ⟨⟨by simp only [List.length_append, List.length_singleton]; omega, by simp only; omega, fun w hw => Nat.le_trans (hxw w hw) (by omega), by simp only; omega⟩, by omega⟩, Le.go [(0, 0), (16, 16), (24, 24)] [1052, 31, 32] rfl rfl (by simp) (by simp [Function.comp_def, take_map_len, hd2])⟩
   simp at h14
   refine rx (s := ?s15) [0, 2, 4, 6, 41, 75] [0, 16, 24, 30, 31, 32] [] rfl ?o15 ?q15
   case o15 => simp [Function.comp_def]; rfl
   refine awp_cond _ rfl (fun h15 => ?_) fun h15 => ?_
   ·simp at h15
    refine rx (s := ?s16) [4, 6, 80] [0, 16, 24, 30, 31, 32] [] rfl ?o16 ?q16
    case o16 => simp [Function.comp_def]; rfl
    refine awp_cond _ rfl (fun h16 => ?_) fun h16 => ?_
    ·simp at h16
     refine awp_reg rfl ?_
     simp
     refine k_slr 1 (i := 32) rfl rfl (by omega) ?_
     have hd1 : 1 + (x.paths.length - 1) ≤ x.paths.length := by omega
     have hd2 : ∀ f : List Int → List AV, List.take (x.paths.length - 1) (List.map f x.paths).tail = List.map f x.paths.tail := fun f => by rw [List.take_of_length_le (by simp), List.map_tail]
     simp [splice]
     exact ⟨⟨x.key, x.acc, x.before, x.paths.tail, x.side⟩, b1, ⟨⟨by simp only; omega, by simp only [List.length_tail]; omega, fun w hw => Nat.le_trans (hxw w (List.mem_of_mem_tail hw)) (by omega), by simp only; omega⟩, by omega⟩, Le.go [(0, 0), (16, 16), (24, 24)] [30, 31, 32] rfl rfl (by simp) (by simp [Function.comp_def, take_map_len, hd1, hd2])⟩
    simp at h16
    refine awp_skip ?_
    exact ⟨(⟨x.key, x.acc, x.before, x.paths, x.side⟩, b1), ⟨⟨by simp only; omega, by simp only; omega, fun w hw => Nat.le_trans (hxw w hw) (by omega), by simp only; omega⟩, by omega⟩, Le.go [(0, 0), (16, 16), (24, 24)] [30, 31, 32] rfl rfl (by simp) (by simp [Function.comp_def, take_map_len])⟩
   simp at h15
   refine rx (s := ?s17) [0, 2, 4, 6, 41, 85] [0, 16, 24, 30, 31, 32] [] rfl ?o17 ?q17
   case o17 => simp [Function.comp_def]; rfl
   refine awp_cond _ rfl (fun h17 => ?_) fun h17 => ?_
   ·simp at h17
    have hp0 : x.paths.length = 0 := by
     rcases Nat.eq_zero_or_pos x.paths.length with h | h
     ·exact h
     ·have := (hkN h).1; have := hk5 (by omega); omega
    refine rx (s := ?s18) [0, 2, 4, 6, 90] [0, 16, 24, 30, 31, 32] [] rfl ?o18 ?q18
    case o18 => simp [Function.comp_def]; rfl
    refine awp_cond _ rfl (fun h18 => ?_) fun h18 => ?_
    ·simp at h18
     omega
    refine awp_skip ?_
    exact ⟨(⟨x.key, x.acc, x.before, x.paths, x.side⟩, b1), ⟨⟨by simp only; omega, by simp only; omega, fun w hw => Nat.le_trans (hxw w hw) (by omega), by simp only; omega⟩, by omega⟩, Le.go [(0, 0), (16, 16), (24, 24)] [30, 31, 32] rfl rfl (by simp) (by simp [Function.comp_def, take_map_len])⟩
   simp at h17
   refine rx (s := ?s19) [0, 2, 4, 6, 41, 110] [0, 16, 24, 30, 31, 32] [] rfl ?o19 ?q19
   case o19 => simp [Function.comp_def]; rfl
   refine awp_cond _ rfl (fun h19 => ?_) fun h19 => ?_
   ·simp at h19
    have hp0 : x.paths = [] := by have := hk6 (by omega); exact List.eq_nil_of_length_eq_zero (by omega)
    refine awp_regc ⟨201, [(0, .pt 0 0 0), (2, .I size), (4, .pt 16 0 0), (6, .pt 24 0 0), (123, .B false)], [(0, some (dice L b1)), (16, some ⟨5, [[.I x.key, .B x.acc, .rs 30 0 x.before.length, .rs 32 0 x.paths.length, .rs 31 0 x.side.length]], 0⟩), (24, some ⟨5, [[.I 0, .B false, .nilS, .nilS, .nilS]], 0⟩), (30, some ⟨1, rowsI x.before, 0⟩), (31, some ⟨1, rowsI x.side, 0⟩), (32, some ⟨1, x.paths.map fun w => [ints w], 0⟩)], 1900⟩ rfl ?_ ?_
    ·simp [hp0]
     exact Le.go [(0, 0), (16, 16), (24, 24), (30, 30), (31, 31), (32, 32)] [] rfl rfl (by simp [hp0]) (by simp [hp0, Function.comp_def])
    refine awp_cond _ rfl (fun h => by cases h) fun _ => ?_
    refine awp_skip ?_
    exact ⟨(⟨x.key, x.acc, x.before, x.paths, x.side⟩, b1), ⟨⟨by simp only; omega, by simp only; omega, fun w hw => Nat.le_trans (hxw w hw) (by omega), by simp only; omega⟩, by omega⟩, Le.go [(0, 0), (16, 16), (24, 24)] [30, 31, 32] rfl rfl (by simp) (by simp [Function.comp_def, take_map_len])⟩
   simp at h19
   refine rx (s := ?s20) [0, 2, 4, 6, 41, 139] [0, 16, 24, 30, 31, 32] [] rfl ?o20 ?q20
   case o20 => simp [Function.comp_def]; rfl
   refine awp_cond _ rfl (fun h20 => ?_) fun h20 => ?_
   ·simp at h20
    refine rx (s := ?s21) [0, 4, 6, 144] [0, 16, 24, 30, 31, 32] [] rfl ?o21 ?q21
    case o21 => simp [Function.comp_def]; rfl
    refine awp_cond _ rfl (fun h21 => ?_) fun h21 => ?_
    ·simp at h21
     obtain ⟨v, b2, ⟨hb2, hv⟩, hcv⟩ := Next_a L b1 ((x.side.length : Int) - 1) hl hb1 (by omega) (by omega)
     have hw1 : IntKind.i64.wrap ((x.side.length : Int) - 1) = (x.side.length : Int) - 1 := w64 (by omega) (by omega)
     have hw2 : IntKind.i64.wrap (1 + (v : Int)) = ((v + 1 : Nat) : Int) := by rw [w64 (by omega) (by omega)]; omega
     obtain ⟨q, hq⟩ : ∃ q, q = v + 1 := ⟨_, rfl⟩
     rw [← hq] at hw2
     obtain ⟨q1, hq1⟩ : ∃ q1, q1 = q + 1 := ⟨_, rfl⟩
     have hw3 : IntKind.i64.wrap ((q : Int) + 1) = (q1 : Int) := by rw [w64 (by omega) (by omega)]; omega
     refine rx (s := ?s22) [4, 6, 10] [0, 16, 24, 30, 31, 32] [] rfl ?o22 ?q22
     case o22 =>
      simp [hw1]
      refine callM1 (i := 0) rfl (e' := dice L b1) (by simp) hcv (by simp) (by simp) ?_
      simp [hw2, Function.comp_def]
      rfl
     refine awp_drw rfl ?_
     obtain ⟨S1, hS1⟩ : ∃ S1, S1 = x.side.take q := ⟨_, rfl⟩
     obtain ⟨S2, hS2⟩ : ∃ S2, S2 = x.side.drop q1 := ⟨_, rfl⟩
     have hS1l : S1.length = q := by rw [hS1, List.length_take]; omega
     have hS2l : S2.length = x.side.length - q1 := by rw [hS2, List.length_drop]
     have e1 : ∀ f : Int → List AV, List.take q (List.map f x.side) = List.map f S1 := fun f => by rw [hS1, List.map_take]
     have e2 : ∀ f : Int → List AV, List.take (x.side.length - q1) (List.drop q1 (List.map f x.side)) = List.map f S2 := fun f => by rw [hS2, List.map_drop, List.take_of_length_le (by simp)]
     have e3 : ∀ f : Int → List AV, List.take (q + S2.length) (List.map f S1 ++ List.map f S2) = List.map f S1 ++ List.map f S2 := fun f => List.take_of_length_le (by simp; omega)
     simp [hw3, splice, e1, e2]
     refine ⟨by omega, by omega, _, ⟨by omega, rfl⟩, by omega, by simp; omega, by simp; omega, rfl, ⟨x.key, x.acc, x.before, x.paths, S1 ++ S2⟩, b2, ⟨⟨by simp only; omega, by simp only; omega, fun w hw => Nat.le_trans (hxw w hw) (by omega), by simp only [List.length_append]; omega⟩, by omega⟩, Le.go [(0, 0), (16, 16), (24, 24)] [30, 1236, 32] rfl rfl (by simp) (by simp [Function.comp_def, take_map_len, hS1l, e3])⟩
    simp at h21
    refine awp_skip ?_
    exact ⟨(⟨x.key, x.acc, x.before, x.paths, x.side⟩, b1), ⟨⟨by simp only; omega, by simp only; omega, fun w hw => Nat.le_trans (hxw w hw) (by omega), by simp only; omega⟩, by omega⟩, Le.go [(0, 0), (16, 16), (24, 24)] [30, 31, 32] rfl rfl (by simp) (by simp [Function.comp_def, take_map_len])⟩
   simp at h20
   refine rx (s := ?s23) [0, 2, 4, 6, 41, 163] [0, 16, 24, 30, 31, 32] [] rfl ?o23 ?q23
   case o23 => simp [Function.comp_def]; rfl
   refine awp_cond _ rfl (fun h23 => ?_) fun h23 => ?_
   ·simp at h23
    have hw1 : IntKind.i64.wrap (2 * size) = 2 * size := w64 (by omega) (by omega)
    have hw2 : IntKind.i64.wrap (2 + 2 * size) = 2 + 2 * size := w64 (by omega) (by omega)
    refine awp_reg rfl ?_
    simp [hw1, hw2, splice, take_map_len]
    have hd2 : ∀ (f : Int → List AV) (u : List AV), List.take (x.side.length + 1) (List.map f x.side ++ [u]) = List.map f x.side ++ [u] := fun f u => List.take_of_length_le (by simp)
    refine ⟨by omega, by omega, ?_⟩
    exact ⟨⟨x.key, x.acc, x.before, x.paths, x.side ++ [2 + 2 * size]⟩, b1, ⟨⟨by simp only; omega, by simp only; omega, fun w hw => Nat.le_trans (hxw w hw) (by omega), by simp only [List.length_append, List.length_singleton]; omega⟩, by omega⟩, Le.go [(0, 0), (16, 16), (24, 24)] [30, 1132, 32] rfl rfl (by simp) (by simp [Function.comp_def, take_map_len, hd2])⟩
   simp at h23
   refine rx (s := ?s24) [0, 2, 4, 6, 41, 173] [0, 16, 24, 30, 31, 32] [] rfl ?o24 ?q24
   case o24 => simp [Function.comp_def]; rfl
   refine awp_cond _ rfl (fun h24 => ?_) fun h24 => ?_
   ·simp at h24
    refine rx (s := ?s25) [4, 6, 178] [0, 16, 24, 30, 31, 32] [] rfl ?o25 ?q25
    case o25 => simp [Function.comp_def]; rfl
    refine awp_cond _ rfl (fun h25 => ?_) fun h25 => ?_
    ·simp at h25
     obtain ⟨w0, hw0⟩ : ∃ w0, w0 = x.paths[0] := ⟨_, rfl⟩
     have hg0 : x.paths[0]? = some w0 := by rw [List.getElem?_eq_getElem h25, hw0]
     have hm0 : w0 ∈ x.paths := by rw [hw0]; exact List.getElem_mem _
     refine awp_drw rfl ?_
     simp [hg0, h25, splice, take_map_len]
     have hd2 : ∀ (f : List Int → List AV) (u : List AV), List.take (x.paths.length + 1) (List.map f x.paths ++ [u]) = List.map f x.paths ++ [u] := fun f u => List.take_of_length_le (by simp)
     rw [← hw0]
     refine ⟨by omega, by omega, rfl, ⟨x.key, x.acc, x.before, x.paths ++ [w0], x.side⟩, b1, ⟨⟨by simp only; omega, by simp only [List.length_append, List.length_singleton]; omega, fun w hw => ?_, by simp only; omega⟩, by omega⟩, Le.go [(0, 0), (16, 16), (24, 24)] [30, 31, 1188] rfl rfl (by simp) (by simp [Function.comp_def, take_map_len, hd2])⟩
     rcases List.mem_append.1 hw with h | h
     ·exact Nat.le_trans (hxw w h) (by omega)
     ·rw [List.mem_singleton.1 h]; exact Nat.le_trans (hxw w0 hm0) (by omega)
    simp at h25
    refine awp_skip ?_
    exact ⟨(⟨x.key, x.acc, x.before, x.paths, x.side⟩, b1), ⟨⟨by simp only; omega, by simp only; omega, fun w hw => Nat.le_trans (hxw w hw) (by omega), by simp only; omega⟩, by omega⟩, Le.go [(0, 0), (16, 16), (24, 24)] [30, 31, 32] rfl rfl (by simp) (by simp [Function.comp_def, take_map_len])⟩
   simp at h24
   refine rx (s := ?s26) [0, 2, 4, 6, 188] [0, 16, 24, 30, 31, 32] [] rfl ?o26 ?q26
   case o26 => simp [Function.comp_def]; rfl
   refine awp_cond _ rfl (fun h26 => ?_) fun h26 => ?_
   ·simp at h26
    obtain ⟨v, b2, ⟨hb2, hv⟩, hcv⟩ := Next_a L b1 (2 * size) hl hb1 (by omega) (by omega)
    have hw1 : IntKind.i64.wrap (2 * size) = 2 * size := w64 (by omega) (by omega)
    have hw2 : IntKind.i64.wrap (2 + (v : Int)) = 2 + (v : Int) := w64 (by omega) (by omega)
    have hj := join24_ok x.side [0, 2 + (v : Int)] (by omega) (by simp)
    obtain ⟨J, hJ⟩ : ∃ J, J = joinL (x.side ++ [0, 2 + (v : Int)]) := ⟨_, rfl⟩
    have hJl : J.length ≤ 64 := by rw [hJ]; exact joinL_len _
    rw [← hJ] at hj
    refine awp_drw rfl ?_
    simp [hw1]
    refine callM1 (i := 0) rfl (e' := dice L b1) (by simp) hcv (by simp) (by simp) ?_
    simp [hw2]
    refine callN1r [31, 1172] hj (by simp [take_map_len]) (by first | exact .rs _ _ _ | simp) (by intro row hr; simp at hr; obtain ⟨z, _, rfl⟩ := hr; intro u hu; simp at hu; subst hu; exact .sc _) ?_
    simp [splice, Function.comp_def]
    exact ⟨rfl, ⟨x.key, x.acc, x.before, x.paths, J⟩, b2, ⟨⟨by simp only; omega, by simp only; omega, fun w hw => Nat.le_trans (hxw w hw) (by omega), by simp only; omega⟩, by omega⟩, Le.go [(0, 0), (16, 16), (24, 24)] [30, 1180, 32] rfl rfl (by simp) (by simp [Function.comp_def, take_map_len])⟩
   refine awp_skip ?_
   exact ⟨(⟨x.key, x.acc, x.before, x.paths, x.side⟩, b1), ⟨⟨by simp only; omega, by simp only; omega, fun w hw => Nat.le_trans (hxw w hw) (by omega), by simp only; omega⟩, by omega⟩, Le.go [(0, 0), (16, 16), (24, 24)] [30, 31, 32] rfl rfl (by simp) (by simp [Function.comp_def, take_map_len])⟩
  obtain ⟨y, b⟩ := y
  refine rx (s := ?s90) [6] [0, 24] [16] rfl ?o90 ?q90
  case o90 => simp [splice]; rfl
  refine awp_ret ?_
  exact PostX.mk (.inr rfl) (y, b) hy ⟨_, rfl, [], [24], by simp [List.range, List.range.loop], by simp, by simp, by simp [List.range, List.range.loop], by simp [List.range, List.range.loop]⟩
 | true =>
  have hot := hot rfl
  obtain ⟨hkl, b2, hb2, hkC⟩ := hkN (by omega)
  obtain ⟨Q, hQ⟩ : ∃ Q, Q = x.paths.take k0 := ⟨_, rfl⟩
  obtain ⟨T, hT⟩ : ∃ T, T = x.paths.drop (k0 + 1) := ⟨_, rfl⟩
  obtain ⟨v, hv⟩ : ∃ v, v = x.paths.getD k0 [] := ⟨_, rfl⟩
  have hQl : Q.length = k0 := by rw [hQ, List.length_take]; omega
  have hTl : T.length = x.paths.length - (k0 + 1) := by rw [hT, List.length_drop]
  have hvm : v ∈ x.paths := by rw [hv, List.getD_eq_getElem?_getD, List.getElem?_eq_getElem hot]; exact List.getElem_mem hot
  have hvl : v.length ≤ m := hxw v hvm
  have hQm : ∀ w ∈ Q, w ∈ x.paths := fun w hw => by rw [hQ] at hw; exact List.mem_of_mem_take hw
  have hTm : ∀ w ∈ T, w ∈ x.paths := fun w hw => by rw [hT] at hw; exact List.mem_of_mem_drop hw
  obtain ⟨n, hn⟩ : ∃ n, n = x.paths.length := ⟨_, rfl⟩
  rw [← hn] at hot hkl hTl hkC hxp hof hk7
  show awp _ 1 _ _ ⟨201, [(0, .pt 0 0 0), (2, .I size), (4, .pt 16 0 0), (6, .pt 24 0 0), (7, .rs 32 0 x.paths.length)], [(0, some (dice L a)), (16, some ⟨5, [[.I x.key, .B x.acc, .rs 30 0 x.before.length, pathsV x.paths, .rs 31 0 x.side.length]], 0⟩), (24, some ⟨5, [[.I 0, .B false, .nilS, .nilS, .nilS]], 0⟩), (30, some ⟨1, rowsI x.before, 0⟩), (31, some ⟨1, rowsI x.side, 0⟩), (33, some ⟨1, rowsI (x.paths.getD k0 []), 0⟩), (32, some ⟨1, ((x.paths.take k0).map fun w => [ints w]) ++ [[.rs 33 0 (x.paths.getD k0 []).length]] ++ ((x.paths.drop (k0 + 1)).map fun w => [ints w]), 0⟩)], 900⟩
  rw [← hQ, ← hT, ← hv, ← hn]
  have hget : ∀ r : List AV, ((Q.map fun w => [ints w]) ++ [r] ++ (T.map fun w => [ints w]))[k0]? = some r := fun r => get_mid (by simp [hQl])
  have hset : ∀ r r' : List AV, ((Q.map fun w => [ints w]) ++ [r] ++ (T.map fun w => [ints w])).set k0 r' = (Q.map fun w => [ints w]) ++ [r'] ++ (T.map fun w => [ints w]) := fun r r' => set_mid (by simp [hQl])
  have hlenZ : ∀ r : List AV, ((Q.map fun w => [ints w]) ++ [r] ++ (T.map fun w => [ints w])).length = n := fun r => by simp [hQl, hTl]; omega
  obtain ⟨Z, hZ⟩ : ∃ Z : List AV → List (List AV), Z = fun r => (Q.map fun w => [ints w]) ++ [r] ++ (T.map fun w => [ints w]) := ⟨_, rfl⟩
  have hZ' : ∀ r, (Q.map fun w => [ints w]) ++ [r] ++ (T.map fun w => [ints w]) = Z r := fun r => by rw [hZ]
  simp only [hZ'] at hget hset hlenZ
  rw [hZ']
  have hconv : ∀ (ρ : List (Nat × Nat)) (sn : List Nat) (h : Nat → Option Ent) (k : Nat) (r : List AV), (Z r).map (fun l => l.map (conv ρ sn h (k + 1))) = Z (r.map (conv ρ sn h (k + 1))) := fun ρ sn h k r => by rw [hZ]; simp [Function.comp_def]
  refine rx (s := ?t1) [0, 2, 4, 6] [0, 16, 24, 30, 31, 33, 32] [] rfl ?u1 ?v1
  case u1 => simp [splice, Function.comp_def, hconv]; rfl
  refine awp_cut (ι := Expl × Nat) (fun y => ⟨201, [(4, .pt 16 0 0), (6, .pt 24 0 0)], [(0, some (dice L y.2)), (16, some ⟨5, [xE y.1], 0⟩), (24, some ⟨5, [[.I 0, .B false, .nilS, .nilS, .nilS]], 0⟩)], 2000⟩) (fun y => ExplB y.1 (m + 64) ∧ y.2 ≤ L.length) ?_ fun y hy => ?_
  ·refine rx (s := ?t2) [0, 2, 4, 6, 41] [0, 16, 24, 30, 31, 33, 32] [] rfl ?u2 ?v2
   case u2 =>
    simp
    refine callM1 (i := 0) rfl (e' := dice L a) (by simp) hcN (by simp) (by simp) ?_
    simp [Function.comp_def, hconv]
    rfl
   refine awp_block ?_
   have hc : c = 5 ∨ c = 6 := by
    by_cases h5 : c = 5
    ·exact .inl h5
    ·by_cases h6 : c = 6
     ·exact .inr h6
     ·have := hk7 h5 h6; omega
   have hun : ∀ r : List AV, List.take n (Z r) = Z r := fun r => List.take_of_length_le (Nat.le_of_eq (hlenZ r))
   rcases hc with rfl | rfl
   ·refine rx (s := ?s200) [0, 2, 4, 6, 41, 42] [0, 16, 24, 30, 31, 33, 32] [] rfl ?o200 ?q200
    case o200 => simp [Function.comp_def, hconv]; rfl
    refine awp_cond _ rfl (fun h => by cases h) fun _ => ?_
    refine rx (s := ?s201) [0, 2, 4, 6, 41, 49] [0, 16, 24, 30, 31, 33, 32] [] rfl ?o201 ?q201
    case o201 => simp [Function.comp_def, hconv]; rfl
    refine awp_cond _ rfl (fun h => by cases h) fun _ => ?_
    refine rx (s := ?s202) [0, 2, 4, 6, 41, 55] [0, 16, 24, 30, 31, 33, 32] [] rfl ?o202 ?q202
    case o202 => simp [Function.comp_def, hconv]; rfl
    refine awp_cond _ rfl (fun h => by cases h) fun _ => ?_
    refine rx (s := ?s203) [0, 2, 4, 6, 41, 65] [0, 16, 24, 30, 31, 33, 32] [] rfl ?o203 ?q203
    case o203 => simp [Function.comp_def, hconv]; rfl
    refine awp_cond _ rfl (fun h => by cases h) fun _ => ?_
    refine rx (s := ?s204) [0, 2, 4, 6, 41, 75] [0, 16, 24, 30, 31, 33, 32] [] rfl ?o204 ?q204
    case o204 => simp [Function.comp_def, hconv]; rfl
    refine awp_cond _ rfl (fun h => by cases h) fun _ => ?_
    refine rx (s := ?s205) [0, 2, 4, 6, 41, 85] [0, 16, 24, 30, 31, 33, 32] [] rfl ?o205 ?q205
    case o205 => simp [Function.comp_def, hconv]; rfl
    refine awp_cond _ rfl (fun _ => ?_) fun h => by cases h
    obtain rfl := hk5 rfl
    refine rx (s := ?s206) [0, 2, 4, 6, 90] [0, 16, 24, 30, 31, 33, 32] [] rfl ?o206 ?q206
    case o206 => simp [Function.comp_def, hconv]; rfl
    refine awp_cond _ rfl (fun _ => ?_) fun h => by simp at h; omega
    refine rx (s := ?s207) [0, 2, 4, 6, 9] [0, 16, 24, 30, 31, 33, 32] [] rfl ?o207 ?q207
    case o207 =>
     simp
     refine callM1 (i := 0) rfl (e' := dice L b1) (by simp) hkC (by simp) (by simp) ?_
     simp [Function.comp_def, hconv]
     rfl
    obtain ⟨d, b3, ⟨hb3, hd⟩, hcd⟩ := Next_a L b2 size hl hb2 (by omega) (by omega)
    refine awp_drw rfl ?_
    simp [hget]
    refine ⟨hkl, ?_⟩
    refine callM1 (i := 0) rfl (e' := dice L b2) (by simp) hcd (by simp) (by simp) ?_
    simp [hget, hset, splice]
    obtain ⟨P, hP⟩ : ∃ P : List (List Int), P = Q ++ [v ++ [(d : Int)]] ++ T := ⟨_, rfl⟩
    have hPm : (P.map fun w => [ints w]) = Z [.vs 1 false (List.map (fun n => [AV.I n]) v ++ [[AV.I d]])] := by rw [hP, hZ]; simp
    have hPl : P.length = n := by have h := congrArg List.length hPm; rw [List.length_map, hlenZ] at h; exact h
    have hd2 : ∀ (f : Int → List AV) (u : List AV), List.take (v.length + 1) (List.map f v ++ [u]) = List.map f v ++ [u] := fun f u => List.take_of_length_le (by simp)
    refine ⟨by omega, by omega, hkl, rfl, ⟨x.key, x.acc, x.before, P, x.side⟩, b3, ⟨⟨by simp only; omega, by simp only; omega, fun w hw => ?_, by simp only; omega⟩, by omega⟩, Le.go [(0, 0), (16, 16), (24, 24)] [30, 31, 1212, 32] rfl rfl (by simp) (by simp [Function.comp_def, take_map_len, hPm, hun, hconv, hlenZ, hd2])⟩
    rw [hP] at hw
    simp only [List.mem_append, List.mem_singleton] at hw
    rcases hw with (h | h) | h
    ·exact Nat.le_trans (hxw w (hQm w h)) (by omega)
    ·rw [h, List.length_append, List.length_singleton]; omega
    ·exact Nat.le_trans (hxw w (hTm w h)) (by omega)
   ·refine rx (s := ?s208) [0, 2, 4, 6, 41, 42] [0, 16, 24, 30, 31, 33, 32] [] rfl ?o208 ?q208
    case o208 => simp [Function.comp_def, hconv]; rfl
    refine awp_cond _ rfl (fun h => by cases h) fun _ => ?_
    refine rx (s := ?s209) [0, 2, 4, 6, 41, 49] [0, 16, 24, 30, 31, 33, 32] [] rfl ?o209 ?q209
    case o209 => simp [Function.comp_def, hconv]; rfl
    refine awp_cond _ rfl (fun h => by cases h) fun _ => ?_
    refine rx (s := ?s210) [0, 2, 4, 6, 41, 55] [0, 16, 24, 30, 31, 33, 32] [] rfl ?o210 ?q210
    case o210 => simp [Function.comp_def, hconv]; rfl
    refine awp_cond _ rfl (fun h => by cases h) fun _ => ?_
    refine rx (s := ?s211) [0, 2, 4, 6, 41, 65] [0, 16, 24, 30, 31, 33, 32] [] rfl ?o211 ?q211
    case o211 => simp [Function.comp_def, hconv]; rfl
    refine awp_cond _ rfl (fun h => by cases h) fun _ => ?_
    refine rx (s := ?s212) [0, 2, 4, 6, 41, 75] [0, 16, 24, 30, 31, 33, 32] [] rfl ?o212 ?q212
    case o212 => simp [Function.comp_def, hconv]; rfl
    refine awp_cond _ rfl (fun h => by cases h) fun _ => ?_
    refine rx (s := ?s213) [0, 2, 4, 6, 41, 85] [0, 16, 24, 30, 31, 33, 32] [] rfl ?o213 ?q213
    case o213 => simp [Function.comp_def, hconv]; rfl
    refine awp_cond _ rfl (fun h => by cases h) fun _ => ?_
    refine rx (s := ?s214) [0, 2, 4, 6, 41, 110] [0, 16, 24, 30, 31, 33, 32] [] rfl ?o214 ?q214
    case o214 => simp [Function.comp_def, hconv]; rfl
    refine awp_cond _ rfl (fun _ => ?_) fun h => by cases h
    obtain rfl := hk6 rfl
    refine awp_regc ⟨201, [(0, .pt 0 0 0), (2, .I size), (4, .pt 16 0 0), (6, .pt 24 0 0), (123, .B (decide (0 < v.length)))], [(0, some (dice L b1)), (16, some ⟨5, [[.I x.key, .B x.acc, .rs 30 0 x.before.length, .rs 32 0 n, .rs 31 0 x.side.length]], 0⟩), (24, some ⟨5, [[.I 0, .B false, .nilS, .nilS, .nilS]], 0⟩), (30, some ⟨1, rowsI x.before, 0⟩), (31, some ⟨1, rowsI x.side, 0⟩), (33, some ⟨1, rowsI v, 0⟩), (32, some ⟨1, Z [.rs 33 0 v.length], 0⟩)], 1900⟩ rfl ?_ ?_
    ·simp [hget, hot]
     exact Le.go [(0, 0), (16, 16), (24, 24), (30, 30), (31, 31), (33, 33), (32, 32)] [] rfl rfl (by simp) (by simp [Function.comp_def, hconv])
    refine awp_cond _ rfl (fun h6 => ?_) fun h6 => ?_
    ·simp at h6
     obtain ⟨j, b3, ⟨hb3, hj⟩, hcj⟩ := Next_a L b1 v.length hl hb1 (by omega) (by omega)
     obtain ⟨d, b4, ⟨hb4, hd⟩, hcd⟩ := Next_a L b3 size hl hb3 (by omega) (by omega)
     have hjv : j < v.length := by omega
     refine awp_drw rfl ?_
     simp [hget, hot]
     refine callM1 (i := 0) rfl (e' := dice L b1) (by simp) hcj (by simp) (by simp) ?_
     simp [hget, hot]
     refine callM1 (i := 0) rfl (e' := dice L b3) (by simp) hcd (by simp) (by simp) ?_
     simp [hjv, splice]
     obtain ⟨P, hP⟩ : ∃ P : List (List Int), P = Q ++ [v.set j (d : Int)] ++ T := ⟨_, rfl⟩
     have hPm : (P.map fun w => [ints w]) = Z [.vs 1 false ((List.map (fun n => [AV.I n]) v).set j [AV.I d])] := by rw [hP, hZ]; simp [List.map_set]
     have hPl : P.length = n := by have h := congrArg List.length hPm; rw [List.length_map, hlenZ] at h; exact h
     have hd6 : ∀ (f : Int → List AV) (u : List AV), List.take v.length ((List.map f v).set j u) = (List.map f v).set j u := fun f u => List.take_of_length_le (by simp)
     refine ⟨rfl, ⟨x.key, x.acc, x.before, P, x.side⟩, b4, ⟨⟨by simp only; omega, by simp only; omega, fun w hw => ?_, by simp only; omega⟩, by omega⟩, Le.go [(0, 0), (16, 16), (24, 24)] [30, 31, 33, 32] rfl rfl (by simp) (by simp [Function.comp_def, take_map_len, hPm, hun, hconv, hlenZ, hd6])⟩
     rw [hP] at hw
     simp only [List.mem_append, List.mem_singleton] at hw
     rcases hw with (h | h) | h
     ·exact Nat.le_trans (hxw w (hQm w h)) (by omega)
     ·rw [h, List.length_set]; omega
     ·exact Nat.le_trans (hxw w (hTm w h)) (by omega)
    refine awp_skip ?_
    obtain ⟨P, hP⟩ : ∃ P : List (List Int), P = Q ++ [v] ++ T := ⟨_, rfl⟩
    have hPm : (P.map fun w => [ints w]) = Z [ints v] := by rw [hP, hZ]; simp
    have hPl : P.length = n := by have h := congrArg List.length hPm; rw [List.length_map, hlenZ] at h; exact h
    refine ⟨(⟨x.key, x.acc, x.before, P, x.side⟩, b1), ⟨⟨by simp only; omega, by simp only; omega, fun w hw => ?_, by simp only; omega⟩, by omega⟩, Le.go [(0, 0), (16, 16), (24, 24)] [30, 31, 33, 32] rfl rfl (by simp) (by simp [Function.comp_def, take_map_len, hPm, hun, hconv, hlenZ])⟩
    rw [hP] at hw
    simp only [List.mem_append, List.mem_singleton] at hw
    rcases hw with (h | h) | h
    ·exact Nat.le_trans (hxw w (hQm w h)) (by omega)
    ·rw [h]; omega
    ·exact Nat.le_trans (hxw w (hTm w h)) (by omega)
  obtain ⟨y, b⟩ := y
  refine rx (s := ?s91) [6] [0, 24] [16] rfl ?o91 ?q91
  case o91 => simp [splice]; rfl
  refine awp_ret ?_
  exact PostX.mk (.inr rfl) (y, b) hy ⟨_, rfl, [], [24], by simp [List.range, List.range.loop], by simp, by simp, by simp [List.range, List.range.loop], by simp [List.range, List.range.loop]⟩
variable {g : Gr} {p : Pol}
theorem accR_app : ∀ (b a : List Int), ∃ l, accR g p (a ++ b) = accR g p a ++ l ∧ ∀ x ∈ l, x ∈ b
 | [], a => ⟨[], by simp, by simp⟩
 | x :: b, a => by
  obtain ⟨l, hl, hm⟩ := accR_app b (a ++ [x])
  have e : a ++ x :: b = a ++ [x] ++ b := by simp
  rw [e, hl]
  rcases accR_step (g := g) (p := p) a x with h | h
  ·exact ⟨l, by rw [h], fun y hy => List.mem_cons_of_mem _ (hm y hy)⟩
  ·refine ⟨[x] ++ l, by rw [h, List.append_assoc], fun y hy => ?_⟩
   rcases List.mem_append.1 hy with h | h
   ·rw [List.mem_singleton.1 h]; exact List.mem_cons_self
   ·exact List.mem_cons_of_mem _ (hm y h)
theorem accR_iff {o : List Int} (hn : o.Nodup) {i : Nat} (h : i < o.length) : o[i] ∈ accR g p o ↔ CanServe g p (joinL (accR g p (o.take i) ++ [o[i]])) := by
 have hs : o.take (i + 1) = o.take i ++ [o[i]] := List.take_succ_eq_append_getElem h
 obtain ⟨l, hl, hm⟩ := accR_app (g := g) (p := p) (o.drop (i + 1)) (o.take (i + 1))
 rw [List.take_append_drop] at hl
 have hni : o[i] ∉ o.take i := fun hx => by
  obtain ⟨j, hj, e⟩ := List.mem_take_iff_getElem.1 hx
  have := (List.getElem_inj hn).1 e
  omega
 have hnd : o[i] ∉ o.drop (i + 1) := fun hx => by
  obtain ⟨j, hj, e⟩ := List.mem_drop_iff_getElem.1 hx
  have := (List.getElem_inj hn).1 e
  omega
 constructor
 ·intro hx
  by_cases hc : CanServe g p (joinL (accR g p (o.take i) ++ [o[i]]))
  ·exact hc
  ·rw [hl, hs, accR_no hc] at hx
   rcases List.mem_append.1 hx with h1 | h1
   ·exact absurd (accR_mem h1) hni
   ·exact absurd (hm _ h1) hnd
 ·intro hc
  rw [hl, hs, accR_yes hc]
  exact List.mem_append_left _ (List.mem_append_right _ (List.mem_singleton.2 rfl))
theorem befL_acc {o : List Int} (hn : o.Nodup) : ∀ i, i ≤ o.length → befL o (accR g p o) i = accR g p (o.take i)
 | 0, _ => by simp [befL, accR_nil]
 | i + 1, h => by
  have hi : i < o.length := h
  rw [befL_succ hi, befL_acc hn i (by omega), List.take_succ_eq_append_getElem hi]
  by_cases hc : CanServe g p (joinL (accR g p (o.take i) ++ [o[i]]))
  ·rw [if_pos ((accR_iff hn hi).2 hc), accR_yes hc]
  ·rw [if_neg (fun h => hc ((accR_iff hn hi).1 h)), accR_no hc, List.append_nil]
theorem pairwise_nodup {l : List Int} (h : l.Pairwise (· < ·)) : l.Nodup := h.imp fun h => by omega
theorem join_perm {a : List Int} (hn : a.Nodup) (hr : ∀ k ∈ a, 0 ≤ k ∧ k < 64) : a.Perm (joinL a) := by
 rw [← srt_join hn hr]
 exact (srt_perm a).symm
theorem join_len {a : List Int} (hn : a.Nodup) (hr : ∀ k ∈ a, 0 ≤ k ∧ k < 64) : (joinL a).length = a.length := (join_perm hn hr).length_eq.symm
structure AtO (g : Gr) (p : Pol) (key : Int) (before : List Int) : Prop where
 mem : key ∈ ordL (levelG g p.lv) p.seeds
 bef : BeforeP (ordL (levelG g p.lv) p.seeds) before key
 nodup : (before ++ [key]).Nodup
 range : ∀ k ∈ before ++ [key], 0 ≤ k ∧ k < g.size
 serve : key ∈ accR g p (ordL (levelG g p.lv) p.seeds) ↔ CanServe g p (joinL (before ++ [key]))
theorem aheadO_take {o : List Int} (hn : o.Nodup) {i : Nat} (h : i < o.length) : aheadO o o[i] = o.take i := by
 unfold aheadO
 rw [List.takeWhile_eq_take_findIdx_not]
 congr 1
 rw [List.findIdx_eq h]
 refine ⟨by simp, fun j hj => ?_⟩
 have : o[j] ≠ o[i] := fun e => by have := (List.getElem_inj hn).1 e; omega
 simp [this]
theorem ForR.at_ {key : Int} {x : Expl} (h : ForR g p (ordL (levelG g p.lv) p.seeds) key x) (hg : GrOk g) : x.key = key ∧ AtO g p key x.before ∧ ∃ i, ∃ hi : i < (ordL (levelG g p.lv) p.seeds).length, (ordL (levelG g p.lv) p.seeds)[i] = key ∧ x.before = accR g p ((ordL (levelG g p.lv) p.seeds).take i) := by
 have hn := ordL_nodup (levelG g p.lv) p.seeds
 have hr : ∀ k ∈ ordL (levelG g p.lv) p.seeds, 0 ≤ k ∧ k < g.size := fun k hk => by have h := ordL_range hk; exact h
 obtain ⟨o, ho⟩ : ∃ o, o = ordL (levelG g p.lv) p.seeds := ⟨_, rfl⟩
 rw [← ho] at h hn hr ⊢
 obtain ⟨i, hi, hk, hb⟩ := h.bef
 rw [befL_acc hn i (by omega)] at hb
 refine ⟨h.key_, ?_, i, hi, hk, hb⟩
 have hsub : x.before.Sublist (aheadO o key) := by
  rw [hb, ← hk, aheadO_take hn hi]
  exact accR_sub _ _ rfl
 refine ⟨by rw [← ho, ← hk]; exact List.getElem_mem hi, by rw [← ho]; exact hsub, BeforeP.nodup (order := o) hsub hn, fun k hkm => ?_, ?_⟩
 ·rcases List.mem_append.1 hkm with h1 | h1
  ·refine hr k ?_
   rw [hb] at h1
   exact List.mem_of_mem_take (accR_mem h1)
  ·rw [List.mem_singleton.1 h1, ← hk]; exact hr _ (List.getElem_mem hi)
 ·rw [← ho, hb, ← hk]
  exact accR_iff hn hi
theorem AtO.joined {key : Int} {before : List Int} (h : AtO g p key before) (hg : GrOk g) : (joinL (before ++ [key])).Nodup ∧ (before ++ [key]).Perm (joinL (before ++ [key])) ∧ (∀ x ∈ joinL (before ++ [key]), 0 ≤ x ∧ x < g.size) := by
 have h64 := hg.1.2.1
 have hr : ∀ k ∈ before ++ [key], 0 ≤ k ∧ k < 64 := fun k hk => ⟨(h.range k hk).1, by have := (h.range k hk).2; omega⟩
 exact ⟨pairwise_nodup (joinL_lt _), join_perm h.nodup hr, fun x hx => h.range x (mem_joinL.1 hx).1⟩
theorem paths_serve {key : Int} {before : List Int} {W : List (List Nat)} (hg : GrOk g) (hp : PolOk g.size p) (ha : AtO g p key before) (hc : CanServe g p (joinL (before ++ [key]))) (hW : PathsW g p (before ++ [key]) W) :
  ServesR g p.lv p.seeds (ordL (levelG g p.lv) p.seeds) (capsL g p) (W.map (keysA (netA g p (joinL (before ++ [key]))))) (before ++ [key]) := by
 obtain ⟨f, g', hgf, ht, hl, _⟩ := hW
 obtain ⟨j1, j2, j3⟩ := ha.joined hg
 refine ways_checked hg hp j1 (fun x hx => (j3 x hx).1) j2 hgf.ok.fit ht.ways (fun i _ => ?_) ?_
 ·have h1 := ht.used i
  have h2 := ht.bal.nonneg i
  omega
 ·have : maxF (netN g) (netA g p (joinL (before ++ [key]))) = (joinL (before ++ [key])).length := hc
  omega
theorem ForR.yes_serves {key : Int} {x : Expl} (h : ForR g p (ordL (levelG g p.lv) p.seeds) key x) (hg : GrOk g) (hp : PolOk g.size p) (hk : key ∈ accR g p (ordL (levelG g p.lv) p.seeds)) :
  ServesR g p.lv p.seeds (ordL (levelG g p.lv) p.seeds) (capsL g p) x.paths (x.before ++ [key]) := by
 obtain ⟨_, ha, _⟩ := h.at_ hg
 obtain ⟨_, _, W, hW, hpa⟩ := h.yes hk
 rw [hpa]
 exact paths_serve hg hp ha (ha.serve.1 hk) hW
theorem ForR.no_proves {key : Int} {x : Expl} (h : ForR g p (ordL (levelG g p.lv) p.seeds) key x) (hg : GrOk g) (hp : PolOk g.size p) (hk : key ∉ accR g p (ordL (levelG g p.lv) p.seeds)) :
  ProvesP ⟨2 + 2 * g.size, netArcs g p (capsL g p) (joinL (x.before ++ [key]))⟩ x.side x.before.length := by
 obtain ⟨_, ha, i, hi, hik, hib⟩ := h.at_ hg
 obtain ⟨_, _, R, hR, hs⟩ := h.no hk
 obtain ⟨i', hi', hik', hn⟩ := hR.right _ hs
 simp only at hik' hn
 have hii : i' = i := (List.getElem_inj (ordL_nodup (levelG g p.lv) p.seeds)).1 (hik'.trans hik.symm)
 subst hii
 rw [← hib] at hn
 obtain ⟨j1, j2, j3⟩ := ha.joined hg
 have hfew := maxF_few hg hp j3
 have hno : maxF (netN g) (netA g p (joinL (x.before ++ [key]))) ≠ (joinL (x.before ++ [key])).length := hn.no
 have hlen := j2.length_eq
 rw [List.length_append, List.length_singleton] at hlen
 have hcut := hn.cut
 have hok := hn.ok
 rw [netN_int hg] at hok
 exact ⟨hok, by rw [hcut]; omega⟩
theorem ForR.checked {key : Int} {x : Expl} (h : ForR g p (ordL (levelG g p.lv) p.seeds) key x) (hg : GrOk g) (hp : PolOk g.size p) : checkC g p x = 0 := by
 rw [check_same hg.1.2.1]
 obtain ⟨hk, ha, _⟩ := h.at_ hg
 unfold checkR
 simp only
 rw [hk, if_neg (by simpa using ha.mem)]
 by_cases hacc : key ∈ accR g p (ordL (levelG g p.lv) p.seeds)
 ·obtain ⟨h1, h2, _⟩ := h.yes hacc
  rw [if_neg (by rw [h1, h2]; simpa using ha.bef), if_pos h1, if_pos (h.yes_serves hg hp hacc)]
 ·obtain ⟨h1, h2, _⟩ := h.no hacc
  rw [if_neg (by rw [h1, h2]; simpa using ha.bef), if_neg (by rw [h1]; simp), if_pos (h.no_proves hg hp hacc)]
theorem ForR.bounds {key : Int} {x : Expl} (h : ForR g p (ordL (levelG g p.lv) p.seeds) key x) (hg : GrOk g) (hp : PolOk g.size p) : ExplB x 200 := by
 have hol : (ordL (levelG g p.lv) p.seeds).length ≤ 64 := by
  have h1 := ordL_len (g := levelG g p.lv) (S := p.seeds) hg.1.1
  have h2 : (levelG g p.lv).size = g.size := rfl
  have h3 := hg.1.2.1
  omega
 obtain ⟨_, ha, i, hi, hik, hib⟩ := h.at_ hg
 obtain ⟨j1, j2, j3⟩ := ha.joined hg
 have hbl : x.before.length ≤ 64 := by
  rw [hib]
  refine Nat.le_trans (accR_len _) ?_
  rw [List.length_take]; omega
 by_cases hacc : key ∈ accR g p (ordL (levelG g p.lv) p.seeds)
 ·obtain ⟨_, h2, W, ⟨f, g', _, _, hl, hw⟩, hpa⟩ := h.yes hacc
  have hfew := maxF_few hg hp j3
  have hjl := joinL_len (x.before ++ [key])
  refine ⟨by omega, by rw [hpa, List.length_map]; omega, fun w hw' => ?_, by rw [h2]; simp⟩
  rw [hpa] at hw'
  obtain ⟨v, hv, rfl⟩ := List.mem_map.1 hw'
  have := keysA_len (netA g p (joinL (x.before ++ [key]))) v
  have := hw v hv
  omega
 ·obtain ⟨_, h2, R, hR, hs⟩ := h.no hacc
  obtain ⟨i', hi', hik', hn⟩ := hR.right _ hs
  have := hn.len
  simp only at this
  refine ⟨by omega, by rw [h2]; simp, fun w hw => ?_, by omega⟩
  rw [h2] at hw
  cases hw
def gW : Gr := ⟨3, [⟨0, 1, 1⟩, ⟨0, 2, 1⟩], []⟩
def pW : Pol := ⟨[0], [2], 1⟩
theorem gW_ok : GrOk gW := by
 refine ⟨⟨by decide +revert, by decide +revert, by decide +revert, fun i h => by simp [gW] at h⟩, fun i h => ?_⟩
 have : i = 0 ∨ i = 1 := by simp [gW] at h; omega
 rcases this with rfl | rfl
 ·exact ⟨by unfold Fits; simp [gW], by decide +revert, by decide +revert, fun h => by cases h⟩
 ·exact ⟨by unfold Fits; simp [gW], by decide +revert, by decide +revert, fun h => by decide +revert⟩
theorem pW_ok : PolOk gW.size pW := by
 refine ⟨by decide +revert, fun i h => ?_, by decide +revert, by decide +revert, by decide +revert, by decide +revert, fun i h => ?_⟩
 ·obtain rfl : i = 0 := by simp [pW] at h; omega
  exact ⟨by decide +revert, by decide +revert, fun h => by cases h⟩
 ·obtain rfl : i = 0 := by simp [pW] at h; omega
  exact ⟨by decide +revert, by decide +revert, fun h => by cases h⟩
theorem gW_order : ordL (levelG gW 1) [0] = [0, 1, 2] := by decide
theorem gW_caps : capsL gW pW = [2, 1, 1] := by decide
theorem paths_yes : PathsC gW pW [[0], [0, 1]] [0, 1] := by
 refine ⟨⟨gW_ok, pW_ok⟩, ⟨by decide +revert, by decide +revert⟩, ?_⟩
 unfold PathsE
 show ServesE (levelG gW 1) [0] (ordL (levelG gW 1) [0]) _ _ _
 rw [gW_caps, gW_order, servesE_iff]
 refine ⟨fun w hw => ?_, fun k h => ?_, rfl⟩
 ·simp at hw
  rcases hw with rfl | rfl
  ·exact ⟨⟨0, rfl, by decide +revert⟩, by decide +revert, by decide +revert, fun i h => by simp at h⟩
  ·refine ⟨⟨0, rfl, by decide +revert⟩, by decide +revert, by decide +revert, fun i h => ?_⟩
   obtain rfl : i = 0 := by simp at h; omega
   exact ⟨⟨0, 1, 1⟩, by decide +revert, by decide +revert⟩
 ·have : k = 0 ∨ k = 1 ∨ k = 2 := by simp at h; omega
  rcases this with rfl | rfl | rfl <;> decide +revert
theorem paths_no : ¬ PathsC gW pW [[0], [0, 1], [0, 2]] [0, 1, 2] := by
 intro h
 have h1 := h.2.2
 unfold PathsE at h1
 rw [gW_caps] at h1
 have h2 := (h1.2.1 0 (by decide +revert)).1
 revert h2
 decide
section
variable {P : Program} {np id : Nat} {h : Nat → Option Ent} {K : AV → List Nat → List (Nat × Option Ent) → Prop} {f : FuncId} {first capt args args' : List AV} {res : AV}
theorem call0w (sn : List Nat) (hc : ACalls P f args' [] res []) (hw : WkL ((first ++ args ++ capt).map (conv [] sn h 4)) args') (hp : Plain res)
  (hk : K (conv (((List.range 8).map (id + ·)).zipIdx.map fun (a, b) => (b, a)) [] (fun _ => none) 4 res) sn []) : aK P np id .call (.fn (.func f) first capt :: args) h K :=
 ⟨[], sn, false, args', [], res, [], by simp, by simp, by simp, by rw [List.zipIdx_nil]; exact hw, rfl, hc, by simp, .inr ⟨hp, by simp⟩, hk⟩
end
theorem wkG3 {a b c a' b' c' : AV} (h1 : Wk a a') (h2 : Wk b b') (h3 : Wk c c') : Wk (.agg [a, b, c]) (.agg [a', b', c']) :=
 .agg _ _ rfl fun i => match i with | 0 => h1 | 1 => h2 | 2 => h3 | _ + 3 => .refl _
set_option maxRecDepth 100000 in
open Classical in
theorem awake44_ok : ACalls Tryz.prog nlaw44_awake [] [] (.B true) [] := by
 refine slaw44_awake.acalls (Nat.le_of_ble_eq_true rfl) (Nat.le_of_ble_eq_true rfl) (Nat.le_refl _) ?_
 show awp _ 0 _ _ ⟨28, [], [], 16⟩
 have h1 := checker_Paths_ok gW pW [[0], [0, 1]] [0, 1] (by decide) (by decide) (by decide) (by decide) (by decide) (by decide) (by decide) (by decide)
 have h2 := checker_Paths_ok gW pW [[0], [0, 1], [0, 2]] [0, 1, 2] (by decide) (by decide) (by decide) (by decide) (by decide) (by decide) (by decide) (by decide)
 rw [decide_eq_true paths_yes] at h1
 rw [decide_eq_false paths_no] at h2
 refine rx (s := ?s1) [] [] [] rfl ?o1 ?q1
 case o1 => simp; rfl
 refine rk (s := ?s2) [1] [40, 56] rfl ?o2 ?q2
 case o2 => simp; rfl
 refine rk (s := ?s3) [1, 2] [40, 56, 72, 80, 96] rfl ?o3 ?q3
 case o3 => simp; rfl
 refine rx (s := ?s4) [0] [] [] rfl ?o4 ?q4
 case o4 =>
  simp
  refine call0w [40, 72, 80, 128, 136, 144, 152] h1 (by simp [gW, pW, Wk.refl]; exact ⟨wkG3 (.refl _) (.refl _) (.nil _ _), wkG3 (.refl _) (.refl _) (.refl _), .refl _, .refl _⟩) (.sc _) ?_
  simp
  refine call0w [40, 72, 80, 192, 200, 208, 216, 224] h2 (by simp [gW, pW, Wk.refl]; exact ⟨wkG3 (.refl _) (.refl _) (.nil _ _), wkG3 (.refl _) (.refl _) (.refl _), .refl _, .refl _⟩) (.sc _) ?_
  simp
  rfl
 refine awp_ret ?_
 exact ⟨.inr rfl, RetOk.one (by simp)⟩
theorem pathsCR {g : Gr} (p : Pol) (P : List (List Int)) (ends : List Int) : PathsC g p P ends ↔ PathsR g p P ends := by
 unfold PathsC PathsR PathsE Diff
 rw [servesE_iff]
 refine and_congr_right fun h => ?_
 rw [← paths_iff (size := g.size) fun k hk => by have h := ordL_range hk; exact h]
theorem roll_a (L : List Int) (hl : L.length ≤ 400) : ∃ (g : Gr) (b : Nat), (GrOk g ∧ 2 ≤ g.size ∧ g.size ≤ 9 ∧ b ≤ L.length) ∧ ACalls Tryz.prog nmade_Dice_Graph [.pt 0 0 0] [dice L 0] (eG g) [some (dice L b)] :=
 have h := graphD_made L 0 (Nat.zero_le _)
 ⟨_, _, ⟨h.ok, h.lo, h.hi, h.at_⟩, Graph_ok L 0 hl (Nat.zero_le _)⟩
variable {g : Gr} {p : Pol}
set_option maxRecDepth 100000 in
set_option maxHeartbeats 4000000 in
theorem All43_own (g : Gr) (p : Pol) (hg : GrOk g) (hp : PolOk g.size p) (hs : p.seeds.length ≤ 64) :
  ∃ X, AllR g p (ordL (levelG g p.lv) p.seeds) X ∧ ACalls Tryz.prog nref43_All [eG g, eP p] [] (.tup [.rs 0 0 X.length, .I 0]) [some ⟨5, X.map xE, 0⟩] := by
 refine sref43_All.acallsX (args := [eG g, eP p]) (hs := []) (fun X => .tup [.rs 0 0 X.length, .I 0]) (fun X => [some ⟨5, X.map xE, 0⟩]) (fun X : List Expl => AllR g p (ordL (levelG g p.lv) p.seeds) X) (Nat.le_of_ble_eq_true rfl) (Nat.le_of_ble_eq_true rfl) (fun _ => Nat.zero_le _) ?_
 show awp _ 0 _ _ ⟨45, [(0, eG g), (1, eP p)], [], 16⟩
 have hsz := hg.1.1
 have hsz2 := hg.1.2.1
 have hel := hg.edges_le
 have hgl := hg.gone_le
 have hchk := ref13_Check_ok g p (by omega) (by omega) (by omega) (by have := hp.2.2.2.1; omega)
 rw [if_pos hg, if_pos hp] at hchk
 have hre := Reached_ok g p hg (by omega)
 have hfor := fun key h => For_a g p key hg hp hs h
 obtain ⟨o, ho⟩ : ∃ o, o = ordL (levelG g p.lv) p.seeds := ⟨_, rfl⟩
 have hol : o.length ≤ 64 := by
  have h1 := ordL_len (g := levelG g p.lv) (S := p.seeds) hsz
  have h2 : (levelG g p.lv).size = g.size := rfl
  rw [← ho] at h1
  omega
 rw [← ho] at hre hfor ⊢
 refine awp_regc ⟨45, [(2, .pv (gC g)), (3, .pv (pC p))], [], 100⟩ rfl ?_ ?_
 ·simp
  exact Le.go [] [16, 24] rfl rfl (by simp) (by simp)
 refine awp_seq ?_
 refine awp_regc ⟨45, [(2, .pv (gC g)), (3, .pv (pC p)), (6, .I 0)], [], 200⟩ rfl ?_ ?_
 ·simp
  refine call0e hchk (by simp) ?_
  simp
  exact Le.go [] [] rfl rfl (by simp) (by simp)
 refine awp_regc ⟨45, [(2, .pv (gC g)), (3, .pv (pC p)), (16, .B false)], [], 300⟩ rfl ?_ ?_
 ·simp
  exact Le.go [] [] rfl rfl (by simp) (by simp)
 refine awp_cond _ rfl (fun h => by cases h) fun _ => ?_
 refine awp_skip ?_
 refine awp_regc ⟨45, [(2, .pv (gC g)), (3, .pv (pC p)), (7, ints o)], [], 400⟩ rfl ?_ ?_
 ·simp
  refine callN1 hre (by simp) ?_
  simp
  exact Le.go [] [316] rfl rfl (by simp [take_map_len, Function.comp_def]) (by simp)
 refine awp_regc ⟨45, [(2, .pv (gC g)), (3, .pv (pC p)), (7, ints o), (8, .nilS)], [], 500⟩ rfl ?_ ?_
 ·simp
  exact Le.go [] [] rfl rfl (by simp) (by simp)
 refine awp_seq ?_
 refine awp_regc ⟨45, [(2, .pv (gC g)), (3, .pv (pC p)), (7, ints o), (8, .nilS), (9, .I 0)], [], 600⟩ rfl ?_ ?_
 ·simp
  exact Le.go [] [] rfl rfl (by simp) (by simp)
 refine awp_block ?_
 refine awp_loop (ι := ASt) (fun s => ⟨45, [(2, .pv (gC g)), (3, .pv (pC p)), (7, ints o), (8, .rs 17 0 s.X.length), (9, .I s.X.length)], [(17, some ⟨5, s.X.map xE, 0⟩)], 600⟩)
  (fun s => s.X.length ≤ o.length ∧ ∀ i (h1 : i < s.X.length) (h2 : i < o.length), ForR g p o o[i] s.X[i]) (fun s => o.length - s.X.length) ⟨[]⟩ ⟨Nat.zero_le _, fun i h => absurd h (Nat.not_lt_zero _)⟩
  (Le.lst [] [] [(17, 5)] rfl (by simp) (by simp) (by simp) (by simp) (by simp) (by simp) (by simp) (by simp [Up]) (by simp)) ?_
 rintro ⟨X⟩ ⟨hX, hXr⟩
 simp only at hX hXr
 refine awp_seq ?_
 refine awp_regc ⟨45, [(2, .pv (gC g)), (3, .pv (pC p)), (7, ints o), (8, .rs 17 0 X.length), (9, .I X.length), (24, .B (decide (X.length < o.length)))], [(17, some ⟨5, X.map xE, 0⟩)], 700⟩ rfl ?_ ?_
 ·simp
  exact Le.go [(17, 17)] [] rfl rfl (by simp) (by simp [Function.comp_def])
 refine awp_cond _ rfl (fun h5 => ?_) fun h5 => ?_
 ·simp at h5
  have hwi : IntKind.i64.wrap ((X.length : Int) + 1) = ((X.length + 1 : Nat) : Int) := by rw [w64 (by omega) (by omega)]; omega
  have hoi : o[X.length]? = some o[X.length] := List.getElem?_eq_getElem h5
  obtain ⟨x, hx, hc⟩ := hfor _ (List.getElem_mem h5)
  obtain ⟨k, hk⟩ : ∃ k, k = o[X.length] := ⟨_, rfl⟩
  rw [← hk] at hoi hc
  refine awp_skip ?_
  refine awp_seq ?_
  refine awp_block ?_
  refine awp_dregc ⟨45, [(2, .pv (gC g)), (3, .pv (pC p)), (7, ints o), (8, .rs 17 0 X.length), (9, .I X.length), (10, .pv (xE x)), (11, .I 0)], [(17, some ⟨5, X.map xE, 0⟩)], 900⟩ rfl ?_ ?_
  ·simp [hoi, ← hk, h5]
   refine call0e hc (by simp) ?_
   simp
   exact ⟨rfl, Le.go [(17, 17)] [780] rfl rfl (by simp) (by simp [Function.comp_def])⟩
  refine awp_seq ?_
  refine awp_regc ⟨45, [(2, .pv (gC g)), (3, .pv (pC p)), (7, ints o), (8, .rs 17 0 X.length), (9, .I X.length), (10, .pv (xE x)), (38, .B false)], [(17, some ⟨5, X.map xE, 0⟩)], 1000⟩ rfl ?_ ?_
  ·simp
   exact Le.go [(17, 17)] [] rfl rfl (by simp) (by simp [Function.comp_def])
  refine awp_cond _ rfl (fun h => by cases h) fun _ => ?_
  refine awp_skip ?_
  have htX : ∀ h : Expl → List AV, List.take X.length (List.map h X) = List.map h X := fun h => List.take_of_length_le (by simp)
  refine awp_run (s := ?s19) rfl ?o19 ?q19
  case o19 => simp [htX]; refine ⟨by omega, by omega, ?_⟩; rfl
  refine awp_run (s := ?s20) rfl ?o20 ?q20
  case o20 => simp; rfl
  have hxl : (X ++ [x]).length = X.length + 1 := by simp
  refine ⟨⟨X ++ [x]⟩, ⟨by simp only [hxl]; omega, fun i h1 h2 => ?_⟩, by simp only [hxl]; omega, Le.go [(1024, 17)] [] rfl rfl (by simp [hwi]) (by simp [Function.comp_def])⟩
  have h1' : i < X.length + 1 := by rw [← hxl]; exact h1
  by_cases hi : i < X.length
  ·rw [List.getElem_append_left hi]
   exact hXr i hi h2
  ·obtain rfl : i = X.length := by omega
   rw [List.getElem_concat_length rfl]
   exact hx
 simp at h5
 refine awp_exit ?_
 refine hit ?_
 have htX : ∀ h : Expl → List AV, List.take X.length (List.map h X) = List.map h X := fun h => List.take_of_length_le (by simp)
 refine awp_regc ⟨45, [(4, .rs 17 0 X.length), (5, .I 0)], [(17, some ⟨5, X.map xE, 0⟩)], 800⟩ rfl ?_ ?_
 ·simp
  exact Le.go [(17, 17)] [] rfl rfl (by simp) (by simp [Function.comp_def])
 refine awp_ret ?_
 exact PostX.mk (.inr rfl) X ⟨by omega, hXr⟩ (RetOk.out [17] [] rfl (by simp) (by simp) (by simp) (by simp [Function.comp_def]))
def ServedP (g : Gr) (p : Pol) (ks : List Int) : Prop := Rise ks 0 (g.size - 1) ∧ (∀ k ∈ ks, 0 ≤ dist (levelG g p.lv) p.seeds k) ∧ CanServe g p ks
set_option maxRecDepth 100000 in
set_option maxHeartbeats 4000000 in
open Classical in
theorem Served_ok (g : Gr) (p : Pol) (ks : List Int) (hg : GrOk g) (hp : PolOk g.size p) (hs : p.seeds.length ≤ 64) (hl : ks.length ≤ 140737488355328) :
  ACalls Tryz.prog nref17_Served [eG g, eP p, ints ks] [] (.B (decide (ServedP g p ks))) [] := by
 refine sref17_Served.acalls (Nat.le_of_ble_eq_true rfl) (Nat.le_of_ble_eq_true rfl) (Nat.le_refl _) ?_
 show awp _ 0 _ _ ⟨53, [(0, eG g), (1, eP p), (2, ints ks)], [], 16⟩
 have hsz := hg.1.1
 have hsz2 := hg.1.2.1
 have hel := hg.edges_le
 have hgl := hg.gone_le
 have hchk := ref13_Check_ok g p (by omega) (by omega) (by omega) (by have := hp.2.2.2.1; omega)
 rw [if_pos hg, if_pos hp] at hchk
 have hset := ref11_Set_ok ks g.size hl
 have hall := ref12_All_ok (levelG g p.lv) p.seeds (hg.level p.lv) (by omega)
 have hdl : (distL (levelG g p.lv) p.seeds).length = g.size.toNat := by rw [distL_len]; rfl
 obtain ⟨D, hD⟩ : ∃ D, D = distL (levelG g p.lv) p.seeds := ⟨_, rfl⟩
 rw [← hD] at hall hdl
 have hsz3 : (levelG g p.lv).size = g.size := rfl
 rw [hsz3, ← hdl] at hall
 refine awp_regc ⟨53, [(2, ints ks), (3, .pv (gC g)), (4, .pv (pC p))], [], 100⟩ rfl ?_ ?_
 ·simp
  exact Le.go [] [16, 24] rfl rfl (by simp) (by simp)
 refine awp_seq ?_
 refine awp_regc ⟨53, [(2, ints ks), (3, .pv (gC g)), (4, .pv (pC p)), (22, .B (decide (¬ Rise ks 0 (g.size - 1))))], [], 300⟩ rfl ?_ ?_
 ·simp
  refine call0e hchk (by simp) ?_
  simp
  refine call0e hset (by simp) ?_
  simp
  exact Le.go [] [] rfl rfl (by simp) (by simp)
 refine awp_cond _ rfl (fun h3 => ?_) fun h3 => ?_
 ·rw [decide_eq_true_eq] at h3
  have hno : ¬ ServedP g p ks := fun h => h3 h.1
  rw [decide_eq_false hno]
  refine rx (s := ?s4) [6] [] [] rfl ?o4 ?q4
  case o4 => simp; rfl
  refine awp_ret ?_
  exact ⟨.inr rfl, RetOk.one (by simp)⟩
 rw [decide_eq_false_iff_not, Decidable.not_not] at h3
 have hr := rise_in h3
 have hkl : ks.length ≤ 64 := by
  have := nodup_sub_len (a := ks) (b := (List.range 64).map Int.ofNat) h3.nodup.1 fun x hx => by
   have := hr x hx
   exact List.mem_map.2 ⟨x.toNat, List.mem_range.2 (by omega), by simp; omega⟩
  simpa using this
 refine awp_skip ?_
 refine awp_dregc ⟨53, [(2, ints ks), (3, .pv (gC g)), (4, .pv (pC p)), (7, ints D)], [], 500⟩ rfl ?_ ?_
 ·simp
  refine call0e (ref11_Level_ok g p.lv (by omega) (by omega)) (by simp) ?_
  simp
  refine callN1 hall (by simp) ?_
  simp [Function.comp_def]
  exact ⟨rfl, Le.go [] [348] rfl rfl (by simp [Function.comp_def, take_map_len]) (by simp)⟩
 refine awp_seq ?_
 refine awp_regc ⟨53, [(2, ints ks), (3, .pv (gC g)), (4, .pv (pC p)), (7, ints D), (8, .I 0)], [], 600⟩ rfl ?_ ?_
 ·simp
  exact Le.go [] [] rfl rfl (by simp) (by simp)
 refine awp_block ?_
 refine awp_loop (ι := Nat) (fun i => ⟨53, [(2, ints ks), (3, .pv (gC g)), (4, .pv (pC p)), (7, ints D), (8, .I i)], [], 600⟩) (fun i => i ≤ ks.length ∧ ∀ j (h : j < ks.length), j < i → 0 ≤ dist (levelG g p.lv) p.seeds ks[j]) (fun i => ks.length - i) 0 ⟨Nat.zero_le _, fun j h hj => absurd hj (Nat.not_lt_zero _)⟩ (Le.keep rfl (Nat.le_refl _) (by simp) (by simp)) ?_
 rintro i ⟨hi, hpre⟩
 refine awp_seq ?_
 refine rx (s := ?s5) [2, 3, 4, 7, 8, 33] [] [] rfl ?o5 ?q5
 case o5 => simp; rfl
 refine awp_cond _ rfl (fun h6 => ?_) fun h6 => ?_
 ·simp at h6
  have hwi : IntKind.i64.wrap ((i : Int) + 1) = (i : Int) + 1 := w64 (by omega) (by omega)
  have hri := hr _ (List.getElem_mem h6)
  obtain ⟨q, hq⟩ : ∃ q : Nat, ks[i] = q := ⟨ks[i].toNat, by omega⟩
  have hqD : q < D.length := by omega
  have hki : ks[i]? = some (q : Int) := by rw [List.getElem?_eq_getElem h6, hq]
  have hDq : D[q] = dist (levelG g p.lv) p.seeds q := by
   have h1 := distL_get (g := levelG g p.lv) (S := p.seeds) (k := q) (by rw [hsz3]; omega)
   rw [← hD, List.getD_eq_getElem?_getD, List.getElem?_eq_getElem hqD] at h1
   exact h1
  obtain ⟨v, hv⟩ : ∃ v, v = D[q] := ⟨_, rfl⟩
  have hDg : D[q]? = some v := by rw [List.getElem?_eq_getElem hqD, hv]
  refine awp_skip ?_
  refine awp_cut (ι := Unit) (fun _ => ⟨53, [(2, ints ks), (3, .pv (gC g)), (4, .pv (pC p)), (7, ints D), (8, .I i)], [], 900⟩) (fun _ => 0 ≤ v) ?_ fun _ hv0 => ?_
  ·refine awp_block ?_
   refine awp_regc ⟨53, [(2, ints ks), (3, .pv (gC g)), (4, .pv (pC p)), (7, ints D), (8, .I i), (43, .B (decide (v < 0)))], [], 800⟩ rfl ?_ ?_
   ·simp [hki, h6, hDg, hqD, hq]
    exact Le.go [] [] rfl rfl (by simp [← hv]) (by simp)
   refine awp_cond _ rfl (fun h7 => ?_) fun h7 => ?_
   ·rw [decide_eq_true_eq] at h7
    have hno : ¬ ServedP g p ks := fun h => by
     have := h.2.1 _ (List.getElem_mem h6)
     rw [hq, ← hDq, ← hv] at this
     omega
    rw [decide_eq_false hno]
    refine rx (s := ?s8) [6] [] [] rfl ?o8 ?q8
    case o8 => simp; rfl
    refine awp_ret ?_
    exact ⟨.inr rfl, RetOk.one (by simp)⟩
   ·rw [decide_eq_false_iff_not] at h7
    refine awp_skip ?_
    exact ⟨(), by omega, Le.go [] [] rfl rfl (by simp) (by simp)⟩
  refine awp_reg rfl ?_
  simp
  refine ⟨i + 1, ⟨by omega, fun j hj hji => ?_⟩, by omega, Le.go [] [] rfl rfl (by simp [hwi]) (by simp)⟩
  by_cases h : j < i
  ·exact hpre j hj h
  ·obtain rfl : j = i := by omega
   rw [hq, ← hDq, ← hv]
   exact hv0
 simp at h6
 refine awp_exit ?_
 refine hit ?_
 obtain ⟨f, hf, hsv⟩ := served_a g p ks hg hp h3 hs hkl
 have hiff : ServedP g p ks ↔ CanServe g p ks := ⟨fun h => h.2.2, fun h => ⟨h3, fun k hk => by
  obtain ⟨j, hj, rfl⟩ := List.mem_iff_getElem.1 hk
  exact hpre j hj (by omega), h⟩⟩
 have hdd : decide (ServedP g p ks) = decide (CanServe g p ks) := decide_eq_decide.2 hiff
 rw [hdd]
 refine awp_regc ⟨53, [(11, .B (decide (CanServe g p ks)))], [], 900⟩ rfl ?_ ?_
 ·simp
  refine callN1 hsv (by simp) ?_
  simp
  exact Le.go [] [] rfl rfl (by simp) (by simp)
 refine rx (s := ?s9) [6] [] [] rfl ?o9 ?q9
 case o9 => simp; rfl
 refine awp_ret ?_
 exact ⟨.inr rfl, RetOk.one (by simp)⟩
variable {g : Gr} {p : Pol}
theorem serves_can {P : List (List Int)} {ends : List Int} (hg : GrOk g) (hp : PolOk g.size p) (hr : ∀ k ∈ ends, 0 ≤ k ∧ k < g.size) (h : ServesR g p.lv p.seeds (ordL (levelG g p.lv) p.seeds) (capsL g p) P ends) : CanServe g p (joinL ends) := by
 have h64 := hg.1.2.1
 have hj := join_perm h.2.1 fun k hk => ⟨(hr k hk).1, by have := (hr k hk).2; omega⟩
 obtain ⟨f, hf, hv⟩ := served_flow hg hp (pairwise_nodup (joinL_lt ends)) hj h
 have hjr : ∀ x ∈ joinL ends, 0 ≤ x ∧ x < g.size := fun x hx => hr x (mem_joinL.1 hx).1
 have h1 := maxF_few hg hp hjr
 have h2 : valF (netA g p (joinL ends)) f ≤ maxF (netN g) (netA g p (joinL ends)) := maxF_ge (netA_ok hg hp hjr) hf
 have h3 : valF (netA g p (joinL ends)) f = (joinL ends).length := hv
 show maxF (netN g) (netA g p (joinL ends)) = (joinL ends).length
 omega
theorem proves_cannot {side : List Int} {ks : List Int} {m : Int} (hg : GrOk g) (hp : PolOk g.size p) (hr : ∀ k ∈ ks, 0 ≤ k ∧ k < g.size) (h : ProvesP ⟨2 + 2 * g.size, netArcs g p (capsL g p) ks⟩ side m) (hm : m < ks.length) : ¬ CanServe g p ks := by
 intro hc
 have hok := netA_ok hg hp hr
 obtain ⟨f, hf, hv⟩ := maxF_has hok
 obtain ⟨⟨_, _, h0, h1⟩, hcut⟩ := h
 have h2 := val_le_cut (S := fun x => decide (x ∈ side)) hok hf (by simpa using h0) (by simpa using h1)
 rw [← cutV_capS, hv] at h2
 have h3 : maxF (netN g) (netA g p ks) = ks.length := hc
 simp only at hcut
 have h4 : cutV (netA g p ks) side ≤ m := hcut
 omega
theorem checked_says {x : Expl} (hg : GrOk g) (hp : PolOk g.size p) (h : checkC g p x = 0) : (x.acc = true ↔ CanServe g p (joinL (x.before ++ [x.key]))) := by
 rw [check_same hg.1.2.1] at h
 have h64 := hg.1.2.1
 have hor : ∀ k ∈ ordL (levelG g p.lv) p.seeds, 0 ≤ k ∧ k < g.size := fun k hk => by have h := ordL_range hk; exact h
 unfold checkR at h
 simp only at h
 by_cases hk : x.key ∈ ordL (levelG g p.lv) p.seeds
 case neg => rw [if_pos hk] at h; cases h
 rw [if_neg (fun hn => hn hk)] at h
 by_cases hb : ¬ BeforeP (ordL (levelG g p.lv) p.seeds) x.before x.key ∨ (x.acc = true ∧ x.side ≠ []) ∨ (x.acc = false ∧ x.paths ≠ [])
 case pos => rw [if_pos hb] at h; cases h
 rw [if_neg hb] at h
 have hbef : BeforeP (ordL (levelG g p.lv) p.seeds) x.before x.key := Classical.byContradiction fun hn => hb (.inl hn)
 have hnd := hbef.nodup (ordL_nodup _ _)
 have hsub : ∀ k ∈ x.before, k ∈ ordL (levelG g p.lv) p.seeds := fun k hkm => by
  have h1 : k ∈ aheadO (ordL (levelG g p.lv) p.seeds) x.key := hbef.subset hkm
  exact List.takeWhile_subset _ h1
 have hr : ∀ k ∈ x.before ++ [x.key], 0 ≤ k ∧ k < g.size := fun k hkm => by
  rcases List.mem_append.1 hkm with h1 | h1
  ·exact hor k (hsub k h1)
  ·rw [List.mem_singleton.1 h1]; exact hor _ hk
 have hjl := join_len hnd fun k hk => ⟨(hr k hk).1, by have := (hr k hk).2; omega⟩
 cases hacc : x.acc with
 | true =>
  rw [if_pos hacc] at h
  by_cases hs : ServesR g p.lv p.seeds (ordL (levelG g p.lv) p.seeds) (capsL g p) x.paths (x.before ++ [x.key])
  ·exact ⟨fun _ => serves_can hg hp hr hs, fun _ => rfl⟩
  ·rw [if_neg hs] at h; cases h
 | false =>
  rw [if_neg (by rw [hacc]; simp)] at h
  by_cases hs : ProvesP ⟨2 + 2 * g.size, netArcs g p (capsL g p) (joinL (x.before ++ [x.key]))⟩ x.side x.before.length
  ·refine ⟨(fun h => by cases h), fun hc => ?_⟩
   exact absurd hc (proves_cannot hg hp (fun k hk => hr k (mem_joinL.1 hk).1) hs (by rw [hjl, List.length_append, List.length_singleton]; omega))
  ·rw [if_neg hs] at h; cases h
theorem firstE_zero {chk : Expl → Int} : ∀ {X : List Expl}, firstE chk X = 0 → ∀ x ∈ X, chk x = 0
 | [], _, x, hx => nomatch hx
 | y :: X, h, x, hx => by
  by_cases hy : chk y = 0
  ·have h2 : firstE chk X = 0 := by
    unfold firstE at h
    simpa [hy] using h
   rcases List.mem_cons.1 hx with rfl | hx
   ·exact hy
   ·exact firstE_zero h2 x hx
  ·have h2 : firstE chk (y :: X) = chk y := firstE_at (i := 0) (by simp) (fun j _ hj => absurd hj (Nat.not_lt_zero _)) hy
   exact absurd (h2 ▸ h) hy
theorem all_sound {X : List Expl} (hg : GrOk g) (hp : PolOk g.size p) (h : (allAns g p X).2 = 0) : (allAns g p X).1 = accR g p (ordL (levelG g p.lv) p.seeds) := by
 unfold allAns at h ⊢
 rw [if_pos ⟨hg, hp⟩] at h ⊢
 obtain ⟨o, ho⟩ : ∃ o, o = ordL (levelG g p.lv) p.seeds := ⟨_, rfl⟩
 rw [← ho] at h ⊢
 unfold allV at h ⊢
 by_cases h1 : X.length = o.length ∧ InOrder o X X.length
 case neg => rw [if_neg h1] at h; cases h
 rw [if_pos h1] at h ⊢
 by_cases h2 : firstE (checkAll g p) X = 0
 case neg => rw [if_neg h2] at h; exact absurd h h2
 rw [if_pos h2]
 obtain ⟨hlen, hio⟩ := h1
 have hz := firstE_zero h2
 have key : ∀ i, i ≤ X.length → accX (X.take i) = accR g p (o.take i) := by
  intro i
  induction i with
  | zero => intro _; simp [accX, accR_nil]
  | succ i ih =>
   intro hi
   have hiX : i < X.length := hi
   have hio2 : i < o.length := by omega
   obtain ⟨hk, hb⟩ := hio i hiX hio2 hiX
   have ih := ih (by omega)
   have hc := hz _ (List.getElem_mem hiX)
   unfold checkAll at hc
   rw [if_pos hg, if_pos hp] at hc
   have hs := checked_says hg hp hc
   rw [hb, hk, ih] at hs
   rw [accX_succ hiX, ih, List.take_succ_eq_append_getElem hio2]
   by_cases hcs : CanServe g p (joinL (accR g p (o.take i) ++ [o[i]]))
   ·rw [if_pos (hs.2 hcs), accR_yes hcs, hk]
   ·rw [if_neg (fun h => hcs (hs.1 h)), accR_no hcs, List.append_nil]
 have := key X.length (Nat.le_refl _)
 rw [List.take_length] at this
 rw [hlen, List.take_length] at this
 exact this
theorem all_bad {X : List Expl} (hg : GrOk g) (hp : PolOk g.size p) (h : (allAns g p X).2 ≠ 0) : (allAns g p X).1 = [] := by
 unfold allAns at h ⊢
 rw [if_pos ⟨hg, hp⟩] at h ⊢
 unfold allV at h ⊢
 by_cases h1 : X.length = (ordL (levelG g p.lv) p.seeds).length ∧ InOrder (ordL (levelG g p.lv) p.seeds) X X.length
 ·rw [if_pos h1] at h ⊢
  by_cases h2 : firstE (checkAll g p) X = 0
  ·rw [if_pos h2] at h; exact absurd rfl h
  ·rw [if_neg h2]
 ·rw [if_neg h1]
theorem paths_served {P : List (List Int)} {ends : List Int} (h : PathsC g p P ends) : ServedP g p (joinL ends) := by
 have h1 := (pathsCR p P ends).1 h
 obtain ⟨⟨hg, hp⟩, hs⟩ := h1
 have hor : ∀ k ∈ ordL (levelG g p.lv) p.seeds, (0 ≤ k ∧ k < g.size) ∧ 0 ≤ dist (levelG g p.lv) p.seeds k := fun k hk => ⟨by have h := ordL_range hk; exact h, ((mem_ordL (hg.level p.lv)).1 hk).2⟩
 have hperm : (lasts P).Perm ends := perm_of_nodup_sub hs.2.2.2.2.1 hs.2.2.2.1 (by rw [lasts_len fun w hw => (hs.2.2.1 w hw).ne, hs.1]; exact Nat.le_refl _)
 have hin : ∀ k ∈ ends, k ∈ ordL (levelG g p.lv) p.seeds := fun k hk => by
  obtain ⟨w, hw, hkw⟩ := lasts_mem (hperm.symm.subset hk)
  exact (hs.2.2.1 w hw).2.1 k hkw
 have hr : ∀ k ∈ ends, 0 ≤ k ∧ k < g.size := fun k hk => (hor k (hin k hk)).1
 refine ⟨rise_of_pair (joinL_lt ends) fun k hk => hr k (mem_joinL.1 hk).1, fun k hk => (hor k (hin k (mem_joinL.1 hk).1)).2, serves_can hg hp hr hs⟩
set_option maxRecDepth 100000 in
set_option maxHeartbeats 4000000 in
open Classical in
theorem law44_CheckerSound_ok (L : List Int) :
  ACalls Tryz.prog nlaw44_CheckerSound [ints L] [] (.B true) [] := by
 refine slaw44_CheckerSound.acalls (Nat.le_of_ble_eq_true rfl) (Nat.le_of_ble_eq_true rfl) (Nat.le_refl _) ?_
 show awp _ 0 _ _ ⟨126, [(0, ints L)], [], 16⟩
 refine rx (s := ?s1) [0] [] [] rfl ?o1 ?q1
 case o1 => simp; rfl
 refine awp_seq ?_
 refine rx (s := ?s2) [0, 17] [] [] rfl ?o2 ?q2
 case o2 => simp; refine call0e (mk_Light_ok L) (by simp) ?_; simp; rfl
 refine awp_cond _ rfl (fun h3 => ?_) fun h3 => ?_
 ·refine rx (s := ?s4) [2] [] [] rfl ?o4 ?q4
  case o4 => simp; refine call0e awake44_ok (by simp) ?_; simp; rfl
  refine awp_ret ?_
  exact ⟨.inr rfl, RetOk.one (by simp)⟩
 simp at h3
 obtain ⟨g, b1, ⟨hg, hg2, hg9, hb1⟩, hcg⟩ := roll_a L h3
 obtain ⟨⟨p, b2⟩, ⟨hp1, hp2, hp3, hb2⟩, hcp⟩ := Policy_a L b1 g h3 hb1 (by omega) (by omega)
 simp only at hp1 hp2 hp3 hb2 hcp
 have hel := hg.edges_le
 have hgl := hg.gone_le
 refine awp_skip ?_
 refine awp_regc ⟨126, [(3, .pt 20 0 0)], [(20, some (dice L 0))], 100⟩ rfl ?_ ?_
 ·simp
  refine callN1 (Roll_ok L) (by simp) ?_
  simp
  exact Le.go [(56, 20)] [] rfl rfl (by simp) (by simp)
 refine awp_regc ⟨126, [(3, .pt 20 0 0), (4, .pv (gC g))], [(20, some (dice L b1))], 200⟩ rfl ?_ ?_
 ·simp
  refine callM1 (i := 20) rfl (e' := dice L 0) (by simp) hcg (by simp) (by simp) ?_
  simp
  exact Le.go [(20, 20)] [116] rfl rfl (by simp) (by simp)
 refine awp_regc ⟨126, [(3, .pt 20 0 0), (4, .pv (gC g)), (5, .pv (pC p))], [(20, some (dice L b2))], 300⟩ rfl ?_ ?_
 ·simp
  refine callM1 (i := 20) rfl (e' := dice L b1) (by simp) hcp (by simp) (by simp) ?_
  simp
  exact Le.go [(20, 20)] [224] rfl rfl (by simp) (by simp)
 obtain ⟨X0, ⟨hX0l, hX0⟩, hXc⟩ := All43_own g p hg hp1 (by omega)
 have hol : (ordL (levelG g p.lv) p.seeds).length ≤ 64 := by
  have h1 := ordL_len (g := levelG g p.lv) (S := p.seeds) hg.1.1
  have h2 : (levelG g p.lv).size = g.size := rfl
  omega
 have hXb : ∀ i (h : i < X0.length), ExplB X0[i] 200 := fun i h => (hX0 i h (by omega)).bounds hg hp1
 have hX0l' : X0.length ≤ 64 := by omega
 clear hX0
 refine awp_regc ⟨126, [(3, .pt 20 0 0), (4, .pv (gC g)), (5, .pv (pC p)), (6, .rs 40 0 X0.length), (7, .I 0)], [(20, some (dice L b2)), (40, some ⟨5, X0.map xE, 0⟩)], 400⟩ rfl ?_ ?_
 ·simp
  refine callN1 hXc (by simp) ?_
  simp [Function.comp_def]
  exact Le.go [(20, 20), (316, 40)] [] rfl rfl (by simp) (by simp [Function.comp_def])
 refine awp_seq ?_
 refine awp_regc ⟨126, [(3, .pt 20 0 0), (4, .pv (gC g)), (5, .pv (pC p)), (6, .rs 40 0 X0.length), (33, .B false)], [(20, some (dice L b2)), (40, some ⟨5, X0.map xE, 0⟩)], 500⟩ rfl ?_ ?_
 ·simp
  exact Le.go [(20, 20), (40, 40)] [] rfl rfl (by simp) (by simp [Function.comp_def])
 refine awp_cond _ rfl (fun h => by cases h) fun _ => ?_
 refine awp_skip ?_
 refine awp_seq ?_
 refine awp_regc ⟨126, [(3, .pt 20 0 0), (4, .pv (gC g)), (5, .pv (pC p)), (6, .rs 40 0 X0.length), (8, .I 0)], [(20, some (dice L b2)), (40, some ⟨5, X0.map xE, 0⟩)], 600⟩ rfl ?_ ?_
 ·simp
  exact Le.go [(20, 20), (40, 40)] [] rfl rfl (by simp) (by simp [Function.comp_def])
 refine awp_block ?_
 refine awp_loop (ι := List Expl × (Nat × Nat)) (fun s => ⟨126, [(3, .pt 20 0 0), (4, .pv (gC g)), (5, .pv (pC p)), (6, .rs 40 0 s.1.length), (8, .I s.2.1)], [(20, some (dice L s.2.2)), (40, some ⟨5, s.1.map xE, 0⟩)], 700⟩)
  (fun s => s.1.length ≤ 64 ∧ s.2.1 ≤ s.1.length ∧ s.2.2 ≤ L.length ∧ (∀ i (h : i < s.1.length), ExplB s.1[i] (if i < s.2.1 then 264 else 200))) (fun s => s.1.length - s.2.1) (X0, (0, b2)) ⟨hX0l', Nat.zero_le _, hb2, fun i h => by rw [if_neg (Nat.not_lt_zero _)]; exact hXb i h⟩
  (Le.go [(20, 20), (40, 40)] [] rfl rfl (by simp) (by simp [Function.comp_def])) ?_
 clear hXb hX0l' hX0l hXc
 rintro ⟨X, i, b⟩ ⟨hXl, hi, hb, hXb⟩
 simp only at hXl hi hb hXb
 refine awp_seq ?_
 refine awp_regc ⟨126, [(3, .pt 20 0 0), (4, .pv (gC g)), (5, .pv (pC p)), (6, .rs 40 0 X.length), (8, .I i), (37, .B (decide (i < X.length)))], [(20, some (dice L b)), (40, some ⟨5, X.map xE, 0⟩)], 800⟩ rfl ?_ ?_
 ·simp
  exact Le.go [(20, 20), (40, 40)] [] rfl rfl (by simp) (by simp [Function.comp_def])
 refine awp_cond _ rfl (fun h17 => ?_) fun h17 => ?_
 ·simp at h17
  have hwi : IntKind.i64.wrap ((i : Int) + 1) = (i : Int) + 1 := w64 (by omega) (by omega)
  obtain ⟨x, hx⟩ : ∃ x, x = X[i] := ⟨_, rfl⟩
  have hgi : X[i]? = some x := by rw [List.getElem?_eq_getElem h17, hx]
  have hxB : ExplB x 200 := by have := hXb i h17; rw [if_neg (Nat.lt_irrefl i), ← hx] at this; exact this
  obtain ⟨o, b3, hb3, hco⟩ := One_a L b 5 h3 hb (by omega) (by omega)
  refine awp_skip ?_
  refine awp_cut (ι := Expl × Nat) (fun s => ⟨126, [(3, .pt 20 0 0), (4, .pv (gC g)), (5, .pv (pC p)), (6, .rs 40 0 X.length), (8, .I i)], [(20, some (dice L s.2)), (40, some ⟨5, (X.set i s.1).map xE, 0⟩)], 1500⟩) (fun s => ExplB s.1 264 ∧ s.2 ≤ L.length) ?_ ?_
  ·refine awp_block ?_
   refine awp_regc ⟨126, [(3, .pt 20 0 0), (4, .pv (gC g)), (5, .pv (pC p)), (6, .rs 40 0 X.length), (8, .I i), (41, .B o)], [(20, some (dice L b3)), (40, some ⟨5, X.map xE, 0⟩)], 1000⟩ rfl ?_ ?_
   ·simp
    refine callM1 (i := 20) rfl (e' := dice L b) (by simp) hco (by simp) (by simp) ?_
    simp
    exact Le.go [(20, 20), (40, 40)] [] rfl rfl (by simp) (by simp [Function.comp_def])
   cases o with
   | true =>
    refine awp_cond _ rfl (fun _ => ?_) fun h => by cases h
    obtain ⟨⟨y, b4⟩, ⟨hyB, hb4⟩, hcb⟩ := bend_a L b3 x g.size 200 h3 hb3 (by omega) (by omega) hxB (by omega)
    simp only at hyB hb4 hcb
    refine awp_drw rfl ?_
    simp [hgi, h17, ← hx]
    refine callM1 (i := 20) rfl (e' := dice L b3) (by simp) hcb (by simp) (by simp) ?_
    simp [hgi, h17, splice]
    refine ⟨rfl, y, b4, ⟨hyB, hb4⟩, Le.go [(20, 20), (40, 40)] [] rfl rfl (by simp) (by simp [Function.comp_def, List.map_set])⟩
   | false =>
    refine awp_cond _ rfl (fun h => by cases h) fun _ => ?_
    refine awp_skip ?_
    have hself : X.set i x = X := by rw [hx]; exact List.set_getElem_self h17
    refine ⟨(x, b3), ⟨⟨Nat.le_trans hxB.b (by omega), Nat.le_trans hxB.p (by omega), fun w hw => Nat.le_trans (hxB.w w hw) (by omega), Nat.le_trans hxB.s (by omega)⟩, hb3⟩, ?_⟩
    rw [hself]
    exact Le.go [(20, 20), (40, 40)] [] rfl rfl (by simp) (by simp [Function.comp_def])
  rintro ⟨y, b4⟩ ⟨hyB, hb4⟩
  simp only at hyB hb4
  refine awp_reg rfl ?_
  simp
  refine ⟨X.set i y, i + 1, b4, ⟨by rw [List.length_set]; exact hXl, by rw [List.length_set]; omega, hb4, fun j hj => ?_⟩, by rw [List.length_set]; omega, Le.go [(20, 20), (40, 40)] [] rfl rfl (by simp [hwi]) (by simp [Function.comp_def])⟩
  rw [List.getElem_set]
  by_cases hij : i = j
  ·rw [if_pos hij, if_pos (by omega)]; exact hyB
  ·rw [if_neg hij]
   have := hXb j (by rw [List.length_set] at hj; exact hj)
   by_cases hlt : j < i
   ·rw [if_pos hlt] at this; rw [if_pos (by omega)]; exact this
   ·rw [if_neg hlt] at this; rw [if_neg (by omega)]; exact this
 simp at h17
 obtain rfl : i = X.length := by omega
 refine awp_exit ?_
 refine hit ?_
 have hXs : ∀ x ∈ X, SmallX x := fun x hx => by
  obtain ⟨j, hj, rfl⟩ := List.mem_iff_getElem.1 hx
  have h := hXb j hj
  rw [if_pos hj] at h
  exact ⟨Nat.le_trans h.b (by omega), Nat.le_trans h.p (by omega), fun w hw => Nat.le_trans (h.w w hw) (by omega), Nat.le_trans h.s (by omega)⟩
 have hall := checker_All_any g p X (by omega) (by omega) (by omega) (by omega) (by omega) (by omega) hXs
 have hsound := all_sound (X := X) hg hp1
 have hbad := all_bad (X := X) hg hp1
 obtain ⟨A, hA⟩ : ∃ A, A = (allAns g p X).1 := ⟨_, rfl⟩
 obtain ⟨f, hf⟩ : ∃ f, f = (allAns g p X).2 := ⟨_, rfl⟩
 rw [← hA, ← hf] at hall
 rw [← hA, ← hf] at hsound hbad
 obtain ⟨⟨R, fl⟩, _, hrun⟩ := Run_a g p hg hp1 (by omega)
 simp only at hrun
 obtain ⟨acc, hacc⟩ : ∃ acc, acc = accR g p (ordL (levelG g p.lv) p.seeds) := ⟨_, rfl⟩
 have haccl : acc.length ≤ 64 := by rw [hacc]; exact Nat.le_trans (accR_len _) hol
 rw [← hacc] at hrun hsound
 have htX : ∀ h : Expl → List AV, List.take X.length (List.map h X) = List.map h X := fun h => List.take_of_length_le (by simp)
 refine awp_regc ⟨126, [(4, .pv (gC g)), (5, .pv (pC p)), (6, eXs X), (9, ints A), (10, .I f)], [], 1000⟩ rfl ?_ ?_
 ·simp
  refine call0k [40] (by simp) hall (by simp [Function.comp_def, htX]) ?_
  simp
  exact Le.go [] [40] rfl rfl (by simp [Function.comp_def, htX]) (by simp)
 refine awp_regc ⟨126, [(4, .pv (gC g)), (5, .pv (pC p)), (6, eXs X), (9, ints A), (10, .I f), (11, .pv [ints acc, ints fl, .vs 2 false (rowsR R)]), (12, .I 0)], [], 1200⟩ rfl ?_ ?_
 ·simp
  refine call0e hrun (by simp) ?_
  simp
  exact Le.go [] [1048] rfl rfl (by simp) (by simp)
 refine awp_seq ?_
 refine awp_regc ⟨126, [(4, .pv (gC g)), (5, .pv (pC p)), (6, eXs X), (87, .B false)], [], 1500⟩ rfl ?_ ?_
 ·by_cases hf0 : f = 0
  ·have hAa := hsound hf0
   have hsame := ref23_SameInts_ok A acc (by rw [hAa]; omega) (by omega)
   rw [hAa, decide_eq_true rfl] at hsame
   rw [hf0, hAa]
   simp
   refine call0e hsame (by simp) ?_
   simp
   exact Le.go [] [] rfl rfl (by simp) (by simp)
  ·have hAn := hbad hf0
   rw [hAn]
   have hfb : (f == 0) = false := by simp [hf0]
   have hfn : (f != 0) = true := by simp [hf0]
   simp [hfb, hfn]
   exact Le.go [] [] rfl rfl (by simp) (by simp)
 refine awp_cond _ rfl (fun h => by cases h) fun _ => ?_
 refine awp_skip ?_
 refine awp_seq ?_
 refine awp_regc ⟨126, [(4, .pv (gC g)), (5, .pv (pC p)), (6, eXs X), (13, .I 0)], [], 1600⟩ rfl ?_ ?_
 ·simp
  exact Le.go [] [] rfl rfl (by simp) (by simp)
 refine awp_block ?_
 refine awp_loop (ι := Nat) (fun i => ⟨126, [(4, .pv (gC g)), (5, .pv (pC p)), (6, eXs X), (13, .I i)], [], 1600⟩) (fun i => i ≤ X.length) (fun i => X.length - i) 0 (Nat.zero_le _) (Le.keep rfl (Nat.le_refl _) (by simp) (by simp)) ?_
 intro i hi
 refine awp_seq ?_
 refine rx (s := ?s19) [4, 5, 6, 13, 91] [] [] rfl ?o19 ?q19
 case o19 => simp; rfl
 refine awp_cond _ rfl (fun h20 => ?_) fun h20 => ?_
 ·simp at h20
  have hwi : IntKind.i64.wrap ((i : Int) + 1) = (i : Int) + 1 := w64 (by omega) (by omega)
  obtain ⟨x, hx⟩ : ∃ x, x = X[i] := ⟨_, rfl⟩
  have hgi : X[i]? = some x := by rw [List.getElem?_eq_getElem h20, hx]
  have hxs := hXs x (by rw [hx]; exact List.getElem_mem h20)
  have hxb := hxs.b
  obtain ⟨E, hE⟩ : ∃ E, E = x.before ++ [x.key] := ⟨_, rfl⟩
  have hEl : E.length = x.before.length + 1 := by rw [hE, List.length_append]; rfl
  have hd : List.take (x.before.length + 1) (List.map (fun n => [AV.I n]) x.before ++ [[AV.I x.key]]) = List.map (fun n => [AV.I n]) E := by rw [List.take_of_length_le (by simp), hE, List.map_append]; rfl
  have k1 := checker_Paths_ok g p x.paths E (by omega) (by omega) (by omega) (by omega) (by omega) hxs.p hxs.w (by omega)
  refine awp_skip ?_
  refine awp_cut (ι := Unit) (fun _ => ⟨126, [(4, .pv (gC g)), (5, .pv (pC p)), (6, eXs X), (13, .I i)], [], 3000⟩) (fun _ => True) ?_ fun _ _ => ?_
  ·refine awp_block ?_
   refine awp_dregc ⟨126, [(4, .pv (gC g)), (5, .pv (pC p)), (6, eXs X), (13, .I i), (14, ints E)], [], 2000⟩ rfl ?_ ?_
   ·simp [hgi, h20, ← hx]
    exact ⟨by omega, by omega, by omega, by omega, rfl, Le.go [] [1736] rfl rfl (by simp [Function.comp_def, hd]) (by simp)⟩
   have hjn := join24_ok E [] (by omega) (by simp)
   rw [List.append_nil] at hjn
   refine awp_dregc ⟨126, [(4, .pv (gC g)), (5, .pv (pC p)), (6, eXs X), (13, .I i), (124, .B false)], [], 2500⟩ rfl ?_ ?_
   ·by_cases hP : PathsC g p x.paths E
    ·have hsv := paths_served hP
     have k2 := Served_ok g p (joinL E) hg hp1 (by omega) (by have := joinL_len E; omega)
     rw [decide_eq_true hsv] at k2
     rw [decide_eq_true hP] at k1
     obtain ⟨J, hJ⟩ : ∃ J, J = joinL E := ⟨_, rfl⟩
     rw [← hJ] at k2 hjn
     simp [hgi, h20, ← hx]
     refine call0e k1 (by simp) ?_
     simp
     refine callN1w2 hjn (by simp [Wk.refl, ints, Wk.nil]) ?_
     simp [Function.comp_def]
     refine call0w [2104] k2 (by simp [take_map_len, Function.comp_def, Wk.refl]) (.sc _) ?_
     simp
     exact ⟨rfl, Le.go [] [] rfl rfl (by simp) (by simp)⟩
    ·rw [decide_eq_false hP] at k1
     simp [hgi, h20, ← hx]
     refine call0e k1 (by simp) ?_
     simp
     exact ⟨rfl, Le.go [] [] rfl rfl (by simp) (by simp)⟩
   refine awp_cond _ rfl (fun h => by cases h) fun _ => ?_
   refine awp_skip ?_
   exact ⟨(), trivial, Le.go [] [] rfl rfl (by simp) (by simp)⟩
  refine awp_reg rfl ?_
  simp
  exact ⟨i + 1, by omega, by omega, Le.go [] [] rfl rfl (by simp [hwi]) (by simp)⟩
 simp at h20
 refine awp_exit ?_
 refine hit ?_
 refine awp_regc ⟨126, [(2, .B true)], [], 3000⟩ rfl ?_ ?_
 ·simp
  refine call0e awake44_ok (by simp) ?_
  simp
  exact Le.go [] [] rfl rfl (by simp) (by simp)
 refine awp_ret ?_
 exact ⟨.inr rfl, RetOk.one (by simp)⟩
end Go.Proofs.YtlhjelookgjmpaaGreat
