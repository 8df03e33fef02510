/- Texts of this claim, merged. -/
import Derived.Test.YtnlanlpbgcalcaaGreatGt6
import Derived.Test.YtnlanlpbgcalcaaGreatGt5
import Derived.Test.YtnlanlpbgcalcaaGreatProg
import Derived.KernelRfl
import Derived.Test.YtnlanlpbgcalcaaGreatRows
import Derived.Shelf.Sort.Plain
import Derived.Shelf.Slices.In.SortNone
set_option linter.unusedSimpArgs false
set_option linter.unusedVariables false
set_option linter.unusedSectionVars false
namespace Go.Proofs.YtnlanlpbgcalcaaGreat
open Go
theorem mixed : Tryz.prog.follows .mixedOrders = true := by kernel_rfl
theorem smade_Light : Src Tryz.prog nmade_Light cmade_Light := ⟨mixed, Tryz.f5, by kernel_rfl, by kernel_rfl, by decide⟩
theorem slaw11_awake : Src Tryz.prog nlaw11_awake claw11_awake := ⟨mixed, Tryz.f6, by kernel_rfl, by kernel_rfl, by decide⟩
theorem smade_Roll : Src Tryz.prog nmade_Roll cmade_Roll := ⟨mixed, Tryz.f7, by kernel_rfl, by kernel_rfl, by decide⟩
theorem sref05_Counted : Src Tryz.prog nref05_Counted cref05_Counted := ⟨mixed, Tryz.f8, by kernel_rfl, by kernel_rfl, by decide⟩
theorem smade_Dice_Store : Src Tryz.prog nmade_Dice_Store cmade_Dice_Store := ⟨mixed, Tryz.f9, by kernel_rfl, by kernel_rfl, by decide⟩
theorem smade_Mod : Src Tryz.prog nmade_Mod cmade_Mod := ⟨mixed, Tryz.f10, by kernel_rfl, by kernel_rfl, by decide⟩
theorem sgraph_At : Src Tryz.prog ngraph_At cgraph_At := ⟨mixed, Tryz.f11, by kernel_rfl, by kernel_rfl, by decide⟩
theorem sgraph_Check : Src Tryz.prog ngraph_Check cgraph_Check := ⟨mixed, Tryz.f12, by kernel_rfl, by kernel_rfl, by decide⟩
theorem sgraph_Out : Src Tryz.prog ngraph_Out cgraph_Out := ⟨mixed, Tryz.f14, by kernel_rfl, by kernel_rfl, by decide⟩
theorem sgraph_In : Src Tryz.prog ngraph_In cgraph_In := ⟨mixed, Tryz.f15, by kernel_rfl, by kernel_rfl, by decide⟩
theorem slaw11_same : Src Tryz.prog nlaw11_same claw11_same := ⟨mixed, Tryz.f17, by kernel_rfl, by kernel_rfl, by decide⟩
theorem sref11_Same : Src Tryz.prog nref11_Same cref11_Same := ⟨mixed, Tryz.f18, by kernel_rfl, by kernel_rfl, by decide⟩
theorem sgraph_Level : Src Tryz.prog ngraph_Level cgraph_Level := ⟨mixed, Tryz.f19, by kernel_rfl, by kernel_rfl, by decide⟩
theorem sgraph_With : Src Tryz.prog ngraph_With cgraph_With := ⟨mixed, Tryz.f20, by kernel_rfl, by kernel_rfl, by decide⟩
theorem sgraph_Without : Src Tryz.prog ngraph_Without cgraph_Without := ⟨mixed, Tryz.f21, by kernel_rfl, by kernel_rfl, by decide⟩
theorem sref04_Counted : Src Tryz.prog nref04_Counted cref04_Counted := ⟨mixed, Tryz.f22, by kernel_rfl, by kernel_rfl, by decide⟩
theorem sref05_Of : Src Tryz.prog nref05_Of cref05_Of := ⟨mixed, Tryz.f23, by kernel_rfl, by kernel_rfl, by decide⟩
theorem smade_StoreOf : Src Tryz.prog nmade_StoreOf cmade_StoreOf := ⟨mixed, Tryz.f24, by kernel_rfl, by kernel_rfl, by decide⟩
theorem smade_Dice_Lists : Src Tryz.prog nmade_Dice_Lists cmade_Dice_Lists := ⟨mixed, Tryz.f25, by kernel_rfl, by kernel_rfl, by decide⟩
theorem smade_Dice_Next : Src Tryz.prog nmade_Dice_Next cmade_Dice_Next := ⟨mixed, Tryz.f26, by kernel_rfl, by kernel_rfl, by decide⟩
theorem slists_In : Src Tryz.prog nlists_In clists_In := ⟨mixed, Tryz.f27, by kernel_rfl, by kernel_rfl, by decide⟩
theorem svouch_Gone : Src Tryz.prog nvouch_Gone cvouch_Gone := ⟨mixed, Tryz.f28, by kernel_rfl, by kernel_rfl, by decide⟩
theorem svouch_Active : Src Tryz.prog nvouch_Active cvouch_Active := ⟨mixed, Tryz.f29, by kernel_rfl, by kernel_rfl, by decide⟩
theorem slists_Rising : Src Tryz.prog nlists_Rising clists_Rising := ⟨mixed, Tryz.f30, by kernel_rfl, by kernel_rfl, by decide⟩
theorem sgraph_fits : Src Tryz.prog ngraph_fits cgraph_fits := ⟨mixed, Tryz.f31, by kernel_rfl, by kernel_rfl, by decide⟩
theorem sgraph_compare : Src Tryz.prog ngraph_compare cgraph_compare := ⟨mixed, Tryz.f32, by kernel_rfl, by kernel_rfl, by decide⟩
theorem sslices_Sort_Lint_int : Src Tryz.prog nslices_Sort_Lint_int cslices_Sort_Lint_int := ⟨mixed, Tryz.f33, by kernel_rfl, by kernel_rfl, by decide⟩
theorem sref10_Gone : Src Tryz.prog nref10_Gone cref10_Gone := ⟨mixed, Tryz.f34, by kernel_rfl, by kernel_rfl, by decide⟩
theorem sref10_Active : Src Tryz.prog nref10_Active cref10_Active := ⟨mixed, Tryz.f35, by kernel_rfl, by kernel_rfl, by decide⟩
theorem sref03_SameInts : Src Tryz.prog nref03_SameInts cref03_SameInts := ⟨mixed, Tryz.f36, by kernel_rfl, by kernel_rfl, by decide⟩
theorem sgraph_copied : Src Tryz.prog ngraph_copied cgraph_copied := ⟨mixed, Tryz.f37, by kernel_rfl, by kernel_rfl, by decide⟩
theorem sslices_DeleteFunc_Lapi_Edge_api_Edge : Src Tryz.prog nslices_DeleteFunc_Lapi_Edge_api_Edge cslices_DeleteFunc_Lapi_Edge_api_Edge := ⟨mixed, Tryz.f38, by kernel_rfl, by kernel_rfl, by decide⟩
theorem sgraph_Level_c1 : Src Tryz.prog ngraph_Level_c1 cgraph_Level_c1 := ⟨mixed, Tryz.f39, by kernel_rfl, by kernel_rfl, by decide⟩
theorem sslices_BinarySearchFunc_Lapi_Edge_api_Edge_api_Edge : Src Tryz.prog nslices_BinarySearchFunc_Lapi_Edge_api_Edge_api_Edge cslices_BinarySearchFunc_Lapi_Edge_api_Edge_api_Edge := ⟨mixed, Tryz.f40, by kernel_rfl, by kernel_rfl, by decide⟩
theorem sslices_Insert_Lapi_Edge_api_Edge : Src Tryz.prog nslices_Insert_Lapi_Edge_api_Edge cslices_Insert_Lapi_Edge_api_Edge := ⟨mixed, Tryz.f41, by kernel_rfl, by kernel_rfl, by decide⟩
theorem sslices_Delete_Lapi_Edge_api_Edge : Src Tryz.prog nslices_Delete_Lapi_Edge_api_Edge cslices_Delete_Lapi_Edge_api_Edge := ⟨mixed, Tryz.f42, by kernel_rfl, by kernel_rfl, by decide⟩
theorem sref04_Own : Src Tryz.prog nref04_Own cref04_Own := ⟨mixed, Tryz.f43, by kernel_rfl, by kernel_rfl, by decide⟩
theorem sref04_Follows : Src Tryz.prog nref04_Follows cref04_Follows := ⟨mixed, Tryz.f44, by kernel_rfl, by kernel_rfl, by decide⟩
theorem sref03_Copy : Src Tryz.prog nref03_Copy cref03_Copy := ⟨mixed, Tryz.f45, by kernel_rfl, by kernel_rfl, by decide⟩
theorem sref05_Adds : Src Tryz.prog nref05_Adds cref05_Adds := ⟨mixed, Tryz.f46, by kernel_rfl, by kernel_rfl, by decide⟩
theorem smade_Dice_Spoil : Src Tryz.prog nmade_Dice_Spoil cmade_Dice_Spoil := ⟨mixed, Tryz.f47, by kernel_rfl, by kernel_rfl, by decide⟩
theorem smade_Dice_Chain : Src Tryz.prog nmade_Dice_Chain cmade_Dice_Chain := ⟨mixed, Tryz.f48, by kernel_rfl, by kernel_rfl, by decide⟩
theorem sslices_Compact_Lint_int : Src Tryz.prog nslices_Compact_Lint_int cslices_Compact_Lint_int := ⟨mixed, Tryz.f49, by kernel_rfl, by kernel_rfl, by decide⟩
theorem svouch_Of : Src Tryz.prog nvouch_Of cvouch_Of := ⟨mixed, Tryz.f50, by kernel_rfl, by kernel_rfl, by decide⟩
theorem svouch_holds : Src Tryz.prog nvouch_holds cvouch_holds := ⟨mixed, Tryz.f51, by kernel_rfl, by kernel_rfl, by decide⟩
theorem sslices_Contains_Lint_int : Src Tryz.prog nslices_Contains_Lint_int cslices_Contains_Lint_int := ⟨mixed, Tryz.f52, by kernel_rfl, by kernel_rfl, by decide⟩
theorem scmp_Or_int : Src Tryz.prog ncmp_Or_int ccmp_Or_int := ⟨mixed, Tryz.f53, by kernel_rfl, by kernel_rfl, by decide⟩
theorem scmp_Compare_int : Src Tryz.prog ncmp_Compare_int ccmp_Compare_int := ⟨mixed, Tryz.f54, by kernel_rfl, by kernel_rfl, by decide⟩
theorem sref10_Of : Src Tryz.prog nref10_Of cref10_Of := ⟨mixed, Tryz.f57, by kernel_rfl, by kernel_rfl, by decide⟩
theorem sref10_has : Src Tryz.prog nref10_has cref10_has := ⟨mixed, Tryz.f58, by kernel_rfl, by kernel_rfl, by decide⟩
theorem sslices_Clone_Lapi_Edge_api_Edge : Src Tryz.prog nslices_Clone_Lapi_Edge_api_Edge cslices_Clone_Lapi_Edge_api_Edge := ⟨mixed, Tryz.f59, by kernel_rfl, by kernel_rfl, by decide⟩
theorem sslices_Clone_Lint_int : Src Tryz.prog nslices_Clone_Lint_int cslices_Clone_Lint_int := ⟨mixed, Tryz.f60, by kernel_rfl, by kernel_rfl, by decide⟩
theorem sslices_IndexFunc_Lapi_Edge_api_Edge : Src Tryz.prog nslices_IndexFunc_Lapi_Edge_api_Edge cslices_IndexFunc_Lapi_Edge_api_Edge := ⟨mixed, Tryz.f61, by kernel_rfl, by kernel_rfl, by decide⟩
theorem sref03_Check : Src Tryz.prog nref03_Check cref03_Check := ⟨mixed, Tryz.f64, by kernel_rfl, by kernel_rfl, by decide⟩
theorem sref03_Sealed : Src Tryz.prog nref03_Sealed cref03_Sealed := ⟨mixed, Tryz.f65, by kernel_rfl, by kernel_rfl, by decide⟩
theorem sref03_Same : Src Tryz.prog nref03_Same cref03_Same := ⟨mixed, Tryz.f66, by kernel_rfl, by kernel_rfl, by decide⟩
theorem sref03_Digest : Src Tryz.prog nref03_Digest cref03_Digest := ⟨mixed, Tryz.f67, by kernel_rfl, by kernel_rfl, by decide⟩
theorem sref05_put : Src Tryz.prog nref05_put cref05_put := ⟨mixed, Tryz.f68, by kernel_rfl, by kernel_rfl, by decide⟩
theorem sref03_CopyList : Src Tryz.prog nref03_CopyList cref03_CopyList := ⟨mixed, Tryz.f69, by kernel_rfl, by kernel_rfl, by decide⟩
theorem smade_Dice_Digest : Src Tryz.prog nmade_Dice_Digest cmade_Dice_Digest := ⟨mixed, Tryz.f70, by kernel_rfl, by kernel_rfl, by decide⟩
theorem sref03_Seal : Src Tryz.prog nref03_Seal cref03_Seal := ⟨mixed, Tryz.f71, by kernel_rfl, by kernel_rfl, by decide⟩
theorem smade_Dice_One : Src Tryz.prog nmade_Dice_One cmade_Dice_One := ⟨mixed, Tryz.f72, by kernel_rfl, by kernel_rfl, by decide⟩
theorem smade_Dice_Of : Src Tryz.prog nmade_Dice_Of cmade_Dice_Of := ⟨mixed, Tryz.f73, by kernel_rfl, by kernel_rfl, by decide⟩
theorem smade_Dice_Statement : Src Tryz.prog nmade_Dice_Statement cmade_Dice_Statement := ⟨mixed, Tryz.f74, by kernel_rfl, by kernel_rfl, by decide⟩
theorem sref04_Next : Src Tryz.prog nref04_Next cref04_Next := ⟨mixed, Tryz.f75, by kernel_rfl, by kernel_rfl, by decide⟩
theorem svouch_revoked : Src Tryz.prog nvouch_revoked cvouch_revoked := ⟨mixed, Tryz.f76, by kernel_rfl, by kernel_rfl, by decide⟩
theorem sslices_SortStableFunc_Lapi_Vouch_api_Vouch : Src Tryz.prog nslices_SortStableFunc_Lapi_Vouch_api_Vouch cslices_SortStableFunc_Lapi_Vouch_api_Vouch := ⟨mixed, Tryz.f77, by kernel_rfl, by kernel_rfl, by decide⟩
theorem svouch_Of_c1 : Src Tryz.prog nvouch_Of_c1 cvouch_Of_c1 := ⟨mixed, Tryz.f78, by kernel_rfl, by kernel_rfl, by decide⟩
theorem sslices_Index_Lint_int : Src Tryz.prog nslices_Index_Lint_int cslices_Index_Lint_int := ⟨mixed, Tryz.f79, by kernel_rfl, by kernel_rfl, by decide⟩
theorem scmp_isNaN_int : Src Tryz.prog ncmp_isNaN_int ccmp_isNaN_int := ⟨mixed, Tryz.f80, by kernel_rfl, by kernel_rfl, by decide⟩
theorem sref10_revoked : Src Tryz.prog nref10_revoked cref10_revoked := ⟨mixed, Tryz.f92, by kernel_rfl, by kernel_rfl, by decide⟩
theorem sref10_less : Src Tryz.prog nref10_less cref10_less := ⟨mixed, Tryz.f93, by kernel_rfl, by kernel_rfl, by decide⟩
theorem sref03_key : Src Tryz.prog nref03_key cref03_key := ⟨mixed, Tryz.f95, by kernel_rfl, by kernel_rfl, by decide⟩
theorem sref03_in : Src Tryz.prog nref03_in cref03_in := ⟨mixed, Tryz.f96, by kernel_rfl, by kernel_rfl, by decide⟩
theorem sref03_numbers : Src Tryz.prog nref03_numbers cref03_numbers := ⟨mixed, Tryz.f97, by kernel_rfl, by kernel_rfl, by decide⟩
theorem sref03_PinsOK : Src Tryz.prog nref03_PinsOK cref03_PinsOK := ⟨mixed, Tryz.f98, by kernel_rfl, by kernel_rfl, by decide⟩
theorem sref03_SamePins : Src Tryz.prog nref03_SamePins cref03_SamePins := ⟨mixed, Tryz.f99, by kernel_rfl, by kernel_rfl, by decide⟩
theorem sref01_Sum : Src Tryz.prog nref01_Sum cref01_Sum := ⟨mixed, Tryz.f100, by kernel_rfl, by kernel_rfl, by decide⟩
theorem sref03_Bytes : Src Tryz.prog nref03_Bytes cref03_Bytes := ⟨mixed, Tryz.f101, by kernel_rfl, by kernel_rfl, by decide⟩
theorem sref05_before : Src Tryz.prog nref05_before cref05_before := ⟨mixed, Tryz.f102, by kernel_rfl, by kernel_rfl, by decide⟩
theorem smade_Dice_Bytes : Src Tryz.prog nmade_Dice_Bytes cmade_Dice_Bytes := ⟨mixed, Tryz.f103, by kernel_rfl, by kernel_rfl, by decide⟩
theorem sref03_SameList : Src Tryz.prog nref03_SameList cref03_SameList := ⟨mixed, Tryz.f104, by kernel_rfl, by kernel_rfl, by decide⟩
theorem sslices_stableCmpFunc_api_Vouch : Src Tryz.prog nslices_stableCmpFunc_api_Vouch cslices_stableCmpFunc_api_Vouch := ⟨mixed, Tryz.f105, by kernel_rfl, by kernel_rfl, by decide⟩
theorem sref01_constants : Src Tryz.prog nref01_constants cref01_constants := ⟨mixed, Tryz.f112, by kernel_rfl, by kernel_rfl, by decide⟩
theorem sref01_block : Src Tryz.prog nref01_block cref01_block := ⟨mixed, Tryz.f113, by kernel_rfl, by kernel_rfl, by decide⟩
theorem sref02_Text : Src Tryz.prog nref02_Text cref02_Text := ⟨mixed, Tryz.f114, by kernel_rfl, by kernel_rfl, by decide⟩
theorem sref02_Int : Src Tryz.prog nref02_Int cref02_Int := ⟨mixed, Tryz.f115, by kernel_rfl, by kernel_rfl, by decide⟩
theorem sref02_Ints : Src Tryz.prog nref02_Ints cref02_Ints := ⟨mixed, Tryz.f116, by kernel_rfl, by kernel_rfl, by decide⟩
theorem sslices_insertionSortCmpFunc_api_Vouch : Src Tryz.prog nslices_insertionSortCmpFunc_api_Vouch cslices_insertionSortCmpFunc_api_Vouch := ⟨mixed, Tryz.f117, by kernel_rfl, by kernel_rfl, by decide⟩
theorem sslices_symMergeCmpFunc_api_Vouch : Src Tryz.prog nslices_symMergeCmpFunc_api_Vouch cslices_symMergeCmpFunc_api_Vouch := ⟨mixed, Tryz.f118, by kernel_rfl, by kernel_rfl, by decide⟩
theorem sref01_turn : Src Tryz.prog nref01_turn cref01_turn := ⟨mixed, Tryz.f120, by kernel_rfl, by kernel_rfl, by decide⟩
theorem sslices_rotateCmpFunc_api_Vouch : Src Tryz.prog nslices_rotateCmpFunc_api_Vouch cslices_rotateCmpFunc_api_Vouch := ⟨mixed, Tryz.f121, by kernel_rfl, by kernel_rfl, by decide⟩
theorem sslices_swapRangeCmpFunc_api_Vouch : Src Tryz.prog nslices_swapRangeCmpFunc_api_Vouch cslices_swapRangeCmpFunc_api_Vouch := ⟨mixed, Tryz.f122, by kernel_rfl, by kernel_rfl, by decide⟩
end Go.Proofs.YtnlanlpbgcalcaaGreat
namespace Go.Proofs.YtnlanlpbgcalcaaGreat
open Go
abbrev ints (l : List Int) : AV := .vs 1 false (l.map fun n => [AV.I n])
end Go.Proofs.YtnlanlpbgcalcaaGreat
namespace Go.Proofs.YtnlanlpbgcalcaaGreat
open Go
theorem isNaN_ok (x : Int) : ACalls Tryz.prog ncmp_isNaN_int [.I x] [] (.B false) [] := by
  refine scmp_isNaN_int.acalls (Nat.le_of_ble_eq_true rfl) (Nat.le_of_ble_eq_true rfl) (Nat.le_refl _) ?_
  show awp _ 0 _ _ ⟨6, [(0, .I x)], [], 16⟩
  refine awp_seq (awp_run (s := ?s1) rfl ?o1 ?q1)
  case o1 => simp; rfl
  refine awp_seq (awp_run (s := ?s2) rfl ?o2 ?q2)
  case o2 => simp; rfl
  exact awp_ret ⟨.inr rfl, RetOk.one (by simp)⟩
theorem lists_In_ok (n lo hi : Int) : ACalls Tryz.prog nlists_In [.I n, .I lo, .I hi] [] (.B (decide (lo ≤ n) && decide (n ≤ hi))) [] := by
  refine slists_In.acalls (Nat.le_of_ble_eq_true rfl) (Nat.le_of_ble_eq_true rfl) (Nat.le_refl _) ?_
  show awp _ 0 _ _ ⟨15, [(0, .I n), (1, .I lo), (2, .I hi)], [], 16⟩
  refine awp_seq (awp_run (s := ?s1) rfl ?o1 ?q1)
  case o1 => simp; rfl
  by_cases h : lo ≤ n
  · refine awp_seq (awp_run (s := ?s2) rfl ?o2 ?q2)
    case o2 => simp [h]; rfl
    exact awp_ret ⟨.inr rfl, RetOk.one (by simp [h])⟩
  · refine awp_seq (awp_run (s := ?s3) rfl ?o3 ?q3)
    case o3 => simp [h]; rfl
    exact awp_ret ⟨.inr rfl, RetOk.one (by simp [h])⟩
def cmpI (x y : Int) : Int := if x < y then -1 else if x > y then 1 else 0
theorem compare_ok (x y : Int) : ACalls Tryz.prog ncmp_Compare_int [.I x, .I y] [] (.I (cmpI x y)) [] := by
  refine scmp_Compare_int.acalls (Nat.le_of_ble_eq_true rfl) (Nat.le_of_ble_eq_true rfl) (Nat.le_refl _) ?_
  show awp _ 0 _ _ ⟨20, [(0, .I x), (1, .I y)], [], 16⟩
  refine awp_seq (awp_run (s := ?s1) rfl ?o1 ?q1)
  case o1 => simp; rfl
  refine awp_seq (awp_run (s := ?s2) rfl ?o2 ?q2)
  case o2 => simp; refine call0e (isNaN_ok _) rfl ?_; simp; rfl
  refine awp_seq (awp_run (s := ?s3) rfl ?o3 ?q3)
  case o3 => simp; refine call0e (isNaN_ok _) rfl ?_; simp; rfl
  refine awp_seq (awp_seq (awp_run (s := ?s4) rfl ?o4 ?q4))
  case o4 => simp; rfl
  refine awp_cond _ rfl (fun h => by cases h) fun _ => awp_skip ?_
  refine awp_seq (awp_seq (awp_run (s := ?s5) rfl ?o5 ?q5))
  case o5 => simp; rfl
  refine awp_cond _ rfl (fun h => by cases h) fun _ => awp_skip ?_
  refine awp_seq (awp_seq (awp_run (s := ?s6) rfl ?o6 ?q6))
  case o6 => simp; rfl
  refine awp_cond _ rfl (fun h => ?_) fun h1 => awp_skip ?_
  · refine awp_seq (awp_run (s := ?s7) rfl ?o7 ?q7)
    case o7 => simp; rfl
    exact awp_ret ⟨.inr rfl, RetOk.one (by simp at h; simp [cmpI, h])⟩
  refine awp_seq (awp_seq (awp_run (s := ?s8) rfl ?o8 ?q8))
  case o8 => simp; rfl
  refine awp_cond _ rfl (fun h => ?_) fun h2 => awp_skip ?_
  · refine awp_seq (awp_run (s := ?s9) rfl ?o9 ?q9)
    case o9 => simp; rfl
    exact awp_ret ⟨.inr rfl, RetOk.one (by simp at h h1; simp [cmpI, h, Int.not_lt.2 h1])⟩
  refine awp_seq (awp_run (s := ?s10) rfl ?o10 ?q10)
  case o10 => simp; rfl
  exact awp_ret ⟨.inr rfl, RetOk.one (by simp at h1 h2; simp [cmpI, Int.not_lt.2 h1, Int.not_lt.2 h2])⟩
end Go.Proofs.YtnlanlpbgcalcaaGreat
namespace Go.Proofs.YtnlanlpbgcalcaaGreat
open Go
theorem or_ok (l : List Int) (hl : l.length ≤ 140737488355328) : ACalls Tryz.prog ncmp_Or_int [ints l] [] (.I ((l.find? (· != 0)).getD 0)) [] := by
  refine scmp_Or_int.acalls (Nat.le_of_ble_eq_true rfl) (Nat.le_of_ble_eq_true rfl) (Nat.le_refl _) ?_
  show awp _ 0 _ _ ⟨18, [(0, ints l)], [], 16⟩
  refine awp_seq ?_
  refine awp_run (s := ?s1) rfl ?o1 ?q1
  case o1 => simp; rfl
  refine awp_seq ?_
  refine awp_run (s := ?s2) rfl ?o2 ?q2
  case o2 => simp; rfl
  refine awp_seq ?_
  refine awp_seq ?_
  refine awp_run (s := ?s3) rfl ?o3 ?q3
  case o3 => simp; rfl
  refine awp_block ?_
  refine awp_loop (ι := Nat) (fun k => ⟨18, [(3, .I 0), (6, ints l), (7, .I l.length), (8, .I k)], [], 16⟩) (fun k => k ≤ l.length ∧ l.find? (· != 0) = (l.drop k).find? (· != 0)) (fun k => l.length - k) 0 ?_ (Le.slots rfl rfl ?_) ?_
  · simp
  · simp
  rintro k ⟨hk, hf⟩
  refine awp_seq ?_
  refine awp_run (s := ?s4) rfl ?o4 ?q4
  case o4 => simp; rfl
  refine awp_seq ?_
  refine awp_cond _ rfl (fun h5 => ?_) fun h5 => ?_
  · simp at h5
    rw [List.drop_eq_getElem_cons h5, List.find?_cons] at hf
    refine awp_skip ?_
    refine awp_seq ?_
    refine awp_block ?_
    refine awp_seq ?_
    refine awp_run (s := ?s6) rfl ?o6 ?q6
    case o6 => simp [h5]; rfl
    refine awp_seq ?_
    refine awp_run (s := ?s7) rfl ?o7 ?q7
    case o7 => simp; rfl
    refine awp_cond _ rfl (fun h8 => ?_) fun h8 => ?_
    · refine awp_seq ?_
      refine awp_run (s := ?s9) rfl ?o9 ?q9
      case o9 => simp; rfl
      refine awp_ret ?_
      rw [h8] at hf
      exact ⟨.inr rfl, RetOk.one (by simp [hf])⟩
    refine awp_skip ?_
    refine awp_run (s := ?s10) rfl ?o10 ?q10
    case o10 => simp; rfl
    rw [h8] at hf
    have hw : IntKind.i64.wrap ((k : Int) + 1) = (k : Int) + 1 := w64 (by omega) (by omega)
    refine ⟨k + 1, ⟨h5, hf⟩, by omega, Le.slots rfl rfl ?_⟩
    simp [hw]
  simp at h5
  rw [List.drop_eq_nil_of_le h5] at hf
  refine awp_exit ?_
  refine hit ?_
  refine awp_seq ?_
  refine awp_run (s := ?s11) rfl ?o11 ?q11
  case o11 => simp; rfl
  refine awp_ret ?_
  exact ⟨.inr rfl, RetOk.one (by simp [hf])⟩
end Go.Proofs.YtnlanlpbgcalcaaGreat
namespace Go.Proofs.YtnlanlpbgcalcaaGreat
open Go
structure Ed where
  f : Int
  t : Int
  v : Int
  deriving DecidableEq, Inhabited
abbrev Ed.row (e : Ed) : List AV := [.I e.f, .I e.t, .I e.v]
abbrev eE (e : Ed) : AV := .agg [.I e.f, .I e.t, .I e.v]
abbrev eEs (l : List Ed) : AV := .vs 3 false (l.map fun e => [.I e.f, .I e.t, .I e.v])
def cmpE (a b : Ed) : Int := ([cmpI a.f b.f, cmpI a.t b.t].find? (· != 0)).getD 0
theorem graph_compare_ok (a b : Ed) : ACalls Tryz.prog ngraph_compare [eE a, eE b] [] (.I (cmpE a b)) [] := by
  refine sgraph_compare.acalls (Nat.le_of_ble_eq_true rfl) (Nat.le_of_ble_eq_true rfl) (Nat.le_refl _) ?_
  show awp _ 0 _ _ ⟨17, [(0, eE a), (1, eE b)], [], 16⟩
  refine awp_seq ?_
  refine awp_run (s := ?s1) rfl ?o1 ?q1
  case o1 => simp; rfl
  refine awp_seq ?_
  refine awp_drun (s := ?s2) (tr := ?t2) rfl ?o2 ?r2 ?q2
  case o2 =>
    simp; refine call0e (compare_ok ..) rfl ?_; simp; refine call0e (compare_ok ..) rfl ?_; simp [fillR]
    refine call0s [120] (or_ok [cmpI a.f b.f, cmpI a.t b.t] (by simp)) (by simp) (.sc _) ?_; simp; constructor <;> rfl
  case r2 => rfl
  refine awp_ret ?_
  exact ⟨.inr rfl, RetOk.one (by simp; exact .refl _)⟩
end Go.Proofs.YtnlanlpbgcalcaaGreat
namespace Go.Proofs.YtnlanlpbgcalcaaGreat
open Go
def idxI (l : List Int) (x : Int) : Int := if x ∈ l then (l.idxOf x : Int) else -1
theorem slices_Index_Lint_int_ok (l : List Int) (x : Int) (hl : l.length ≤ 140737488355328) : ACalls Tryz.prog nslices_Index_Lint_int [ints l, .I x] [] (.I (idxI l x)) [] := by
  refine sslices_Index_Lint_int.acalls (Nat.le_of_ble_eq_true rfl) (Nat.le_of_ble_eq_true rfl) (Nat.le_refl _) ?_
  show awp _ 0 _ _ ⟨19, [(0, ints l), (1, .I x)], [], 16⟩
  refine awp_seq ?_
  refine awp_run (s := ?s1) rfl ?o1 ?q1
  case o1 => simp; rfl
  refine awp_seq ?_
  refine awp_seq ?_
  refine awp_run (s := ?s2) rfl ?o2 ?q2
  case o2 => simp; rfl
  refine awp_block ?_
  refine awp_loop (ι := Nat) (fun k => ⟨19, [(0, ints l), (1, .I x), (6, ints l), (7, .I l.length), (8, .I k)], [], 16⟩) (fun k => k ≤ l.length ∧ x ∉ l.take k) (fun k => l.length - k) 0 ?_ (Le.slots rfl rfl ?_) ?_
  · simp
  · simp
  rintro k ⟨hk, hn⟩
  refine awp_seq ?_
  refine awp_run (s := ?s3) rfl ?o3 ?q3
  case o3 => simp; rfl
  refine awp_seq ?_
  refine awp_cond _ rfl (fun h4 => ?_) fun h4 => ?_
  · simp at h4
    refine awp_skip ?_
    refine awp_seq ?_
    refine awp_block ?_
    refine awp_seq ?_
    refine awp_run (s := ?s5) rfl ?o5 ?q5
    case o5 => simp; rfl
    refine awp_seq ?_
    refine awp_run (s := ?s6) rfl ?o6 ?q6
    case o6 => simp [h4]; rfl
    refine awp_cond _ rfl (fun h7 => ?_) fun h7 => ?_
    · refine awp_seq ?_
      refine awp_run (s := ?s8) rfl ?o8 ?q8
      case o8 => simp; rfl
      refine awp_ret ?_
      have hm : x ∈ l := by simp at h7; rw [h7]; exact List.getElem_mem h4
      have hi : l.idxOf x = k := by
        simp at h7
        have h1 : l = l.take k ++ x :: l.drop (k + 1) := by rw [h7, ← List.drop_eq_getElem_cons h4, List.take_append_drop]
        rw [h1, List.idxOf_append, if_neg hn, List.idxOf_cons_self]
        simp
        omega
      exact ⟨.inr rfl, RetOk.one (by simp [idxI, hm, hi])⟩
    refine awp_skip ?_
    refine awp_run (s := ?s9) rfl ?o9 ?q9
    case o9 => simp; rfl
    have hw : IntKind.i64.wrap ((k : Int) + 1) = (k : Int) + 1 := w64 (by omega) (by omega)
    refine ⟨k + 1, ⟨h4, ?_⟩, by omega, Le.slots rfl rfl ?_⟩
    · intro hm
      simp at h7
      rw [List.take_succ_eq_append_getElem h4] at hm
      rcases List.mem_append.1 hm with h | h
      · exact hn h
      · exact h7 (List.mem_singleton.1 h)
    · simp [hw]
  simp at h4
  refine awp_exit ?_
  refine hit ?_
  refine awp_seq ?_
  refine awp_run (s := ?s10) rfl ?o10 ?q10
  case o10 => simp; rfl
  refine awp_ret ?_
  rw [List.take_of_length_le h4] at hn
  exact ⟨.inr rfl, RetOk.one (by simp [idxI, hn])⟩
theorem contains_ok (l : List Int) (x : Int) (hl : l.length ≤ 140737488355328) : ACalls Tryz.prog nslices_Contains_Lint_int [ints l, .I x] [] (.B (decide (x ∈ l))) [] := by
  refine sslices_Contains_Lint_int.acalls (Nat.le_of_ble_eq_true rfl) (Nat.le_of_ble_eq_true rfl) (Nat.le_refl _) ?_
  show awp _ 0 _ _ ⟨9, [(0, ints l), (1, .I x)], [], 16⟩
  refine awp_seq ?_
  refine awp_run (s := ?s1) rfl ?o1 ?q1
  case o1 => simp; rfl
  refine awp_seq ?_
  refine awp_run (s := ?s2) rfl ?o2 ?q2
  case o2 => simp; refine call0e (slices_Index_Lint_int_ok l x hl) rfl ?_; simp; rfl
  refine awp_ret ?_
  have : decide (0 ≤ idxI l x) = decide (x ∈ l) := by
    unfold idxI
    by_cases h : x ∈ l
    · simp [h]
    · simp [h]
  exact ⟨.inr rfl, RetOk.one (by simp [this])⟩
end Go.Proofs.YtnlanlpbgcalcaaGreat
namespace Go.Proofs.YtnlanlpbgcalcaaGreat
open Go
def RiseAt (l : List Int) (lo hi : Int) (i : Nat) : Prop := ∀ h : i < l.length, lo ≤ l[i] ∧ l[i] ≤ hi ∧ (0 < i → l[i - 1] < l[i])
def Rise (l : List Int) (lo hi : Int) : Prop := ∀ i, RiseAt l lo hi i
open Classical in
theorem lists_Rising_ok (l : List Int) (lo hi : Int) (hl : l.length ≤ 140737488355328) : ACalls Tryz.prog nlists_Rising [ints l, .I lo, .I hi] [] (.B (decide (Rise l lo hi))) [] := by
  refine slists_Rising.acalls (Nat.le_of_ble_eq_true rfl) (Nat.le_of_ble_eq_true rfl) (Nat.le_refl _) ?_
  show awp _ 0 _ _ ⟨38, [(0, ints l), (1, .I lo), (2, .I hi)], [], 16⟩
  refine awp_seq ?_
  refine awp_run (s := ?s1) rfl ?o1 ?q1
  case o1 => simp; rfl
  refine awp_seq ?_
  refine awp_seq ?_
  refine awp_run (s := ?s2) rfl ?o2 ?q2
  case o2 => simp; rfl
  refine awp_block ?_
  refine awp_loop (ι := Nat) (fun k => ⟨38, [(0, ints l), (1, .I lo), (2, .I hi), (9, ints l), (10, .I l.length), (11, .I k)], [], 16⟩) (fun k => k ≤ l.length ∧ ∀ i, i < k → RiseAt l lo hi i) (fun k => l.length - k) 0 ?_ (Le.slots rfl rfl ?_) ?_
  · simp
  · simp
  rintro k ⟨hk, hp⟩
  refine awp_seq ?_
  refine awp_run (s := ?s3) rfl ?o3 ?q3
  case o3 => simp; rfl
  refine awp_seq ?_
  refine awp_cond _ rfl (fun h4 => ?_) fun h4 => ?_
  · simp at h4
    have hw : IntKind.i64.wrap ((k : Int) + 1) = (k : Int) + 1 := w64 (by omega) (by omega)
    refine awp_skip ?_
    refine awp_seq ?_
    refine awp_block ?_
    refine awp_seq ?_
    refine awp_run (s := ?s5) rfl ?o5 ?q5
    case o5 => simp [h4]; rfl
    refine awp_seq ?_
    by_cases a1 : l[k] < lo
    · refine awp_run (s := ?s21) rfl ?o21 ?q21
      case o21 => simp [a1]; rfl
      refine awp_cond _ rfl (fun _ => ?_) fun h => by cases h
      refine awp_seq ?_
      refine awp_run (s := ?s21b) rfl ?o21b ?q21b
      case o21b => simp; rfl
      refine awp_ret ?_
      have hn : ¬ Rise l lo hi := fun h => by have := h k h4; omega
      exact ⟨.inr rfl, RetOk.one (by simp [hn])⟩
    by_cases a2 : hi < l[k]
    · refine awp_run (s := ?s22) rfl ?o22 ?q22
      case o22 => simp [a1, a2]; rfl
      refine awp_cond _ rfl (fun _ => ?_) fun h => by cases h
      refine awp_seq ?_
      refine awp_run (s := ?s22b) rfl ?o22b ?q22b
      case o22b => simp; rfl
      refine awp_ret ?_
      have hn : ¬ Rise l lo hi := fun h => by have := h k h4; omega
      exact ⟨.inr rfl, RetOk.one (by simp [hn])⟩
    by_cases a3 : 0 < k
    · have hw1 : IntKind.i64.wrap ((k : Int) - 1) = ((k - 1 : Nat) : Int) := by rw [w64 (by omega) (by omega)]; omega
      have h5 : k - 1 < l.length := by omega
      by_cases a4 : l[k] ≤ l[k - 1]
      · refine awp_run (s := ?s23) rfl ?o23 ?q23
        case o23 => simp [a1, a2, a3, a4, hw1, h5]; rfl
        refine awp_cond _ rfl (fun _ => ?_) fun h => by cases h
        refine awp_seq ?_
        refine awp_run (s := ?s23b) rfl ?o23b ?q23b
        case o23b => simp; rfl
        refine awp_ret ?_
        have hn : ¬ Rise l lo hi := fun h => by have := h k h4; have := this.2.2 a3; omega
        exact ⟨.inr rfl, RetOk.one (by simp [hn])⟩
      · refine awp_run (s := ?s24) rfl ?o24 ?q24
        case o24 => simp [a1, a2, a3, a4, hw1, h5]; rfl
        refine awp_cond _ rfl (fun h => by cases h) fun _ => awp_skip ?_
        refine awp_run (s := ?s24b) rfl ?o24b ?q24b
        case o24b => simp; rfl
        refine ⟨k + 1, ⟨h4, fun i hi => ?_⟩, by omega, Le.slots rfl rfl ?_⟩
        · rcases Nat.lt_succ_iff_lt_or_eq.1 hi with h | rfl
          · exact hp i h
          · intro _; exact ⟨by omega, by omega, fun _ => by omega⟩
        · simp [hw]
    · refine awp_run (s := ?s25) rfl ?o25 ?q25
      case o25 => simp [a1, a2, a3]; rfl
      refine awp_cond _ rfl (fun h => by cases h) fun _ => awp_skip ?_
      refine awp_run (s := ?s25b) rfl ?o25b ?q25b
      case o25b => simp; rfl
      refine ⟨k + 1, ⟨h4, fun i hi => ?_⟩, by omega, Le.slots rfl rfl ?_⟩
      · rcases Nat.lt_succ_iff_lt_or_eq.1 hi with h | rfl
        · exact hp i h
        · intro _; exact ⟨by omega, by omega, fun h => absurd h a3⟩
      · simp [hw]
  simp at h4
  refine awp_exit ?_
  refine hit ?_
  refine awp_seq ?_
  refine awp_run (s := ?s10) rfl ?o10 ?q10
  case o10 => simp; rfl
  refine awp_ret ?_
  have hy : Rise l lo hi := fun i hi => hp i (by omega) hi
  exact ⟨.inr rfl, RetOk.one (by simp [hy])⟩
end Go.Proofs.YtnlanlpbgcalcaaGreat
namespace Go.Proofs.YtnlanlpbgcalcaaGreat
open Go
structure Gr where
  size : Int
  edges : List Ed
  gone : List Int
abbrev gC (g : Gr) : List AV := [.I g.size, eEs g.edges, ints g.gone]
abbrev eG (g : Gr) : AV := .agg (gC g)
abbrev eC (e : Ed) : List AV := [.I e.f, .I e.t, .I e.v]
def Fits (g : Gr) (e : Ed) : Prop := 0 ≤ e.f ∧ e.f ≤ g.size - 1 ∧ 0 ≤ e.t ∧ e.t ≤ g.size - 1 ∧ e.f ≠ e.t ∧ e.f ∉ g.gone ∧ e.t ∉ g.gone
instance (g : Gr) (e : Ed) : Decidable (Fits g e) := by unfold Fits; infer_instance
theorem graph_fits_ok (g : Gr) (e : Ed) (hs : 0 ≤ g.size) (hs' : g.size ≤ 64) (hl : g.gone.length ≤ 140737488355328) : ACalls Tryz.prog ngraph_fits [eG g, eE e] [] (.B (decide (Fits g e))) [] := by
  refine sgraph_fits.acalls (Nat.le_of_ble_eq_true rfl) (Nat.le_of_ble_eq_true rfl) (Nat.le_refl _) ?_
  show awp _ 0 _ _ ⟨42, [(0, eG g), (1, eE e)], [], 16⟩
  refine awp_regc ⟨42, [(2, .pv (gC g)), (3, .pv (eC e)), (4, .B false)], [], 16⟩ rfl ?_ ?_
  · simp -implicitDefEqProofs
    exact Le.snap [16, 24] rfl rfl (by simp)
  have hw : IntKind.i64.wrap (g.size - 1) = g.size - 1 := w64 (by omega) (by omega)
  refine awp_regc ⟨42, [(4, .B (decide (Fits g e)))], [], 16⟩ rfl ?_ ?_
  · simp [hw]
    repeat' first
      | (refine callf nlists_In rfl ?_; refine call0e (lists_In_ok ..) rfl ?_; simp [hw])
      | (refine callf nslices_Contains_Lint_int rfl ?_; refine call0e (contains_ok _ _ hl) rfl ?_; simp [hw])
      | (refine gcase (fun hb => ?_) (fun hb => ?_) <;> (try rw [hb]) <;> simp [hw])
    all_goals exact Le.snap [] rfl rfl (by simp; exact wkB (by simp at *; grind [Fits]))
  refine awp_ret ?_
  exact ⟨.inr rfl, RetOk.one (by simp)⟩
end Go.Proofs.YtnlanlpbgcalcaaGreat
namespace Go.Proofs.YtnlanlpbgcalcaaGreat
open Go
def GrPre (g : Gr) : Prop := 0 ≤ g.size ∧ g.size ≤ 64 ∧ g.edges.length ≤ 500 ∧ Rise g.gone 0 (g.size - 1)
def EdAt (g : Gr) (i : Nat) : Prop := ∀ h : i < g.edges.length, Fits g g.edges[i] ∧ 1 ≤ g.edges[i].v ∧ g.edges[i].v ≤ 3 ∧ (0 < i → cmpE g.edges[i - 1] g.edges[i] < 0)
def GrOk (g : Gr) : Prop := GrPre g ∧ ∀ i, EdAt g i
open Classical in
theorem graph_Check_ok (g : Gr) (hl : g.edges.length ≤ 140737488355328) (hl2 : g.gone.length ≤ 140737488355328) : ACalls Tryz.prog ngraph_Check [eG g] [] (.I (if GrOk g then 0 else 14)) [] := by
  refine sgraph_Check.acalls (Nat.le_of_ble_eq_true rfl) (Nat.le_of_ble_eq_true rfl) (Nat.le_refl _) ?_
  show awp _ 0 _ _ ⟨58, [(0, eG g)], [], 16⟩
  refine awp_regc ⟨58, [(1, .pv (gC g))], [], 16⟩ rfl ?_ ?_
  · simp
    exact Le.snap [16] rfl rfl (by simp)
  refine awp_seq ?_
  refine awp_regc ⟨58, [(1, .pv (gC g)), (23, .B (decide (¬ GrPre g)))], [], 16⟩ rfl ?_ ?_
  · simp
    repeat' first
      | (refine callf nlists_In rfl ?_; refine call0e (lists_In_ok ..) rfl ?_; simp)
      | (refine callf nlists_Rising rfl ?_; have hw : IntKind.i64.wrap (g.size - 1) = g.size - 1 := w64 (by omega) (by omega); rw [hw]; refine call0e (lists_Rising_ok _ _ _ hl2) rfl ?_; simp)
      | (refine gcase (fun hb => ?_) (fun hb => ?_) <;> (try rw [hb]) <;> (try simp at hb) <;> simp [hb])
    all_goals exact Le.snap [] rfl rfl (by simp; exact wkB (by (try simp at *); grind [GrPre]))
  refine awp_cond _ rfl (fun h1 => ?_) fun h1 => ?_
  · refine awp_seq ?_
    refine awp_run (s := ?s2) rfl ?o2 ?q2
    case o2 => simp; rfl
    refine awp_ret ?_
    simp at h1
    exact ⟨.inr rfl, RetOk.one (by simp [GrOk, h1])⟩
  simp at h1
  have hs := h1.1
  have hs2 := h1.2.1
  refine awp_skip ?_
  refine awp_seq ?_
  refine awp_seq ?_
  refine awp_run (s := ?s3) rfl ?o3 ?q3
  case o3 => simp; rfl
  refine awp_block ?_
  refine awp_loop (ι := Nat) (fun k => ⟨58, [(1, .pv (gC g)), (25, eEs g.edges), (26, .I g.edges.length), (27, .I k)], [], 16⟩) (fun k => k ≤ g.edges.length ∧ ∀ i, i < k → EdAt g i) (fun k => g.edges.length - k) (0) ?_ (Le.snap [] rfl rfl (by simp)) ?_
  · simp
  rintro k ⟨hk, hp⟩
  refine awp_seq ?_
  refine awp_run (s := ?s4) rfl ?o4 ?q4
  case o4 => simp; rfl
  refine awp_seq ?_
  refine awp_cond _ rfl (fun h5 => ?_) fun h5 => ?_
  · simp at h5
    have hw2 : IntKind.i64.wrap ((k : Int) + 1) = (k : Int) + 1 := w64 (by omega) (by omega)
    have hwp : 0 < k → IntKind.i64.wrap ((k : Int) - 1) = ((k - 1 : Nat) : Int) := fun h => by rw [w64 (by omega) (by omega)]; omega
    have h5' : k - 1 < g.edges.length := by omega
    refine awp_skip ?_
    refine awp_seq ?_
    refine awp_block ?_
    refine awp_regc ⟨58, [(1, .pv (gC g)), (3, .I k), (4, .pv (eC g.edges[k])), (25, eEs g.edges), (26, .I g.edges.length), (27, .I k)], [], 16⟩ rfl ?_ ?_
    · simp [h5]
      exact Le.snap [48] rfl rfl (by simp)
    refine awp_dregc ⟨58, [(1, .pv (gC g)), (25, eEs g.edges), (26, .I g.edges.length), (27, .I k), (56, .B (decide (¬ EdAt g k)))], [], 16⟩ rfl ?_ ?_
    · simp
      repeat' first
        | (refine callf ngraph_fits rfl ?_; refine call0e (graph_fits_ok g _ hs hs2 hl2) rfl ?_; simp)
        | (refine callf nlists_In rfl ?_; refine call0e (lists_In_ok ..) rfl ?_; simp)
        | (refine callf ngraph_compare rfl ?_; refine call0e (graph_compare_ok ..) rfl ?_; simp)
        | (refine gcase (fun hb => ?_) (fun hb => ?_) <;> (try rw [hb]) <;> (try simp at hb) <;> simp [hb, h5, h5', hwp])
      all_goals exact ⟨rfl, Le.snap [] rfl rfl (by simp; exact wkB (by (try simp at *); grind [EdAt]))⟩
    refine awp_cond _ rfl (fun h6 => ?_) fun h6 => ?_
    · refine awp_seq ?_
      refine awp_run (s := ?s7) rfl ?o7 ?q7
      case o7 => simp; rfl
      refine awp_ret ?_
      have hn : ¬ GrOk g := fun h => by simp at h6; exact h6 (h.2 k)
      exact ⟨.inr rfl, RetOk.one (by simp [hn])⟩
    simp at h6
    refine awp_skip ?_
    refine awp_run (s := ?s8) rfl ?o8 ?q8
    case o8 => simp; rfl
    refine ⟨k + 1, ⟨h5, fun i hi => ?_⟩, ?_, Le.snap [] rfl rfl (by simp [hw2])⟩
    · rcases Nat.lt_succ_iff_lt_or_eq.1 hi with h | rfl
      · exact hp i h
      · exact h6
    · omega
  simp at h5
  have hy : GrOk g := ⟨h1, fun i hi => hp i (by omega) hi⟩
  refine awp_exit ?_
  refine hit ?_
  refine awp_seq ?_
  refine awp_run (s := ?s9) rfl ?o9 ?q9
  case o9 => simp; rfl
  refine awp_ret ?_
  exact ⟨.inr rfl, RetOk.one (by simp [hy])⟩
end Go.Proofs.YtnlanlpbgcalcaaGreat
namespace Go.Proofs.YtnlanlpbgcalcaaGreat
open Go
def Bef (a b : Ed) : Prop := a.f < b.f ∨ a.f = b.f ∧ a.t < b.t
instance (a b : Ed) : Decidable (Bef a b) := by unfold Bef; infer_instance
theorem cmpE_lt {a b : Ed} : cmpE a b < 0 ↔ Bef a b := by
  simp only [cmpE, cmpI, Bef]
  grind
theorem cmpE_eq {a b : Ed} : cmpE a b = 0 ↔ a.f = b.f ∧ a.t = b.t := by
  simp only [cmpE, cmpI]
  grind
end Go.Proofs.YtnlanlpbgcalcaaGreat
namespace Go.Proofs.YtnlanlpbgcalcaaGreat
open Go
end Go.Proofs.YtnlanlpbgcalcaaGreat
namespace Go.Proofs.YtnlanlpbgcalcaaGreat
open Go
theorem cloneI_ok (l : List Int) (hl : l.length * 8 ≤ 140737488355328) : ACalls Tryz.prog nslices_Clone_Lint_int [ints l] [] (.rs 0 0 l.length) [some ⟨1, l.map fun n => [AV.I n], 0⟩] := by
  cases l with
  | nil =>
    refine acalls_mt fun ad c => ?_
    refine sslices_Clone_Lint_int.acalls (Nat.le_of_ble_eq_true rfl) (Nat.le_of_ble_eq_true rfl) (Nat.zero_le _) ?_
    show awp _ 0 _ _ ⟨8, [(0, .sc (.slice ad 0 c))], [], 16⟩
    refine awp_seq ?_
    refine awp_run (s := ?s1) rfl ?o1 ?q1
    case o1 => simp; rfl
    refine awp_cut (ι := Unit) (fun _ => ⟨8, [(0, .vs 1 false [])], [], 40⟩) (fun _ => True) ?_ fun _ _ => ?_
    · refine awp_seq ?_
      refine awp_run (s := ?s2) rfl ?o2 ?q2
      case o2 => simp; rfl
      refine awp_cond _ rfl (fun h3 => ?_) fun h3 => ?_
      · refine awp_regc ⟨8, [(2, .rs 40 0 0)], [(40, some ⟨1, [], 0⟩)], 48⟩ rfl ?_ ?_
        · simp
          exact Le.lst [] [] [(40, 1)] rfl (by simp) (by simp) (by simp) (by simp) (by simp) (by simp) (by simp) (by simp [Up]) (by simp)
        refine awp_ret ?_
        exact ⟨.inr rfl, RetOk.out [40] [] rfl (by simp) (by simp) (by simp) (by simp)⟩
      refine awp_skip ?_
      exact ⟨(), trivial, Le.slots rfl rfl (by simp; exact .mt _ _ _)⟩
    refine awp_seq ?_
    refine awp_run (s := ?s5) rfl ?o5 ?q5
    case o5 => simp [List.replicate]; rfl
    refine awp_ret ?_
    exact ⟨.inr rfl, RetOk.out [56] [] rfl (by simp) (by simp) (by simp) (by simp)⟩
  | cons x l =>
    refine sslices_Clone_Lint_int.acalls (Nat.le_of_ble_eq_true rfl) (Nat.le_of_ble_eq_true rfl) (Nat.zero_le _) ?_
    show awp _ 0 _ _ ⟨8, [(0, ints (x :: l))], [], 16⟩
    refine awp_seq ?_
    refine awp_run (s := ?t1) rfl ?p1 ?r1
    case p1 => simp; rfl
    refine awp_seq ?_
    refine awp_seq ?_
    refine awp_run (s := ?t2) rfl ?p2 ?r2
    case p2 => simp; rfl
    refine awp_cond _ rfl (fun h3 => by cases h3) fun h3 => ?_
    refine awp_skip ?_
    refine awp_seq ?_
    refine awp_run (s := ?t4) rfl ?p4 ?r4
    case p4 => simp [List.replicate]; refine ⟨by simpa using hl, by simp at hl; omega, ?_⟩; rfl
    refine awp_ret ?_
    exact ⟨.inr rfl, RetOk.out [56] [] rfl (by simp) (by simp) (by simp) (by simp [Function.comp_def])⟩
theorem cloneE_ok (l : List Ed) (hl : l.length * 24 ≤ 140737488355328) : ACalls Tryz.prog nslices_Clone_Lapi_Edge_api_Edge [eEs l] [] (.rs 0 0 l.length) [some ⟨3, l.map fun e => [AV.I e.f, AV.I e.t, AV.I e.v], 0⟩] := by
  cases l with
  | nil =>
    refine acalls_mt fun ad c => ?_
    refine sslices_Clone_Lapi_Edge_api_Edge.acalls (Nat.le_of_ble_eq_true rfl) (Nat.le_of_ble_eq_true rfl) (Nat.zero_le _) ?_
    show awp _ 0 _ _ ⟨8, [(0, .sc (.slice ad 0 c))], [], 16⟩
    refine awp_seq ?_
    refine awp_run (s := ?s1) rfl ?o1 ?q1
    case o1 => simp; rfl
    refine awp_cut (ι := Unit) (fun _ => ⟨8, [(0, .vs 3 false [])], [], 40⟩) (fun _ => True) ?_ fun _ _ => ?_
    · refine awp_seq ?_
      refine awp_run (s := ?s2) rfl ?o2 ?q2
      case o2 => simp; rfl
      refine awp_cond _ rfl (fun h3 => ?_) fun h3 => ?_
      · refine awp_regc ⟨8, [(2, .rs 40 0 0)], [(40, some ⟨3, [], 0⟩)], 48⟩ rfl ?_ ?_
        · simp
          exact Le.lst [] [] [(40, 3)] rfl (by simp) (by simp) (by simp) (by simp) (by simp) (by simp) (by simp) (by simp [Up]) (by simp)
        refine awp_ret ?_
        exact ⟨.inr rfl, RetOk.out [40] [] rfl (by simp) (by simp) (by simp) (by simp)⟩
      refine awp_skip ?_
      exact ⟨(), trivial, Le.slots rfl rfl (by simp; exact .mt _ _ _)⟩
    refine awp_seq ?_
    refine awp_run (s := ?s5) rfl ?o5 ?q5
    case o5 => simp [List.replicate]; rfl
    refine awp_ret ?_
    exact ⟨.inr rfl, RetOk.out [56] [] rfl (by simp) (by simp) (by simp) (by simp)⟩
  | cons x l =>
    refine sslices_Clone_Lapi_Edge_api_Edge.acalls (Nat.le_of_ble_eq_true rfl) (Nat.le_of_ble_eq_true rfl) (Nat.zero_le _) ?_
    show awp _ 0 _ _ ⟨8, [(0, eEs (x :: l))], [], 16⟩
    refine awp_seq ?_
    refine awp_run (s := ?t1) rfl ?p1 ?r1
    case p1 => simp; rfl
    refine awp_seq ?_
    refine awp_seq ?_
    refine awp_run (s := ?t2) rfl ?p2 ?r2
    case p2 => simp; rfl
    refine awp_cond _ rfl (fun h3 => by cases h3) fun h3 => ?_
    refine awp_skip ?_
    refine awp_seq ?_
    refine awp_run (s := ?t4) rfl ?p4 ?r4
    case p4 => simp [List.replicate]; refine ⟨by simpa using hl, by simp at hl; omega, ?_⟩; rfl
    refine awp_ret ?_
    exact ⟨.inr rfl, RetOk.out [56] [] rfl (by simp) (by simp) (by simp) (by simp [Function.comp_def])⟩
end Go.Proofs.YtnlanlpbgcalcaaGreat
namespace Go.Proofs.YtnlanlpbgcalcaaGreat
open Go
def idxE (l : List Ed) (e : Ed) : Nat := l.findIdx fun x => !decide (Bef x e)
def AtE (l : List Ed) (k : Nat) (f t : Int) : Prop := ∃ h : k < l.length, l[k].f = f ∧ l[k].t = t
instance (l : List Ed) (k : Nat) (f t : Int) : Decidable (AtE l k f t) := by unfold AtE; infer_instance
def BefAt (l : List Ed) (e : Ed) (k : Nat) : Prop := ∀ h : k < l.length, Bef l[k] e
theorem idxE_le (l : List Ed) (e : Ed) : idxE l e ≤ l.length := List.findIdx_le_length
theorem idxE_of {l : List Ed} {e : Ed} {k : Nat} (hk : k ≤ l.length) (h1 : ∀ i, i < k → BefAt l e i) (h2 : ∀ h : k < l.length, ¬ Bef l[k] e) : idxE l e = k := by
  unfold idxE
  rcases Nat.lt_or_ge k l.length with h | h
  · rw [List.findIdx_eq h]
    refine ⟨by simpa using h2 h, fun j hj => ?_⟩
    simpa using h1 j hj (by omega)
  · obtain rfl : k = l.length := by omega
    rw [List.findIdx_eq_length]
    intro x hx
    obtain ⟨i, hi, rfl⟩ := List.mem_iff_getElem.1 hx
    simpa using h1 i hi hi
end Go.Proofs.YtnlanlpbgcalcaaGreat
namespace Go.Proofs.YtnlanlpbgcalcaaGreat
open Go
theorem graph_copied_ok (g : Gr) (hl : g.edges.length * 24 ≤ 140737488355328) (hl2 : g.gone.length * 8 ≤ 140737488355328) : ACalls Tryz.prog ngraph_copied [eG g] [] (.agg [.I g.size, .rs 0 0 g.edges.length, .rs 1 0 g.gone.length]) [some ⟨3, g.edges.map fun e => [AV.I e.f, AV.I e.t, AV.I e.v], 0⟩, some ⟨1, g.gone.map fun n => [AV.I n], 0⟩] := by
  refine sgraph_copied.acalls (Nat.le_of_ble_eq_true rfl) (Nat.le_of_ble_eq_true rfl) (Nat.zero_le _) ?_
  show awp _ 0 _ _ ⟨12, [(0, eG g)], [], 16⟩
  have hl3 : g.edges.length ≤ 140737488355328 := by omega
  have hl4 : g.gone.length ≤ 140737488355328 := by omega
  refine awp_seq ?_
  refine awp_run (s := ?s0) rfl ?o0 ?q0
  case o0 => simp; rfl
  refine awp_seq ?_
  refine awp_drun (s := ?s1) (tr := ?t1) rfl ?o1 ?r1 ?q1
  case o1 => simp; refine callN1 (cloneE_ok _ hl) rfl ?_; simp; refine callN1 (cloneI_ok _ hl2) rfl ?_; simp [Function.comp_def]; constructor <;> rfl
  case r1 => rfl
  refine awp_ret ?_
  refine ⟨.inr rfl, ?_⟩
  show RetOk [(2, some (true, 3))] 0 _ _ _
  exact RetOk.out (vs := [.agg [.I g.size, .rs 64 0 g.edges.length, .rs 88 0 g.gone.length]]) [64, 88] [] (by simp) (by simp) (by simp) (by simp) (by simp [Function.comp_def])
end Go.Proofs.YtnlanlpbgcalcaaGreat
namespace Go.Proofs.YtnlanlpbgcalcaaGreat
open Go
theorem list_eq {α : Type} {a b : List α} (h : a.length = b.length) (hp : ∀ i, i < a.length → a[i]? = b[i]?) : a = b := by
  apply List.ext_getElem?
  intro i
  rcases Nat.lt_or_ge i a.length with h1 | h1
  · exact hp i h1
  · rw [List.getElem?_eq_none h1, List.getElem?_eq_none (by omega)]
theorem ed_eq {a b : Ed} : a = b ↔ a.f = b.f ∧ a.t = b.t ∧ a.v = b.v := by
  cases a; cases b; simp
theorem SameInts_ok (a b : List Int) (hl : a.length ≤ 140737488355328) : ACalls Tryz.prog nref03_SameInts [ints a, ints b] [] (.B (decide (a = b))) [] := by
  refine sref03_SameInts.acalls (Nat.le_of_ble_eq_true rfl) (Nat.le_of_ble_eq_true rfl) (Nat.le_refl _) ?_
  show awp _ 0 _ _ ⟨26, [(0, ints a), (1, ints b)], [], 16⟩
  refine awp_seq ?_
  refine awp_run (s := ?s1) rfl ?o1 ?q1
  case o1 => simp; rfl
  refine awp_seq ?_
  refine awp_seq ?_
  refine awp_run (s := ?s2) rfl ?o2 ?q2
  case o2 => simp; rfl
  refine awp_cond _ rfl (fun h3 => ?_) fun h3 => ?_
  · try simp at h3
    refine awp_seq ?_
    refine awp_run (s := ?s4) rfl ?o4 ?q4
    case o4 => simp; rfl
    refine awp_ret ?_
    have hn : a ≠ b := fun h => h3 (by rw [h])
    exact ⟨.inr rfl, RetOk.one (by simp [hn])⟩
  try simp at h3
  refine awp_skip ?_
  refine awp_seq ?_
  refine awp_seq ?_
  refine awp_run (s := ?s5) rfl ?o5 ?q5
  case o5 => simp; rfl
  refine awp_block ?_
  refine awp_loop (ι := Nat) (fun k => ⟨26, [(0, ints a), (1, ints b), (5, .I k)], [], 16⟩) (fun k => k ≤ a.length ∧ ∀ i, i < k → a[i]? = b[i]?) (fun k => a.length - k) (0) ?_ (Le.snap [] rfl rfl (by simp)) ?_
  · simp
  rintro k ⟨hk, hp⟩
  refine awp_seq ?_
  refine awp_seq ?_
  refine awp_run (s := ?s6) rfl ?o6 ?q6
  case o6 => simp; rfl
  refine awp_cond _ rfl (fun h7 => ?_) fun h7 => ?_
  · try simp at h7
    have hw2 : IntKind.i64.wrap ((k : Int) + 1) = (k : Int) + 1 := w64 (by omega) (by omega)
    have hwp : 0 < k → IntKind.i64.wrap ((k : Int) - 1) = ((k - 1 : Nat) : Int) := fun h => by rw [w64 (by omega) (by omega)]; omega
    have hkp : k - 1 < a.length := by omega
    have hkb : k < b.length := by omega
    refine awp_skip ?_
    refine awp_seq ?_
    refine awp_block ?_
    refine awp_seq ?_
    refine awp_drun (s := ?s8) (tr := ?t8) rfl ?o8 ?r8 ?q8
    case o8 => simp [h7, hw2, hwp, hkp, hkb]; constructor <;> rfl
    case r8 => rfl
    refine awp_cond _ rfl (fun h9 => ?_) fun h9 => ?_
    · try simp at h9
      refine awp_seq ?_
      refine awp_run (s := ?s10) rfl ?o10 ?q10
      case o10 => simp [h7, hw2, hwp, hkp, hkb]; rfl
      refine awp_ret ?_
      have hn : a ≠ b := fun h => h9 (by simp [h])
      exact ⟨.inr rfl, RetOk.one (by simp [hn])⟩
    try simp at h9
    refine awp_skip ?_
    refine awp_run (s := ?s11) rfl ?o11 ?q11
    case o11 => simp [h7, hw2, hwp, hkp, hkb]; rfl
    refine ⟨k + 1, ⟨h7, fun i hi => ?_⟩, by omega, Le.snap [] rfl rfl (by simp [h7, hw2, hwp, hkp, hkb])⟩
    rcases Nat.lt_succ_iff_lt_or_eq.1 hi with h | rfl
    · exact hp i h
    · simp [h7, hkb, h9]
  try simp at h7
  have hall : ∀ i, i < a.length → a[i]? = b[i]? := fun i hi => hp i (by omega)
  refine awp_exit ?_
  refine hit ?_
  refine awp_seq ?_
  refine awp_run (s := ?s12) rfl ?o12 ?q12
  case o12 => simp; rfl
  refine awp_ret ?_
  have hy : a = b := list_eq (by omega) hall
  exact ⟨.inr rfl, RetOk.one (by simp [hy])⟩
end Go.Proofs.YtnlanlpbgcalcaaGreat
namespace Go.Proofs.YtnlanlpbgcalcaaGreat
open Go
def EqG (a b : Gr) : Prop := a.size = b.size ∧ a.edges = b.edges ∧ a.gone = b.gone
instance (a b : Gr) : Decidable (EqG a b) := by unfold EqG; infer_instance
theorem ref11_Same_ok (a b : Gr) (hl : a.edges.length ≤ 140737488355328) (hl2 : a.gone.length ≤ 140737488355328) : ACalls Tryz.prog nref11_Same [eG a, eG b] [] (.B (decide (EqG a b))) [] := by
  refine sref11_Same.acalls (Nat.le_of_ble_eq_true rfl) (Nat.le_of_ble_eq_true rfl) (Nat.le_refl _) ?_
  show awp _ 0 _ _ ⟨46, [(0, eG a), (1, eG b)], [], 16⟩
  refine awp_regc ⟨46, [(2, .pv (gC a)), (3, .pv (gC b))], [], 16⟩ rfl ?_ ?_
  · simp
    exact Le.snap [16, 24] rfl rfl (by simp)
  refine awp_seq ?_
  refine awp_regc ⟨46, [(2, .pv (gC a)), (3, .pv (gC b)), (27, .B (decide (¬ (a.size = b.size ∧ a.edges.length = b.edges.length ∧ a.gone = b.gone))))], [], 16⟩ rfl ?_ ?_
  · simp
    repeat' first
      | (refine callf nref03_SameInts rfl ?_; refine call0e (SameInts_ok _ _ hl2) rfl ?_; simp)
      | (refine gcase (fun hb => ?_) (fun hb => ?_) <;> (try rw [hb]) <;> (try simp at hb) <;> simp [*])
    all_goals exact Le.snap [] rfl rfl (by simp <;> exact wkB (by (try simp at *); grind [ed_eq]))
  refine awp_cond _ rfl (fun h1 => ?_) fun h1 => ?_
  · try simp at h1
    refine awp_seq ?_
    refine awp_run (s := ?s2) rfl ?o2 ?q2
    case o2 => simp; rfl
    refine awp_ret ?_
    have hn : ¬ EqG a b := fun h => by obtain ⟨e1, e2, e3⟩ := h; simp_all
    exact ⟨.inr rfl, RetOk.one (by simp [hn])⟩
  try simp at h1
  refine awp_skip ?_
  refine awp_seq ?_
  refine awp_seq ?_
  refine awp_run (s := ?s3) rfl ?o3 ?q3
  case o3 => simp; rfl
  refine awp_block ?_
  refine awp_loop (ι := Nat) (fun k => ⟨46, [(2, .pv (gC a)), (3, .pv (gC b)), (5, .I k)], [], 16⟩) (fun k => k ≤ a.edges.length ∧ ∀ i, i < k → a.edges[i]? = b.edges[i]?) (fun k => a.edges.length - k) (0) ?_ (Le.snap [] rfl rfl (by simp)) ?_
  · simp
  rintro k ⟨hk, hp⟩
  refine awp_seq ?_
  refine awp_seq ?_
  refine awp_run (s := ?s4) rfl ?o4 ?q4
  case o4 => simp; rfl
  refine awp_cond _ rfl (fun h5 => ?_) fun h5 => ?_
  · try simp at h5
    have hw2 : IntKind.i64.wrap ((k : Int) + 1) = (k : Int) + 1 := w64 (by omega) (by omega)
    have hwp : 0 < k → IntKind.i64.wrap ((k : Int) - 1) = ((k - 1 : Nat) : Int) := fun h => by rw [w64 (by omega) (by omega)]; omega
    have hkp : k - 1 < a.edges.length := by omega
    have hkb : k < b.edges.length := by have := h1.2.1; omega
    refine awp_skip ?_
    refine awp_seq ?_
    refine awp_block ?_
    refine awp_dregc ⟨46, [(2, .pv (gC a)), (3, .pv (gC b)), (5, .I k), (45, .B (decide (a.edges[k] ≠ b.edges[k])))], [], 16⟩ rfl ?_ ?_
    · simp [h5, hw2, hwp, hkp, hkb]
      exact ⟨rfl, Le.snap [] rfl rfl (by simp <;> exact wkB (by grind [ed_eq]))⟩
    refine awp_cond _ rfl (fun h6 => ?_) fun h6 => ?_
    · try simp at h6
      refine awp_seq ?_
      refine awp_run (s := ?s7) rfl ?o7 ?q7
      case o7 => simp [h5, hw2, hwp, hkp, hkb]; rfl
      refine awp_ret ?_
      have hn : ¬ EqG a b := fun h => h6 (by simp [h.2.1])
      exact ⟨.inr rfl, RetOk.one (by simp [hn])⟩
    try simp at h6
    refine awp_skip ?_
    refine awp_run (s := ?s8) rfl ?o8 ?q8
    case o8 => simp [h5, hw2, hwp, hkp, hkb]; rfl
    refine ⟨k + 1, ⟨h5, fun i hi => ?_⟩, by omega, Le.snap [] rfl rfl (by simp [h5, hw2, hwp, hkp, hkb])⟩
    rcases Nat.lt_succ_iff_lt_or_eq.1 hi with h | rfl
    · exact hp i h
    · simp [h5, hkb, h6]
  try simp at h5
  have hall : ∀ i, i < a.edges.length → a.edges[i]? = b.edges[i]? := fun i hi => hp i (by omega)
  refine awp_exit ?_
  refine hit ?_
  refine awp_seq ?_
  refine awp_run (s := ?s9) rfl ?o9 ?q9
  case o9 => simp; rfl
  refine awp_ret ?_
  have hy : EqG a b := ⟨h1.1, list_eq h1.2.1 hall, h1.2.2⟩
  exact ⟨.inr rfl, RetOk.one (by simp [hy])⟩
end Go.Proofs.YtnlanlpbgcalcaaGreat
namespace Go.Proofs.YtnlanlpbgcalcaaGreat
open Go
theorem acalls_wk {P : Program} {f : FuncId} {xs ys : List AV} {hs : List Ent} {res : AV} {hs' : List (Option Ent)} (hl : xs.length = ys.length) (hw : ∀ i, i < ys.length → Wk (xs.getD i .dead) (ys.getD i .dead)) (h : ACalls P f ys hs res hs') : ACalls P f xs hs res hs' :=
  ⟨h.1, h.2.1, fun T M w vs h1 h2 h3 hr => h.2.2 T M w vs h1 h2 h3 ⟨hr.1.trans hl, fun i hi => (hw i hi).rep (hr.2 i (hl ▸ hi))⟩⟩
section
variable {H : Type}
def Fit (x : Int) : Prop := -9223372036854775808 ≤ x ∧ x ≤ 9223372036854775807
variable {P : Program} {tI tE tEs tIs tG : TypeId}
theorem int_of {n : Nat} (hI : P.underlying tI = some (.int .i64)) {d : DataW H} {cs : List AV} (h : avs P (n + 1) tI d = some cs) : ∃ x, cs = [.I x] ∧ Fit x := by
  cases d <;> simp [avs, hI] at h
  rename_i l
  cases l <;> simp at h
  obtain ⟨⟨rfl, hw⟩, rfl⟩ := h
  refine ⟨_, rfl, ?_⟩
  unfold Fit
  simpa [Lit.wf, IntKind.min, IntKind.max, IntKind.signed, IntKind.bits] using hw
theorem list_of {α : Type} {f : DataW H → Option (List AV)} (Q : α → List AV) : ∀ {ds : List (DataW H)} {rows : List (List AV)}, (∀ d row, f d = some row → ∃ a, row = Q a) → ds.mapM f = some rows → ∃ l : List α, rows = l.map Q
  | [], rows, _, h => by simp at h; subst h; exact ⟨[], rfl⟩
  | d :: ds, rows, hf, h => by
    simp only [List.mapM_cons] at h
    cases h1 : f d with
    | none => simp [h1] at h
    | some row =>
      cases h2 : ds.mapM f with
      | none => simp [h1, h2] at h
      | some rows' =>
        simp [h1, h2] at h
        subst h
        obtain ⟨a, rfl⟩ := hf d row h1
        obtain ⟨l, rfl⟩ := list_of Q hf h2
        exact ⟨a :: l, rfl⟩
theorem slice_of {α : Type} {n : Nat} {t e : TypeId} (ht : P.underlying t = some (.slice e)) (Q : α → List AV) (hf : ∀ (d : DataW H) row, avs P n e d = some row → ∃ a, row = Q a) {d : DataW H} {cs : List AV} (h : avs P (n + 1) t d = some cs) :
    ∃ (l : List α) (x : AV), cs = [x] ∧ Wk x (.vs (P.cellsOf e) false (l.map Q)) := by
  cases d <;> simp [avs, ht] at h
  · subst h; exact ⟨[], _, rfl, .nil _ _⟩
  · obtain ⟨rows, h, rfl⟩ := h
    obtain ⟨l, rfl⟩ := list_of Q hf h
    exact ⟨l, _, rfl, .refl _⟩
end
end Go.Proofs.YtnlanlpbgcalcaaGreat
namespace Go.Proofs.YtnlanlpbgcalcaaGreat
open Go
theorem ownK : ownKnob Tryz.prog.godebug = none := by kernel_rfl
theorem laidK : laidOutB Tryz.prog = true := by kernel_rfl
section
variable {H : Type} {P : Program} {tI tIs : TypeId}
theorem intArg_of {n : Nat} (hI : P.underlying tI = some (.int .i64)) {d : DataW H} {x : AV} (h : argAV P (n + 1) tI d = some x) : ∃ k : Int, x = .I k ∧ Fit k := by
  simp only [argAV, hI, Option.bind_eq_some_iff] at h
  obtain ⟨cs, h1, h2⟩ := h
  obtain ⟨k, rfl, hf⟩ := int_of hI h1
  simp at h2
  exact ⟨k, h2.symm, hf⟩
theorem intsArg_of {n : Nat} (hI : P.underlying tI = some (.int .i64)) (hIs : P.underlying tIs = some (.slice tI)) (cI : P.cellsOf tI = 1) {d : DataW H} {x : AV} (h : argAV P (n + 2) tIs d = some x) : ∃ l : List Int, Wk x (ints l) := by
  simp only [argAV, hIs, Option.bind_eq_some_iff] at h
  obtain ⟨cs, h1, h2⟩ := h
  obtain ⟨l, y, rfl, hw⟩ := slice_of hIs (fun x : Int => [AV.I x]) (fun d row h => by obtain ⟨x, h, _⟩ := int_of hI h; exact ⟨x, h⟩) h1
  rw [cI] at hw
  simp at h2
  subst h2
  exact ⟨l, hw⟩
end
end Go.Proofs.YtnlanlpbgcalcaaGreat
namespace Go.Proofs.YtnlanlpbgcalcaaGreat
abbrev nref11_At : Nat := 16
abbrev nlaw11_GraphAt : Nat := 4
end Go.Proofs.YtnlanlpbgcalcaaGreat
namespace Go.Proofs.YtnlanlpbgcalcaaGreat
open Go
set_option maxRecDepth 100000
def cref11_At : AFun := ⟨65,[(6,some (true,3)),(7,none)],
 (.seq (.reg false [oo 6 (.alloc [v0,vn,vn]) [],oo 7 .mv [ki 0]] [])
 (.seq (.seq
 (.reg false [oo 11 .mv [.t 2],oo 12 (.bin .lss) [.t 11,ki 1],oo 13 .mv [.t 12],oh 14 .mv [.t 2] 13,oh 15 (.bin .gtr) [.t 14,ki 3] 13,oo 16 .pick [.t 13,.c (.bool true),.t 15]] [])
 (.cond (.t 16)
 (.seq (.reg false [
 oo 17 (.build [v0,vn,vn] []) [],
 ou (.st 3) [.t 6,.t 17],
 oo 7 .mv [ki 2]] [])
 .ret)
 .skip))
 (.seq (.reg false [oo 18 .mv [.t 0],oo 19 .mv [.t 1],oo 20 .call [.f nref10_Gone,.t 18,.t 19],oo 21 (.build [v0,vn,vn] [(0,1),(2,1)]) [ki 64,.t 20],oo 8 (.alloc [v0,vn,vn]) [],ou (.st 3) [.t 8,.t 21]] [])
 (.seq (.reg false [oo 22 .mv [.t 0],oo 23 .mv [.t 1],oo 24 .call [.f nref10_Active,.t 22,.t 23],oo 9 .mv [.t 24]] [])
 (.seq (.seq
 (.reg false [oo 10 .mv [ki 0]] [])
 (.block 0 (.loop
 (.seq (.seq
 (.reg false [oo 25 .mv [.t 10],oo 26 .mv [.t 9],oo 27 .len [.t 26],oo 28 (.bin .lss) [.t 25,.t 27]] [])
 (.cond (.t 28)
 .skip
 (.exit 0)))
 (.seq (.block 1 (.seq (.reg false [oo 31 .mv [.t 9],oo 32 .mv [.t 10],oo 33 (.iad 7) [.t 31,.t 32],oo 34 (.fad 2) [.t 33],oo 35 (.ld false 1) [.t 34],oo 36 .mv [.t 2],oo 37 (.bin .geq) [.t 35,.t 36]] [])
 (.cond (.t 37)
 (.reg true [
 oo 38 (.fad 1) [.t 8],
 oo 39 (.ld false 1) [.t 38],
 oo 40 .mv [.t 9],
 oo 41 .mv [.t 10],
 oo 42 (.iad 7) [.t 40,.t 41],
 oo 43 (.fad 0) [.t 42],
 oo 44 (.ld false 1) [.t 43],
 oo 45 .mv [.t 9],
 oo 46 .mv [.t 10],
 oo 47 (.iad 7) [.t 45,.t 46],
 oo 48 (.fad 1) [.t 47],
 oo 49 (.ld false 1) [.t 48],
 oo 50 .mv [.t 9],
 oo 51 .mv [.t 10],
 oo 52 (.iad 7) [.t 50,.t 51],
 oo 53 (.fad 2) [.t 52],
 oo 54 (.ld false 1) [.t 53],
 oo 55 (.build [v0,v0,v0] [(0,1),(1,1),(2,1)]) [.t 44,.t 49,.t 54],
 oo 56 (.bsl 3 1 [v0,v0,v0] [0]) [.t 55],
 oo 57 (.app 3 24) [.t 39,.t 56],
 oo 58 (.fad 1) [.t 8],
 ou (.st 1) [.t 58,.t 57]] [[],[0],[],[],[2,3],[4],[5],[],[],[7,8],[9],[10],[],[],[12,13],[14],[15],[6,11,16],[17],[1,18],[0,1,2,3,4,5,6,7,8,9,10,11,12,13,14,15,16,17,18,19],[20,19,19,0,1,2,3,4,5,6,7,8,9,10,11,12,13,14,15,16,17,18,19]])
 .skip)))
 (.reg false [oo 29 .mv [.t 10],oo 30 (.bin .add) [.t 29,ki 1],oo 10 .mv [.t 30]] []))))))
 (.seq (.seq
 (.reg false [oo 59 (.fad 1) [.t 8],oo 60 (.ld false 1) [.t 59],oo 61 .len [.t 60],oo 62 (.bin .gtr) [.t 61,ki 500]] [])
 (.cond (.t 62)
 (.seq (.reg false [
 oo 63 (.build [v0,vn,vn] []) [],
 ou (.st 3) [.t 6,.t 63],
 oo 7 .mv [ki 3]] [])
 .ret)
 .skip))
 (.seq (.reg false [oo 64 (.ld true 3) [.t 8],ou (.st 3) [.t 6,.t 64],oo 7 .mv [ki 0]] [])
 .ret)))))))⟩
def claw11_GraphAt : AFun := ⟨89,[(6,none)],
 (.seq (.reg false [oo 6 .mv [.c (.bool false)]] [])
 (.seq (.seq
 (.reg false [oo 21 .mv [.t 0],oo 22 .call [.f nmade_Light,.t 21],oo 23 (.un .not) [.t 22]] [])
 (.cond (.t 23)
 (.seq (.reg false [
 oo 24 .call [.f nlaw11_awake],
 oo 6 .mv [.t 24]] [])
 .ret)
 .skip))
 (.seq (.reg false [oo 25 .mv [.t 0],oo 26 .call [.f nmade_Roll,.t 25],oo 7 .mv [.t 26]] [])
 (.seq (.reg false [oo 27 .mv [.t 7],oo 28 .call [.f nmade_Dice_Store,.t 27,ki 6],oo 29 .call [.f nref05_Counted,.t 28],oo 8 .mv [.t 29]] [])
 (.seq (.seq
 (.reg false [oo 30 .mv [.t 2],oo 31 (.bsl 1 4 [v0] [0,1,2,3]) [ki 1,ki 2,ki 3,.t 30],oo 32 .len [.t 31],oo 33 .mv [ki 0]] [])
 (.block 0 (.loop
 (.seq (.reg false [oo 34 (.bin .lss) [.t 33,.t 32]] [])
 (.seq (.cond (.t 34)
 .skip
 (.exit 0))
 (.seq (.block 1 (.seq (.reg false [oo 35 (.iad 1) [.t 31,.t 33],oo 36 (.ld false 1) [.t 35],oo 10 .mv [.t 36]] [])
 (.seq (.reg false [oo 37 .mv [.t 1],oo 38 .call [.f nmade_Mod,.t 37,ki 70],oo 39 .mv [.t 1],oo 40 (.bsl 1 2 [v0] [0,1]) [.t 38,.t 39],oo 41 .len [.t 40],oo 42 .mv [ki 0]] [])
 (.block 2 (.loop
 (.seq (.reg false [oo 43 (.bin .lss) [.t 42,.t 41]] [])
 (.seq (.cond (.t 43)
 .skip
 (.exit 2))
 (.seq (.block 3 (.seq (.reg false [oo 44 (.iad 1) [.t 40,.t 42],oo 45 (.ld false 1) [.t 44],oo 12 .mv [.t 45]] [])
 (.seq (.reg false [oo 47 .mv [.t 8],oo 48 .mv [.t 12],oo 49 .mv [.t 10],oo 50 .call [.f ngraph_At,.t 47,.t 48,.t 49],oo 46 .mv [.t 50],oo 51 (.ext 0) [.t 46],oo 52 (.ext 1) [.t 46],oo 13 (.alloc [v0,vn,vn]) [],ou (.st 3) [.t 13,.t 51],oo 14 .mv [.t 52]] [])
 (.seq (.reg false [oo 54 .mv [.t 8],oo 55 .mv [.t 12],oo 56 .mv [.t 10],oo 57 .call [.f nref11_At,.t 54,.t 55,.t 56],oo 53 .mv [.t 57],oo 58 (.ext 0) [.t 53],oo 59 (.ext 1) [.t 53],oo 15 (.alloc [v0,vn,vn]) [],ou (.st 3) [.t 15,.t 58],oo 16 .mv [.t 59]] [])
 (.seq (.reg false [oo 60 (.ld true 3) [.t 13],oo 61 (.ld true 3) [.t 15],oo 62 .mv [.t 14],oo 63 .mv [.t 16],oo 64 .call [.f nlaw11_same,.t 60,.t 61,.t 62,.t 63],oo 65 (.un .not) [.t 64]] [])
 (.cond (.t 65)
 (.seq (.reg false [
 oo 6 .mv [.c (.bool false)]] [])
 .ret)
 .skip))))))
 (.reg false [oo 66 (.bin .add) [.t 42,ki 1],oo 42 .mv [.t 66]] [])))))))))
 (.reg false [oo 67 (.bin .add) [.t 33,ki 1],oo 33 .mv [.t 67]] [])))))))
 (.seq (.reg false [oo 69 .mv [.t 8],oo 70 .mv [.t 1],oo 71 .call [.f nmade_Mod,.t 70,ki 70],oo 72 .call [.f ngraph_At,.t 69,.t 71,ki 1],oo 68 .mv [.t 72],oo 73 (.ext 0) [.t 68],oo 74 (.ext 1) [.t 68],oo 17 (.alloc [v0,vn,vn]) [],ou (.st 3) [.t 17,.t 73],oo 18 .mv [.t 74]] [])
 (.seq (.reg false [oo 76 .mv [.t 8],oo 77 .mv [.t 1],oo 78 .call [.f nmade_Mod,.t 77,ki 70],oo 79 .call [.f ngraph_At,.t 76,.t 78,ki 3],oo 75 .mv [.t 79],oo 80 (.ext 0) [.t 75],oo 81 (.ext 1) [.t 75],oo 19 (.alloc [v0,vn,vn]) [],ou (.st 3) [.t 19,.t 80],oo 20 .mv [.t 81]] [])
 (.seq (.reg true [oo 82 .call [.f nlaw11_awake],oo 83 .mv [.t 82],og 84 (.ld true 3) [.t 17] 83,og 85 .call [.f ngraph_Level,.t 84,ki 3] 83,og 86 (.ld true 3) [.t 19] 83,og 87 .call [.f nref11_Same,.t 85,.t 86] 83,oo 88 .pick [.t 83,.t 87,.c (.bool false)],oo 6 .mv [.t 88]] [[],[0,0],[1],[2,1,1],[1],[3,4,3,1],[1,5],[6,5,0,1,2,3,4,5,6]])
 .ret))))))))⟩
end Go.Proofs.YtnlanlpbgcalcaaGreat
namespace Go.Proofs.YtnlanlpbgcalcaaGreat
open Go
set_option maxRecDepth 100000
theorem sref11_At : Src Tryz.prog nref11_At cref11_At := ⟨mixed, Tryz.f16, by kernel_rfl, by kernel_rfl, by decide⟩
theorem slaw11_GraphAt : Src Tryz.prog nlaw11_GraphAt claw11_GraphAt := ⟨mixed, Tryz.f4, by kernel_rfl, by kernel_rfl, by decide⟩
end Go.Proofs.YtnlanlpbgcalcaaGreat

namespace Go.Proofs.YtnlanlpbgcalcaaGreat
open Go
theorem take_map_len {α β : Type} (f : α → β) (l : List α) : List.take l.length (List.map f l) = List.map f l := List.take_of_length_le (by simp)
def emptyG : Gr := ⟨0, [], []⟩
def plusE (g : Gr) (e : Ed) : Gr := ⟨g.size, g.edges.take (idxE g.edges ⟨e.f, e.t, 0⟩) ++ e :: g.edges.drop (idxE g.edges ⟨e.f, e.t, 0⟩), g.gone⟩
open Classical in
noncomputable def withR (g : Gr) (e : Ed) : Gr × Int :=
  if ¬ GrOk g then (emptyG, 14) else if ¬ Fits g e then (emptyG, 4) else if ¬ (1 ≤ e.v ∧ e.v ≤ 3) then (emptyG, 2)
  else if AtE g.edges (idxE g.edges ⟨e.f, e.t, 0⟩) e.f e.t then (emptyG, 19) else if g.edges.length = 500 then (emptyG, 3) else (plusE g e, 0)
end Go.Proofs.YtnlanlpbgcalcaaGreat
namespace Go.Proofs.YtnlanlpbgcalcaaGreat
open Go
def minusE (g : Gr) (f t : Int) : Gr := ⟨g.size, g.edges.take (idxE g.edges ⟨f, t, 0⟩) ++ g.edges.drop (idxE g.edges ⟨f, t, 0⟩ + 1), g.gone⟩
open Classical in
noncomputable def withoutR (g : Gr) (f t : Int) : Gr × Int :=
  if ¬ GrOk g then (emptyG, 14) else if ¬ AtE g.edges (idxE g.edges ⟨f, t, 0⟩) f t then (emptyG, 19) else (minusE g f t, 0)
end Go.Proofs.YtnlanlpbgcalcaaGreat
namespace Go.Proofs
open Go.Shelf
def Tryz.lays189_ren : Go.Shelf.Ren := ⟨fun | 189 => 33 | 125 => 56 | 257 => 55 | 128 => 90 | 129 => 91 | 294 => 81 | 295 => 82 | 296 => 83 | 297 => 84 | 298 => 85 | 299 => 86 | 216 => 87 | 300 => 88 | 301 => 89 | 328 => 106 | 329 => 107 | 330 => 108 | 331 => 109 | 332 => 110 | 215 => 80 | 343 => 119 | n => n, fun | 28 => 22 | 3 => 3 | 46 => 89 | 0 => 0 | 51 => 116 | 53 => 118 | 4 => 4 | 183 => 110 | 182 => 109 | 131 => 75 | 5 => 5 | 9 => 9 | 218 => 130 | 222 => 134 | 228 => 145 | 229 => 146 | n => n, fun | n => n⟩
theorem Tryz.lays189 : Go.Proofs.Lays.n189 Tryz.prog Tryz.lays189_ren := {
  mixed := by kernel_rfl
  f125 := Tryz.func56.trans (congrArg some (by kernel_rfl))
  f128 := Tryz.func90.trans (congrArg some (by kernel_rfl))
  f129 := Tryz.func91.trans (congrArg some (by kernel_rfl))
  f189 := Tryz.func33.trans (congrArg some (by kernel_rfl))
  f215 := Tryz.func80.trans (congrArg some (by kernel_rfl))
  f216 := Tryz.func87.trans (congrArg some (by kernel_rfl))
  f257 := Tryz.func55.trans (congrArg some (by kernel_rfl))
  f294 := Tryz.func81.trans (congrArg some (by kernel_rfl))
  f295 := Tryz.func82.trans (congrArg some (by kernel_rfl))
  f296 := Tryz.func83.trans (congrArg some (by kernel_rfl))
  f297 := Tryz.func84.trans (congrArg some (by kernel_rfl))
  f298 := Tryz.func85.trans (congrArg some (by kernel_rfl))
  f299 := Tryz.func86.trans (congrArg some (by kernel_rfl))
  f300 := Tryz.func88.trans (congrArg some (by kernel_rfl))
  f301 := Tryz.func89.trans (congrArg some (by kernel_rfl))
  f328 := Tryz.func106.trans (congrArg some (by kernel_rfl))
  f329 := Tryz.func107.trans (congrArg some (by kernel_rfl))
  f330 := Tryz.func108.trans (congrArg some (by kernel_rfl))
  f331 := Tryz.func109.trans (congrArg some (by kernel_rfl))
  f332 := Tryz.func110.trans (congrArg some (by kernel_rfl))
  f343 := Tryz.func119.trans (congrArg some (by kernel_rfl))
  t0 := Tryz.underlying0
  a0 := Tryz.isAgg0
  z0 := Tryz.sizeOf0
  v0 := Tryz.zeroValue0
  t3 := Tryz.underlying3
  a3 := Tryz.isAgg3
  z3 := Tryz.sizeOf3
  v3 := Tryz.zeroValue3
  t4 := Tryz.underlying4
  a4 := Tryz.isAgg4
  z4 := Tryz.sizeOf4
  v4 := Tryz.zeroValue4
  t5 := Tryz.underlying5
  a5 := Tryz.isAgg5
  z5 := Tryz.sizeOf5
  v5 := Tryz.zeroValue5
  t9 := Tryz.underlying9
  a9 := Tryz.isAgg9
  z9 := Tryz.sizeOf9
  v9 := Tryz.zeroValue9
  t28 := Tryz.underlying22
  a28 := Tryz.isAgg22
  z28 := Tryz.sizeOf22
  v28 := Tryz.zeroValue22
  t46 := Tryz.underlying89
  a46 := Tryz.isAgg89
  z46 := Tryz.sizeOf89
  v46 := Tryz.zeroValue89
  t51 := Tryz.underlying116
  a51 := Tryz.isAgg116
  z51 := Tryz.sizeOf116
  v51 := Tryz.zeroValue116
  t53 := Tryz.underlying118
  a53 := Tryz.isAgg118
  z53 := Tryz.sizeOf118
  v53 := Tryz.zeroValue118
  t131 := Tryz.underlying75
  a131 := Tryz.isAgg75
  z131 := Tryz.sizeOf75
  v131 := Tryz.zeroValue75
  t182 := Tryz.underlying109
  a182 := Tryz.isAgg109
  z182 := Tryz.sizeOf109
  v182 := Tryz.zeroValue109
  t183 := Tryz.underlying110
  a183 := Tryz.isAgg110
  z183 := Tryz.sizeOf110
  v183 := Tryz.zeroValue110
  t218 := Tryz.underlying130
  a218 := Tryz.isAgg130
  z218 := Tryz.sizeOf130
  v218 := Tryz.zeroValue130
  t222 := Tryz.underlying134
  a222 := Tryz.isAgg134
  z222 := Tryz.sizeOf134
  v222 := Tryz.zeroValue134
  t228 := Tryz.underlying145
  a228 := Tryz.isAgg145
  z228 := Tryz.sizeOf145
  v228 := Tryz.zeroValue145
  t229 := Tryz.underlying146
  a229 := Tryz.isAgg146
  z229 := Tryz.sizeOf146
  v229 := Tryz.zeroValue146 }
end Go.Proofs
namespace Go.Proofs.YtnlanlpbgcalcaaGreat
open Go
def iRows (l : List Int) : List (List AV) := l.map fun n => [AV.I n]
theorem Src.body {P : Program} {f : FuncId} {af : AFun} (s : Src P f af) : ∃ fn c, P.funcs[f]? = some fn ∧ fn.body = some c ∧ fn.name ≠ "runtime.NumGoroutine" := by
  obtain ⟨_, fn, hf, hc, hn⟩ := s
  unfold compF at hc
  cases hb : fn.body with
  | none => rw [hb] at hc; cases hc
  | some c => exact ⟨fn, c, hf, hb, hn⟩
theorem sort_some (zs : List Int) (h0 : zs ≠ []) (hl : zs.length < 4611686018427387904) :
    ACalls Tryz.prog nslices_Sort_Lint_int [.rs 0 0 zs.length] [{ s := 1, rows := iRows zs }] (.tup []) ([{ s := 1, rows := iRows (zs.mergeSort fun x y => decide (x ≤ y)) }].map some) := by
  refine ⟨sslices_Sort_Lint_int.body, by simp, fun T M w vs htok hhs hdom hrep => ?_⟩
  have hpos : 0 < zs.length := List.length_pos_iff.2 h0
  obtain ⟨hsz, hr⟩ := hrep
  have hr0 := hr 0 (by simp)
  simp only [List.getD_cons_zero] at hr0
  have hvs : vs = #[vs.getD 0 undef] := by
    apply Array.ext
    · simpa using hsz
    · intro i h1 h2
      have : i = 0 := by simp at h2; omega
      subst this
      simp [Array.getD, h1]
  rw [hvs]
  generalize vs.getD 0 undef = v at hr0
  cases hr0 with
  | rs _ _ _ _ cap a g hg hlc hn hb =>
  obtain ⟨g', hg', ent⟩ := hhs.ent 0 _ rfl
  rw [hg] at hg'
  obtain rfl := Option.some.inj hg'
  have hrl : (iRows zs).length = zs.length := by simp [iRows]
  cases hblk : g.blk with
  | none =>
    have := ent.none hblk
    simp [iRows] at this
    exact absurd this h0
  | some b =>
  obtain ⟨hcap, c0, t0, f0, hc0, hle0⟩ := hb b hblk
  obtain ⟨cells, ty, hw, htb, hlen, hrows⟩ := ent.blk b hblk
  have ha : a = some ⟨b, g.base + 0 * g.s, none⟩ := by
    rcases hcap with h | h
    · omega
    · exact h
  subst ha
  simp only [Nat.zero_mul, Nat.add_zero] at *
  have hcell : ∀ i, (hi : i < zs.length) → cells[g.base + i]? = some (.int .i64 zs[i]) := by
    intro i hi
    obtain ⟨u, hu, _, hru⟩ := hrows i 0 (by rw [hrl]; exact hi) (by decide)
    simp only [Nat.mul_one, Nat.add_zero] at hu
    rw [hu]
    have : ((iRows zs).getD i []).getD 0 .dead = .I zs[i] := by simp [iRows, List.getD, hi]
    rw [this] at hru
    cases hru
    rfl
  have hb' : b < w.heap.size := (Array.getElem?_eq_some_iff.1 hw).1
  refine (Any.slices_Sort_int Tryz.lays189 b g.base cap zs w ?_ hb' hl).mono ?_
  · intro j hj
    have hj' : j < zs.length := by simpa using hj
    constructor
    · show w.cell? _ = _
      unfold World.cell?
      simp only [hw]
      rw [hcell j hj']
      simp [hj']
    · unfold World.frozen?
      simp only [hw]
      simp
  · rintro e w' ⟨rfl, n, os, rfl⟩
    have hsl : (zs.mergeSort fun x y => decide (x ≤ y)).length = zs.length := List.length_mergeSort zs
    generalize (zs.mergeSort fun x y => decide (x ≤ y)) = ys at hsl
    have hh : ∀ b', b' < w.heap.size → (Go.Sort.grow (Go.Sort.putRow (Value.int .i64) (Go.Sort.ahead w n) b g.base ys.toArray) os).heap[b']? = if b' = b then some (.cells (Go.Sort.putCells (Value.int .i64) g.base ys.toArray cells) ty (0, 0)) else w.heap[b']? := by
      intro b' hb1
      have hsz' : (w.heap.modify b (Go.Sort.onCells (Go.Sort.putCells (Value.int .i64) g.base ys.toArray))).size = w.heap.size := Array.size_modify
      show ((w.heap.modify b (Go.Sort.onCells (Go.Sort.putCells (Value.int .i64) g.base ys.toArray))) ++ os)[b']? = _
      rw [Array.getElem?_append_left (by rw [hsz']; exact hb1), Array.getElem?_modify]
      by_cases hbb : b = b'
      · subst hbb
        rw [if_pos rfl, if_pos rfl, hw]
        rfl
      · rw [if_neg hbb, if_neg (Ne.symm hbb)]
    have hput : ∀ o, (o < g.base ∨ g.base + ys.length ≤ o) → (Go.Sort.putCells (Value.int .i64) g.base ys.toArray cells)[o]? = cells[o]? := by
      intro o ho
      unfold Go.Sort.putCells
      rw [Array.getElem?_mapIdx]
      cases hc : cells[o]? with
      | none => rfl
      | some u =>
        simp only [Option.map_some]
        rw [if_neg]
        simp
        omega
    have hput2 : ∀ i, (hi : i < ys.length) → (Go.Sort.putCells (Value.int .i64) g.base ys.toArray cells)[g.base + i]? = some (.int .i64 ys[i]) := by
      intro i hi
      unfold Go.Sort.putCells
      rw [Array.getElem?_mapIdx, hcell i (by omega)]
      simp only [Option.map_some]
      rw [if_pos (by simp; omega)]
      simp [hi]
    have hcs : (Go.Sort.putCells (Value.int .i64) g.base ys.toArray cells).size = cells.size := by
      unfold Go.Sort.putCells
      exact Array.size_mapIdx
    have hbig : w.heap.size ≤ (Go.Sort.grow (Go.Sort.putRow (Value.int .i64) (Go.Sort.ahead w n) b g.base ys.toArray) os).heap.size := by
      show w.heap.size ≤ ((w.heap.modify b _) ++ os).size
      rw [Array.size_append, Array.size_modify]
      omega
    have htb' : T b ≤ g.base := by simpa using htb
    generalize hw' : (Go.Sort.grow (Go.Sort.putRow (Value.int .i64) (Go.Sort.ahead w n) b g.base ys.toArray) os) = w' at hh hbig
    have hlt : ∀ b' o, w.heap[b']? = some o → b' < w.heap.size := fun b' o h => (Array.getElem?_eq_some_iff.1 h).1
    have hpr : Pres T w T w' := by
      refine ⟨fun _ => Nat.le_refl _, fun b' cs' ty' fz' h => ?_⟩
      rw [hh b' (hlt _ _ h)]
      by_cases hbb : b' = b
      · subst hbb
        rw [hw] at h
        cases h
        exact ⟨_, _, if_pos rfl, hcs, fun o ho => hput o (.inl (by omega))⟩
      · exact ⟨cs', fz', by rw [if_neg hbb]; exact h, rfl, fun _ _ => rfl⟩
    rw [hpOut_some]
    refine ⟨_, T, M, rfl, .tup M [] #[] rfl (fun i hi => by simp at hi), ⟨fun id e he => ?_, fun id id' e e' g1 g2 b' h1 h2 h3 h4 h5 h6 => ?_⟩, ⟨fun b' hb1 => ?_, fun _ _ _ => rfl, fun _ _ => rfl, ?_, ?_, ?_, hbig, fun b' hb1 hb2 => ?_, hpr, fun k g1 b' hk hg1 _ => ?_⟩⟩
    · have hid : id = 0 := by
        cases id with
        | zero => rfl
        | succ k => simp [hpOf] at he
      subst hid
      simp only [hpOf, List.getElem?_cons_zero, Option.some.injEq] at he
      subst he
      refine ⟨g, hg, ⟨ent.s, Nat.zero_le _, fun row hr => ?_, fun hn => (by rw [hblk] at hn; cases hn), fun b' hb1 => ?_⟩⟩
      · simp [iRows] at hr
        obtain ⟨x, _, rfl⟩ := hr
        rfl
      · rw [hblk] at hb1
        obtain rfl := Option.some.inj hb1
        refine ⟨_, ty, by rw [hh _ hb', if_pos rfl], by simpa using htb', by simp [iRows, hcs, hsl]; simpa [iRows] using hlen, fun i j hi hj => ?_⟩
        have hi' : i < ys.length := by simpa [iRows] using hi
        have hj' : j = 0 := by simp at hj; omega
        subst hj'
        refine ⟨.int .i64 ys[i], by simpa using hput2 i hi', rfl, ?_⟩
        have : ((iRows ys).getD i []).getD 0 .dead = .I ys[i] := by simp [iRows, List.getD, hi']
        rw [this]
        exact .sc _ _ rfl
    · have h0 : ∀ id e, hpOf [({ s := 1, rows := iRows ys } : Ent)] id = some e → id = 0 := by
        intro id e he
        cases id with
        | zero => rfl
        | succ k => simp [hpOf] at he
      rw [h0 _ _ h1, h0 _ _ h2]
    · obtain ⟨c1, ty1, fz1, h1, h2⟩ := htok b' hb1
      obtain ⟨c2, fz2, h3, h4, _⟩ := hpr.cell b' c1 ty1 fz1 h1
      exact ⟨c2, ty1, fz2, h3, by omega⟩
    · rw [← hw']; rfl
    · rw [← hw']; rfl
    · rw [← hw']; rfl
    · rw [hh b' hb1, if_neg]
      intro hbb
      exact hb2 ⟨0, g, by simp, hg, by rw [hblk, hbb]⟩
    · rw [hdom k hk] at hg1
      cases hg1
end Go.Proofs.YtnlanlpbgcalcaaGreat
namespace Go.Proofs.YtnlanlpbgcalcaaGreat
open Go
theorem After.refl {n : Nat} {T : Nat → Nat} {M : GM} {w : World} (htok : TOk T w) (hdom : ∀ k, n ≤ k → M k = none) : After n T M w T M w :=
  ⟨htok, fun _ _ _ => rfl, fun _ _ => rfl, rfl, rfl, rfl, Nat.le_refl _, fun _ _ _ => rfl, ⟨fun _ => Nat.le_refl _, fun _ cells _ fz h => ⟨cells, fz, h, rfl, fun _ _ => rfl⟩⟩, fun k g b hk h => by rw [hdom k hk] at h; cases h⟩
theorem arr1 {vs : Array Value} (h : vs.size = 1) : vs = #[vs.getD 0 undef] := by
  apply Array.ext
  · simpa using h
  · intro i h1 h2
    have : i = 0 := by simp at h2; omega
    subst this
    simp [Array.getD, h1]
theorem sort_ok (zs : List Int) (hl : zs.length < 4611686018427387904) :
    ACalls Tryz.prog nslices_Sort_Lint_int [.rs 0 0 zs.length] [{ s := 1, rows := iRows zs }] (.tup []) ([{ s := 1, rows := iRows (zs.mergeSort fun x y => decide (x ≤ y)) }].map some) := by
  by_cases h0 : zs = []
  · subst h0
    refine ⟨sslices_Sort_Lint_int.body, by simp, fun T M w vs htok hhs hdom hrep => ?_⟩
    obtain ⟨hsz, hr⟩ := hrep
    have hr0 := hr 0 (by simp)
    simp only [List.getD_cons_zero] at hr0
    rw [arr1 hsz]
    generalize vs.getD 0 undef = v at hr0
    cases hr0 with
    | rs _ _ _ _ cap a g hg hlc hn hb =>
    refine (Any.slices_Sort_int_none Tryz.lays189 a cap w).mono ?_
    rintro e w' ⟨rfl, rfl⟩
    exact ⟨_, T, M, rfl, .tup M [] #[] rfl (fun i hi => by simp at hi), by rw [hpOut_some]; simpa using hhs, After.refl htok hdom⟩
  · exact sort_some zs h0 hl
end Go.Proofs.YtnlanlpbgcalcaaGreat
namespace Go.Proofs.YtnlanlpbgcalcaaGreat
open Go
def outs (l : List Ed) (key : Int) : List Int := l.filterMap fun e => if e.f = key then some e.t else none
theorem outs_succ (l : List Ed) (key : Int) (k : Nat) (h : k < l.length) : outs (l.take (k + 1)) key = outs (l.take k) key ++ if l[k].f = key then [l[k].t] else [] := by
  unfold outs
  rw [← List.take_concat_get h, List.concat_eq_append, List.filterMap_append]
  congr 1
  by_cases hc : l[k].f = key <;> simp [hc]
theorem outs_le (l : List Ed) (key : Int) : (outs l key).length ≤ l.length := List.length_filterMap_le _ _
theorem graph_Out_ok (g : Gr) (key : Int) (hl : g.edges.length ≤ 1099511627776) : ACalls Tryz.prog ngraph_Out [eG g, .I key] [] (.rs 0 0 (outs g.edges key).length) [some ⟨1, ((outs g.edges key).mergeSort fun x y => decide (x ≤ y)).map fun n => [AV.I n], 0⟩] := by
  refine sgraph_Out.acalls (Nat.le_of_ble_eq_true rfl) (Nat.le_of_ble_eq_true rfl) (Nat.zero_le _) ?_
  show awp _ 0 _ _ ⟨28, [(0, eG g), (1, .I key)], [], 16⟩
  refine awp_seq ?_
  refine awp_run (s := ?s0) rfl ?o0 ?q0
  case o0 => simp; rfl
  refine awp_seq ?_
  refine awp_run (s := ?s1) rfl ?o1 ?q1
  case o1 => simp; rfl
  refine awp_seq ?_
  refine awp_seq ?_
  refine awp_run (s := ?s2) rfl ?o2 ?q2
  case o2 => simp; rfl
  refine awp_block ?_
  refine awp_loop (ι := Nat) (fun k => ⟨28, [(1, .I key), (5, .rs 16 0 (outs (g.edges.take k) key).length), (9, eEs g.edges), (10, .I g.edges.length), (11, .I k)], [(16, some ⟨1, (outs (g.edges.take k) key).map fun n => [AV.I n], 0⟩)], 24⟩) (fun k => k ≤ g.edges.length) (fun k => g.edges.length - k) (0) ?_ (Le.lst [] [] [(16, 1)] rfl (by simp) (by simp) (by simp) (by simp) (by simp) (by simp) (by simp) (by simp [Up, outs]) (by simp [outs])) ?_
  · simp
  rintro k hk
  have hol : (outs (g.edges.take k) key).length ≤ k := Nat.le_trans (outs_le _ _) (by simp; exact Nat.min_le_left _ _)
  refine awp_seq ?_
  refine awp_run (s := ?s3) rfl ?o3 ?q3
  case o3 => simp; rfl
  refine awp_seq ?_
  refine awp_cond _ rfl (fun h4 => ?_) fun h4 => ?_
  · try simp at h4
    have hw2 : IntKind.i64.wrap ((k : Int) + 1) = (k : Int) + 1 := w64 (by omega) (by omega)
    have hwp : 0 < k → IntKind.i64.wrap ((k : Int) - 1) = ((k - 1 : Nat) : Int) := fun h => by rw [w64 (by omega) (by omega)]; omega
    have hkp : k - 1 < g.edges.length := by omega
    refine awp_skip ?_
    refine awp_seq ?_
    refine awp_block ?_
    refine awp_regc ⟨28, [(1, .I key), (5, .rs 16 0 (outs (g.edges.take k) key).length), (7, .pv (eC g.edges[k])), (9, eEs g.edges), (10, .I g.edges.length), (11, .I k)], [(16, some ⟨1, (outs (g.edges.take k) key).map fun n => [AV.I n], 0⟩)], 24⟩ rfl ?_ ?_
    · simp [h4, hw2, hwp, hkp]
      exact Le.var1 16 [48] rfl rfl (Nat.le_of_ble_eq_true rfl) (by decide) rfl (by simp [Function.comp_def]) (by simp) (by simp [h4, hw2, hwp, hkp])
    refine awp_seq ?_
    refine awp_run (s := ?s5) rfl ?o5 ?q5
    case o5 => simp [h4, hw2, hwp, hkp]; rfl
    refine awp_cond _ rfl (fun h6 => ?_) fun h6 => ?_
    · try simp at h6
      refine awp_run (s := ?s7) rfl ?o7 ?q7
      case o7 =>
        simp [h4, hw2, hwp, hkp, List.replicate]
        refine ⟨by omega, by omega, ?_⟩
        rfl
      refine awp_run (s := ?s8) rfl ?o8 ?q8
      case o8 => simp [h4, hw2, hwp, hkp]; rfl
      have hs := outs_succ g.edges key k h4
      rw [if_pos h6] at hs
      refine ⟨k + 1, h4, by omega, Le.ren1 88 16 [] rfl rfl (Nat.le_of_ble_eq_true rfl) (by decide) rfl (by simp [hs, Function.comp_def, take_map_len]) (by simp) (by simp [hs, hw2])⟩
    try simp at h6
    refine awp_skip ?_
    refine awp_run (s := ?s9) rfl ?o9 ?q9
    case o9 => simp [h4, hw2, hwp, hkp]; rfl
    have hs := outs_succ g.edges key k h4
    rw [if_neg h6, List.append_nil] at hs
    refine ⟨k + 1, h4, by omega, Le.var1 16 [] rfl rfl (Nat.le_of_ble_eq_true rfl) (by decide) rfl (by simp [hs, Function.comp_def, take_map_len]) (by simp) (by simp [hs, hw2])⟩
  try simp at h4
  have hkl : k = g.edges.length := by omega
  subst hkl
  have hol2 := outs_le g.edges key
  refine awp_exit ?_
  refine hit ?_
  refine awp_seq ?_
  refine awp_run (s := ?s10) rfl ?o10 ?q10
  case o10 =>
    simp
    refine callM1 (i := 16) rfl (e' := ⟨1, iRows (outs g.edges key), 0⟩) (by simp [iRows, Function.comp_def]) (sort_ok (outs g.edges key) (by omega)) (by simp) (by simp) ?_
    simp [iRows, Function.comp_def]
    rfl
  refine awp_seq ?_
  refine awp_run (s := ?s11) rfl ?o11 ?q11
  case o11 => simp; rfl
  refine awp_ret ?_
  exact ⟨.inr rfl, RetOk.out [16] [] rfl (by simp) (by simp) (by simp) (by simp [Function.comp_def])⟩
def inns (l : List Ed) (key : Int) : List Int := l.filterMap fun e => if e.t = key then some e.f else none
theorem inns_succ (l : List Ed) (key : Int) (k : Nat) (h : k < l.length) : inns (l.take (k + 1)) key = inns (l.take k) key ++ if l[k].t = key then [l[k].f] else [] := by
  unfold inns
  rw [← List.take_concat_get h, List.concat_eq_append, List.filterMap_append]
  congr 1
  by_cases hc : l[k].t = key <;> simp [hc]
theorem inns_le (l : List Ed) (key : Int) : (inns l key).length ≤ l.length := List.length_filterMap_le _ _
theorem graph_In_ok (g : Gr) (key : Int) (hl : g.edges.length ≤ 1099511627776) : ACalls Tryz.prog ngraph_In [eG g, .I key] [] (.rs 0 0 (inns g.edges key).length) [some ⟨1, ((inns g.edges key).mergeSort fun x y => decide (x ≤ y)).map fun n => [AV.I n], 0⟩] := by
  refine sgraph_In.acalls (Nat.le_of_ble_eq_true rfl) (Nat.le_of_ble_eq_true rfl) (Nat.zero_le _) ?_
  show awp _ 0 _ _ ⟨28, [(0, eG g), (1, .I key)], [], 16⟩
  refine awp_seq ?_
  refine awp_run (s := ?s0) rfl ?o0 ?q0
  case o0 => simp; rfl
  refine awp_seq ?_
  refine awp_run (s := ?s1) rfl ?o1 ?q1
  case o1 => simp; rfl
  refine awp_seq ?_
  refine awp_seq ?_
  refine awp_run (s := ?s2) rfl ?o2 ?q2
  case o2 => simp; rfl
  refine awp_block ?_
  refine awp_loop (ι := Nat) (fun k => ⟨28, [(1, .I key), (5, .rs 16 0 (inns (g.edges.take k) key).length), (9, eEs g.edges), (10, .I g.edges.length), (11, .I k)], [(16, some ⟨1, (inns (g.edges.take k) key).map fun n => [AV.I n], 0⟩)], 24⟩) (fun k => k ≤ g.edges.length) (fun k => g.edges.length - k) (0) ?_ (Le.lst [] [] [(16, 1)] rfl (by simp) (by simp) (by simp) (by simp) (by simp) (by simp) (by simp) (by simp [Up, inns]) (by simp [inns])) ?_
  · simp
  rintro k hk
  have hol : (inns (g.edges.take k) key).length ≤ k := Nat.le_trans (inns_le _ _) (by simp; exact Nat.min_le_left _ _)
  refine awp_seq ?_
  refine awp_run (s := ?s3) rfl ?o3 ?q3
  case o3 => simp; rfl
  refine awp_seq ?_
  refine awp_cond _ rfl (fun h4 => ?_) fun h4 => ?_
  · try simp at h4
    have hw2 : IntKind.i64.wrap ((k : Int) + 1) = (k : Int) + 1 := w64 (by omega) (by omega)
    have hwp : 0 < k → IntKind.i64.wrap ((k : Int) - 1) = ((k - 1 : Nat) : Int) := fun h => by rw [w64 (by omega) (by omega)]; omega
    have hkp : k - 1 < g.edges.length := by omega
    refine awp_skip ?_
    refine awp_seq ?_
    refine awp_block ?_
    refine awp_regc ⟨28, [(1, .I key), (5, .rs 16 0 (inns (g.edges.take k) key).length), (7, .pv (eC g.edges[k])), (9, eEs g.edges), (10, .I g.edges.length), (11, .I k)], [(16, some ⟨1, (inns (g.edges.take k) key).map fun n => [AV.I n], 0⟩)], 24⟩ rfl ?_ ?_
    · simp [h4, hw2, hwp, hkp]
      exact Le.var1 16 [48] rfl rfl (Nat.le_of_ble_eq_true rfl) (by decide) rfl (by simp [Function.comp_def]) (by simp) (by simp [h4, hw2, hwp, hkp])
    refine awp_seq ?_
    refine awp_run (s := ?s5) rfl ?o5 ?q5
    case o5 => simp [h4, hw2, hwp, hkp]; rfl
    refine awp_cond _ rfl (fun h6 => ?_) fun h6 => ?_
    · try simp at h6
      refine awp_run (s := ?s7) rfl ?o7 ?q7
      case o7 =>
        simp [h4, hw2, hwp, hkp, List.replicate]
        refine ⟨by omega, by omega, ?_⟩
        rfl
      refine awp_run (s := ?s8) rfl ?o8 ?q8
      case o8 => simp [h4, hw2, hwp, hkp]; rfl
      have hs := inns_succ g.edges key k h4
      rw [if_pos h6] at hs
      refine ⟨k + 1, h4, by omega, Le.ren1 88 16 [] rfl rfl (Nat.le_of_ble_eq_true rfl) (by decide) rfl (by simp [hs, Function.comp_def, take_map_len]) (by simp) (by simp [hs, hw2])⟩
    try simp at h6
    refine awp_skip ?_
    refine awp_run (s := ?s9) rfl ?o9 ?q9
    case o9 => simp [h4, hw2, hwp, hkp]; rfl
    have hs := inns_succ g.edges key k h4
    rw [if_neg h6, List.append_nil] at hs
    refine ⟨k + 1, h4, by omega, Le.var1 16 [] rfl rfl (Nat.le_of_ble_eq_true rfl) (by decide) rfl (by simp [hs, Function.comp_def, take_map_len]) (by simp) (by simp [hs, hw2])⟩
  try simp at h4
  have hkl : k = g.edges.length := by omega
  subst hkl
  have hol2 := inns_le g.edges key
  refine awp_exit ?_
  refine hit ?_
  refine awp_seq ?_
  refine awp_run (s := ?s10) rfl ?o10 ?q10
  case o10 =>
    simp
    refine callM1 (i := 16) rfl (e' := ⟨1, iRows (inns g.edges key), 0⟩) (by simp [iRows, Function.comp_def]) (sort_ok (inns g.edges key) (by omega)) (by simp) (by simp) ?_
    simp [iRows, Function.comp_def]
    rfl
  refine awp_seq ?_
  refine awp_run (s := ?s11) rfl ?o11 ?q11
  case o11 => simp; rfl
  refine awp_ret ?_
  exact ⟨.inr rfl, RetOk.out [16] [] rfl (by simp) (by simp) (by simp) (by simp [Function.comp_def])⟩
end Go.Proofs.YtnlanlpbgcalcaaGreat
namespace Go.Proofs.YtnlanlpbgcalcaaGreat
open Go
@[simp] theorem conv_fn {ρ : List (Nat × Nat)} {sn : List Nat} {h : Nat → Option Ent} {n : Nat} {f : Fn} {a b : List AV} : conv ρ sn h (n + 1) (.fn f a b) = .fn f (a.map (conv ρ sn h n)) (b.map (conv ρ sn h n)) := (rfl)
theorem BinarySearch_ok (l : List Ed) (e : Ed) (hl : l.length ≤ 1099511627776) (hm : ∀ (i j : Nat) (hi : i < l.length) (hj : j < l.length), i ≤ j → Bef l[j] e → Bef l[i] e) : ACalls Tryz.prog nslices_BinarySearchFunc_Lapi_Edge_api_Edge_api_Edge [eEs l, eE e, .fn (.func ngraph_compare) [] []] [] (.tup [.I (idxE l e), .B (decide (AtE l (idxE l e) e.f e.t))]) [] := by
  refine sslices_BinarySearchFunc_Lapi_Edge_api_Edge_api_Edge.acalls (Nat.le_of_ble_eq_true rfl) (Nat.le_of_ble_eq_true rfl) (Nat.le_refl _) ?_
  show awp _ 0 _ _ ⟨49, [(0, eEs l), (1, eE e), (2, .fn (.func ngraph_compare) [] [])], [], 16⟩
  refine awp_regc ⟨49, [(0, eEs l), (2, .fn (.func ngraph_compare) [] []), (4, .pv (eC e))], [], 16⟩ rfl ?_ ?_
  · simp
    exact Le.snap [16] rfl rfl (by simp)
  refine awp_seq ?_
  refine awp_run (s := ?s1) rfl ?o1 ?q1
  case o1 => simp; rfl
  refine awp_seq ?_
  refine awp_run (s := ?s2) rfl ?o2 ?q2
  case o2 => simp; rfl
  refine awp_seq ?_
  refine awp_block ?_
  refine awp_loop (ι := Nat × Nat) (fun p => ⟨49, [(0, eEs l), (2, .fn (.func ngraph_compare) [] []), (4, .pv (eC e)), (8, .I l.length), (9, .I p.1), (10, .I p.2)], [], 16⟩) (fun p => p.1 ≤ p.2 ∧ p.2 ≤ l.length ∧ (∀ q, q < p.1 → BefAt l e q) ∧ ∀ q (h : q < l.length), p.2 ≤ q → ¬ Bef l[q] e) (fun p => p.2 - p.1) ((0, l.length)) ?_ (Le.snap [] rfl rfl (by simp)) ?_
  · simp
    intro q h h2
    omega
  rintro ⟨i, j⟩ ⟨hij, hjn, hlo, hhi⟩
  simp only at hij hjn hlo hhi
  refine awp_seq ?_
  refine awp_seq ?_
  refine awp_run (s := ?s3) rfl ?o3 ?q3
  case o3 => simp; rfl
  refine awp_cond _ rfl (fun h4 => ?_) fun h4 => ?_
  · try simp at h4
    refine awp_skip ?_
    refine awp_block ?_
    have hw : IntKind.i64.wrap ((i : Int) + (j : Int)) = (i : Int) + (j : Int) := w64 (by omega) (by omega)
    have hu : IntKind.u64.wrap ((i : Int) + (j : Int)) = (i : Int) + (j : Int) := by rw [IntKind.wrap_u64]; omega
    have hd : Int.fdiv ((i : Int) + (j : Int)) 2 = (((i + j) / 2 : Nat) : Int) := by rw [Int.fdiv_eq_ediv_of_nonneg _ (by decide)]; omega
    have hw3 : IntKind.i64.wrap (((i + j) / 2 : Nat) : Int) = (((i + j) / 2 : Nat) : Int) := w64 (by omega) (by omega)
    refine awp_regc ⟨49, [(0, eEs l), (2, .fn (.func ngraph_compare) [] []), (4, .pv (eC e)), (8, .I l.length), (9, .I i), (10, .I j), (11, .I ((i + j) / 2 : Nat))], [], 16⟩ rfl ?_ ?_
    · simp [hw, hu, hd, hw3, IntKind.bits, -Int.natCast_ediv, -Int.natCast_add]
      exact Le.snap [] rfl rfl (by simp [hw, hu, hd, hw3])
    obtain ⟨m, hmd⟩ : ∃ m, m = (i + j) / 2 := ⟨_, rfl⟩
    rw [← hmd]
    have hml : m < l.length := by omega
    have hm1 : IntKind.i64.wrap ((m : Int) + 1) = (m : Int) + 1 := w64 (by omega) (by omega)
    refine awp_seq ?_
    refine awp_drun (s := ?s6) (tr := ?t6) rfl ?o6 ?r6 ?q6
    case o6 => simp [hml]; refine call0e (graph_compare_ok l[m] e) rfl ?_; simp; constructor <;> rfl
    case r6 => rfl
    refine awp_cond _ rfl (fun h7 => ?_) fun h7 => ?_
    · simp only [decide_eq_true_eq, decide_eq_false_iff_not, cmpE_lt] at h7
      refine awp_run (s := ?s8) rfl ?o8 ?q8
      case o8 => simp; rfl
      refine ⟨(m + 1, j), ⟨by simp only; omega, hjn, fun q hq hql => ?_, hhi⟩, by simp only; omega, Le.snap [] rfl rfl (by simp [hm1])⟩
      exact hm q m hql hml (by simp only at hq; omega) h7
    simp only [decide_eq_true_eq, decide_eq_false_iff_not, cmpE_lt] at h7
    refine awp_run (s := ?s9) rfl ?o9 ?q9
    case o9 => simp; rfl
    refine ⟨(i, m), ⟨by simp only; omega, by simp only; omega, hlo, fun q hql hq hb => ?_⟩, by simp only; omega, Le.snap [] rfl rfl (by simp)⟩
    exact h7 (hm m q hml hql hq hb)
  try simp at h4
  refine awp_exit ?_
  refine hit ?_
  have hji : j = i := by omega
  subst hji
  rw [idxE_of hjn hlo (fun h => hhi _ h (Nat.le_refl _))]
  refine awp_dregc ⟨49, [(6, .I j), (7, .B (decide (AtE l j e.f e.t)))], [], 16⟩ rfl ?_ ?_
  · simp
    repeat' first
      | (refine callf ngraph_compare rfl ?_; refine call0e (graph_compare_ok _ e) rfl ?_; simp)
      | (refine gcase (fun hb => ?_) (fun hb => ?_) <;> (try rw [hb]) <;> (try simp at hb) <;> simp [*])
    all_goals exact ⟨rfl, Le.snap [] rfl rfl (by simp <;> exact wkB (by (try simp at *); grind [AtE, cmpE_eq]))⟩
  refine awp_ret ?_
  exact ⟨.inr rfl, RetOk.out [] [] rfl (by simp) (by simp) (by simp) (by simp)⟩
end Go.Proofs.YtnlanlpbgcalcaaGreat
namespace Go.Proofs.YtnlanlpbgcalcaaGreat
open Go
end Go.Proofs.YtnlanlpbgcalcaaGreat
namespace Go.Proofs.YtnlanlpbgcalcaaGreat
open Go
def modI (n m : Int) : Int := if m < 1 then 0 else n % m
theorem tmod_emod {n m : Int} (hm : 0 < m) : n.tmod m % m = n % m := by
  have h := Int.mul_tdiv_add_tmod n m
  conv => rhs; rw [← h]
  rw [Int.add_comm, Int.add_mul_emod_self_left]
theorem tmod_range {n m : Int} (hm : 0 < m) : -m < n.tmod m ∧ n.tmod m < m := ⟨Int.lt_tmod_of_pos n hm, Int.tmod_lt_of_pos n hm⟩
def nextD (L : List Int) (a : Nat) (n : Int) : Int × Nat := if h : a < L.length then (modI L[a] n, a + 1) else (0, a)
abbrev dice (L : List Int) (a : Nat) : Ent := ⟨2, [[ints L, .I a]], 0⟩
theorem RetOk.k1 {rs : List (Nat × Option (Bool × Nat))} {st : St} {vs : List AV} {res : AV} {e : Ent} (h1 : resAll st rs = some vs) (hw : Wk (conv [(0, 0)] [] st.hp 4 (resV vs)) res) (he : (st.hp 0).map (convE [(0, 0)] [] st.hp 4) = some e) : RetOk rs 1 st res [some e] :=
  ⟨vs, h1, [], [], by decide, by simp, by simp, hw, by simpa using he⟩
theorem Light_ok (L : List Int) : ACalls Tryz.prog nmade_Light [ints L] [] (.B (decide (L.length ≤ 400))) [] := by
  refine smade_Light.acalls (Nat.le_of_ble_eq_true rfl) (Nat.le_of_ble_eq_true rfl) (Nat.le_refl _) ?_
  show awp _ 0 _ _ ⟨6, [(0, ints L)], [], 16⟩
  refine awp_seq ?_
  refine awp_run (s := ?s1) rfl ?o1 ?q1
  case o1 => simp; rfl
  refine awp_regc ⟨6, [(2, .B (decide (L.length ≤ 400)))], [], 16⟩ rfl ?_ ?_
  · simp
    exact Le.snap [] rfl rfl (by simp <;> exact wkB (by simp; omega))
  refine awp_ret ?_
  exact ⟨.inr rfl, RetOk.one (by simp)⟩
theorem Mod_ok (n m : Int) (hm : m ≤ 9223372036854775807) : ACalls Tryz.prog nmade_Mod [.I n, .I m] [] (.I (modI n m)) [] := by
  refine smade_Mod.acalls (Nat.le_of_ble_eq_true rfl) (Nat.le_of_ble_eq_true rfl) (Nat.le_refl _) ?_
  show awp _ 0 _ _ ⟨16, [(0, .I n), (1, .I m)], [], 16⟩
  refine awp_seq ?_
  refine awp_run (s := ?s1) rfl ?o1 ?q1
  case o1 => simp; rfl
  refine awp_seq ?_
  refine awp_seq ?_
  refine awp_run (s := ?s2) rfl ?o2 ?q2
  case o2 => simp; rfl
  refine awp_cond _ rfl (fun h3 => ?_) fun h3 => ?_
  · try simp at h3
    refine awp_seq ?_
    refine awp_run (s := ?s4) rfl ?o4 ?q4
    case o4 => simp; rfl
    refine awp_ret ?_
    exact ⟨.inr rfl, RetOk.one (by simp [modI, h3])⟩
  try simp at h3
  have hm0 : m ≠ 0 := by omega
  have hlt : ¬ m < 1 := by omega
  obtain ⟨t1, t2⟩ := tmod_range (n := n) (m := m) (by omega)
  have te := tmod_emod (n := n) (m := m) (by omega)
  refine awp_skip ?_
  refine awp_seq ?_
  refine awp_run (s := ?s5) rfl ?o5 ?q5
  case o5 => simp [hm0]; rfl
  refine awp_seq ?_
  refine awp_seq ?_
  refine awp_run (s := ?s6) rfl ?o6 ?q6
  case o6 => simp; rfl
  refine awp_cond _ rfl (fun h7 => ?_) fun h7 => ?_
  · try simp at h7
    have hw : IntKind.i64.wrap (n.tmod m + m) = n.tmod m + m := w64 (by omega) (by omega)
    have hr : n % m = n.tmod m + m := by rw [← te, ← Int.add_emod_right, Int.emod_eq_of_lt (by omega) (by omega)]
    refine awp_run (s := ?s8) rfl ?o8 ?q8
    case o8 => simp [hw]; rfl
    refine awp_seq ?_
    refine awp_run (s := ?s9) rfl ?o9 ?q9
    case o9 => simp; rfl
    refine awp_ret ?_
    exact ⟨.inr rfl, RetOk.one (by simp [modI, hlt, hr])⟩
  try simp at h7
  have hr : n % m = n.tmod m := by rw [← te, Int.emod_eq_of_lt (by omega) (by omega)]
  refine awp_skip ?_
  refine awp_seq ?_
  refine awp_run (s := ?s10) rfl ?o10 ?q10
  case o10 => simp; rfl
  refine awp_ret ?_
  exact ⟨.inr rfl, RetOk.one (by simp [modI, hlt, hr])⟩
theorem Roll_ok (L : List Int) : ACalls Tryz.prog nmade_Roll [ints L] [] (.pt 0 0 0) [some (dice L 0)] := by
  refine smade_Roll.acalls (Nat.le_of_ble_eq_true rfl) (Nat.le_of_ble_eq_true rfl) (Nat.zero_le _) ?_
  show awp _ 0 _ _ ⟨6, [(0, ints L)], [], 16⟩
  refine awp_seq ?_
  refine awp_run (s := ?s1) rfl ?o1 ?q1
  case o1 => simp; rfl
  refine awp_seq ?_
  refine awp_run (s := ?s2) rfl ?o2 ?q2
  case o2 => simp; rfl
  refine awp_ret ?_
  exact ⟨.inr rfl, RetOk.out [40] [] rfl (by simp) (by simp) (by simp) (by simp)⟩
theorem Next_ok (L : List Int) (a : Nat) (n : Int) (hl : L.length ≤ 1099511627776) (ha : a ≤ L.length) (hn : n ≤ 9223372036854775807) : ACalls Tryz.prog nmade_Dice_Next [.pt 0 0 0, .I n] [dice L a] (.I (nextD L a n).1) [some (dice L (nextD L a n).2)] := by
  refine smade_Dice_Next.acalls (Nat.le_of_ble_eq_true rfl) (Nat.le_of_ble_eq_true rfl) (Nat.le_refl _) ?_
  show awp _ 1 _ _ ⟨35, [(0, .pt 0 0 0), (1, .I n)], [(0, some (dice L a))], 16⟩
  refine awp_seq ?_
  refine awp_run (s := ?s1) rfl ?o1 ?q1
  case o1 => simp; rfl
  refine awp_seq ?_
  refine awp_seq ?_
  refine awp_drun (s := ?s2) (tr := ?t2) rfl ?o2 ?r2 ?q2
  case o2 => simp; constructor <;> rfl
  case r2 => rfl
  refine awp_cond _ rfl (fun h3 => ?_) fun h3 => ?_
  · try simp at h3
    refine awp_seq ?_
    refine awp_run (s := ?s4) rfl ?o4 ?q4
    case o4 => simp; rfl
    refine awp_ret ?_
    have hr : nextD L a n = (0, a) := by unfold nextD; rw [dif_neg (by omega)]
    rw [hr]
    exact ⟨.inr rfl, RetOk.k1 rfl (by simp) (by simp [Function.comp_def])⟩
  try simp at h3
  have hw : IntKind.i64.wrap ((a : Int) + 1) = (a : Int) + 1 := w64 (by omega) (by omega)
  have hw0 : IntKind.i64.wrap (a : Int) = (a : Int) := w64 (by omega) (by omega)
  refine awp_skip ?_
  refine awp_seq ?_
  refine awp_run (s := ?s5) rfl ?o5 ?q5
  case o5 => simp [hw]; rfl
  refine awp_seq ?_
  refine awp_drun (s := ?s6) (tr := ?t6) rfl ?o6 ?r6 ?q6
  case o6 => simp [hw0, h3]; refine call0e (Mod_ok _ _ hn) rfl ?_; simp; constructor <;> rfl
  case r6 => rfl
  refine awp_ret ?_
  have hr : nextD L a n = (modI L[a] n, a + 1) := by unfold nextD; rw [dif_pos h3]
  rw [hr]
  exact ⟨.inr rfl, RetOk.k1 rfl (by simp) (by simp [Function.comp_def])⟩
end Go.Proofs.YtnlanlpbgcalcaaGreat
namespace Go.Proofs.YtnlanlpbgcalcaaGreat
open Go
theorem modI_lt {n m : Int} (hm : 0 < m) : 0 ≤ modI n m ∧ modI n m < m := by
  unfold modI
  rw [if_neg (by omega)]
  exact ⟨Int.emod_nonneg _ (by omega), Int.emod_lt_of_pos _ hm⟩
theorem nextD_lt {L : List Int} {a : Nat} {n : Int} (hn : 0 < n) : 0 ≤ (nextD L a n).1 ∧ (nextD L a n).1 < n := by
  unfold nextD
  split
  · exact modI_lt hn
  · exact ⟨Int.le_refl _, hn⟩
theorem nextD_le {L : List Int} {a : Nat} {n : Int} (ha : a ≤ L.length) : (nextD L a n).2 ≤ L.length := by
  unfold nextD
  split
  · simp only; omega
  · exact ha
def ofD (L : List Int) (a : Nat) (l : List Int) : Int := l.getD (nextD L a l.length).1.toNat 0
theorem One_ok (L : List Int) (a : Nat) (n : Int) (hl : L.length ≤ 1099511627776) (ha : a ≤ L.length) (hn0 : 0 ≤ n) (hn : n ≤ 9223372036854775807) : ACalls Tryz.prog nmade_Dice_One [.pt 0 0 0, .I n] [dice L a] (.B (decide ((nextD L a n).1 = n - 1))) [some (dice L (nextD L a n).2)] := by
  refine smade_Dice_One.acalls (Nat.le_of_ble_eq_true rfl) (Nat.le_of_ble_eq_true rfl) (Nat.le_refl _) ?_
  show awp _ 1 _ _ ⟨11, [(0, .pt 0 0 0), (1, .I n)], [(0, some (dice L a))], 16⟩
  have hw : IntKind.i64.wrap (n - 1) = n - 1 := w64 (by omega) (by omega)
  refine awp_seq ?_
  refine awp_run (s := ?s1) rfl ?o1 ?q1
  case o1 => simp; rfl
  refine awp_seq ?_
  refine awp_run (s := ?s2) rfl ?o2 ?q2
  case o2 =>
    simp
    refine callM1 (i := 0) rfl (e' := dice L a) (by simp [Function.comp_def]) (Next_ok L a n hl ha hn) (by simp) (by simp) ?_
    simp [hw, Function.comp_def]
    rfl
  refine awp_ret ?_
  exact ⟨.inr rfl, RetOk.k1 rfl (by simp <;> exact wkB rfl) (by simp [Function.comp_def])⟩
theorem Of_ok (L : List Int) (a : Nat) (l : List Int) (hl : L.length ≤ 1099511627776) (ha : a ≤ L.length) (h0 : 0 < l.length) (hl2 : l.length ≤ 1099511627776) : ACalls Tryz.prog nmade_Dice_Of [.pt 0 0 0, ints l] [dice L a] (.I (ofD L a l)) [some (dice L (nextD L a l.length).2)] := by
  refine smade_Dice_Of.acalls (Nat.le_of_ble_eq_true rfl) (Nat.le_of_ble_eq_true rfl) (Nat.le_refl _) ?_
  show awp _ 1 _ _ ⟨12, [(0, .pt 0 0 0), (1, ints l)], [(0, some (dice L a))], 16⟩
  obtain ⟨q, hq, hql⟩ : ∃ q : Nat, (nextD L a l.length).1 = q ∧ q < l.length := by
    have := nextD_lt (L := L) (a := a) (n := l.length) (by omega)
    exact ⟨(nextD L a l.length).1.toNat, by omega, by omega⟩
  have ho : ofD L a l = l[q] := by unfold ofD; rw [hq]; simp [hql]
  refine awp_seq ?_
  refine awp_run (s := ?s1) rfl ?o1 ?q1
  case o1 => simp; rfl
  refine awp_seq ?_
  refine awp_run (s := ?s2) rfl ?o2 ?q2
  case o2 =>
    simp
    refine callM1 (i := 0) rfl (e' := dice L a) (by simp [Function.comp_def]) (Next_ok L a l.length hl ha (by omega)) (by simp) (by simp) ?_
    simp [hq, hql, Function.comp_def]
    rfl
  refine awp_ret ?_
  rw [ho]
  exact ⟨.inr rfl, RetOk.k1 rfl (by simp) (by simp [Function.comp_def])⟩
end Go.Proofs.YtnlanlpbgcalcaaGreat
namespace Go.Proofs.YtnlanlpbgcalcaaGreat
open Go
section
variable {P : Program} {np id : Nat} {h : Nat → Option Ent} {K : AV → List Nat → List (Nat × Option Ent) → Prop} {s i off len c k l m : Nat}
@[simp] theorem k_slkl : aK P np id (.slc s true false false) [.rk i off len c, .sc (.int .i64 (k : Int))] h K = (k ≤ len ∧ len ≤ c ∧ (∃ e, h i = some e ∧ e.s = s) ∧ K (.rk i (off + k) (len - k) (c - k)) [i] []) := by
  rw [k_slc]
  refine propext ⟨?_, ?_⟩
  · rintro ⟨l, r, m, n, h1, h2, h4, h5, h6, h7, h3, h10, h11, h8, h9⟩
    obtain rfl := h6 rfl
    simp at h4 h1
    subst h1
    have : k = l := by omega
    subst this
    obtain rfl := h11 rfl
    exact ⟨h2, h3, h8, h9⟩
  · rintro ⟨h1, h2, h3, h4⟩
    exact ⟨k, len, c, len, rfl, h1, by simp, (fun h => by cases h), fun _ => rfl, (fun h => by cases h), h2, Nat.le_refl _, fun _ => rfl, h3, h4⟩
@[simp] theorem k_slkh : aK P np id (.slc s false true false) [.rk i off len c, .sc (.int .i64 (k : Int))] h K = (k ≤ c ∧ (∃ e, h i = some e ∧ e.s = s) ∧ K (.rk i off k c) [i] []) := by
  rw [k_slc]
  refine propext ⟨?_, ?_⟩
  · rintro ⟨l, r, m, n, h1, h2, h4, h5, h6, h7, h3, h10, h11, h8, h9⟩
    obtain rfl := h5 rfl
    simp at h4 h1
    have : k = r := by omega
    subst this
    obtain rfl := h11 rfl
    exact ⟨h3, h8, by simpa using h9⟩
  · rintro ⟨h1, h3, h4⟩
    exact ⟨0, k, c, len, rfl, Nat.zero_le _, by simp, fun _ => rfl, (fun h => by cases h), (fun h => by cases h), h1, Nat.le_refl _, fun _ => rfl, h3, by simpa using h4⟩
@[simp] theorem k_slklh : aK P np id (.slc s true true false) [.rk i off len c, .sc (.int .i64 (l : Int)), .sc (.int .i64 (k : Int))] h K = (l ≤ k ∧ k ≤ c ∧ (∃ e, h i = some e ∧ e.s = s) ∧ K (.rk i (off + l) (k - l) (c - l)) [i] []) := by
  rw [k_slc]
  refine propext ⟨?_, ?_⟩
  · rintro ⟨l', r, m, n, h1, h2, h4, h5, h6, h7, h3, h10, h11, h8, h9⟩
    simp at h4 h1
    have : k = r := by omega
    subst this
    have : l = l' := by omega
    subst this
    obtain rfl := h11 rfl
    exact ⟨h2, h3, h8, h9⟩
  · rintro ⟨h1, h2, h3, h4⟩
    exact ⟨l, k, c, len, rfl, h1, by simp, (fun h => by cases h), (fun h => by cases h), (fun h => by cases h), h2, Nat.le_refl _, fun _ => rfl, h3, h4⟩
@[simp] theorem k_slkm : aK P np id (.slc s true true true) [.rk i off len c, .sc (.int .i64 (l : Int)), .sc (.int .i64 (k : Int)), .sc (.int .i64 (m : Int))] h K = (l ≤ k ∧ k ≤ m ∧ m ≤ c ∧ (∃ e, h i = some e ∧ e.s = s) ∧ K (.rk i (off + l) (k - l) (m - l)) [i] []) := by
  rw [k_slc]
  refine propext ⟨?_, ?_⟩
  · rintro ⟨l', r, m', n, h1, h2, h4, h5, h6, h7, h3, h10, h11, h8, h9⟩
    simp at h4 h1
    have : k = r := by omega
    subst this
    have : l = l' := by omega
    subst this
    have : m = m' := by omega
    subst this
    exact ⟨h2, h3, h10, h8, h9⟩
  · rintro ⟨h1, h2, h3, h4, h5⟩
    exact ⟨l, k, m, len, rfl, h1, by simp, (fun h => by cases h), (fun h => by cases h), (fun _ => rfl), h2, h3, (fun h => by cases h), h4, h5⟩
@[simp] theorem k_slrl : aK P np id (.slc s true false false) [.rs i off len, .sc (.int .i64 (k : Int))] h K = (k ≤ len ∧ (∃ e, h i = some e ∧ e.s = s) ∧ K (.rs i (off + k) (len - k)) [i] []) := by
  rw [k_slc]
  refine propext ⟨?_, ?_⟩
  · rintro ⟨l, r, m, n, h1, h2, h4, h5, h6, h7, h3, h10, h8, h9⟩
    obtain rfl := h6 rfl
    simp at h4 h1
    subst h1
    have : k = l := by omega
    subst this
    exact ⟨h2, h8, h9⟩
  · rintro ⟨h1, h3, h4⟩
    exact ⟨k, len, 0, len, rfl, h1, by simp, (fun h => by cases h), fun _ => rfl, (fun h => by cases h), Nat.le_refl _, rfl, h3, h4⟩
@[simp] theorem k_slrh : aK P np id (.slc s false true false) [.rs i off len, .sc (.int .i64 (k : Int))] h K = (k ≤ len ∧ (∃ e, h i = some e ∧ e.s = s) ∧ K (.rs i off k) [i] []) := by
  rw [k_slc]
  refine propext ⟨?_, ?_⟩
  · rintro ⟨l, r, m, n, h1, h2, h4, h5, h6, h7, h3, h10, h8, h9⟩
    obtain rfl := h5 rfl
    simp at h4 h1
    have : k = r := by omega
    subst this
    exact ⟨by omega, h8, by simpa using h9⟩
  · rintro ⟨h1, h3, h4⟩
    exact ⟨0, k, 0, len, rfl, Nat.zero_le _, by simp, fun _ => rfl, (fun h => by cases h), (fun h => by cases h), h1, rfl, h3, by simpa using h4⟩
end
theorem Le.keep {np : Nat} {st st' : St} (hsz : st'.sz = st.sz) (hn : st.n ≤ st'.n) (ht : ∀ p ∈ st'.t, st.get p.1 = p.2) (hh : ∀ p ∈ st'.h, ∀ e, p.2 = some e → st.hp p.1 = some e) : Le np st st' := by
  intro T0 M0 w0 T M a w ok hnp
  have hp : ∀ id e, st'.hp id = some e → st.hp id = some e := by
    intro id e he
    unfold St.hp at he
    cases hl : lkp st'.h id with
    | none => rw [hl] at he; cases he
    | some v =>
      rw [hl] at he
      exact hh _ (lkp_mem hl) e he
  refine ⟨T, M, ⟨ok.sz.trans hsz.symm, ok.df, fun i => ?_, ⟨fun id e he => ok.hs.ent id e (hp id e he), fun id id' e e' g g' b h1 h2 => ok.hs.inj id id' e e' g g' b (hp _ _ h1) (hp _ _ h2)⟩, fun id g hg => Nat.lt_of_lt_of_le (ok.dom id g hg) hn, ok.after⟩, Nat.le_trans hnp hn⟩
  unfold St.get at *
  cases hl : lkp st'.t i with
  | none => exact .dead _ _
  | some v =>
    have := ht _ (lkp_mem hl)
    simp only at this
    show Rep T w M v _
    rw [← this]
    exact ok.tm i
theorem Le.mv1 {st st' : St} (j i : Nat) {e0 e : Ent} (hsz : st'.sz = st.sz) (hh : st'.h = [(i, some e)]) (hi : i < st'.n) (h1 : 1 ≤ i) (h0 : st.hp j = some e0) (he : convE [(j, i)] [] st.hp 4 e0 = e) (hr : e.ro ≤ e.rows.length)
    (ht : ∀ p ∈ st'.t, Wk (conv [(j, i)] [] st.hp 4 (st.get p.1)) p.2) : Le 1 st st' :=
  Le.lst [(j, i)] [] [] hsz (by simp) (by simp) (by simp [hi]; omega) (by simp) (by simp) (by omega) (by simp) (fun p hp => .inl (ht p hp)) (fun p hp e' he' => by
    rw [hh] at hp
    simp at hp
    subst hp
    cases he'
    exact .inl ⟨(j, i), by simp, rfl, e0, h0, by rw [he]; exact EntUp.rfl' hr⟩)
theorem RetOk.m1 {rs : List (Nat × Option (Bool × Nat))} {st : St} {vs : List AV} {res : AV} {e : Ent} (i : Nat) (hi : 1 ≤ i) (h1 : resAll st rs = some vs) (hw : Wk (conv [(0, 0), (i, 1)] [] st.hp 4 (resV vs)) res) (h0 : st.hp 0 = none) (he : (st.hp i).map (convE [(0, 0), (i, 1)] [] st.hp 4) = some e) : RetOk rs 1 st res [none, some e] :=
  ⟨vs, h1, [i], [], by simp [List.range, List.range.loop]; omega, by simpa using hi, by simp, by simpa [List.range, List.range.loop] using hw, by simpa [List.range, List.range.loop, h0] using he⟩
end Go.Proofs.YtnlanlpbgcalcaaGreat
