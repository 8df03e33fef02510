/- Texts of this claim, merged. -/
import Derived.Test.YtnphfkceoklkkaaDa10
import Derived.Test.YtnphfkceoklkkaaDa8
import Derived.Test.YtnphfkceoklkkaaProg
import Derived.KernelRfl
set_option linter.unusedSimpArgs false
set_option linter.unusedVariables false
set_option linter.unusedSectionVars false
/- Each function of the model is, translated, its small code. -/
namespace Go.Proofs.Ytnphfkceoklkkaa
open Go
theorem slaw11_GraphUndone : Src Try.prog nlaw11_GraphUndone claw11_GraphUndone := ⟨mixed, Try.f7, by kernel_rfl, by kernel_rfl, by decide⟩
theorem slaw11_GraphMade : Src Try.prog nlaw11_GraphMade claw11_GraphMade := ⟨mixed, Try.f9, by kernel_rfl, by kernel_rfl, by decide⟩
theorem slaw12_DistanceAll : Src Try.prog nlaw12_DistanceAll claw12_DistanceAll := ⟨mixed, Try.f10, by kernel_rfl, by kernel_rfl, by decide⟩
theorem slaw12_DistanceWays : Src Try.prog nlaw12_DistanceWays claw12_DistanceWays := ⟨mixed, Try.f11, by kernel_rfl, by kernel_rfl, by decide⟩
theorem slaw12_DistanceMore : Src Try.prog nlaw12_DistanceMore claw12_DistanceMore := ⟨mixed, Try.f12, by kernel_rfl, by kernel_rfl, by decide⟩
theorem slaw12_DistanceOrder : Src Try.prog nlaw12_DistanceOrder claw12_DistanceOrder := ⟨mixed, Try.f13, by kernel_rfl, by kernel_rfl, by decide⟩
theorem smade_Light : Src Try.prog nmade_Light cmade_Light := ⟨mixed, Try.f14, by kernel_rfl, by kernel_rfl, by decide⟩
theorem smade_Roll : Src Try.prog nmade_Roll cmade_Roll := ⟨mixed, Try.f16, by kernel_rfl, by kernel_rfl, by decide⟩
theorem smade_Dice_Next : Src Try.prog nmade_Dice_Next cmade_Dice_Next := ⟨mixed, Try.f20, by kernel_rfl, by kernel_rfl, by decide⟩
theorem smade_Dice_Of : Src Try.prog nmade_Dice_Of cmade_Dice_Of := ⟨mixed, Try.f21, by kernel_rfl, by kernel_rfl, by decide⟩
theorem smade_Dice_One : Src Try.prog nmade_Dice_One cmade_Dice_One := ⟨mixed, Try.f22, by kernel_rfl, by kernel_rfl, by decide⟩
theorem smade_Mod : Src Try.prog nmade_Mod cmade_Mod := ⟨mixed, Try.f24, by kernel_rfl, by kernel_rfl, by decide⟩
theorem smade_Dice_Graph : Src Try.prog nmade_Dice_Graph cmade_Dice_Graph := ⟨mixed, Try.f29, by kernel_rfl, by kernel_rfl, by decide⟩
theorem sref11_Out : Src Try.prog nref11_Out cref11_Out := ⟨mixed, Try.f40, by kernel_rfl, by kernel_rfl, by decide⟩
theorem sref11_In : Src Try.prog nref11_In cref11_In := ⟨mixed, Try.f41, by kernel_rfl, by kernel_rfl, by decide⟩
theorem sgraph_Level : Src Try.prog ngraph_Level cgraph_Level := ⟨mixed, Try.f42, by kernel_rfl, by kernel_rfl, by decide⟩
theorem sref11_Level : Src Try.prog nref11_Level cref11_Level := ⟨mixed, Try.f43, by kernel_rfl, by kernel_rfl, by decide⟩
theorem slaw12_awake : Src Try.prog nlaw12_awake claw12_awake := ⟨mixed, Try.f46, by kernel_rfl, by kernel_rfl, by decide⟩
theorem slaw12_agree : Src Try.prog nlaw12_agree claw12_agree := ⟨mixed, Try.f47, by kernel_rfl, by kernel_rfl, by decide⟩
theorem smade_Dice_Some : Src Try.prog nmade_Dice_Some cmade_Dice_Some := ⟨mixed, Try.f48, by kernel_rfl, by kernel_rfl, by decide⟩
theorem sdistance_All : Src Try.prog ndistance_All cdistance_All := ⟨mixed, Try.f49, by kernel_rfl, by kernel_rfl, by decide⟩
theorem sdistance_Way : Src Try.prog ndistance_Way cdistance_Way := ⟨mixed, Try.f50, by kernel_rfl, by kernel_rfl, by decide⟩
theorem sref11_Put : Src Try.prog nref11_Put cref11_Put := ⟨mixed, Try.f51, by kernel_rfl, by kernel_rfl, by decide⟩
theorem sdistance_Order : Src Try.prog ndistance_Order cdistance_Order := ⟨mixed, Try.f52, by kernel_rfl, by kernel_rfl, by decide⟩
theorem sslices_DeleteFunc_Lapi_Edge_api_Edge : Src Try.prog nslices_DeleteFunc_Lapi_Edge_api_Edge cslices_DeleteFunc_Lapi_Edge_api_Edge := ⟨mixed, Try.f85, by kernel_rfl, by kernel_rfl, by decide⟩
theorem sgraph_Level_c1 : Src Try.prog ngraph_Level_c1 cgraph_Level_c1 := ⟨mixed, Try.f86, by kernel_rfl, by kernel_rfl, by decide⟩
theorem sref12_Way : Src Try.prog nref12_Way cref12_Way := ⟨mixed, Try.f88, by kernel_rfl, by kernel_rfl, by decide⟩
theorem sref12_All : Src Try.prog nref12_All cref12_All := ⟨mixed, Try.f89, by kernel_rfl, by kernel_rfl, by decide⟩
theorem sref12_Order : Src Try.prog nref12_Order cref12_Order := ⟨mixed, Try.f90, by kernel_rfl, by kernel_rfl, by decide⟩
theorem sslices_Repeat_Lint_int : Src Try.prog nslices_Repeat_Lint_int cslices_Repeat_Lint_int := ⟨mixed, Try.f91, by kernel_rfl, by kernel_rfl, by decide⟩
theorem slists_Where : Src Try.prog nlists_Where clists_Where := ⟨mixed, Try.f92, by kernel_rfl, by kernel_rfl, by decide⟩
theorem sdistance_All_c1 : Src Try.prog ndistance_All_c1 cdistance_All_c1 := ⟨mixed, Try.f93, by kernel_rfl, by kernel_rfl, by decide⟩
theorem sdistance_start : Src Try.prog ndistance_start cdistance_start := ⟨mixed, Try.f94, by kernel_rfl, by kernel_rfl, by decide⟩
theorem sslices_DeleteFunc_Lint_int : Src Try.prog nslices_DeleteFunc_Lint_int cslices_DeleteFunc_Lint_int := ⟨mixed, Try.f95, by kernel_rfl, by kernel_rfl, by decide⟩
theorem sdistance_All_c2 : Src Try.prog ndistance_All_c2 cdistance_All_c2 := ⟨mixed, Try.f96, by kernel_rfl, by kernel_rfl, by decide⟩
theorem sslices_ContainsFunc_Lint_int : Src Try.prog nslices_ContainsFunc_Lint_int cslices_ContainsFunc_Lint_int := ⟨mixed, Try.f97, by kernel_rfl, by kernel_rfl, by decide⟩
theorem sdistance_Way_c1 : Src Try.prog ndistance_Way_c1 cdistance_Way_c1 := ⟨mixed, Try.f98, by kernel_rfl, by kernel_rfl, by decide⟩
theorem sslices_IndexFunc_Lint_int : Src Try.prog nslices_IndexFunc_Lint_int cslices_IndexFunc_Lint_int := ⟨mixed, Try.f99, by kernel_rfl, by kernel_rfl, by decide⟩
theorem sdistance_Way_c2 : Src Try.prog ndistance_Way_c2 cdistance_Way_c2 := ⟨mixed, Try.f100, by kernel_rfl, by kernel_rfl, by decide⟩
theorem sdistance_Way_c3 : Src Try.prog ndistance_Way_c3 cdistance_Way_c3 := ⟨mixed, Try.f101, by kernel_rfl, by kernel_rfl, by decide⟩
theorem sdistance_Order_c1 : Src Try.prog ndistance_Order_c1 cdistance_Order_c1 := ⟨mixed, Try.f102, by kernel_rfl, by kernel_rfl, by decide⟩
theorem sslices_SortStableFunc_Lint_int : Src Try.prog nslices_SortStableFunc_Lint_int cslices_SortStableFunc_Lint_int := ⟨mixed, Try.f103, by kernel_rfl, by kernel_rfl, by decide⟩
theorem sdistance_Order_c2 : Src Try.prog ndistance_Order_c2 cdistance_Order_c2 := ⟨mixed, Try.f104, by kernel_rfl, by kernel_rfl, by decide⟩
theorem sslices_IndexFunc_Lapi_Edge_api_Edge : Src Try.prog nslices_IndexFunc_Lapi_Edge_api_Edge cslices_IndexFunc_Lapi_Edge_api_Edge := ⟨mixed, Try.f134, by kernel_rfl, by kernel_rfl, by decide⟩
theorem smath_bits_Mul : Src Try.prog nmath_bits_Mul cmath_bits_Mul := ⟨mixed, Try.f135, by kernel_rfl, by kernel_rfl, by decide⟩
theorem sslices_stableCmpFunc_int : Src Try.prog nslices_stableCmpFunc_int cslices_stableCmpFunc_int := ⟨mixed, Try.f136, by kernel_rfl, by kernel_rfl, by decide⟩
theorem smath_bits_Mul32 : Src Try.prog nmath_bits_Mul32 cmath_bits_Mul32 := ⟨mixed, Try.f163, by kernel_rfl, by kernel_rfl, by decide⟩
theorem smath_bits_Mul64 : Src Try.prog nmath_bits_Mul64 cmath_bits_Mul64 := ⟨mixed, Try.f164, by kernel_rfl, by kernel_rfl, by decide⟩
theorem sslices_insertionSortCmpFunc_int : Src Try.prog nslices_insertionSortCmpFunc_int cslices_insertionSortCmpFunc_int := ⟨mixed, Try.f165, by kernel_rfl, by kernel_rfl, by decide⟩
theorem sslices_symMergeCmpFunc_int : Src Try.prog nslices_symMergeCmpFunc_int cslices_symMergeCmpFunc_int := ⟨mixed, Try.f166, by kernel_rfl, by kernel_rfl, by decide⟩
theorem sslices_rotateCmpFunc_int : Src Try.prog nslices_rotateCmpFunc_int cslices_rotateCmpFunc_int := ⟨mixed, Try.f178, by kernel_rfl, by kernel_rfl, by decide⟩
theorem sslices_swapRangeCmpFunc_int : Src Try.prog nslices_swapRangeCmpFunc_int cslices_swapRangeCmpFunc_int := ⟨mixed, Try.f181, by kernel_rfl, by kernel_rfl, by decide⟩
end Go.Proofs.Ytnphfkceoklkkaa
