/- Texts of this claim, merged. -/
import Derived.Test.YtnphfkceoklkkaaVf7
import Derived.Test.YtnphfkceoklkkaaVf5
import Derived.Test.YtnphfkceoklkkaaProg
import Derived.KernelRfl
set_option linter.unusedSimpArgs false
set_option linter.unusedVariables false
set_option linter.unusedSectionVars false
/- Each function of the model is, translated, its small code. -/
namespace Go.Proofs.Ytnphfkceoklkkaa
open Go
theorem mixed : Try.prog.follows .mixedOrders = true := by kernel_rfl
theorem sgraph_With : Src Try.prog ngraph_With cgraph_With := ⟨mixed, Try.f30, by kernel_rfl, by kernel_rfl, by decide⟩
theorem sref11_Same : Src Try.prog nref11_Same cref11_Same := ⟨mixed, Try.f32, by kernel_rfl, by kernel_rfl, by decide⟩
theorem sgraph_Check : Src Try.prog ngraph_Check cgraph_Check := ⟨mixed, Try.f33, by kernel_rfl, by kernel_rfl, by decide⟩
theorem sgraph_Out : Src Try.prog ngraph_Out cgraph_Out := ⟨mixed, Try.f34, by kernel_rfl, by kernel_rfl, by decide⟩
theorem sgraph_In : Src Try.prog ngraph_In cgraph_In := ⟨mixed, Try.f35, by kernel_rfl, by kernel_rfl, by decide⟩
theorem sref11_Has : Src Try.prog nref11_Has cref11_Has := ⟨mixed, Try.f36, by kernel_rfl, by kernel_rfl, by decide⟩
theorem sgraph_Same : Src Try.prog ngraph_Same cgraph_Same := ⟨mixed, Try.f38, by kernel_rfl, by kernel_rfl, by decide⟩
theorem sref03_SameInts : Src Try.prog nref03_SameInts cref03_SameInts := ⟨mixed, Try.f39, by kernel_rfl, by kernel_rfl, by decide⟩
theorem sref11_Copy : Src Try.prog nref11_Copy cref11_Copy := ⟨mixed, Try.f44, by kernel_rfl, by kernel_rfl, by decide⟩
theorem sref11_With : Src Try.prog nref11_With cref11_With := ⟨mixed, Try.f45, by kernel_rfl, by kernel_rfl, by decide⟩
theorem sslices_Sort_Lint_int : Src Try.prog nslices_Sort_Lint_int cslices_Sort_Lint_int := ⟨mixed, Try.f70, by kernel_rfl, by kernel_rfl, by decide⟩
theorem sslices_BinarySearchFunc_Lapi_Edge_api_Edge_api_Edge : Src Try.prog nslices_BinarySearchFunc_Lapi_Edge_api_Edge_api_Edge cslices_BinarySearchFunc_Lapi_Edge_api_Edge_api_Edge := ⟨mixed, Try.f72, by kernel_rfl, by kernel_rfl, by decide⟩
theorem sgraph_compare : Src Try.prog ngraph_compare cgraph_compare := ⟨mixed, Try.f73, by kernel_rfl, by kernel_rfl, by decide⟩
theorem sgraph_fits : Src Try.prog ngraph_fits cgraph_fits := ⟨mixed, Try.f74, by kernel_rfl, by kernel_rfl, by decide⟩
theorem slists_In : Src Try.prog nlists_In clists_In := ⟨mixed, Try.f75, by kernel_rfl, by kernel_rfl, by decide⟩
theorem sgraph_copied : Src Try.prog ngraph_copied cgraph_copied := ⟨mixed, Try.f76, by kernel_rfl, by kernel_rfl, by decide⟩
theorem sslices_Insert_Lapi_Edge_api_Edge : Src Try.prog nslices_Insert_Lapi_Edge_api_Edge cslices_Insert_Lapi_Edge_api_Edge := ⟨mixed, Try.f77, by kernel_rfl, by kernel_rfl, by decide⟩
theorem sslices_Delete_Lapi_Edge_api_Edge : Src Try.prog nslices_Delete_Lapi_Edge_api_Edge cslices_Delete_Lapi_Edge_api_Edge := ⟨mixed, Try.f78, by kernel_rfl, by kernel_rfl, by decide⟩
theorem slists_Rising : Src Try.prog nlists_Rising clists_Rising := ⟨mixed, Try.f79, by kernel_rfl, by kernel_rfl, by decide⟩
theorem sref11_Without : Src Try.prog nref11_Without cref11_Without := ⟨mixed, Try.f80, by kernel_rfl, by kernel_rfl, by decide⟩
theorem sref11_Check : Src Try.prog nref11_Check cref11_Check := ⟨mixed, Try.f81, by kernel_rfl, by kernel_rfl, by decide⟩
theorem sslices_Equal_Lapi_Edge_api_Edge : Src Try.prog nslices_Equal_Lapi_Edge_api_Edge cslices_Equal_Lapi_Edge_api_Edge := ⟨mixed, Try.f83, by kernel_rfl, by kernel_rfl, by decide⟩
theorem sslices_Equal_Lint_int : Src Try.prog nslices_Equal_Lint_int cslices_Equal_Lint_int := ⟨mixed, Try.f84, by kernel_rfl, by kernel_rfl, by decide⟩
theorem sref11_index : Src Try.prog nref11_index cref11_index := ⟨mixed, Try.f87, by kernel_rfl, by kernel_rfl, by decide⟩
theorem scmp_Compare_int : Src Try.prog ncmp_Compare_int ccmp_Compare_int := ⟨mixed, Try.f105, by kernel_rfl, by kernel_rfl, by decide⟩
theorem scmp_Or_int : Src Try.prog ncmp_Or_int ccmp_Or_int := ⟨mixed, Try.f109, by kernel_rfl, by kernel_rfl, by decide⟩
theorem sslices_Contains_Lint_int : Src Try.prog nslices_Contains_Lint_int cslices_Contains_Lint_int := ⟨mixed, Try.f125, by kernel_rfl, by kernel_rfl, by decide⟩
theorem sslices_Clone_Lapi_Edge_api_Edge : Src Try.prog nslices_Clone_Lapi_Edge_api_Edge cslices_Clone_Lapi_Edge_api_Edge := ⟨mixed, Try.f128, by kernel_rfl, by kernel_rfl, by decide⟩
theorem sslices_Clone_Lint_int : Src Try.prog nslices_Clone_Lint_int cslices_Clone_Lint_int := ⟨mixed, Try.f129, by kernel_rfl, by kernel_rfl, by decide⟩
theorem sref11_Set : Src Try.prog nref11_Set cref11_Set := ⟨mixed, Try.f132, by kernel_rfl, by kernel_rfl, by decide⟩
theorem sref11_before : Src Try.prog nref11_before cref11_before := ⟨mixed, Try.f133, by kernel_rfl, by kernel_rfl, by decide⟩
theorem scmp_isNaN_int : Src Try.prog ncmp_isNaN_int ccmp_isNaN_int := ⟨mixed, Try.f137, by kernel_rfl, by kernel_rfl, by decide⟩
theorem sslices_Index_Lint_int : Src Try.prog nslices_Index_Lint_int cslices_Index_Lint_int := ⟨mixed, Try.f150, by kernel_rfl, by kernel_rfl, by decide⟩
end Go.Proofs.Ytnphfkceoklkkaa
