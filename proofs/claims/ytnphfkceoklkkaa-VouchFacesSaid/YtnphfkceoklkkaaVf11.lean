/- Texts of this claim, merged. -/
import Derived.Test.YtnphfkceoklkkaaVf10
import Derived.Test.YtnphfkceoklkkaaVf8
import Derived.Test.YtnphfkceoklkkaaProg
import Derived.KernelRfl
set_option linter.unusedSimpArgs false
set_option linter.unusedVariables false
set_option linter.unusedSectionVars false
/- Each function of the model is, translated, its small code. -/
namespace Go.Proofs.Ytnphfkceoklkkaa
open Go
theorem slaw10_VouchFaces : Src Try.prog nlaw10_VouchFaces claw10_VouchFaces := ⟨mixed, Try.f4, by kernel_rfl, by kernel_rfl, by decide⟩
theorem slaw10_awake : Src Try.prog nlaw10_awake claw10_awake := ⟨mixed, Try.f15, by kernel_rfl, by kernel_rfl, by decide⟩
theorem slaw10_agree : Src Try.prog nlaw10_agree claw10_agree := ⟨mixed, Try.f19, by kernel_rfl, by kernel_rfl, by decide⟩
theorem sref04_Next : Src Try.prog nref04_Next cref04_Next := ⟨mixed, Try.f23, by kernel_rfl, by kernel_rfl, by decide⟩
theorem svouch_Active : Src Try.prog nvouch_Active cvouch_Active := ⟨mixed, Try.f25, by kernel_rfl, by kernel_rfl, by decide⟩
theorem svouch_Gone : Src Try.prog nvouch_Gone cvouch_Gone := ⟨mixed, Try.f26, by kernel_rfl, by kernel_rfl, by decide⟩
theorem svouch_Between : Src Try.prog nvouch_Between cvouch_Between := ⟨mixed, Try.f27, by kernel_rfl, by kernel_rfl, by decide⟩
theorem slaw10_list : Src Try.prog nlaw10_list claw10_list := ⟨mixed, Try.f53, by kernel_rfl, by kernel_rfl, by decide⟩
theorem svouch_Of : Src Try.prog nvouch_Of cvouch_Of := ⟨mixed, Try.f54, by kernel_rfl, by kernel_rfl, by decide⟩
theorem sref04_Counted : Src Try.prog nref04_Counted cref04_Counted := ⟨mixed, Try.f55, by kernel_rfl, by kernel_rfl, by decide⟩
theorem sref10_Between : Src Try.prog nref10_Between cref10_Between := ⟨mixed, Try.f59, by kernel_rfl, by kernel_rfl, by decide⟩
theorem sref10_Same : Src Try.prog nref10_Same cref10_Same := ⟨mixed, Try.f60, by kernel_rfl, by kernel_rfl, by decide⟩
theorem sref10_Of : Src Try.prog nref10_Of cref10_Of := ⟨mixed, Try.f61, by kernel_rfl, by kernel_rfl, by decide⟩
theorem sref10_Gone : Src Try.prog nref10_Gone cref10_Gone := ⟨mixed, Try.f62, by kernel_rfl, by kernel_rfl, by decide⟩
theorem sref10_Active : Src Try.prog nref10_Active cref10_Active := ⟨mixed, Try.f63, by kernel_rfl, by kernel_rfl, by decide⟩
theorem sref03_SameList : Src Try.prog nref03_SameList cref03_SameList := ⟨mixed, Try.f64, by kernel_rfl, by kernel_rfl, by decide⟩
theorem sref03_Copy : Src Try.prog nref03_Copy cref03_Copy := ⟨mixed, Try.f65, by kernel_rfl, by kernel_rfl, by decide⟩
theorem sref03_Digest : Src Try.prog nref03_Digest cref03_Digest := ⟨mixed, Try.f66, by kernel_rfl, by kernel_rfl, by decide⟩
theorem sref03_Seal : Src Try.prog nref03_Seal cref03_Seal := ⟨mixed, Try.f67, by kernel_rfl, by kernel_rfl, by decide⟩
theorem sref03_Check : Src Try.prog nref03_Check cref03_Check := ⟨mixed, Try.f68, by kernel_rfl, by kernel_rfl, by decide⟩
theorem svouch_holds : Src Try.prog nvouch_holds cvouch_holds := ⟨mixed, Try.f69, by kernel_rfl, by kernel_rfl, by decide⟩
theorem sslices_Compact_Lint_int : Src Try.prog nslices_Compact_Lint_int cslices_Compact_Lint_int := ⟨mixed, Try.f71, by kernel_rfl, by kernel_rfl, by decide⟩
theorem svouch_revoked : Src Try.prog nvouch_revoked cvouch_revoked := ⟨mixed, Try.f106, by kernel_rfl, by kernel_rfl, by decide⟩
theorem sslices_SortStableFunc_Lapi_Vouch_api_Vouch : Src Try.prog nslices_SortStableFunc_Lapi_Vouch_api_Vouch cslices_SortStableFunc_Lapi_Vouch_api_Vouch := ⟨mixed, Try.f107, by kernel_rfl, by kernel_rfl, by decide⟩
theorem svouch_Of_c1 : Src Try.prog nvouch_Of_c1 cvouch_Of_c1 := ⟨mixed, Try.f108, by kernel_rfl, by kernel_rfl, by decide⟩
theorem sref04_Own : Src Try.prog nref04_Own cref04_Own := ⟨mixed, Try.f110, by kernel_rfl, by kernel_rfl, by decide⟩
theorem sref04_Follows : Src Try.prog nref04_Follows cref04_Follows := ⟨mixed, Try.f111, by kernel_rfl, by kernel_rfl, by decide⟩
theorem sref10_revoked : Src Try.prog nref10_revoked cref10_revoked := ⟨mixed, Try.f115, by kernel_rfl, by kernel_rfl, by decide⟩
theorem sref10_less : Src Try.prog nref10_less cref10_less := ⟨mixed, Try.f116, by kernel_rfl, by kernel_rfl, by decide⟩
theorem sref10_has : Src Try.prog nref10_has cref10_has := ⟨mixed, Try.f117, by kernel_rfl, by kernel_rfl, by decide⟩
theorem sref03_Same : Src Try.prog nref03_Same cref03_Same := ⟨mixed, Try.f118, by kernel_rfl, by kernel_rfl, by decide⟩
theorem sref01_Sum : Src Try.prog nref01_Sum cref01_Sum := ⟨mixed, Try.f119, by kernel_rfl, by kernel_rfl, by decide⟩
theorem sref03_Bytes : Src Try.prog nref03_Bytes cref03_Bytes := ⟨mixed, Try.f120, by kernel_rfl, by kernel_rfl, by decide⟩
theorem sref03_key : Src Try.prog nref03_key cref03_key := ⟨mixed, Try.f121, by kernel_rfl, by kernel_rfl, by decide⟩
theorem sref03_in : Src Try.prog nref03_in cref03_in := ⟨mixed, Try.f122, by kernel_rfl, by kernel_rfl, by decide⟩
theorem sref03_numbers : Src Try.prog nref03_numbers cref03_numbers := ⟨mixed, Try.f123, by kernel_rfl, by kernel_rfl, by decide⟩
theorem sref03_PinsOK : Src Try.prog nref03_PinsOK cref03_PinsOK := ⟨mixed, Try.f124, by kernel_rfl, by kernel_rfl, by decide⟩
theorem sslices_stableCmpFunc_api_Vouch : Src Try.prog nslices_stableCmpFunc_api_Vouch cslices_stableCmpFunc_api_Vouch := ⟨mixed, Try.f138, by kernel_rfl, by kernel_rfl, by decide⟩
theorem sref03_Sealed : Src Try.prog nref03_Sealed cref03_Sealed := ⟨mixed, Try.f139, by kernel_rfl, by kernel_rfl, by decide⟩
theorem sref03_SamePins : Src Try.prog nref03_SamePins cref03_SamePins := ⟨mixed, Try.f144, by kernel_rfl, by kernel_rfl, by decide⟩
theorem sref01_constants : Src Try.prog nref01_constants cref01_constants := ⟨mixed, Try.f145, by kernel_rfl, by kernel_rfl, by decide⟩
theorem sref01_block : Src Try.prog nref01_block cref01_block := ⟨mixed, Try.f146, by kernel_rfl, by kernel_rfl, by decide⟩
theorem sref02_Text : Src Try.prog nref02_Text cref02_Text := ⟨mixed, Try.f147, by kernel_rfl, by kernel_rfl, by decide⟩
theorem sref02_Int : Src Try.prog nref02_Int cref02_Int := ⟨mixed, Try.f148, by kernel_rfl, by kernel_rfl, by decide⟩
theorem sref02_Ints : Src Try.prog nref02_Ints cref02_Ints := ⟨mixed, Try.f149, by kernel_rfl, by kernel_rfl, by decide⟩
theorem sslices_insertionSortCmpFunc_api_Vouch : Src Try.prog nslices_insertionSortCmpFunc_api_Vouch cslices_insertionSortCmpFunc_api_Vouch := ⟨mixed, Try.f167, by kernel_rfl, by kernel_rfl, by decide⟩
theorem sref01_turn : Src Try.prog nref01_turn cref01_turn := ⟨mixed, Try.f171, by kernel_rfl, by kernel_rfl, by decide⟩
end Go.Proofs.Ytnphfkceoklkkaa
