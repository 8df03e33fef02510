/- Texts of this claim, merged. -/
import Derived.Test.YtnphfkceoklkkaaVf13
import Derived.Test.YtnphfkceoklkkaaVf8
import Derived.Test.YtnphfkceoklkkaaProg
import Derived.KernelRfl
set_option linter.unusedSimpArgs false
set_option linter.unusedVariables false
set_option linter.unusedSectionVars false
/- Each function of the model is, translated, its small code. -/
namespace Go.Proofs.Ytnphfkceoklkkaa
open Go
theorem smade_Light : Src Try.prog nmade_Light cmade_Light := ⟨mixed, Try.f14, by kernel_rfl, by kernel_rfl, by decide⟩
theorem smade_Roll : Src Try.prog nmade_Roll cmade_Roll := ⟨mixed, Try.f16, by kernel_rfl, by kernel_rfl, by decide⟩
theorem smade_Dice_Next : Src Try.prog nmade_Dice_Next cmade_Dice_Next := ⟨mixed, Try.f20, by kernel_rfl, by kernel_rfl, by decide⟩
theorem smade_Dice_Of : Src Try.prog nmade_Dice_Of cmade_Dice_Of := ⟨mixed, Try.f21, by kernel_rfl, by kernel_rfl, by decide⟩
theorem smade_Dice_One : Src Try.prog nmade_Dice_One cmade_Dice_One := ⟨mixed, Try.f22, by kernel_rfl, by kernel_rfl, by decide⟩
theorem smade_Mod : Src Try.prog nmade_Mod cmade_Mod := ⟨mixed, Try.f24, by kernel_rfl, by kernel_rfl, by decide⟩
theorem smade_Dice_Graph : Src Try.prog nmade_Dice_Graph cmade_Dice_Graph := ⟨mixed, Try.f29, by kernel_rfl, by kernel_rfl, by decide⟩
theorem sref11_Out : Src Try.prog nref11_Out cref11_Out := ⟨mixed, Try.f40, by kernel_rfl, by kernel_rfl, by decide⟩
theorem sref11_In : Src Try.prog nref11_In cref11_In := ⟨mixed, Try.f41, by kernel_rfl, by kernel_rfl, by decide⟩
end Go.Proofs.Ytnphfkceoklkkaa
