/- trustflowtop.TopLoss: the tied card. -/
import Derived.Test.YtnaemfpgdmfmcaaGreatDoorRa7
import Derived.Test.YtnaemfpgdmfmcaaGreatDoorRa8
set_option linter.unusedSimpArgs false
set_option linter.unusedVariables false
set_option linter.unusedSectionVars false
set_option maxRecDepth 100000
set_option maxHeartbeats 8000000
noncomputable section
namespace Go.Proofs.YtnaemfpgdmfmcaaGreatDoor
open Go Go.ChangeShapes Go.WideShapes Go.ChangeAt Go.RowKit
theorem qE:Rows.TopLossSaid :=
 OpenClaim.holds_of_wide 3 Tryz.f3 rfl rfl rfl rfl rfl rfl rfl ⟨rfl,rfl,rfl,rfl,rfl⟩ rfl rfl rfl rfl rfl (by kernel_rfl) Tryz.func3 nP
  (of_decide_eq_true (by kernel_rfl)) sN
  (λ os started H enc _=>oN os started H enc)
theorem cC (t:TypeId) (h:t∈[22,5]):Tryz.prog.wantsStandIn t=false:=by
 have q:([22,5].all λ u=>!Tryz.prog.wantsStandIn u)=true:=by kernel_rfl
 simpa using UA.1 q t h
theorem topLossCard:Rows.TopLossCardSaid :=
 Claim7.holds_tied_plain_at .later [] [.data,.data,.data,.data,.pinned,.pinned,.pinned,.pinned,.pinned,.pinned] true (true,"ad0ccbdfd3d43024692280a1e81e80a1c58aa8382ed15009e4a62a780d854bb9") false qE (λ _ h=>by cases h) (by kernel_rfl) (λ _ h=>by cases h) topLoss_row_tie rfl ⟨rfl,rfl⟩ (by kernel_rfl) rfl
  (λ f fn hf q=>by
   obtain rfl:f=3:=Qc ((show Tryz.prog.funcNamed "trustflow/trustflowtop.TopLoss" = some 3 by kernel_rfl).symm.trans hf) |>.symm
   obtain rfl:fn=Tryz.f3:=(Qc (Tryz.func3.symm.trans q)).symm
   exact⟨by kernel_rfl,λ j t ht=>by
    rw[Tryz.params3] at ht
    exact cC t (by simpa using Array.mem_of_getElem? ht)⟩)
  qC
end Go.Proofs.YtnaemfpgdmfmcaaGreatDoor
