/- Texts of this claim,merged. -/
import Derived.Test.YtnaemfpgdmfmcaaGreatDoorRa1
import Derived.Test.YtnaemfpgdmfmcaaGreatDoorProg
import Derived.Test.YtnaemfpgdmfmcaaGreatDoorTie
import Derived.Test.YtnaemfpgdmfmcaaGreatDoorCards
import Derived.ProofKit
import Derived.SevenTiedAt
set_option linter.unusedSimpArgs false
set_option linter.unusedVariables false
set_option linter.unusedSectionVars false
set_option maxRecDepth 100000
set_option maxHeartbeats 8000000
noncomputable section
namespace Go.Proofs.YtnaemfpgdmfmcaaGreatDoor
open Go Go.ChangeShapes Go.WideShapes Go.ChangeAt Go.RowKit
theorem vE {P:Program} (h:P.funcs.any Func.goes=false) (f:FuncId):P.goes f=false:=by
 unfold Program.goes;rw[h,Bool.and_false,Bool.or_false]
 have hm:∀ g:Nat,(P.funcs[g]?).any Func.goes=false:=λ g=>by
  cases hg:P.funcs[g]? with
  | none=>rfl
  | some fn =>
    obtain⟨q,rfl⟩:=QE.1 hg;have:=Array.any_eq_false.1 h g q
    simpa using this
 rw[List.any_eq_false];intro g _;rw[hm g];simp
theorem wU {P:Program} {c:OpenClaim} (hs:c.start = .entering) (h:P.funcs.any Func.goes=false):false=c.goesBy P:=by
 unfold OpenClaim.goesBy Program.goesAt Program.goesFrom;rw[hs,Bool.or_false]
 cases P.funcNamed c.func with
 | none=>rfl
 | some f=>exact(vE h f).symm
theorem qC:false=Rows.topLossRow.goesBy Tryz.prog:=wU rfl (by kernel_rfl)
end Go.Proofs.YtnaemfpgdmfmcaaGreatDoor
namespace Go.Proofs.YtnaemfpgdmfmcaaGreatDoor
open Go Go.ChangeShapes Go.WideShapes Go.ChangeAt Go.RowKit
theorem nP:joinedFacts Tryz.prog 3 Tryz.f3 Rows.topLossSpec Rows.topLossRow=true:=by
 unfold joinedFacts;simp only[QD]
 repeat' refine And.intro ?_ ?_
 all_goals (as_aux_lemma=>kernel_rfl)
theorem sN:Tryz.f3.isWrapper Tryz.prog Rows.topLossRow.wrapper Rows.topLossRow.mainSum:=by unfold Func.isWrapper;first | (rw[if_pos (by decide +kernel)];kernel_rfl) | (rw[if_neg (by decide +kernel)];exact⟨rfl,rfl⟩)
end Go.Proofs.YtnaemfpgdmfmcaaGreatDoor
