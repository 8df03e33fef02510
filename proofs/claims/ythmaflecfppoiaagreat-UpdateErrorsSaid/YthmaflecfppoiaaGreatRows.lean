/-
  No cell of these rows narrows 'for every input' (looked for: loops, veiled, ifaces, maps, wideKeys, modest, calm, conditions, laid).
  DERIVED. THE GIVEN ROWS OF THIS SEAT. 5 by the template 'for every input the law returns true; each argument reads behind the call as it read before'; 0 by the template 'total and deterministic' (their statements: YthmaflecfppoiaaGreatTotals.lean).
  GIVEN WITH THE SEED: the statements are not yours to turn. If you find one false, say at which input.
  Laid BY PROGRAM, IN A SANDBOX (cutbox-rows.mjs): the forced cells as the released guide's own fill.sh prints them over the translation d4667e23174d2747… (all of the seat's roots in one cut). By AI agents, Wed Nov 11 2026. No macro, syntax, notation, axiom, sorry.
-/
import Derived.Test.YthmaflecfppoiaaGreatChecked
import GoSem.Claim
import GoSem.ClaimJoined
import GoSem.ClaimMapViews
import Derived.JoinedTies
import Derived.KernelRfl
namespace Go.Proofs.YthmaflecfppoiaaGreat
/- THE CELL 'sum', in the pinned program and in every row, IS THE sha256 OF THE DUMP (.gsa) THAT YthmaflecfppoiaaGreatProg.lean LOADS. Nothing in Lean hashes anything: it is a label: what it is worth is what the hold of that sum in a sandbox is worth. -/
noncomputable def Tryz.pinned : Pinned := { name := "ythmaflecfppoiaagreat", sum := "d4667e23174d274760e62b830fa39caea655343fd2ea933dec345a546a8ead25", checked := Tryz.checked }
namespace Rows
def none {H : Type} : Left H := { results := [], args := [] }

/-- 'trustflowlaw18.UpdateApplies': WHATEVER THE INPUT: true; the input reads as it did. -/
def updateAppliesSpec : ChangeSpec := { name := "updateApplies", fn := fun _ => fun
  | [d1, d2] => { results := [.lit (.bool true)], args := [d1, d2] }
  | _ => none }
def updateAppliesRow : OpenClaim := { program := "ythmaflecfppoiaagreat", sum := "d4667e23174d274760e62b830fa39caea655343fd2ea933dec345a546a8ead25", func := "trustflow/trustflowlaw18.UpdateApplies", spec := "updateApplies", unfollowed := true, recurses := true, apart := false }
def UpdateAppliesSaid : Prop := updateAppliesRow.holds Tryz.pinned (OpenSpec.ofChange updateAppliesSpec)

/-- ITS FALSE NEIGHBOUR: 'it returns false'. Refute it at one input. -/
def updateAppliesWrong : ChangeSpec := { name := "updateApplies", fn := fun _ => fun
  | [d1, d2] => { results := [.lit (.bool false)], args := [d1, d2] }
  | _ => none }
def UpdateAppliesWrongFalsely : Prop := updateAppliesRow.holds Tryz.pinned (OpenSpec.ofChange updateAppliesWrong)

/-- 'trustflowlaw18.UpdateErrors': WHATEVER THE INPUT: true; the input reads as it did. -/
def updateErrorsSpec : ChangeSpec := { name := "updateErrors", fn := fun _ => fun
  | [d1, d2] => { results := [.lit (.bool true)], args := [d1, d2] }
  | _ => none }
def updateErrorsRow : OpenClaim := { program := "ythmaflecfppoiaagreat", sum := "d4667e23174d274760e62b830fa39caea655343fd2ea933dec345a546a8ead25", func := "trustflow/trustflowlaw18.UpdateErrors", spec := "updateErrors", unfollowed := true, recurses := true, apart := false }
def UpdateErrorsSaid : Prop := updateErrorsRow.holds Tryz.pinned (OpenSpec.ofChange updateErrorsSpec)

/-- ITS FALSE NEIGHBOUR: 'it returns false'. Refute it at one input. -/
def updateErrorsWrong : ChangeSpec := { name := "updateErrors", fn := fun _ => fun
  | [d1, d2] => { results := [.lit (.bool false)], args := [d1, d2] }
  | _ => none }
def UpdateErrorsWrongFalsely : Prop := updateErrorsRow.holds Tryz.pinned (OpenSpec.ofChange updateErrorsWrong)

/-- 'trustflowlaw18.UpdateBack': WHATEVER THE INPUT: true; the input reads as it did. -/
def updateBackSpec : ChangeSpec := { name := "updateBack", fn := fun _ => fun
  | [d] => { results := [.lit (.bool true)], args := [d] }
  | _ => none }
def updateBackRow : OpenClaim := { program := "ythmaflecfppoiaagreat", sum := "d4667e23174d274760e62b830fa39caea655343fd2ea933dec345a546a8ead25", func := "trustflow/trustflowlaw18.UpdateBack", spec := "updateBack", unfollowed := true, recurses := true, apart := false }
def UpdateBackSaid : Prop := updateBackRow.holds Tryz.pinned (OpenSpec.ofChange updateBackSpec)

/-- ITS FALSE NEIGHBOUR: 'it returns false'. Refute it at one input. -/
def updateBackWrong : ChangeSpec := { name := "updateBack", fn := fun _ => fun
  | [d] => { results := [.lit (.bool false)], args := [d] }
  | _ => none }
def UpdateBackWrongFalsely : Prop := updateBackRow.holds Tryz.pinned (OpenSpec.ofChange updateBackWrong)

/-- 'trustflowlaw18.UpdateOrder': WHATEVER THE INPUT: true; the input reads as it did. -/
def updateOrderSpec : ChangeSpec := { name := "updateOrder", fn := fun _ => fun
  | [d] => { results := [.lit (.bool true)], args := [d] }
  | _ => none }
def updateOrderRow : OpenClaim := { program := "ythmaflecfppoiaagreat", sum := "d4667e23174d274760e62b830fa39caea655343fd2ea933dec345a546a8ead25", func := "trustflow/trustflowlaw18.UpdateOrder", spec := "updateOrder", unfollowed := true, recurses := true, apart := false }
def UpdateOrderSaid : Prop := updateOrderRow.holds Tryz.pinned (OpenSpec.ofChange updateOrderSpec)

/-- ITS FALSE NEIGHBOUR: 'it returns false'. Refute it at one input. -/
def updateOrderWrong : ChangeSpec := { name := "updateOrder", fn := fun _ => fun
  | [d] => { results := [.lit (.bool false)], args := [d] }
  | _ => none }
def UpdateOrderWrongFalsely : Prop := updateOrderRow.holds Tryz.pinned (OpenSpec.ofChange updateOrderWrong)

/-- 'trustflowlaw18.UpdateSteps': WHATEVER THE INPUT: true; the input reads as it did. -/
def updateStepsSpec : ChangeSpec := { name := "updateSteps", fn := fun _ => fun
  | [d1, d2] => { results := [.lit (.bool true)], args := [d1, d2] }
  | _ => none }
def updateStepsRow : OpenClaim := { program := "ythmaflecfppoiaagreat", sum := "d4667e23174d274760e62b830fa39caea655343fd2ea933dec345a546a8ead25", func := "trustflow/trustflowlaw18.UpdateSteps", spec := "updateSteps", unfollowed := true, recurses := true, apart := false }
def UpdateStepsSaid : Prop := updateStepsRow.holds Tryz.pinned (OpenSpec.ofChange updateStepsSpec)

/-- ITS FALSE NEIGHBOUR: 'it returns false'. Refute it at one input. -/
def updateStepsWrong : ChangeSpec := { name := "updateSteps", fn := fun _ => fun
  | [d1, d2] => { results := [.lit (.bool false)], args := [d1, d2] }
  | _ => none }
def UpdateStepsWrongFalsely : Prop := updateStepsRow.holds Tryz.pinned (OpenSpec.ofChange updateStepsWrong)

/- THE SECOND FORM. 'bulk': how many values and letters a reading holds, each counted each time it is reached (what is shared counts as often as it is met; a slice's spare places count too). A statement '..UptoSaid' is the law's where the arguments, and the package variables that the reading takes, are together of bulk at most 1048576: NARROWER than '..Said'. Prove '..Said' where nothing that the law and all that it calls make is longer than what came in: it says more and counts as full. Else prove '..UptoSaid'. A law counts once. -/
mutual
def uptoBulk {H : Type} : DataW H → Nat
  | .lit (.string bytes) => bytes.length + 1
  | .lit _ => 1
  | .nil => 1
  | .ptr d => uptoBulk d + 1
  | .slice elems spare => uptoBulkAll elems + uptoBulkAll spare + 1
  | .agg parts => uptoBulkAll parts + 1
  | .iface _ d => uptoBulk d + 1
  | .map entries => uptoBulkEntries entries + 1
  | .held _ => 1
def uptoBulkAll {H : Type} : List (DataW H) → Nat
  | [] => 0
  | d :: r => uptoBulk d + uptoBulkAll r
def uptoBulkEntries {H : Type} : List (Lit × DataW H) → Nat
  | [] => 0
  | x :: r => uptoBulkEntry x + uptoBulkEntries r
def uptoBulkEntry {H : Type} : Lit × DataW H → Nat
  | (.string bytes, d) => bytes.length + uptoBulk d + 1
  | (_, d) => uptoBulk d + 1
 end
def uptoSmall : (H : Type) → List (DataW H) → Bool := fun _ ds => decide (uptoBulkAll ds ≤ 1048576)
def OpenSpec.upto (s : _root_.Go.ChangeSpec) : _root_.Go.OpenSpec := { _root_.Go.OpenSpec.ofChange s with cond := some uptoSmall }

/-- 'trustflowlaw18.UpdateApplies', WHERE WHAT IT READS IS OF BULK AT MOST 1048576: true; the input reads as it did. -/
def updateAppliesUptoRow : OpenClaim := { program := "ythmaflecfppoiaagreat", sum := "d4667e23174d274760e62b830fa39caea655343fd2ea933dec345a546a8ead25", func := "trustflow/trustflowlaw18.UpdateApplies", spec := "updateApplies", unfollowed := true, recurses := true, apart := false, narrowed := true }
def UpdateAppliesUptoSaid : Prop := updateAppliesUptoRow.holds Tryz.pinned (OpenSpec.upto updateAppliesSpec)

/-- 'trustflowlaw18.UpdateErrors', WHERE WHAT IT READS IS OF BULK AT MOST 1048576: true; the input reads as it did. -/
def updateErrorsUptoRow : OpenClaim := { program := "ythmaflecfppoiaagreat", sum := "d4667e23174d274760e62b830fa39caea655343fd2ea933dec345a546a8ead25", func := "trustflow/trustflowlaw18.UpdateErrors", spec := "updateErrors", unfollowed := true, recurses := true, apart := false, narrowed := true }
def UpdateErrorsUptoSaid : Prop := updateErrorsUptoRow.holds Tryz.pinned (OpenSpec.upto updateErrorsSpec)

/-- 'trustflowlaw18.UpdateBack', WHERE WHAT IT READS IS OF BULK AT MOST 1048576: true; the input reads as it did. -/
def updateBackUptoRow : OpenClaim := { program := "ythmaflecfppoiaagreat", sum := "d4667e23174d274760e62b830fa39caea655343fd2ea933dec345a546a8ead25", func := "trustflow/trustflowlaw18.UpdateBack", spec := "updateBack", unfollowed := true, recurses := true, apart := false, narrowed := true }
def UpdateBackUptoSaid : Prop := updateBackUptoRow.holds Tryz.pinned (OpenSpec.upto updateBackSpec)

/-- 'trustflowlaw18.UpdateOrder', WHERE WHAT IT READS IS OF BULK AT MOST 1048576: true; the input reads as it did. -/
def updateOrderUptoRow : OpenClaim := { program := "ythmaflecfppoiaagreat", sum := "d4667e23174d274760e62b830fa39caea655343fd2ea933dec345a546a8ead25", func := "trustflow/trustflowlaw18.UpdateOrder", spec := "updateOrder", unfollowed := true, recurses := true, apart := false, narrowed := true }
def UpdateOrderUptoSaid : Prop := updateOrderUptoRow.holds Tryz.pinned (OpenSpec.upto updateOrderSpec)

/-- 'trustflowlaw18.UpdateSteps', WHERE WHAT IT READS IS OF BULK AT MOST 1048576: true; the input reads as it did. -/
def updateStepsUptoRow : OpenClaim := { program := "ythmaflecfppoiaagreat", sum := "d4667e23174d274760e62b830fa39caea655343fd2ea933dec345a546a8ead25", func := "trustflow/trustflowlaw18.UpdateSteps", spec := "updateSteps", unfollowed := true, recurses := true, apart := false, narrowed := true }
def UpdateStepsUptoSaid : Prop := updateStepsUptoRow.holds Tryz.pinned (OpenSpec.upto updateStepsSpec)

end Rows
end Go.Proofs.YthmaflecfppoiaaGreat
