/-
  No cell of these rows narrows 'for every input' (looked for: loops, veiled, ifaces, maps, wideKeys, modest, calm, conditions, laid).
  DERIVED. THE GIVEN ROWS OF THIS SEAT. 11 by the template 'for every input the law returns true; each argument reads behind the call as it read before'; 0 by the template 'total and deterministic' (their statements: YtnphfkceoklkkaaTotals.lean).
  GIVEN WITH THE SEED: the statements are not yours to turn. If you find one false, say at which input.
  Laid BY PROGRAM, IN A SANDBOX (cutbox-rows.mjs): the forced cells as the released guide's own fill.sh prints them over the translation 28fc1f280be0e8c9… (all of the seat's roots in one cut). By AI agents, Wed Nov 11 2026. No macro, syntax, notation, axiom, sorry.
-/
import Derived.Test.YtnphfkceoklkkaaChecked
import GoSem.Claim
import GoSem.ClaimJoined
import GoSem.ClaimMapViews
import Derived.JoinedTies
import Derived.KernelRfl
namespace Go.Proofs.Ytnphfkceoklkkaa
/- THE CELL 'sum', in the pinned program and in every row, IS THE sha256 OF THE DUMP (.gsa) THAT YtnphfkceoklkkaaProg.lean LOADS. Nothing in Lean hashes anything: it is a label: what it is worth is what the hold of that sum in a sandbox is worth. -/
noncomputable def Try.pinned : Pinned := { name := "ytnphfkceoklkkaa", sum := "28fc1f280be0e8c92d3f5b7956c86ffb98f9539e152d2f6147a4a06d8f9eae54", checked := Try.checked }
namespace Rows
def none {H : Type} : Left H := { results := [], args := [] }

/-- 'trustflowlaw10.VouchMade': WHATEVER THE INPUT: true; the input reads as it did. -/
def vouchMadeSpec : ChangeSpec := { name := "vouchMade", fn := fun _ => fun
  | [d1, d2, d3] => { results := [.lit (.bool true)], args := [d1, d2, d3] }
  | _ => none }
def vouchMadeRow : OpenClaim := { program := "ytnphfkceoklkkaa", sum := "28fc1f280be0e8c92d3f5b7956c86ffb98f9539e152d2f6147a4a06d8f9eae54", func := "trustflow/trustflowlaw10.VouchMade", spec := "vouchMade", unfollowed := true, recurses := true, apart := false }
def VouchMadeSaid : Prop := vouchMadeRow.holds Try.pinned (OpenSpec.ofChange vouchMadeSpec)

/-- ITS FALSE NEIGHBOUR: 'it returns false'. Refute it at one input. -/
def vouchMadeWrong : ChangeSpec := { name := "vouchMade", fn := fun _ => fun
  | [d1, d2, d3] => { results := [.lit (.bool false)], args := [d1, d2, d3] }
  | _ => none }
def VouchMadeWrongFalsely : Prop := vouchMadeRow.holds Try.pinned (OpenSpec.ofChange vouchMadeWrong)

/-- 'trustflowlaw10.VouchFaces': WHATEVER THE INPUT: true; the input reads as it did. -/
def vouchFacesSpec : ChangeSpec := { name := "vouchFaces", fn := fun _ => fun
  | [d] => { results := [.lit (.bool true)], args := [d] }
  | _ => none }
def vouchFacesRow : OpenClaim := { program := "ytnphfkceoklkkaa", sum := "28fc1f280be0e8c92d3f5b7956c86ffb98f9539e152d2f6147a4a06d8f9eae54", func := "trustflow/trustflowlaw10.VouchFaces", spec := "vouchFaces", unfollowed := true, recurses := true, apart := false }
def VouchFacesSaid : Prop := vouchFacesRow.holds Try.pinned (OpenSpec.ofChange vouchFacesSpec)

/-- ITS FALSE NEIGHBOUR: 'it returns false'. Refute it at one input. -/
def vouchFacesWrong : ChangeSpec := { name := "vouchFaces", fn := fun _ => fun
  | [d] => { results := [.lit (.bool false)], args := [d] }
  | _ => none }
def VouchFacesWrongFalsely : Prop := vouchFacesRow.holds Try.pinned (OpenSpec.ofChange vouchFacesWrong)

/-- 'trustflowlaw10.VouchOnce': WHATEVER THE INPUT: true; the input reads as it did. -/
def vouchOnceSpec : ChangeSpec := { name := "vouchOnce", fn := fun _ => fun
  | [d1, d2] => { results := [.lit (.bool true)], args := [d1, d2] }
  | _ => none }
def vouchOnceRow : OpenClaim := { program := "ytnphfkceoklkkaa", sum := "28fc1f280be0e8c92d3f5b7956c86ffb98f9539e152d2f6147a4a06d8f9eae54", func := "trustflow/trustflowlaw10.VouchOnce", spec := "vouchOnce", unfollowed := true, recurses := true, apart := false }
def VouchOnceSaid : Prop := vouchOnceRow.holds Try.pinned (OpenSpec.ofChange vouchOnceSpec)

/-- ITS FALSE NEIGHBOUR: 'it returns false'. Refute it at one input. -/
def vouchOnceWrong : ChangeSpec := { name := "vouchOnce", fn := fun _ => fun
  | [d1, d2] => { results := [.lit (.bool false)], args := [d1, d2] }
  | _ => none }
def VouchOnceWrongFalsely : Prop := vouchOnceRow.holds Try.pinned (OpenSpec.ofChange vouchOnceWrong)

/-- 'trustflowlaw10.VouchLast': WHATEVER THE INPUT: true; the input reads as it did. -/
def vouchLastSpec : ChangeSpec := { name := "vouchLast", fn := fun _ => fun
  | [d] => { results := [.lit (.bool true)], args := [d] }
  | _ => none }
def vouchLastRow : OpenClaim := { program := "ytnphfkceoklkkaa", sum := "28fc1f280be0e8c92d3f5b7956c86ffb98f9539e152d2f6147a4a06d8f9eae54", func := "trustflow/trustflowlaw10.VouchLast", spec := "vouchLast", unfollowed := true, recurses := true, apart := false }
def VouchLastSaid : Prop := vouchLastRow.holds Try.pinned (OpenSpec.ofChange vouchLastSpec)

/-- ITS FALSE NEIGHBOUR: 'it returns false'. Refute it at one input. -/
def vouchLastWrong : ChangeSpec := { name := "vouchLast", fn := fun _ => fun
  | [d] => { results := [.lit (.bool false)], args := [d] }
  | _ => none }
def VouchLastWrongFalsely : Prop := vouchLastRow.holds Try.pinned (OpenSpec.ofChange vouchLastWrong)

/-- 'trustflowlaw11.GraphUndone': WHATEVER THE INPUT: true; the input reads as it did. -/
def graphUndoneSpec : ChangeSpec := { name := "graphUndone", fn := fun _ => fun
  | [d] => { results := [.lit (.bool true)], args := [d] }
  | _ => none }
def graphUndoneRow : OpenClaim := { program := "ytnphfkceoklkkaa", sum := "28fc1f280be0e8c92d3f5b7956c86ffb98f9539e152d2f6147a4a06d8f9eae54", func := "trustflow/trustflowlaw11.GraphUndone", spec := "graphUndone", inPlace := ["slices.overlaps[trustflow/api.Edge]"], unfollowed := true, recurses := true, apart := false }
def GraphUndoneSaid : Prop := graphUndoneRow.holds Try.pinned (OpenSpec.ofChange graphUndoneSpec)

/-- ITS FALSE NEIGHBOUR: 'it returns false'. Refute it at one input. -/
def graphUndoneWrong : ChangeSpec := { name := "graphUndone", fn := fun _ => fun
  | [d] => { results := [.lit (.bool false)], args := [d] }
  | _ => none }
def GraphUndoneWrongFalsely : Prop := graphUndoneRow.holds Try.pinned (OpenSpec.ofChange graphUndoneWrong)

/-- 'trustflowlaw11.GraphRaw': WHATEVER THE INPUT: true; the input reads as it did. -/
def graphRawSpec : ChangeSpec := { name := "graphRaw", fn := fun _ => fun
  | [d1, d2, d3] => { results := [.lit (.bool true)], args := [d1, d2, d3] }
  | _ => none }
def graphRawRow : OpenClaim := { program := "ytnphfkceoklkkaa", sum := "28fc1f280be0e8c92d3f5b7956c86ffb98f9539e152d2f6147a4a06d8f9eae54", func := "trustflow/trustflowlaw11.GraphRaw", spec := "graphRaw", inPlace := ["slices.overlaps[trustflow/api.Edge]"], unfollowed := true, recurses := true, apart := false }
def GraphRawSaid : Prop := graphRawRow.holds Try.pinned (OpenSpec.ofChange graphRawSpec)

/-- ITS FALSE NEIGHBOUR: 'it returns false'. Refute it at one input. -/
def graphRawWrong : ChangeSpec := { name := "graphRaw", fn := fun _ => fun
  | [d1, d2, d3] => { results := [.lit (.bool false)], args := [d1, d2, d3] }
  | _ => none }
def GraphRawWrongFalsely : Prop := graphRawRow.holds Try.pinned (OpenSpec.ofChange graphRawWrong)

/-- 'trustflowlaw11.GraphMade': WHATEVER THE INPUT: true; the input reads as it did. -/
def graphMadeSpec : ChangeSpec := { name := "graphMade", fn := fun _ => fun
  | [d1, d2] => { results := [.lit (.bool true)], args := [d1, d2] }
  | _ => none }
def graphMadeRow : OpenClaim := { program := "ytnphfkceoklkkaa", sum := "28fc1f280be0e8c92d3f5b7956c86ffb98f9539e152d2f6147a4a06d8f9eae54", func := "trustflow/trustflowlaw11.GraphMade", spec := "graphMade", inPlace := ["slices.overlaps[trustflow/api.Edge]"], unfollowed := true, recurses := true, apart := false }
def GraphMadeSaid : Prop := graphMadeRow.holds Try.pinned (OpenSpec.ofChange graphMadeSpec)

/-- ITS FALSE NEIGHBOUR: 'it returns false'. Refute it at one input. -/
def graphMadeWrong : ChangeSpec := { name := "graphMade", fn := fun _ => fun
  | [d1, d2] => { results := [.lit (.bool false)], args := [d1, d2] }
  | _ => none }
def GraphMadeWrongFalsely : Prop := graphMadeRow.holds Try.pinned (OpenSpec.ofChange graphMadeWrong)

/-- 'trustflowlaw12.DistanceAll': WHATEVER THE INPUT: true; the input reads as it did. -/
def distanceAllSpec : ChangeSpec := { name := "distanceAll", fn := fun _ => fun
  | [d1, d2] => { results := [.lit (.bool true)], args := [d1, d2] }
  | _ => none }
def distanceAllRow : OpenClaim := { program := "ytnphfkceoklkkaa", sum := "28fc1f280be0e8c92d3f5b7956c86ffb98f9539e152d2f6147a4a06d8f9eae54", func := "trustflow/trustflowlaw12.DistanceAll", spec := "distanceAll", unfollowed := true, recurses := true, apart := false }
def DistanceAllSaid : Prop := distanceAllRow.holds Try.pinned (OpenSpec.ofChange distanceAllSpec)

/-- ITS FALSE NEIGHBOUR: 'it returns false'. Refute it at one input. -/
def distanceAllWrong : ChangeSpec := { name := "distanceAll", fn := fun _ => fun
  | [d1, d2] => { results := [.lit (.bool false)], args := [d1, d2] }
  | _ => none }
def DistanceAllWrongFalsely : Prop := distanceAllRow.holds Try.pinned (OpenSpec.ofChange distanceAllWrong)

/-- 'trustflowlaw12.DistanceWays': WHATEVER THE INPUT: true; the input reads as it did. -/
def distanceWaysSpec : ChangeSpec := { name := "distanceWays", fn := fun _ => fun
  | [d] => { results := [.lit (.bool true)], args := [d] }
  | _ => none }
def distanceWaysRow : OpenClaim := { program := "ytnphfkceoklkkaa", sum := "28fc1f280be0e8c92d3f5b7956c86ffb98f9539e152d2f6147a4a06d8f9eae54", func := "trustflow/trustflowlaw12.DistanceWays", spec := "distanceWays", unfollowed := true, recurses := true, apart := false }
def DistanceWaysSaid : Prop := distanceWaysRow.holds Try.pinned (OpenSpec.ofChange distanceWaysSpec)

/-- ITS FALSE NEIGHBOUR: 'it returns false'. Refute it at one input. -/
def distanceWaysWrong : ChangeSpec := { name := "distanceWays", fn := fun _ => fun
  | [d] => { results := [.lit (.bool false)], args := [d] }
  | _ => none }
def DistanceWaysWrongFalsely : Prop := distanceWaysRow.holds Try.pinned (OpenSpec.ofChange distanceWaysWrong)

/-- 'trustflowlaw12.DistanceMore': WHATEVER THE INPUT: true; the input reads as it did. -/
def distanceMoreSpec : ChangeSpec := { name := "distanceMore", fn := fun _ => fun
  | [d] => { results := [.lit (.bool true)], args := [d] }
  | _ => none }
def distanceMoreRow : OpenClaim := { program := "ytnphfkceoklkkaa", sum := "28fc1f280be0e8c92d3f5b7956c86ffb98f9539e152d2f6147a4a06d8f9eae54", func := "trustflow/trustflowlaw12.DistanceMore", spec := "distanceMore", unfollowed := true, recurses := true, apart := false }
def DistanceMoreSaid : Prop := distanceMoreRow.holds Try.pinned (OpenSpec.ofChange distanceMoreSpec)

/-- ITS FALSE NEIGHBOUR: 'it returns false'. Refute it at one input. -/
def distanceMoreWrong : ChangeSpec := { name := "distanceMore", fn := fun _ => fun
  | [d] => { results := [.lit (.bool false)], args := [d] }
  | _ => none }
def DistanceMoreWrongFalsely : Prop := distanceMoreRow.holds Try.pinned (OpenSpec.ofChange distanceMoreWrong)

/-- 'trustflowlaw12.DistanceOrder': WHATEVER THE INPUT: true; the input reads as it did. -/
def distanceOrderSpec : ChangeSpec := { name := "distanceOrder", fn := fun _ => fun
  | [d] => { results := [.lit (.bool true)], args := [d] }
  | _ => none }
def distanceOrderRow : OpenClaim := { program := "ytnphfkceoklkkaa", sum := "28fc1f280be0e8c92d3f5b7956c86ffb98f9539e152d2f6147a4a06d8f9eae54", func := "trustflow/trustflowlaw12.DistanceOrder", spec := "distanceOrder", unfollowed := true, recurses := true, apart := false }
def DistanceOrderSaid : Prop := distanceOrderRow.holds Try.pinned (OpenSpec.ofChange distanceOrderSpec)

/-- ITS FALSE NEIGHBOUR: 'it returns false'. Refute it at one input. -/
def distanceOrderWrong : ChangeSpec := { name := "distanceOrder", fn := fun _ => fun
  | [d] => { results := [.lit (.bool false)], args := [d] }
  | _ => none }
def DistanceOrderWrongFalsely : Prop := distanceOrderRow.holds Try.pinned (OpenSpec.ofChange distanceOrderWrong)

/- THE SECOND FORM. 'bulk': how many values and letters a reading holds, each counted each time it is reached (what is shared counts as often as it is met; a slice's spare places count too). A statement '..UptoSaid' is the law's where the arguments, and the package variables that the reading takes, are together of bulk at most 1048576: NARROWER than '..Said'. Prove '..Said' where nothing that the law and all that it calls make is longer than what came in: it says more and counts as full. Else prove '..UptoSaid'. A law counts once. -/
mutual
def uptoBulk {H : Type} : DataW H → Nat
  | .lit (.string bytes) => bytes.length + 1
  | .lit _ => 1
  | .nil => 1
  | .ptr d => uptoBulk d + 1
  | .slice elems spare => uptoBulkAll elems + uptoBulkAll spare + 1
  | .agg parts => uptoBulkAll parts + 1
  | .iface _ d => uptoBulk d + 1
  | .map entries => uptoBulkEntries entries + 1
  | .held _ => 1
def uptoBulkAll {H : Type} : List (DataW H) → Nat
  | [] => 0
  | d :: r => uptoBulk d + uptoBulkAll r
def uptoBulkEntries {H : Type} : List (Lit × DataW H) → Nat
  | [] => 0
  | x :: r => uptoBulkEntry x + uptoBulkEntries r
def uptoBulkEntry {H : Type} : Lit × DataW H → Nat
  | (.string bytes, d) => bytes.length + uptoBulk d + 1
  | (_, d) => uptoBulk d + 1
 end
def uptoSmall : (H : Type) → List (DataW H) → Bool := fun _ ds => decide (uptoBulkAll ds ≤ 1048576)
def OpenSpec.upto (s : _root_.Go.ChangeSpec) : _root_.Go.OpenSpec := { _root_.Go.OpenSpec.ofChange s with cond := some uptoSmall }

/-- 'trustflowlaw10.VouchMade', WHERE WHAT IT READS IS OF BULK AT MOST 1048576: true; the input reads as it did. -/
def vouchMadeUptoRow : OpenClaim := { program := "ytnphfkceoklkkaa", sum := "28fc1f280be0e8c92d3f5b7956c86ffb98f9539e152d2f6147a4a06d8f9eae54", func := "trustflow/trustflowlaw10.VouchMade", spec := "vouchMade", unfollowed := true, recurses := true, apart := false, narrowed := true }
def VouchMadeUptoSaid : Prop := vouchMadeUptoRow.holds Try.pinned (OpenSpec.upto vouchMadeSpec)

/-- 'trustflowlaw10.VouchFaces', WHERE WHAT IT READS IS OF BULK AT MOST 1048576: true; the input reads as it did. -/
def vouchFacesUptoRow : OpenClaim := { program := "ytnphfkceoklkkaa", sum := "28fc1f280be0e8c92d3f5b7956c86ffb98f9539e152d2f6147a4a06d8f9eae54", func := "trustflow/trustflowlaw10.VouchFaces", spec := "vouchFaces", unfollowed := true, recurses := true, apart := false, narrowed := true }
def VouchFacesUptoSaid : Prop := vouchFacesUptoRow.holds Try.pinned (OpenSpec.upto vouchFacesSpec)

/-- 'trustflowlaw10.VouchOnce', WHERE WHAT IT READS IS OF BULK AT MOST 1048576: true; the input reads as it did. -/
def vouchOnceUptoRow : OpenClaim := { program := "ytnphfkceoklkkaa", sum := "28fc1f280be0e8c92d3f5b7956c86ffb98f9539e152d2f6147a4a06d8f9eae54", func := "trustflow/trustflowlaw10.VouchOnce", spec := "vouchOnce", unfollowed := true, recurses := true, apart := false, narrowed := true }
def VouchOnceUptoSaid : Prop := vouchOnceUptoRow.holds Try.pinned (OpenSpec.upto vouchOnceSpec)

/-- 'trustflowlaw10.VouchLast', WHERE WHAT IT READS IS OF BULK AT MOST 1048576: true; the input reads as it did. -/
def vouchLastUptoRow : OpenClaim := { program := "ytnphfkceoklkkaa", sum := "28fc1f280be0e8c92d3f5b7956c86ffb98f9539e152d2f6147a4a06d8f9eae54", func := "trustflow/trustflowlaw10.VouchLast", spec := "vouchLast", unfollowed := true, recurses := true, apart := false, narrowed := true }
def VouchLastUptoSaid : Prop := vouchLastUptoRow.holds Try.pinned (OpenSpec.upto vouchLastSpec)

/-- 'trustflowlaw11.GraphUndone', WHERE WHAT IT READS IS OF BULK AT MOST 1048576: true; the input reads as it did. -/
def graphUndoneUptoRow : OpenClaim := { program := "ytnphfkceoklkkaa", sum := "28fc1f280be0e8c92d3f5b7956c86ffb98f9539e152d2f6147a4a06d8f9eae54", func := "trustflow/trustflowlaw11.GraphUndone", spec := "graphUndone", inPlace := ["slices.overlaps[trustflow/api.Edge]"], unfollowed := true, recurses := true, apart := false, narrowed := true }
def GraphUndoneUptoSaid : Prop := graphUndoneUptoRow.holds Try.pinned (OpenSpec.upto graphUndoneSpec)

/-- 'trustflowlaw11.GraphRaw', WHERE WHAT IT READS IS OF BULK AT MOST 1048576: true; the input reads as it did. -/
def graphRawUptoRow : OpenClaim := { program := "ytnphfkceoklkkaa", sum := "28fc1f280be0e8c92d3f5b7956c86ffb98f9539e152d2f6147a4a06d8f9eae54", func := "trustflow/trustflowlaw11.GraphRaw", spec := "graphRaw", inPlace := ["slices.overlaps[trustflow/api.Edge]"], unfollowed := true, recurses := true, apart := false, narrowed := true }
def GraphRawUptoSaid : Prop := graphRawUptoRow.holds Try.pinned (OpenSpec.upto graphRawSpec)

/-- 'trustflowlaw11.GraphMade', WHERE WHAT IT READS IS OF BULK AT MOST 1048576: true; the input reads as it did. -/
def graphMadeUptoRow : OpenClaim := { program := "ytnphfkceoklkkaa", sum := "28fc1f280be0e8c92d3f5b7956c86ffb98f9539e152d2f6147a4a06d8f9eae54", func := "trustflow/trustflowlaw11.GraphMade", spec := "graphMade", inPlace := ["slices.overlaps[trustflow/api.Edge]"], unfollowed := true, recurses := true, apart := false, narrowed := true }
def GraphMadeUptoSaid : Prop := graphMadeUptoRow.holds Try.pinned (OpenSpec.upto graphMadeSpec)

/-- 'trustflowlaw12.DistanceAll', WHERE WHAT IT READS IS OF BULK AT MOST 1048576: true; the input reads as it did. -/
def distanceAllUptoRow : OpenClaim := { program := "ytnphfkceoklkkaa", sum := "28fc1f280be0e8c92d3f5b7956c86ffb98f9539e152d2f6147a4a06d8f9eae54", func := "trustflow/trustflowlaw12.DistanceAll", spec := "distanceAll", unfollowed := true, recurses := true, apart := false, narrowed := true }
def DistanceAllUptoSaid : Prop := distanceAllUptoRow.holds Try.pinned (OpenSpec.upto distanceAllSpec)

/-- 'trustflowlaw12.DistanceWays', WHERE WHAT IT READS IS OF BULK AT MOST 1048576: true; the input reads as it did. -/
def distanceWaysUptoRow : OpenClaim := { program := "ytnphfkceoklkkaa", sum := "28fc1f280be0e8c92d3f5b7956c86ffb98f9539e152d2f6147a4a06d8f9eae54", func := "trustflow/trustflowlaw12.DistanceWays", spec := "distanceWays", unfollowed := true, recurses := true, apart := false, narrowed := true }
def DistanceWaysUptoSaid : Prop := distanceWaysUptoRow.holds Try.pinned (OpenSpec.upto distanceWaysSpec)

/-- 'trustflowlaw12.DistanceMore', WHERE WHAT IT READS IS OF BULK AT MOST 1048576: true; the input reads as it did. -/
def distanceMoreUptoRow : OpenClaim := { program := "ytnphfkceoklkkaa", sum := "28fc1f280be0e8c92d3f5b7956c86ffb98f9539e152d2f6147a4a06d8f9eae54", func := "trustflow/trustflowlaw12.DistanceMore", spec := "distanceMore", unfollowed := true, recurses := true, apart := false, narrowed := true }
def DistanceMoreUptoSaid : Prop := distanceMoreUptoRow.holds Try.pinned (OpenSpec.upto distanceMoreSpec)

/-- 'trustflowlaw12.DistanceOrder', WHERE WHAT IT READS IS OF BULK AT MOST 1048576: true; the input reads as it did. -/
def distanceOrderUptoRow : OpenClaim := { program := "ytnphfkceoklkkaa", sum := "28fc1f280be0e8c92d3f5b7956c86ffb98f9539e152d2f6147a4a06d8f9eae54", func := "trustflow/trustflowlaw12.DistanceOrder", spec := "distanceOrder", unfollowed := true, recurses := true, apart := false, narrowed := true }
def DistanceOrderUptoSaid : Prop := distanceOrderUptoRow.holds Try.pinned (OpenSpec.upto distanceOrderSpec)

end Rows
end Go.Proofs.Ytnphfkceoklkkaa
