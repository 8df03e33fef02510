/-
  No cell of these rows narrows 'for every input' (looked for: loops, veiled, ifaces, maps, wideKeys, modest, calm, conditions, laid).
  DERIVED. THE GIVEN ROWS OF THIS SEAT. 16 by the template 'for every input the law returns true; each argument reads behind the call as it read before'; 0 by the template 'total and deterministic' (their statements: YteiabadhhhckfaaGreatTotals.lean).
  GIVEN WITH THE SEED: the statements are not yours to turn. If you find one false, say at which input.
  Laid BY PROGRAM, IN A SANDBOX (cutbox-rows.mjs): the forced cells as the released guide's own fill.sh prints them over the translation 9345f00a3a2e75f4… (all of the seat's roots in one cut). By AI agents, Wed Nov 11 2026. No macro, syntax, notation, axiom, sorry.
-/
import Derived.Test.YteiabadhhhckfaaGreatChecked
import GoSem.Claim
import GoSem.ClaimJoined
import GoSem.ClaimMapViews
import Derived.JoinedTies
import Derived.KernelRfl
namespace Go.Proofs.YteiabadhhhckfaaGreat
/- THE CELL 'sum', in the pinned program and in every row, IS THE sha256 OF THE DUMP (.gsa) THAT YteiabadhhhckfaaGreatProg.lean LOADS. Nothing in Lean hashes anything: it is a label: what it is worth is what the hold of that sum in a sandbox is worth. -/
noncomputable def Tryz.pinned : Pinned := { name := "yteiabadhhhckfaagreat", sum := "9345f00a3a2e75f46957c69281207ffa39350bfe421db97cc31dc57c876f2ce3", checked := Tryz.checked }
namespace Rows
def none {H : Type} : Left H := { results := [], args := [] }

/-- 'trustflowlaw17.AcceptRuns': WHATEVER THE INPUT: true; the input reads as it did. -/
def acceptRunsSpec : ChangeSpec := { name := "acceptRuns", fn := fun _ => fun
  | [d1, d2] => { results := [.lit (.bool true)], args := [d1, d2] }
  | _ => none }
def acceptRunsRow : OpenClaim := { program := "yteiabadhhhckfaagreat", sum := "9345f00a3a2e75f46957c69281207ffa39350bfe421db97cc31dc57c876f2ce3", func := "trustflow/trustflowlaw17.AcceptRuns", spec := "acceptRuns", unfollowed := true, recurses := true, apart := false }
def AcceptRunsSaid : Prop := acceptRunsRow.holds Tryz.pinned (OpenSpec.ofChange acceptRunsSpec)

/-- ITS FALSE NEIGHBOUR: 'it returns false'. Refute it at one input. -/
def acceptRunsWrong : ChangeSpec := { name := "acceptRuns", fn := fun _ => fun
  | [d1, d2] => { results := [.lit (.bool false)], args := [d1, d2] }
  | _ => none }
def AcceptRunsWrongFalsely : Prop := acceptRunsRow.holds Tryz.pinned (OpenSpec.ofChange acceptRunsWrong)

/-- 'trustflowlaw17.AcceptErrors': WHATEVER THE INPUT: true; the input reads as it did. -/
def acceptErrorsSpec : ChangeSpec := { name := "acceptErrors", fn := fun _ => fun
  | [d1, d2, d3] => { results := [.lit (.bool true)], args := [d1, d2, d3] }
  | _ => none }
def acceptErrorsRow : OpenClaim := { program := "yteiabadhhhckfaagreat", sum := "9345f00a3a2e75f46957c69281207ffa39350bfe421db97cc31dc57c876f2ce3", func := "trustflow/trustflowlaw17.AcceptErrors", spec := "acceptErrors", unfollowed := true, recurses := true, apart := false }
def AcceptErrorsSaid : Prop := acceptErrorsRow.holds Tryz.pinned (OpenSpec.ofChange acceptErrorsSpec)

/-- ITS FALSE NEIGHBOUR: 'it returns false'. Refute it at one input. -/
def acceptErrorsWrong : ChangeSpec := { name := "acceptErrors", fn := fun _ => fun
  | [d1, d2, d3] => { results := [.lit (.bool false)], args := [d1, d2, d3] }
  | _ => none }
def AcceptErrorsWrongFalsely : Prop := acceptErrorsRow.holds Tryz.pinned (OpenSpec.ofChange acceptErrorsWrong)

/-- 'trustflowlaw17.AcceptChecks': WHATEVER THE INPUT: true; the input reads as it did. -/
def acceptChecksSpec : ChangeSpec := { name := "acceptChecks", fn := fun _ => fun
  | [d1, d2, d3] => { results := [.lit (.bool true)], args := [d1, d2, d3] }
  | _ => none }
def acceptChecksRow : OpenClaim := { program := "yteiabadhhhckfaagreat", sum := "9345f00a3a2e75f46957c69281207ffa39350bfe421db97cc31dc57c876f2ce3", func := "trustflow/trustflowlaw17.AcceptChecks", spec := "acceptChecks", unfollowed := true, recurses := true, apart := false }
def AcceptChecksSaid : Prop := acceptChecksRow.holds Tryz.pinned (OpenSpec.ofChange acceptChecksSpec)

/-- ITS FALSE NEIGHBOUR: 'it returns false'. Refute it at one input. -/
def acceptChecksWrong : ChangeSpec := { name := "acceptChecks", fn := fun _ => fun
  | [d1, d2, d3] => { results := [.lit (.bool false)], args := [d1, d2, d3] }
  | _ => none }
def AcceptChecksWrongFalsely : Prop := acceptChecksRow.holds Tryz.pinned (OpenSpec.ofChange acceptChecksWrong)

/-- 'trustflowlaw17.AcceptBound': WHATEVER THE INPUT: true; the input reads as it did. -/
def acceptBoundSpec : ChangeSpec := { name := "acceptBound", fn := fun _ => fun
  | [d] => { results := [.lit (.bool true)], args := [d] }
  | _ => none }
def acceptBoundRow : OpenClaim := { program := "yteiabadhhhckfaagreat", sum := "9345f00a3a2e75f46957c69281207ffa39350bfe421db97cc31dc57c876f2ce3", func := "trustflow/trustflowlaw17.AcceptBound", spec := "acceptBound", unfollowed := true, recurses := true, apart := false }
def AcceptBoundSaid : Prop := acceptBoundRow.holds Tryz.pinned (OpenSpec.ofChange acceptBoundSpec)

/-- ITS FALSE NEIGHBOUR: 'it returns false'. Refute it at one input. -/
def acceptBoundWrong : ChangeSpec := { name := "acceptBound", fn := fun _ => fun
  | [d] => { results := [.lit (.bool false)], args := [d] }
  | _ => none }
def AcceptBoundWrongFalsely : Prop := acceptBoundRow.holds Tryz.pinned (OpenSpec.ofChange acceptBoundWrong)

/-- 'trustflowlaw17.AcceptMost': WHATEVER THE INPUT: true; the input reads as it did. -/
def acceptMostSpec : ChangeSpec := { name := "acceptMost", fn := fun _ => fun
  | [d] => { results := [.lit (.bool true)], args := [d] }
  | _ => none }
def acceptMostRow : OpenClaim := { program := "yteiabadhhhckfaagreat", sum := "9345f00a3a2e75f46957c69281207ffa39350bfe421db97cc31dc57c876f2ce3", func := "trustflow/trustflowlaw17.AcceptMost", spec := "acceptMost", unfollowed := true, recurses := true, apart := false }
def AcceptMostSaid : Prop := acceptMostRow.holds Tryz.pinned (OpenSpec.ofChange acceptMostSpec)

/-- ITS FALSE NEIGHBOUR: 'it returns false'. Refute it at one input. -/
def acceptMostWrong : ChangeSpec := { name := "acceptMost", fn := fun _ => fun
  | [d] => { results := [.lit (.bool false)], args := [d] }
  | _ => none }
def AcceptMostWrongFalsely : Prop := acceptMostRow.holds Tryz.pinned (OpenSpec.ofChange acceptMostWrong)

/-- 'trustflowlaw17.AcceptShown': WHATEVER THE INPUT: true; the input reads as it did. -/
def acceptShownSpec : ChangeSpec := { name := "acceptShown", fn := fun _ => fun
  | [d] => { results := [.lit (.bool true)], args := [d] }
  | _ => none }
def acceptShownRow : OpenClaim := { program := "yteiabadhhhckfaagreat", sum := "9345f00a3a2e75f46957c69281207ffa39350bfe421db97cc31dc57c876f2ce3", func := "trustflow/trustflowlaw17.AcceptShown", spec := "acceptShown", unfollowed := true, recurses := true, apart := false }
def AcceptShownSaid : Prop := acceptShownRow.holds Tryz.pinned (OpenSpec.ofChange acceptShownSpec)

/-- ITS FALSE NEIGHBOUR: 'it returns false'. Refute it at one input. -/
def acceptShownWrong : ChangeSpec := { name := "acceptShown", fn := fun _ => fun
  | [d] => { results := [.lit (.bool false)], args := [d] }
  | _ => none }
def AcceptShownWrongFalsely : Prop := acceptShownRow.holds Tryz.pinned (OpenSpec.ofChange acceptShownWrong)

/-- 'trustflowlaw17.AcceptMatroid': WHATEVER THE INPUT: true; the input reads as it did. -/
def acceptMatroidSpec : ChangeSpec := { name := "acceptMatroid", fn := fun _ => fun
  | [d] => { results := [.lit (.bool true)], args := [d] }
  | _ => none }
def acceptMatroidRow : OpenClaim := { program := "yteiabadhhhckfaagreat", sum := "9345f00a3a2e75f46957c69281207ffa39350bfe421db97cc31dc57c876f2ce3", func := "trustflow/trustflowlaw17.AcceptMatroid", spec := "acceptMatroid", unfollowed := true, recurses := true, apart := false }
def AcceptMatroidSaid : Prop := acceptMatroidRow.holds Tryz.pinned (OpenSpec.ofChange acceptMatroidSpec)

/-- ITS FALSE NEIGHBOUR: 'it returns false'. Refute it at one input. -/
def acceptMatroidWrong : ChangeSpec := { name := "acceptMatroid", fn := fun _ => fun
  | [d] => { results := [.lit (.bool false)], args := [d] }
  | _ => none }
def AcceptMatroidWrongFalsely : Prop := acceptMatroidRow.holds Tryz.pinned (OpenSpec.ofChange acceptMatroidWrong)

/-- 'trustflowlaw17.AcceptSeeds': WHATEVER THE INPUT: true; the input reads as it did. -/
def acceptSeedsSpec : ChangeSpec := { name := "acceptSeeds", fn := fun _ => fun
  | [d] => { results := [.lit (.bool true)], args := [d] }
  | _ => none }
def acceptSeedsRow : OpenClaim := { program := "yteiabadhhhckfaagreat", sum := "9345f00a3a2e75f46957c69281207ffa39350bfe421db97cc31dc57c876f2ce3", func := "trustflow/trustflowlaw17.AcceptSeeds", spec := "acceptSeeds", unfollowed := true, recurses := true, apart := false }
def AcceptSeedsSaid : Prop := acceptSeedsRow.holds Tryz.pinned (OpenSpec.ofChange acceptSeedsSpec)

/-- ITS FALSE NEIGHBOUR: 'it returns false'. Refute it at one input. -/
def acceptSeedsWrong : ChangeSpec := { name := "acceptSeeds", fn := fun _ => fun
  | [d] => { results := [.lit (.bool false)], args := [d] }
  | _ => none }
def AcceptSeedsWrongFalsely : Prop := acceptSeedsRow.holds Tryz.pinned (OpenSpec.ofChange acceptSeedsWrong)

/-- 'trustflowlaw17.AcceptRing': WHATEVER THE INPUT: true; the input reads as it did. -/
def acceptRingSpec : ChangeSpec := { name := "acceptRing", fn := fun _ => fun
  | [d] => { results := [.lit (.bool true)], args := [d] }
  | _ => none }
def acceptRingRow : OpenClaim := { program := "yteiabadhhhckfaagreat", sum := "9345f00a3a2e75f46957c69281207ffa39350bfe421db97cc31dc57c876f2ce3", func := "trustflow/trustflowlaw17.AcceptRing", spec := "acceptRing", unfollowed := true, recurses := true, apart := false }
def AcceptRingSaid : Prop := acceptRingRow.holds Tryz.pinned (OpenSpec.ofChange acceptRingSpec)

/-- ITS FALSE NEIGHBOUR: 'it returns false'. Refute it at one input. -/
def acceptRingWrong : ChangeSpec := { name := "acceptRing", fn := fun _ => fun
  | [d] => { results := [.lit (.bool false)], args := [d] }
  | _ => none }
def AcceptRingWrongFalsely : Prop := acceptRingRow.holds Tryz.pinned (OpenSpec.ofChange acceptRingWrong)

/-- 'trustflowlaw17.AcceptLast': WHATEVER THE INPUT: true; the input reads as it did. -/
def acceptLastSpec : ChangeSpec := { name := "acceptLast", fn := fun _ => fun
  | [d] => { results := [.lit (.bool true)], args := [d] }
  | _ => none }
def acceptLastRow : OpenClaim := { program := "yteiabadhhhckfaagreat", sum := "9345f00a3a2e75f46957c69281207ffa39350bfe421db97cc31dc57c876f2ce3", func := "trustflow/trustflowlaw17.AcceptLast", spec := "acceptLast", unfollowed := true, recurses := true, apart := false }
def AcceptLastSaid : Prop := acceptLastRow.holds Tryz.pinned (OpenSpec.ofChange acceptLastSpec)

/-- ITS FALSE NEIGHBOUR: 'it returns false'. Refute it at one input. -/
def acceptLastWrong : ChangeSpec := { name := "acceptLast", fn := fun _ => fun
  | [d] => { results := [.lit (.bool false)], args := [d] }
  | _ => none }
def AcceptLastWrongFalsely : Prop := acceptLastRow.holds Tryz.pinned (OpenSpec.ofChange acceptLastWrong)

/-- 'trustflowlaw43.ExplainKeys': WHATEVER THE INPUT: true; the input reads as it did. -/
def explainKeysSpec : ChangeSpec := { name := "explainKeys", fn := fun _ => fun
  | [d1, d2, d3] => { results := [.lit (.bool true)], args := [d1, d2, d3] }
  | _ => none }
def explainKeysRow : OpenClaim := { program := "yteiabadhhhckfaagreat", sum := "9345f00a3a2e75f46957c69281207ffa39350bfe421db97cc31dc57c876f2ce3", func := "trustflow/trustflowlaw43.ExplainKeys", spec := "explainKeys", unfollowed := true, recurses := true, apart := false }
def ExplainKeysSaid : Prop := explainKeysRow.holds Tryz.pinned (OpenSpec.ofChange explainKeysSpec)

/-- ITS FALSE NEIGHBOUR: 'it returns false'. Refute it at one input. -/
def explainKeysWrong : ChangeSpec := { name := "explainKeys", fn := fun _ => fun
  | [d1, d2, d3] => { results := [.lit (.bool false)], args := [d1, d2, d3] }
  | _ => none }
def ExplainKeysWrongFalsely : Prop := explainKeysRow.holds Tryz.pinned (OpenSpec.ofChange explainKeysWrong)

/-- 'trustflowlaw43.ExplainPaths': WHATEVER THE INPUT: true; the input reads as it did. -/
def explainPathsSpec : ChangeSpec := { name := "explainPaths", fn := fun _ => fun
  | [d1, d2] => { results := [.lit (.bool true)], args := [d1, d2] }
  | _ => none }
def explainPathsRow : OpenClaim := { program := "yteiabadhhhckfaagreat", sum := "9345f00a3a2e75f46957c69281207ffa39350bfe421db97cc31dc57c876f2ce3", func := "trustflow/trustflowlaw43.ExplainPaths", spec := "explainPaths", unfollowed := true, recurses := true, apart := false }
def ExplainPathsSaid : Prop := explainPathsRow.holds Tryz.pinned (OpenSpec.ofChange explainPathsSpec)

/-- ITS FALSE NEIGHBOUR: 'it returns false'. Refute it at one input. -/
def explainPathsWrong : ChangeSpec := { name := "explainPaths", fn := fun _ => fun
  | [d1, d2] => { results := [.lit (.bool false)], args := [d1, d2] }
  | _ => none }
def ExplainPathsWrongFalsely : Prop := explainPathsRow.holds Tryz.pinned (OpenSpec.ofChange explainPathsWrong)

/-- 'trustflowlaw43.ExplainMade': WHATEVER THE INPUT: true; the input reads as it did. -/
def explainMadeSpec : ChangeSpec := { name := "explainMade", fn := fun _ => fun
  | [d1, d2, d3] => { results := [.lit (.bool true)], args := [d1, d2, d3] }
  | _ => none }
def explainMadeRow : OpenClaim := { program := "yteiabadhhhckfaagreat", sum := "9345f00a3a2e75f46957c69281207ffa39350bfe421db97cc31dc57c876f2ce3", func := "trustflow/trustflowlaw43.ExplainMade", spec := "explainMade", unfollowed := true, recurses := true, apart := false }
def ExplainMadeSaid : Prop := explainMadeRow.holds Tryz.pinned (OpenSpec.ofChange explainMadeSpec)

/-- ITS FALSE NEIGHBOUR: 'it returns false'. Refute it at one input. -/
def explainMadeWrong : ChangeSpec := { name := "explainMade", fn := fun _ => fun
  | [d1, d2, d3] => { results := [.lit (.bool false)], args := [d1, d2, d3] }
  | _ => none }
def ExplainMadeWrongFalsely : Prop := explainMadeRow.holds Tryz.pinned (OpenSpec.ofChange explainMadeWrong)

/-- 'trustflowlaw43.ExplainAll': WHATEVER THE INPUT: true; the input reads as it did. -/
def explainAllSpec : ChangeSpec := { name := "explainAll", fn := fun _ => fun
  | [d] => { results := [.lit (.bool true)], args := [d] }
  | _ => none }
def explainAllRow : OpenClaim := { program := "yteiabadhhhckfaagreat", sum := "9345f00a3a2e75f46957c69281207ffa39350bfe421db97cc31dc57c876f2ce3", func := "trustflow/trustflowlaw43.ExplainAll", spec := "explainAll", unfollowed := true, recurses := true, apart := false }
def ExplainAllSaid : Prop := explainAllRow.holds Tryz.pinned (OpenSpec.ofChange explainAllSpec)

/-- ITS FALSE NEIGHBOUR: 'it returns false'. Refute it at one input. -/
def explainAllWrong : ChangeSpec := { name := "explainAll", fn := fun _ => fun
  | [d] => { results := [.lit (.bool false)], args := [d] }
  | _ => none }
def ExplainAllWrongFalsely : Prop := explainAllRow.holds Tryz.pinned (OpenSpec.ofChange explainAllWrong)

/-- 'trustflowlaw43.ExplainCuts': WHATEVER THE INPUT: true; the input reads as it did. -/
def explainCutsSpec : ChangeSpec := { name := "explainCuts", fn := fun _ => fun
  | [d] => { results := [.lit (.bool true)], args := [d] }
  | _ => none }
def explainCutsRow : OpenClaim := { program := "yteiabadhhhckfaagreat", sum := "9345f00a3a2e75f46957c69281207ffa39350bfe421db97cc31dc57c876f2ce3", func := "trustflow/trustflowlaw43.ExplainCuts", spec := "explainCuts", unfollowed := true, recurses := true, apart := false }
def ExplainCutsSaid : Prop := explainCutsRow.holds Tryz.pinned (OpenSpec.ofChange explainCutsSpec)

/-- ITS FALSE NEIGHBOUR: 'it returns false'. Refute it at one input. -/
def explainCutsWrong : ChangeSpec := { name := "explainCuts", fn := fun _ => fun
  | [d] => { results := [.lit (.bool false)], args := [d] }
  | _ => none }
def ExplainCutsWrongFalsely : Prop := explainCutsRow.holds Tryz.pinned (OpenSpec.ofChange explainCutsWrong)

/-- 'trustflowlaw43.ExplainOne': WHATEVER THE INPUT: true; the input reads as it did. -/
def explainOneSpec : ChangeSpec := { name := "explainOne", fn := fun _ => fun
  | [d] => { results := [.lit (.bool true)], args := [d] }
  | _ => none }
def explainOneRow : OpenClaim := { program := "yteiabadhhhckfaagreat", sum := "9345f00a3a2e75f46957c69281207ffa39350bfe421db97cc31dc57c876f2ce3", func := "trustflow/trustflowlaw43.ExplainOne", spec := "explainOne", unfollowed := true, recurses := true, apart := false }
def ExplainOneSaid : Prop := explainOneRow.holds Tryz.pinned (OpenSpec.ofChange explainOneSpec)

/-- ITS FALSE NEIGHBOUR: 'it returns false'. Refute it at one input. -/
def explainOneWrong : ChangeSpec := { name := "explainOne", fn := fun _ => fun
  | [d] => { results := [.lit (.bool false)], args := [d] }
  | _ => none }
def ExplainOneWrongFalsely : Prop := explainOneRow.holds Tryz.pinned (OpenSpec.ofChange explainOneWrong)

/- THE SECOND FORM. 'bulk': how many values and letters a reading holds, each counted each time it is reached (what is shared counts as often as it is met; a slice's spare places count too). A statement '..UptoSaid' is the law's where the arguments, and the package variables that the reading takes, are together of bulk at most 1048576: NARROWER than '..Said'. Prove '..Said' where nothing that the law and all that it calls make is longer than what came in: it says more and counts as full. Else prove '..UptoSaid'. A law counts once. -/
mutual
def uptoBulk {H : Type} : DataW H → Nat
  | .lit (.string bytes) => bytes.length + 1
  | .lit _ => 1
  | .nil => 1
  | .ptr d => uptoBulk d + 1
  | .slice elems spare => uptoBulkAll elems + uptoBulkAll spare + 1
  | .agg parts => uptoBulkAll parts + 1
  | .iface _ d => uptoBulk d + 1
  | .map entries => uptoBulkEntries entries + 1
  | .held _ => 1
def uptoBulkAll {H : Type} : List (DataW H) → Nat
  | [] => 0
  | d :: r => uptoBulk d + uptoBulkAll r
def uptoBulkEntries {H : Type} : List (Lit × DataW H) → Nat
  | [] => 0
  | x :: r => uptoBulkEntry x + uptoBulkEntries r
def uptoBulkEntry {H : Type} : Lit × DataW H → Nat
  | (.string bytes, d) => bytes.length + uptoBulk d + 1
  | (_, d) => uptoBulk d + 1
 end
def uptoSmall : (H : Type) → List (DataW H) → Bool := fun _ ds => decide (uptoBulkAll ds ≤ 1048576)
def OpenSpec.upto (s : _root_.Go.ChangeSpec) : _root_.Go.OpenSpec := { _root_.Go.OpenSpec.ofChange s with cond := some uptoSmall }

/-- 'trustflowlaw17.AcceptRuns', WHERE WHAT IT READS IS OF BULK AT MOST 1048576: true; the input reads as it did. -/
def acceptRunsUptoRow : OpenClaim := { program := "yteiabadhhhckfaagreat", sum := "9345f00a3a2e75f46957c69281207ffa39350bfe421db97cc31dc57c876f2ce3", func := "trustflow/trustflowlaw17.AcceptRuns", spec := "acceptRuns", unfollowed := true, recurses := true, apart := false, narrowed := true }
def AcceptRunsUptoSaid : Prop := acceptRunsUptoRow.holds Tryz.pinned (OpenSpec.upto acceptRunsSpec)

/-- 'trustflowlaw17.AcceptErrors', WHERE WHAT IT READS IS OF BULK AT MOST 1048576: true; the input reads as it did. -/
def acceptErrorsUptoRow : OpenClaim := { program := "yteiabadhhhckfaagreat", sum := "9345f00a3a2e75f46957c69281207ffa39350bfe421db97cc31dc57c876f2ce3", func := "trustflow/trustflowlaw17.AcceptErrors", spec := "acceptErrors", unfollowed := true, recurses := true, apart := false, narrowed := true }
def AcceptErrorsUptoSaid : Prop := acceptErrorsUptoRow.holds Tryz.pinned (OpenSpec.upto acceptErrorsSpec)

/-- 'trustflowlaw17.AcceptChecks', WHERE WHAT IT READS IS OF BULK AT MOST 1048576: true; the input reads as it did. -/
def acceptChecksUptoRow : OpenClaim := { program := "yteiabadhhhckfaagreat", sum := "9345f00a3a2e75f46957c69281207ffa39350bfe421db97cc31dc57c876f2ce3", func := "trustflow/trustflowlaw17.AcceptChecks", spec := "acceptChecks", unfollowed := true, recurses := true, apart := false, narrowed := true }
def AcceptChecksUptoSaid : Prop := acceptChecksUptoRow.holds Tryz.pinned (OpenSpec.upto acceptChecksSpec)

/-- 'trustflowlaw17.AcceptBound', WHERE WHAT IT READS IS OF BULK AT MOST 1048576: true; the input reads as it did. -/
def acceptBoundUptoRow : OpenClaim := { program := "yteiabadhhhckfaagreat", sum := "9345f00a3a2e75f46957c69281207ffa39350bfe421db97cc31dc57c876f2ce3", func := "trustflow/trustflowlaw17.AcceptBound", spec := "acceptBound", unfollowed := true, recurses := true, apart := false, narrowed := true }
def AcceptBoundUptoSaid : Prop := acceptBoundUptoRow.holds Tryz.pinned (OpenSpec.upto acceptBoundSpec)

/-- 'trustflowlaw17.AcceptMost', WHERE WHAT IT READS IS OF BULK AT MOST 1048576: true; the input reads as it did. -/
def acceptMostUptoRow : OpenClaim := { program := "yteiabadhhhckfaagreat", sum := "9345f00a3a2e75f46957c69281207ffa39350bfe421db97cc31dc57c876f2ce3", func := "trustflow/trustflowlaw17.AcceptMost", spec := "acceptMost", unfollowed := true, recurses := true, apart := false, narrowed := true }
def AcceptMostUptoSaid : Prop := acceptMostUptoRow.holds Tryz.pinned (OpenSpec.upto acceptMostSpec)

/-- 'trustflowlaw17.AcceptShown', WHERE WHAT IT READS IS OF BULK AT MOST 1048576: true; the input reads as it did. -/
def acceptShownUptoRow : OpenClaim := { program := "yteiabadhhhckfaagreat", sum := "9345f00a3a2e75f46957c69281207ffa39350bfe421db97cc31dc57c876f2ce3", func := "trustflow/trustflowlaw17.AcceptShown", spec := "acceptShown", unfollowed := true, recurses := true, apart := false, narrowed := true }
def AcceptShownUptoSaid : Prop := acceptShownUptoRow.holds Tryz.pinned (OpenSpec.upto acceptShownSpec)

/-- 'trustflowlaw17.AcceptMatroid', WHERE WHAT IT READS IS OF BULK AT MOST 1048576: true; the input reads as it did. -/
def acceptMatroidUptoRow : OpenClaim := { program := "yteiabadhhhckfaagreat", sum := "9345f00a3a2e75f46957c69281207ffa39350bfe421db97cc31dc57c876f2ce3", func := "trustflow/trustflowlaw17.AcceptMatroid", spec := "acceptMatroid", unfollowed := true, recurses := true, apart := false, narrowed := true }
def AcceptMatroidUptoSaid : Prop := acceptMatroidUptoRow.holds Tryz.pinned (OpenSpec.upto acceptMatroidSpec)

/-- 'trustflowlaw17.AcceptSeeds', WHERE WHAT IT READS IS OF BULK AT MOST 1048576: true; the input reads as it did. -/
def acceptSeedsUptoRow : OpenClaim := { program := "yteiabadhhhckfaagreat", sum := "9345f00a3a2e75f46957c69281207ffa39350bfe421db97cc31dc57c876f2ce3", func := "trustflow/trustflowlaw17.AcceptSeeds", spec := "acceptSeeds", unfollowed := true, recurses := true, apart := false, narrowed := true }
def AcceptSeedsUptoSaid : Prop := acceptSeedsUptoRow.holds Tryz.pinned (OpenSpec.upto acceptSeedsSpec)

/-- 'trustflowlaw17.AcceptRing', WHERE WHAT IT READS IS OF BULK AT MOST 1048576: true; the input reads as it did. -/
def acceptRingUptoRow : OpenClaim := { program := "yteiabadhhhckfaagreat", sum := "9345f00a3a2e75f46957c69281207ffa39350bfe421db97cc31dc57c876f2ce3", func := "trustflow/trustflowlaw17.AcceptRing", spec := "acceptRing", unfollowed := true, recurses := true, apart := false, narrowed := true }
def AcceptRingUptoSaid : Prop := acceptRingUptoRow.holds Tryz.pinned (OpenSpec.upto acceptRingSpec)

/-- 'trustflowlaw17.AcceptLast', WHERE WHAT IT READS IS OF BULK AT MOST 1048576: true; the input reads as it did. -/
def acceptLastUptoRow : OpenClaim := { program := "yteiabadhhhckfaagreat", sum := "9345f00a3a2e75f46957c69281207ffa39350bfe421db97cc31dc57c876f2ce3", func := "trustflow/trustflowlaw17.AcceptLast", spec := "acceptLast", unfollowed := true, recurses := true, apart := false, narrowed := true }
def AcceptLastUptoSaid : Prop := acceptLastUptoRow.holds Tryz.pinned (OpenSpec.upto acceptLastSpec)

/-- 'trustflowlaw43.ExplainKeys', WHERE WHAT IT READS IS OF BULK AT MOST 1048576: true; the input reads as it did. -/
def explainKeysUptoRow : OpenClaim := { program := "yteiabadhhhckfaagreat", sum := "9345f00a3a2e75f46957c69281207ffa39350bfe421db97cc31dc57c876f2ce3", func := "trustflow/trustflowlaw43.ExplainKeys", spec := "explainKeys", unfollowed := true, recurses := true, apart := false, narrowed := true }
def ExplainKeysUptoSaid : Prop := explainKeysUptoRow.holds Tryz.pinned (OpenSpec.upto explainKeysSpec)

/-- 'trustflowlaw43.ExplainPaths', WHERE WHAT IT READS IS OF BULK AT MOST 1048576: true; the input reads as it did. -/
def explainPathsUptoRow : OpenClaim := { program := "yteiabadhhhckfaagreat", sum := "9345f00a3a2e75f46957c69281207ffa39350bfe421db97cc31dc57c876f2ce3", func := "trustflow/trustflowlaw43.ExplainPaths", spec := "explainPaths", unfollowed := true, recurses := true, apart := false, narrowed := true }
def ExplainPathsUptoSaid : Prop := explainPathsUptoRow.holds Tryz.pinned (OpenSpec.upto explainPathsSpec)

/-- 'trustflowlaw43.ExplainMade', WHERE WHAT IT READS IS OF BULK AT MOST 1048576: true; the input reads as it did. -/
def explainMadeUptoRow : OpenClaim := { program := "yteiabadhhhckfaagreat", sum := "9345f00a3a2e75f46957c69281207ffa39350bfe421db97cc31dc57c876f2ce3", func := "trustflow/trustflowlaw43.ExplainMade", spec := "explainMade", unfollowed := true, recurses := true, apart := false, narrowed := true }
def ExplainMadeUptoSaid : Prop := explainMadeUptoRow.holds Tryz.pinned (OpenSpec.upto explainMadeSpec)

/-- 'trustflowlaw43.ExplainAll', WHERE WHAT IT READS IS OF BULK AT MOST 1048576: true; the input reads as it did. -/
def explainAllUptoRow : OpenClaim := { program := "yteiabadhhhckfaagreat", sum := "9345f00a3a2e75f46957c69281207ffa39350bfe421db97cc31dc57c876f2ce3", func := "trustflow/trustflowlaw43.ExplainAll", spec := "explainAll", unfollowed := true, recurses := true, apart := false, narrowed := true }
def ExplainAllUptoSaid : Prop := explainAllUptoRow.holds Tryz.pinned (OpenSpec.upto explainAllSpec)

/-- 'trustflowlaw43.ExplainCuts', WHERE WHAT IT READS IS OF BULK AT MOST 1048576: true; the input reads as it did. -/
def explainCutsUptoRow : OpenClaim := { program := "yteiabadhhhckfaagreat", sum := "9345f00a3a2e75f46957c69281207ffa39350bfe421db97cc31dc57c876f2ce3", func := "trustflow/trustflowlaw43.ExplainCuts", spec := "explainCuts", unfollowed := true, recurses := true, apart := false, narrowed := true }
def ExplainCutsUptoSaid : Prop := explainCutsUptoRow.holds Tryz.pinned (OpenSpec.upto explainCutsSpec)

/-- 'trustflowlaw43.ExplainOne', WHERE WHAT IT READS IS OF BULK AT MOST 1048576: true; the input reads as it did. -/
def explainOneUptoRow : OpenClaim := { program := "yteiabadhhhckfaagreat", sum := "9345f00a3a2e75f46957c69281207ffa39350bfe421db97cc31dc57c876f2ce3", func := "trustflow/trustflowlaw43.ExplainOne", spec := "explainOne", unfollowed := true, recurses := true, apart := false, narrowed := true }
def ExplainOneUptoSaid : Prop := explainOneUptoRow.holds Tryz.pinned (OpenSpec.upto explainOneSpec)

end Rows
end Go.Proofs.YteiabadhhhckfaaGreat
