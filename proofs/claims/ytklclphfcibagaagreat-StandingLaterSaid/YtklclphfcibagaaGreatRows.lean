/-
  No cell of these rows narrows 'for every input' (looked for: loops, veiled, ifaces, maps, wideKeys, modest, calm, conditions, laid).
  DERIVED. THE GIVEN ROWS OF THIS SEAT. 5 by the template 'for every input the law returns true; each argument reads behind the call as it read before'; 0 by the template 'total and deterministic' (their statements: YtklclphfcibagaaGreatTotals.lean).
  GIVEN WITH THE SEED: the statements are not yours to turn. If you find one false, say at which input.
  Laid BY PROGRAM, IN A SANDBOX (cutbox-rows.mjs): the forced cells as the released guide's own fill.sh prints them over the translation 01f94a9fef1a1b6a… (all of the seat's roots in one cut). By AI agents, Wed Nov 11 2026. No macro, syntax, notation, axiom, sorry.
-/
import Derived.Test.YtklclphfcibagaaGreatChecked
import GoSem.Claim
import GoSem.ClaimJoined
import GoSem.ClaimMapViews
import Derived.JoinedTies
import Derived.KernelRfl
namespace Go.Proofs.YtklclphfcibagaaGreat
/- THE CELL 'sum', in the pinned program and in every row, IS THE sha256 OF THE DUMP (.gsa) THAT YtklclphfcibagaaGreatProg.lean LOADS. Nothing in Lean hashes anything: it is a label: what it is worth is what the hold of that sum in a sandbox is worth. -/
noncomputable def Tryz.pinned : Pinned := { name := "ytklclphfcibagaagreat", sum := "01f94a9fef1a1b6a3338f543e5ab3fd6e732beb3c6dd7d5ee487159d3f5cd114", checked := Tryz.checked }
namespace Rows
def none {H : Type} : Left H := { results := [], args := [] }

/-- 'trustflowlaw30.StandingSeeds': WHATEVER THE INPUT: true; the input reads as it did. -/
def standingSeedsSpec : ChangeSpec := { name := "standingSeeds", fn := fun _ => fun
  | [d1, d2] => { results := [.lit (.bool true)], args := [d1, d2] }
  | _ => none }
def standingSeedsRow : OpenClaim := { program := "ytklclphfcibagaagreat", sum := "01f94a9fef1a1b6a3338f543e5ab3fd6e732beb3c6dd7d5ee487159d3f5cd114", func := "trustflow/trustflowlaw30.StandingSeeds", spec := "standingSeeds", unfollowed := true, recurses := true, apart := false }
def StandingSeedsSaid : Prop := standingSeedsRow.holds Tryz.pinned (OpenSpec.ofChange standingSeedsSpec)

/-- ITS FALSE NEIGHBOUR: 'it returns false'. Refute it at one input. -/
def standingSeedsWrong : ChangeSpec := { name := "standingSeeds", fn := fun _ => fun
  | [d1, d2] => { results := [.lit (.bool false)], args := [d1, d2] }
  | _ => none }
def StandingSeedsWrongFalsely : Prop := standingSeedsRow.holds Tryz.pinned (OpenSpec.ofChange standingSeedsWrong)

/-- 'trustflowlaw30.StandingLater': WHATEVER THE INPUT: true; the input reads as it did. -/
def standingLaterSpec : ChangeSpec := { name := "standingLater", fn := fun _ => fun
  | [d1, d2] => { results := [.lit (.bool true)], args := [d1, d2] }
  | _ => none }
def standingLaterRow : OpenClaim := { program := "ytklclphfcibagaagreat", sum := "01f94a9fef1a1b6a3338f543e5ab3fd6e732beb3c6dd7d5ee487159d3f5cd114", func := "trustflow/trustflowlaw30.StandingLater", spec := "standingLater", unfollowed := true, recurses := true, apart := false }
def StandingLaterSaid : Prop := standingLaterRow.holds Tryz.pinned (OpenSpec.ofChange standingLaterSpec)

/-- ITS FALSE NEIGHBOUR: 'it returns false'. Refute it at one input. -/
def standingLaterWrong : ChangeSpec := { name := "standingLater", fn := fun _ => fun
  | [d1, d2] => { results := [.lit (.bool false)], args := [d1, d2] }
  | _ => none }
def StandingLaterWrongFalsely : Prop := standingLaterRow.holds Tryz.pinned (OpenSpec.ofChange standingLaterWrong)

/-- 'trustflowlaw30.StandingVouches': WHATEVER THE INPUT: true; the input reads as it did. -/
def standingVouchesSpec : ChangeSpec := { name := "standingVouches", fn := fun _ => fun
  | [d1, d2] => { results := [.lit (.bool true)], args := [d1, d2] }
  | _ => none }
def standingVouchesRow : OpenClaim := { program := "ytklclphfcibagaagreat", sum := "01f94a9fef1a1b6a3338f543e5ab3fd6e732beb3c6dd7d5ee487159d3f5cd114", func := "trustflow/trustflowlaw30.StandingVouches", spec := "standingVouches", unfollowed := true, recurses := true, apart := false }
def StandingVouchesSaid : Prop := standingVouchesRow.holds Tryz.pinned (OpenSpec.ofChange standingVouchesSpec)

/-- ITS FALSE NEIGHBOUR: 'it returns false'. Refute it at one input. -/
def standingVouchesWrong : ChangeSpec := { name := "standingVouches", fn := fun _ => fun
  | [d1, d2] => { results := [.lit (.bool false)], args := [d1, d2] }
  | _ => none }
def StandingVouchesWrongFalsely : Prop := standingVouchesRow.holds Tryz.pinned (OpenSpec.ofChange standingVouchesWrong)

/-- 'trustflowlaw30.StandingMade': WHATEVER THE INPUT: true; the input reads as it did. -/
def standingMadeSpec : ChangeSpec := { name := "standingMade", fn := fun _ => fun
  | [d1, d2] => { results := [.lit (.bool true)], args := [d1, d2] }
  | _ => none }
def standingMadeRow : OpenClaim := { program := "ytklclphfcibagaagreat", sum := "01f94a9fef1a1b6a3338f543e5ab3fd6e732beb3c6dd7d5ee487159d3f5cd114", func := "trustflow/trustflowlaw30.StandingMade", spec := "standingMade", unfollowed := true, recurses := true, apart := false }
def StandingMadeSaid : Prop := standingMadeRow.holds Tryz.pinned (OpenSpec.ofChange standingMadeSpec)

/-- ITS FALSE NEIGHBOUR: 'it returns false'. Refute it at one input. -/
def standingMadeWrong : ChangeSpec := { name := "standingMade", fn := fun _ => fun
  | [d1, d2] => { results := [.lit (.bool false)], args := [d1, d2] }
  | _ => none }
def StandingMadeWrongFalsely : Prop := standingMadeRow.holds Tryz.pinned (OpenSpec.ofChange standingMadeWrong)

/-- 'trustflowlaw30.StandingBound': WHATEVER THE INPUT: true; the input reads as it did. -/
def standingBoundSpec : ChangeSpec := { name := "standingBound", fn := fun _ => fun
  | [d1, d2] => { results := [.lit (.bool true)], args := [d1, d2] }
  | _ => none }
def standingBoundRow : OpenClaim := { program := "ytklclphfcibagaagreat", sum := "01f94a9fef1a1b6a3338f543e5ab3fd6e732beb3c6dd7d5ee487159d3f5cd114", func := "trustflow/trustflowlaw30.StandingBound", spec := "standingBound", unfollowed := true, recurses := true, apart := false }
def StandingBoundSaid : Prop := standingBoundRow.holds Tryz.pinned (OpenSpec.ofChange standingBoundSpec)

/-- ITS FALSE NEIGHBOUR: 'it returns false'. Refute it at one input. -/
def standingBoundWrong : ChangeSpec := { name := "standingBound", fn := fun _ => fun
  | [d1, d2] => { results := [.lit (.bool false)], args := [d1, d2] }
  | _ => none }
def StandingBoundWrongFalsely : Prop := standingBoundRow.holds Tryz.pinned (OpenSpec.ofChange standingBoundWrong)

/- THE SECOND FORM. 'bulk': how many values and letters a reading holds, each counted each time it is reached (what is shared counts as often as it is met; a slice's spare places count too). A statement '..UptoSaid' is the law's where the arguments, and the package variables that the reading takes, are together of bulk at most 1048576: NARROWER than '..Said'. Prove '..Said' where nothing that the law and all that it calls make is longer than what came in: it says more and counts as full. Else prove '..UptoSaid'. A law counts once. -/
mutual
def uptoBulk {H : Type} : DataW H → Nat
  | .lit (.string bytes) => bytes.length + 1
  | .lit _ => 1
  | .nil => 1
  | .ptr d => uptoBulk d + 1
  | .slice elems spare => uptoBulkAll elems + uptoBulkAll spare + 1
  | .agg parts => uptoBulkAll parts + 1
  | .iface _ d => uptoBulk d + 1
  | .map entries => uptoBulkEntries entries + 1
  | .held _ => 1
def uptoBulkAll {H : Type} : List (DataW H) → Nat
  | [] => 0
  | d :: r => uptoBulk d + uptoBulkAll r
def uptoBulkEntries {H : Type} : List (Lit × DataW H) → Nat
  | [] => 0
  | x :: r => uptoBulkEntry x + uptoBulkEntries r
def uptoBulkEntry {H : Type} : Lit × DataW H → Nat
  | (.string bytes, d) => bytes.length + uptoBulk d + 1
  | (_, d) => uptoBulk d + 1
 end
def uptoSmall : (H : Type) → List (DataW H) → Bool := fun _ ds => decide (uptoBulkAll ds ≤ 1048576)
def OpenSpec.upto (s : _root_.Go.ChangeSpec) : _root_.Go.OpenSpec := { _root_.Go.OpenSpec.ofChange s with cond := some uptoSmall }

/-- 'trustflowlaw30.StandingSeeds', WHERE WHAT IT READS IS OF BULK AT MOST 1048576: true; the input reads as it did. -/
def standingSeedsUptoRow : OpenClaim := { program := "ytklclphfcibagaagreat", sum := "01f94a9fef1a1b6a3338f543e5ab3fd6e732beb3c6dd7d5ee487159d3f5cd114", func := "trustflow/trustflowlaw30.StandingSeeds", spec := "standingSeeds", unfollowed := true, recurses := true, apart := false, narrowed := true }
def StandingSeedsUptoSaid : Prop := standingSeedsUptoRow.holds Tryz.pinned (OpenSpec.upto standingSeedsSpec)

/-- 'trustflowlaw30.StandingLater', WHERE WHAT IT READS IS OF BULK AT MOST 1048576: true; the input reads as it did. -/
def standingLaterUptoRow : OpenClaim := { program := "ytklclphfcibagaagreat", sum := "01f94a9fef1a1b6a3338f543e5ab3fd6e732beb3c6dd7d5ee487159d3f5cd114", func := "trustflow/trustflowlaw30.StandingLater", spec := "standingLater", unfollowed := true, recurses := true, apart := false, narrowed := true }
def StandingLaterUptoSaid : Prop := standingLaterUptoRow.holds Tryz.pinned (OpenSpec.upto standingLaterSpec)

/-- 'trustflowlaw30.StandingVouches', WHERE WHAT IT READS IS OF BULK AT MOST 1048576: true; the input reads as it did. -/
def standingVouchesUptoRow : OpenClaim := { program := "ytklclphfcibagaagreat", sum := "01f94a9fef1a1b6a3338f543e5ab3fd6e732beb3c6dd7d5ee487159d3f5cd114", func := "trustflow/trustflowlaw30.StandingVouches", spec := "standingVouches", unfollowed := true, recurses := true, apart := false, narrowed := true }
def StandingVouchesUptoSaid : Prop := standingVouchesUptoRow.holds Tryz.pinned (OpenSpec.upto standingVouchesSpec)

/-- 'trustflowlaw30.StandingMade', WHERE WHAT IT READS IS OF BULK AT MOST 1048576: true; the input reads as it did. -/
def standingMadeUptoRow : OpenClaim := { program := "ytklclphfcibagaagreat", sum := "01f94a9fef1a1b6a3338f543e5ab3fd6e732beb3c6dd7d5ee487159d3f5cd114", func := "trustflow/trustflowlaw30.StandingMade", spec := "standingMade", unfollowed := true, recurses := true, apart := false, narrowed := true }
def StandingMadeUptoSaid : Prop := standingMadeUptoRow.holds Tryz.pinned (OpenSpec.upto standingMadeSpec)

/-- 'trustflowlaw30.StandingBound', WHERE WHAT IT READS IS OF BULK AT MOST 1048576: true; the input reads as it did. -/
def standingBoundUptoRow : OpenClaim := { program := "ytklclphfcibagaagreat", sum := "01f94a9fef1a1b6a3338f543e5ab3fd6e732beb3c6dd7d5ee487159d3f5cd114", func := "trustflow/trustflowlaw30.StandingBound", spec := "standingBound", unfollowed := true, recurses := true, apart := false, narrowed := true }
def StandingBoundUptoSaid : Prop := standingBoundUptoRow.holds Tryz.pinned (OpenSpec.upto standingBoundSpec)

end Rows
end Go.Proofs.YtklclphfcibagaaGreat
