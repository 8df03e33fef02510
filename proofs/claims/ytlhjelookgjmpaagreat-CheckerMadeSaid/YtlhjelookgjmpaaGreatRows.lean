/-
  No cell of these rows narrows 'for every input' (looked for: loops, veiled, ifaces, maps, wideKeys, modest, calm, conditions, laid).
  DERIVED. THE GIVEN ROWS OF THIS SEAT. 6 by the template 'for every input the law returns true; each argument reads behind the call as it read before'; 0 by the template 'total and deterministic' (their statements: YtlhjelookgjmpaaGreatTotals.lean).
  GIVEN WITH THE SEED: the statements are not yours to turn. If you find one false, say at which input.
  Laid BY PROGRAM, IN A SANDBOX (cutbox-rows.mjs): the forced cells as the released guide's own fill.sh prints them over the translation 1069153043b97f0a… (all of the seat's roots in one cut). By AI agents, Wed Nov 11 2026. No macro, syntax, notation, axiom, sorry.
-/
import Derived.Test.YtlhjelookgjmpaaGreatChecked
import GoSem.Claim
import GoSem.ClaimJoined
import GoSem.ClaimMapViews
import Derived.JoinedTies
import Derived.KernelRfl
namespace Go.Proofs.YtlhjelookgjmpaaGreat
/- THE CELL 'sum', in the pinned program and in every row, IS THE sha256 OF THE DUMP (.gsa) THAT YtlhjelookgjmpaaGreatProg.lean LOADS. Nothing in Lean hashes anything: it is a label: what it is worth is what the hold of that sum in a sandbox is worth. -/
noncomputable def Tryz.pinned : Pinned := { name := "ytlhjelookgjmpaagreat", sum := "1069153043b97f0a2ed65d31911ac6c8cc52235d51230b21e4ce5c9da647528d", checked := Tryz.checked }
namespace Rows
def none {H : Type} : Left H := { results := [], args := [] }

/-- 'trustflowlaw44.CheckerTurned': WHATEVER THE INPUT: true; the input reads as it did. -/
def checkerTurnedSpec : ChangeSpec := { name := "checkerTurned", fn := fun _ => fun
  | [d1, d2, d3, d4] => { results := [.lit (.bool true)], args := [d1, d2, d3, d4] }
  | _ => none }
def checkerTurnedRow : OpenClaim := { program := "ytlhjelookgjmpaagreat", sum := "1069153043b97f0a2ed65d31911ac6c8cc52235d51230b21e4ce5c9da647528d", func := "trustflow/trustflowlaw44.CheckerTurned", spec := "checkerTurned", unfollowed := true, recurses := true, apart := false }
def CheckerTurnedSaid : Prop := checkerTurnedRow.holds Tryz.pinned (OpenSpec.ofChange checkerTurnedSpec)

/-- ITS FALSE NEIGHBOUR: 'it returns false'. Refute it at one input. -/
def checkerTurnedWrong : ChangeSpec := { name := "checkerTurned", fn := fun _ => fun
  | [d1, d2, d3, d4] => { results := [.lit (.bool false)], args := [d1, d2, d3, d4] }
  | _ => none }
def CheckerTurnedWrongFalsely : Prop := checkerTurnedRow.holds Tryz.pinned (OpenSpec.ofChange checkerTurnedWrong)

/-- 'trustflowlaw44.CheckerNeeds': WHATEVER THE INPUT: true; the input reads as it did. -/
def checkerNeedsSpec : ChangeSpec := { name := "checkerNeeds", fn := fun _ => fun
  | [d1, d2] => { results := [.lit (.bool true)], args := [d1, d2] }
  | _ => none }
def checkerNeedsRow : OpenClaim := { program := "ytlhjelookgjmpaagreat", sum := "1069153043b97f0a2ed65d31911ac6c8cc52235d51230b21e4ce5c9da647528d", func := "trustflow/trustflowlaw44.CheckerNeeds", spec := "checkerNeeds", unfollowed := true, recurses := true, apart := false }
def CheckerNeedsSaid : Prop := checkerNeedsRow.holds Tryz.pinned (OpenSpec.ofChange checkerNeedsSpec)

/-- ITS FALSE NEIGHBOUR: 'it returns false'. Refute it at one input. -/
def checkerNeedsWrong : ChangeSpec := { name := "checkerNeeds", fn := fun _ => fun
  | [d1, d2] => { results := [.lit (.bool false)], args := [d1, d2] }
  | _ => none }
def CheckerNeedsWrongFalsely : Prop := checkerNeedsRow.holds Tryz.pinned (OpenSpec.ofChange checkerNeedsWrong)

/-- 'trustflowlaw44.CheckerRaw': WHATEVER THE INPUT: true; the input reads as it did. -/
def checkerRawSpec : ChangeSpec := { name := "checkerRaw", fn := fun _ => fun
  | [d1, d2, d3] => { results := [.lit (.bool true)], args := [d1, d2, d3] }
  | _ => none }
def checkerRawRow : OpenClaim := { program := "ytlhjelookgjmpaagreat", sum := "1069153043b97f0a2ed65d31911ac6c8cc52235d51230b21e4ce5c9da647528d", func := "trustflow/trustflowlaw44.CheckerRaw", spec := "checkerRaw", unfollowed := true, recurses := true, apart := false }
def CheckerRawSaid : Prop := checkerRawRow.holds Tryz.pinned (OpenSpec.ofChange checkerRawSpec)

/-- ITS FALSE NEIGHBOUR: 'it returns false'. Refute it at one input. -/
def checkerRawWrong : ChangeSpec := { name := "checkerRaw", fn := fun _ => fun
  | [d1, d2, d3] => { results := [.lit (.bool false)], args := [d1, d2, d3] }
  | _ => none }
def CheckerRawWrongFalsely : Prop := checkerRawRow.holds Tryz.pinned (OpenSpec.ofChange checkerRawWrong)

/-- 'trustflowlaw44.CheckerOne': WHATEVER THE INPUT: true; the input reads as it did. -/
def checkerOneSpec : ChangeSpec := { name := "checkerOne", fn := fun _ => fun
  | [d1, d2, d3] => { results := [.lit (.bool true)], args := [d1, d2, d3] }
  | _ => none }
def checkerOneRow : OpenClaim := { program := "ytlhjelookgjmpaagreat", sum := "1069153043b97f0a2ed65d31911ac6c8cc52235d51230b21e4ce5c9da647528d", func := "trustflow/trustflowlaw44.CheckerOne", spec := "checkerOne", unfollowed := true, recurses := true, apart := false }
def CheckerOneSaid : Prop := checkerOneRow.holds Tryz.pinned (OpenSpec.ofChange checkerOneSpec)

/-- ITS FALSE NEIGHBOUR: 'it returns false'. Refute it at one input. -/
def checkerOneWrong : ChangeSpec := { name := "checkerOne", fn := fun _ => fun
  | [d1, d2, d3] => { results := [.lit (.bool false)], args := [d1, d2, d3] }
  | _ => none }
def CheckerOneWrongFalsely : Prop := checkerOneRow.holds Tryz.pinned (OpenSpec.ofChange checkerOneWrong)

/-- 'trustflowlaw44.CheckerSound': WHATEVER THE INPUT: true; the input reads as it did. -/
def checkerSoundSpec : ChangeSpec := { name := "checkerSound", fn := fun _ => fun
  | [d] => { results := [.lit (.bool true)], args := [d] }
  | _ => none }
def checkerSoundRow : OpenClaim := { program := "ytlhjelookgjmpaagreat", sum := "1069153043b97f0a2ed65d31911ac6c8cc52235d51230b21e4ce5c9da647528d", func := "trustflow/trustflowlaw44.CheckerSound", spec := "checkerSound", unfollowed := true, recurses := true, apart := false }
def CheckerSoundSaid : Prop := checkerSoundRow.holds Tryz.pinned (OpenSpec.ofChange checkerSoundSpec)

/-- ITS FALSE NEIGHBOUR: 'it returns false'. Refute it at one input. -/
def checkerSoundWrong : ChangeSpec := { name := "checkerSound", fn := fun _ => fun
  | [d] => { results := [.lit (.bool false)], args := [d] }
  | _ => none }
def CheckerSoundWrongFalsely : Prop := checkerSoundRow.holds Tryz.pinned (OpenSpec.ofChange checkerSoundWrong)

/-- 'trustflowlaw44.CheckerMade': WHATEVER THE INPUT: true; the input reads as it did. -/
def checkerMadeSpec : ChangeSpec := { name := "checkerMade", fn := fun _ => fun
  | [d1, d2] => { results := [.lit (.bool true)], args := [d1, d2] }
  | _ => none }
def checkerMadeRow : OpenClaim := { program := "ytlhjelookgjmpaagreat", sum := "1069153043b97f0a2ed65d31911ac6c8cc52235d51230b21e4ce5c9da647528d", func := "trustflow/trustflowlaw44.CheckerMade", spec := "checkerMade", unfollowed := true, recurses := true, apart := false }
def CheckerMadeSaid : Prop := checkerMadeRow.holds Tryz.pinned (OpenSpec.ofChange checkerMadeSpec)

/-- ITS FALSE NEIGHBOUR: 'it returns false'. Refute it at one input. -/
def checkerMadeWrong : ChangeSpec := { name := "checkerMade", fn := fun _ => fun
  | [d1, d2] => { results := [.lit (.bool false)], args := [d1, d2] }
  | _ => none }
def CheckerMadeWrongFalsely : Prop := checkerMadeRow.holds Tryz.pinned (OpenSpec.ofChange checkerMadeWrong)

/- THE SECOND FORM. 'bulk': how many values and letters a reading holds, each counted each time it is reached (what is shared counts as often as it is met; a slice's spare places count too). A statement '..UptoSaid' is the law's where the arguments, and the package variables that the reading takes, are together of bulk at most 1048576: NARROWER than '..Said'. Prove '..Said' where nothing that the law and all that it calls make is longer than what came in: it says more and counts as full. Else prove '..UptoSaid'. A law counts once. -/
mutual
def uptoBulk {H : Type} : DataW H → Nat
  | .lit (.string bytes) => bytes.length + 1
  | .lit _ => 1
  | .nil => 1
  | .ptr d => uptoBulk d + 1
  | .slice elems spare => uptoBulkAll elems + uptoBulkAll spare + 1
  | .agg parts => uptoBulkAll parts + 1
  | .iface _ d => uptoBulk d + 1
  | .map entries => uptoBulkEntries entries + 1
  | .held _ => 1
def uptoBulkAll {H : Type} : List (DataW H) → Nat
  | [] => 0
  | d :: r => uptoBulk d + uptoBulkAll r
def uptoBulkEntries {H : Type} : List (Lit × DataW H) → Nat
  | [] => 0
  | x :: r => uptoBulkEntry x + uptoBulkEntries r
def uptoBulkEntry {H : Type} : Lit × DataW H → Nat
  | (.string bytes, d) => bytes.length + uptoBulk d + 1
  | (_, d) => uptoBulk d + 1
 end
def uptoSmall : (H : Type) → List (DataW H) → Bool := fun _ ds => decide (uptoBulkAll ds ≤ 1048576)
def OpenSpec.upto (s : _root_.Go.ChangeSpec) : _root_.Go.OpenSpec := { _root_.Go.OpenSpec.ofChange s with cond := some uptoSmall }

/-- 'trustflowlaw44.CheckerTurned', WHERE WHAT IT READS IS OF BULK AT MOST 1048576: true; the input reads as it did. -/
def checkerTurnedUptoRow : OpenClaim := { program := "ytlhjelookgjmpaagreat", sum := "1069153043b97f0a2ed65d31911ac6c8cc52235d51230b21e4ce5c9da647528d", func := "trustflow/trustflowlaw44.CheckerTurned", spec := "checkerTurned", unfollowed := true, recurses := true, apart := false, narrowed := true }
def CheckerTurnedUptoSaid : Prop := checkerTurnedUptoRow.holds Tryz.pinned (OpenSpec.upto checkerTurnedSpec)

/-- 'trustflowlaw44.CheckerNeeds', WHERE WHAT IT READS IS OF BULK AT MOST 1048576: true; the input reads as it did. -/
def checkerNeedsUptoRow : OpenClaim := { program := "ytlhjelookgjmpaagreat", sum := "1069153043b97f0a2ed65d31911ac6c8cc52235d51230b21e4ce5c9da647528d", func := "trustflow/trustflowlaw44.CheckerNeeds", spec := "checkerNeeds", unfollowed := true, recurses := true, apart := false, narrowed := true }
def CheckerNeedsUptoSaid : Prop := checkerNeedsUptoRow.holds Tryz.pinned (OpenSpec.upto checkerNeedsSpec)

/-- 'trustflowlaw44.CheckerRaw', WHERE WHAT IT READS IS OF BULK AT MOST 1048576: true; the input reads as it did. -/
def checkerRawUptoRow : OpenClaim := { program := "ytlhjelookgjmpaagreat", sum := "1069153043b97f0a2ed65d31911ac6c8cc52235d51230b21e4ce5c9da647528d", func := "trustflow/trustflowlaw44.CheckerRaw", spec := "checkerRaw", unfollowed := true, recurses := true, apart := false, narrowed := true }
def CheckerRawUptoSaid : Prop := checkerRawUptoRow.holds Tryz.pinned (OpenSpec.upto checkerRawSpec)

/-- 'trustflowlaw44.CheckerOne', WHERE WHAT IT READS IS OF BULK AT MOST 1048576: true; the input reads as it did. -/
def checkerOneUptoRow : OpenClaim := { program := "ytlhjelookgjmpaagreat", sum := "1069153043b97f0a2ed65d31911ac6c8cc52235d51230b21e4ce5c9da647528d", func := "trustflow/trustflowlaw44.CheckerOne", spec := "checkerOne", unfollowed := true, recurses := true, apart := false, narrowed := true }
def CheckerOneUptoSaid : Prop := checkerOneUptoRow.holds Tryz.pinned (OpenSpec.upto checkerOneSpec)

/-- 'trustflowlaw44.CheckerSound', WHERE WHAT IT READS IS OF BULK AT MOST 1048576: true; the input reads as it did. -/
def checkerSoundUptoRow : OpenClaim := { program := "ytlhjelookgjmpaagreat", sum := "1069153043b97f0a2ed65d31911ac6c8cc52235d51230b21e4ce5c9da647528d", func := "trustflow/trustflowlaw44.CheckerSound", spec := "checkerSound", unfollowed := true, recurses := true, apart := false, narrowed := true }
def CheckerSoundUptoSaid : Prop := checkerSoundUptoRow.holds Tryz.pinned (OpenSpec.upto checkerSoundSpec)

/-- 'trustflowlaw44.CheckerMade', WHERE WHAT IT READS IS OF BULK AT MOST 1048576: true; the input reads as it did. -/
def checkerMadeUptoRow : OpenClaim := { program := "ytlhjelookgjmpaagreat", sum := "1069153043b97f0a2ed65d31911ac6c8cc52235d51230b21e4ce5c9da647528d", func := "trustflow/trustflowlaw44.CheckerMade", spec := "checkerMade", unfollowed := true, recurses := true, apart := false, narrowed := true }
def CheckerMadeUptoSaid : Prop := checkerMadeUptoRow.holds Tryz.pinned (OpenSpec.upto checkerMadeSpec)

end Rows
end Go.Proofs.YtlhjelookgjmpaaGreat
