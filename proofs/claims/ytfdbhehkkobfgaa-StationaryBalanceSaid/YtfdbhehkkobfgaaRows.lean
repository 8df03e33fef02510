/-
  No cell of these rows narrows 'for every input' (looked for: loops, veiled, ifaces, maps, wideKeys, modest, calm, conditions, laid).
  DERIVED. THE GIVEN ROWS OF THIS SEAT. 3 by the template 'for every input the law returns true; each argument reads behind the call as it read before'; 0 by the template 'total and deterministic' (their statements: YtfdbhehkkobfgaaTotals.lean).
  GIVEN WITH THE SEED: the statements are not yours to turn. If you find one false, say at which input.
  Laid BY PROGRAM, IN A SANDBOX (cutbox-rows.mjs): the forced cells as the released guide's own fill.sh prints them over the translation d188de955fdddc0f… (all of the seat's roots in one cut). By AI agents, Wed Nov 11 2026. No macro, syntax, notation, axiom, sorry.
-/
import Derived.Test.YtfdbhehkkobfgaaChecked
import GoSem.Claim
import GoSem.ClaimJoined
import GoSem.ClaimMapViews
import Derived.JoinedTies
import Derived.KernelRfl
namespace Go.Proofs.Ytfdbhehkkobfgaa
/- THE CELL 'sum', in the pinned program and in every row, IS THE sha256 OF THE DUMP (.gsa) THAT YtfdbhehkkobfgaaProg.lean LOADS. Nothing in Lean hashes anything: it is a label: what it is worth is what the hold of that sum in a sandbox is worth. -/
noncomputable def Try.pinned : Pinned := { name := "ytfdbhehkkobfgaa", sum := "d188de955fdddc0f8ad0347234c0101e9c29898e61d54519d5078b7891a9548b", checked := Try.checked }
namespace Rows
def none {H : Type} : Left H := { results := [], args := [] }

/-- 'trustflowlaw21.StationaryBalance': WHATEVER THE INPUT: true; the input reads as it did. -/
def stationaryBalanceSpec : ChangeSpec := { name := "stationaryBalance", fn := fun _ => fun
  | [d] => { results := [.lit (.bool true)], args := [d] }
  | _ => none }
def stationaryBalanceRow : OpenClaim := { program := "ytfdbhehkkobfgaa", sum := "d188de955fdddc0f8ad0347234c0101e9c29898e61d54519d5078b7891a9548b", func := "trustflow/trustflowlaw21.StationaryBalance", spec := "stationaryBalance", unfollowed := true, recurses := true, named := ["math/bits.divideError", "math/bits.overflowError"], apart := false }
def StationaryBalanceSaid : Prop := stationaryBalanceRow.holds Try.pinned (OpenSpec.ofChange stationaryBalanceSpec)

/-- ITS FALSE NEIGHBOUR: 'it returns false'. Refute it at one input. -/
def stationaryBalanceWrong : ChangeSpec := { name := "stationaryBalance", fn := fun _ => fun
  | [d] => { results := [.lit (.bool false)], args := [d] }
  | _ => none }
def StationaryBalanceWrongFalsely : Prop := stationaryBalanceRow.holds Try.pinned (OpenSpec.ofChange stationaryBalanceWrong)

/-- 'trustflowlaw21.StationaryRing': WHATEVER THE INPUT: true; the input reads as it did. -/
def stationaryRingSpec : ChangeSpec := { name := "stationaryRing", fn := fun _ => fun
  | [d] => { results := [.lit (.bool true)], args := [d] }
  | _ => none }
def stationaryRingRow : OpenClaim := { program := "ytfdbhehkkobfgaa", sum := "d188de955fdddc0f8ad0347234c0101e9c29898e61d54519d5078b7891a9548b", func := "trustflow/trustflowlaw21.StationaryRing", spec := "stationaryRing", unfollowed := true, recurses := true, named := ["math/bits.divideError", "math/bits.overflowError"], apart := false }
def StationaryRingSaid : Prop := stationaryRingRow.holds Try.pinned (OpenSpec.ofChange stationaryRingSpec)

/-- ITS FALSE NEIGHBOUR: 'it returns false'. Refute it at one input. -/
def stationaryRingWrong : ChangeSpec := { name := "stationaryRing", fn := fun _ => fun
  | [d] => { results := [.lit (.bool false)], args := [d] }
  | _ => none }
def StationaryRingWrongFalsely : Prop := stationaryRingRow.holds Try.pinned (OpenSpec.ofChange stationaryRingWrong)

/-- 'trustflowlaw21.StationaryAlone': WHATEVER THE INPUT: true; the input reads as it did. -/
def stationaryAloneSpec : ChangeSpec := { name := "stationaryAlone", fn := fun _ => fun
  | [d] => { results := [.lit (.bool true)], args := [d] }
  | _ => none }
def stationaryAloneRow : OpenClaim := { program := "ytfdbhehkkobfgaa", sum := "d188de955fdddc0f8ad0347234c0101e9c29898e61d54519d5078b7891a9548b", func := "trustflow/trustflowlaw21.StationaryAlone", spec := "stationaryAlone", unfollowed := true, recurses := true, named := ["math/bits.divideError", "math/bits.overflowError"], apart := false }
def StationaryAloneSaid : Prop := stationaryAloneRow.holds Try.pinned (OpenSpec.ofChange stationaryAloneSpec)

/-- ITS FALSE NEIGHBOUR: 'it returns false'. Refute it at one input. -/
def stationaryAloneWrong : ChangeSpec := { name := "stationaryAlone", fn := fun _ => fun
  | [d] => { results := [.lit (.bool false)], args := [d] }
  | _ => none }
def StationaryAloneWrongFalsely : Prop := stationaryAloneRow.holds Try.pinned (OpenSpec.ofChange stationaryAloneWrong)

/- THE SECOND FORM. 'bulk': how many values and letters a reading holds, each counted each time it is reached (what is shared counts as often as it is met; a slice's spare places count too). A statement '..UptoSaid' is the law's where the arguments, and the package variables that the reading takes, are together of bulk at most 1048576: NARROWER than '..Said'. Prove '..Said' where nothing that the law and all that it calls make is longer than what came in: it says more and counts as full. Else prove '..UptoSaid'. A law counts once. -/
mutual
def uptoBulk {H : Type} : DataW H → Nat
  | .lit (.string bytes) => bytes.length + 1
  | .lit _ => 1
  | .nil => 1
  | .ptr d => uptoBulk d + 1
  | .slice elems spare => uptoBulkAll elems + uptoBulkAll spare + 1
  | .agg parts => uptoBulkAll parts + 1
  | .iface _ d => uptoBulk d + 1
  | .map entries => uptoBulkEntries entries + 1
  | .held _ => 1
def uptoBulkAll {H : Type} : List (DataW H) → Nat
  | [] => 0
  | d :: r => uptoBulk d + uptoBulkAll r
def uptoBulkEntries {H : Type} : List (Lit × DataW H) → Nat
  | [] => 0
  | x :: r => uptoBulkEntry x + uptoBulkEntries r
def uptoBulkEntry {H : Type} : Lit × DataW H → Nat
  | (.string bytes, d) => bytes.length + uptoBulk d + 1
  | (_, d) => uptoBulk d + 1
 end
def uptoSmall : (H : Type) → List (DataW H) → Bool := fun _ ds => decide (uptoBulkAll ds ≤ 1048576)
def OpenSpec.upto (s : _root_.Go.ChangeSpec) : _root_.Go.OpenSpec := { _root_.Go.OpenSpec.ofChange s with cond := some uptoSmall }

/-- 'trustflowlaw21.StationaryBalance', WHERE WHAT IT READS IS OF BULK AT MOST 1048576: true; the input reads as it did. -/
def stationaryBalanceUptoRow : OpenClaim := { program := "ytfdbhehkkobfgaa", sum := "d188de955fdddc0f8ad0347234c0101e9c29898e61d54519d5078b7891a9548b", func := "trustflow/trustflowlaw21.StationaryBalance", spec := "stationaryBalance", unfollowed := true, recurses := true, named := ["math/bits.divideError", "math/bits.overflowError"], apart := false, narrowed := true }
def StationaryBalanceUptoSaid : Prop := stationaryBalanceUptoRow.holds Try.pinned (OpenSpec.upto stationaryBalanceSpec)

/-- 'trustflowlaw21.StationaryRing', WHERE WHAT IT READS IS OF BULK AT MOST 1048576: true; the input reads as it did. -/
def stationaryRingUptoRow : OpenClaim := { program := "ytfdbhehkkobfgaa", sum := "d188de955fdddc0f8ad0347234c0101e9c29898e61d54519d5078b7891a9548b", func := "trustflow/trustflowlaw21.StationaryRing", spec := "stationaryRing", unfollowed := true, recurses := true, named := ["math/bits.divideError", "math/bits.overflowError"], apart := false, narrowed := true }
def StationaryRingUptoSaid : Prop := stationaryRingUptoRow.holds Try.pinned (OpenSpec.upto stationaryRingSpec)

/-- 'trustflowlaw21.StationaryAlone', WHERE WHAT IT READS IS OF BULK AT MOST 1048576: true; the input reads as it did. -/
def stationaryAloneUptoRow : OpenClaim := { program := "ytfdbhehkkobfgaa", sum := "d188de955fdddc0f8ad0347234c0101e9c29898e61d54519d5078b7891a9548b", func := "trustflow/trustflowlaw21.StationaryAlone", spec := "stationaryAlone", unfollowed := true, recurses := true, named := ["math/bits.divideError", "math/bits.overflowError"], apart := false, narrowed := true }
def StationaryAloneUptoSaid : Prop := stationaryAloneUptoRow.holds Try.pinned (OpenSpec.upto stationaryAloneSpec)

end Rows
end Go.Proofs.Ytfdbhehkkobfgaa
