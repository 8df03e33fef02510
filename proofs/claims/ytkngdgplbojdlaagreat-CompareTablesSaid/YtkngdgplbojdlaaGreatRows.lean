/-
  No cell of these rows narrows 'for every input' (looked for: loops, veiled, ifaces, maps, wideKeys, modest, calm, conditions, laid).
  DERIVED. THE GIVEN ROWS OF THIS SEAT. 5 by the template 'for every input the law returns true; each argument reads behind the call as it read before'; 0 by the template 'total and deterministic' (their statements: YtkngdgplbojdlaaGreatTotals.lean).
  GIVEN WITH THE SEED: the statements are not yours to turn. If you find one false, say at which input.
  Laid BY PROGRAM, IN A SANDBOX (cutbox-rows.mjs): the forced cells as the released guide's own fill.sh prints them over the translation acd5ef99557f7f02… (all of the seat's roots in one cut). By AI agents, Wed Nov 11 2026. No macro, syntax, notation, axiom, sorry.
-/
import Derived.Test.YtkngdgplbojdlaaGreatChecked
import GoSem.Claim
import GoSem.ClaimJoined
import GoSem.ClaimMapViews
import Derived.JoinedTies
import Derived.KernelRfl
namespace Go.Proofs.YtkngdgplbojdlaaGreat
/- THE CELL 'sum', in the pinned program and in every row, IS THE sha256 OF THE DUMP (.gsa) THAT YtkngdgplbojdlaaGreatProg.lean LOADS. Nothing in Lean hashes anything: it is a label: what it is worth is what the hold of that sum in a sandbox is worth. -/
noncomputable def Tryz.pinned : Pinned := { name := "ytkngdgplbojdlaagreat", sum := "acd5ef99557f7f0272f0b02d67591b6df7d30d446e64648ba5844a38033d49a7", checked := Tryz.checked }
namespace Rows
def none {H : Type} : Left H := { results := [], args := [] }

/-- 'trustflowlaw22.CompareTables': WHATEVER THE INPUT: true; the input reads as it did. -/
def compareTablesSpec : ChangeSpec := { name := "compareTables", fn := fun _ => fun
  | [d1, d2, d3] => { results := [.lit (.bool true)], args := [d1, d2, d3] }
  | _ => none }
def compareTablesRow : OpenClaim := { program := "ytkngdgplbojdlaagreat", sum := "acd5ef99557f7f0272f0b02d67591b6df7d30d446e64648ba5844a38033d49a7", func := "trustflow/trustflowlaw22.CompareTables", spec := "compareTables", unfollowed := true, recurses := true, named := ["math/bits.divideError", "math/bits.overflowError"], apart := false }
def CompareTablesSaid : Prop := compareTablesRow.holds Tryz.pinned (OpenSpec.ofChange compareTablesSpec)

/-- ITS FALSE NEIGHBOUR: 'it returns false'. Refute it at one input. -/
def compareTablesWrong : ChangeSpec := { name := "compareTables", fn := fun _ => fun
  | [d1, d2, d3] => { results := [.lit (.bool false)], args := [d1, d2, d3] }
  | _ => none }
def CompareTablesWrongFalsely : Prop := compareTablesRow.holds Tryz.pinned (OpenSpec.ofChange compareTablesWrong)

/-- 'trustflowlaw22.CompareRings': WHATEVER THE INPUT: true; the input reads as it did. -/
def compareRingsSpec : ChangeSpec := { name := "compareRings", fn := fun _ => fun
  | [d1, d2, d3] => { results := [.lit (.bool true)], args := [d1, d2, d3] }
  | _ => none }
def compareRingsRow : OpenClaim := { program := "ytkngdgplbojdlaagreat", sum := "acd5ef99557f7f0272f0b02d67591b6df7d30d446e64648ba5844a38033d49a7", func := "trustflow/trustflowlaw22.CompareRings", spec := "compareRings", unfollowed := true, recurses := true, named := ["math/bits.divideError", "math/bits.overflowError"], apart := false }
def CompareRingsSaid : Prop := compareRingsRow.holds Tryz.pinned (OpenSpec.ofChange compareRingsSpec)

/-- ITS FALSE NEIGHBOUR: 'it returns false'. Refute it at one input. -/
def compareRingsWrong : ChangeSpec := { name := "compareRings", fn := fun _ => fun
  | [d1, d2, d3] => { results := [.lit (.bool false)], args := [d1, d2, d3] }
  | _ => none }
def CompareRingsWrongFalsely : Prop := compareRingsRow.holds Tryz.pinned (OpenSpec.ofChange compareRingsWrong)

/-- 'trustflowlaw22.CompareBound': WHATEVER THE INPUT: true; the input reads as it did. -/
def compareBoundSpec : ChangeSpec := { name := "compareBound", fn := fun _ => fun
  | [d] => { results := [.lit (.bool true)], args := [d] }
  | _ => none }
def compareBoundRow : OpenClaim := { program := "ytkngdgplbojdlaagreat", sum := "acd5ef99557f7f0272f0b02d67591b6df7d30d446e64648ba5844a38033d49a7", func := "trustflow/trustflowlaw22.CompareBound", spec := "compareBound", unfollowed := true, recurses := true, named := ["math/bits.divideError", "math/bits.overflowError"], apart := false }
def CompareBoundSaid : Prop := compareBoundRow.holds Tryz.pinned (OpenSpec.ofChange compareBoundSpec)

/-- ITS FALSE NEIGHBOUR: 'it returns false'. Refute it at one input. -/
def compareBoundWrong : ChangeSpec := { name := "compareBound", fn := fun _ => fun
  | [d] => { results := [.lit (.bool false)], args := [d] }
  | _ => none }
def CompareBoundWrongFalsely : Prop := compareBoundRow.holds Tryz.pinned (OpenSpec.ofChange compareBoundWrong)

/-- 'trustflowlaw22.CompareRows': WHATEVER THE INPUT: true; the input reads as it did. -/
def compareRowsSpec : ChangeSpec := { name := "compareRows", fn := fun _ => fun
  | [d] => { results := [.lit (.bool true)], args := [d] }
  | _ => none }
def compareRowsRow : OpenClaim := { program := "ytkngdgplbojdlaagreat", sum := "acd5ef99557f7f0272f0b02d67591b6df7d30d446e64648ba5844a38033d49a7", func := "trustflow/trustflowlaw22.CompareRows", spec := "compareRows", unfollowed := true, recurses := true, named := ["math/bits.divideError", "math/bits.overflowError"], apart := false }
def CompareRowsSaid : Prop := compareRowsRow.holds Tryz.pinned (OpenSpec.ofChange compareRowsSpec)

/-- ITS FALSE NEIGHBOUR: 'it returns false'. Refute it at one input. -/
def compareRowsWrong : ChangeSpec := { name := "compareRows", fn := fun _ => fun
  | [d] => { results := [.lit (.bool false)], args := [d] }
  | _ => none }
def CompareRowsWrongFalsely : Prop := compareRowsRow.holds Tryz.pinned (OpenSpec.ofChange compareRowsWrong)

/-- 'trustflowlaw22.CompareGrows': WHATEVER THE INPUT: true; the input reads as it did. -/
def compareGrowsSpec : ChangeSpec := { name := "compareGrows", fn := fun _ => fun
  | [d] => { results := [.lit (.bool true)], args := [d] }
  | _ => none }
def compareGrowsRow : OpenClaim := { program := "ytkngdgplbojdlaagreat", sum := "acd5ef99557f7f0272f0b02d67591b6df7d30d446e64648ba5844a38033d49a7", func := "trustflow/trustflowlaw22.CompareGrows", spec := "compareGrows", unfollowed := true, recurses := true, named := ["math/bits.divideError", "math/bits.overflowError"], apart := false }
def CompareGrowsSaid : Prop := compareGrowsRow.holds Tryz.pinned (OpenSpec.ofChange compareGrowsSpec)

/-- ITS FALSE NEIGHBOUR: 'it returns false'. Refute it at one input. -/
def compareGrowsWrong : ChangeSpec := { name := "compareGrows", fn := fun _ => fun
  | [d] => { results := [.lit (.bool false)], args := [d] }
  | _ => none }
def CompareGrowsWrongFalsely : Prop := compareGrowsRow.holds Tryz.pinned (OpenSpec.ofChange compareGrowsWrong)

/- THE SECOND FORM. 'bulk': how many values and letters a reading holds, each counted each time it is reached (what is shared counts as often as it is met; a slice's spare places count too). A statement '..UptoSaid' is the law's where the arguments, and the package variables that the reading takes, are together of bulk at most 1048576: NARROWER than '..Said'. Prove '..Said' where nothing that the law and all that it calls make is longer than what came in: it says more and counts as full. Else prove '..UptoSaid'. A law counts once. -/
mutual
def uptoBulk {H : Type} : DataW H → Nat
  | .lit (.string bytes) => bytes.length + 1
  | .lit _ => 1
  | .nil => 1
  | .ptr d => uptoBulk d + 1
  | .slice elems spare => uptoBulkAll elems + uptoBulkAll spare + 1
  | .agg parts => uptoBulkAll parts + 1
  | .iface _ d => uptoBulk d + 1
  | .map entries => uptoBulkEntries entries + 1
  | .held _ => 1
def uptoBulkAll {H : Type} : List (DataW H) → Nat
  | [] => 0
  | d :: r => uptoBulk d + uptoBulkAll r
def uptoBulkEntries {H : Type} : List (Lit × DataW H) → Nat
  | [] => 0
  | x :: r => uptoBulkEntry x + uptoBulkEntries r
def uptoBulkEntry {H : Type} : Lit × DataW H → Nat
  | (.string bytes, d) => bytes.length + uptoBulk d + 1
  | (_, d) => uptoBulk d + 1
 end
def uptoSmall : (H : Type) → List (DataW H) → Bool := fun _ ds => decide (uptoBulkAll ds ≤ 1048576)
def OpenSpec.upto (s : _root_.Go.ChangeSpec) : _root_.Go.OpenSpec := { _root_.Go.OpenSpec.ofChange s with cond := some uptoSmall }

/-- 'trustflowlaw22.CompareTables', WHERE WHAT IT READS IS OF BULK AT MOST 1048576: true; the input reads as it did. -/
def compareTablesUptoRow : OpenClaim := { program := "ytkngdgplbojdlaagreat", sum := "acd5ef99557f7f0272f0b02d67591b6df7d30d446e64648ba5844a38033d49a7", func := "trustflow/trustflowlaw22.CompareTables", spec := "compareTables", unfollowed := true, recurses := true, named := ["math/bits.divideError", "math/bits.overflowError"], apart := false, narrowed := true }
def CompareTablesUptoSaid : Prop := compareTablesUptoRow.holds Tryz.pinned (OpenSpec.upto compareTablesSpec)

/-- 'trustflowlaw22.CompareRings', WHERE WHAT IT READS IS OF BULK AT MOST 1048576: true; the input reads as it did. -/
def compareRingsUptoRow : OpenClaim := { program := "ytkngdgplbojdlaagreat", sum := "acd5ef99557f7f0272f0b02d67591b6df7d30d446e64648ba5844a38033d49a7", func := "trustflow/trustflowlaw22.CompareRings", spec := "compareRings", unfollowed := true, recurses := true, named := ["math/bits.divideError", "math/bits.overflowError"], apart := false, narrowed := true }
def CompareRingsUptoSaid : Prop := compareRingsUptoRow.holds Tryz.pinned (OpenSpec.upto compareRingsSpec)

/-- 'trustflowlaw22.CompareBound', WHERE WHAT IT READS IS OF BULK AT MOST 1048576: true; the input reads as it did. -/
def compareBoundUptoRow : OpenClaim := { program := "ytkngdgplbojdlaagreat", sum := "acd5ef99557f7f0272f0b02d67591b6df7d30d446e64648ba5844a38033d49a7", func := "trustflow/trustflowlaw22.CompareBound", spec := "compareBound", unfollowed := true, recurses := true, named := ["math/bits.divideError", "math/bits.overflowError"], apart := false, narrowed := true }
def CompareBoundUptoSaid : Prop := compareBoundUptoRow.holds Tryz.pinned (OpenSpec.upto compareBoundSpec)

/-- 'trustflowlaw22.CompareRows', WHERE WHAT IT READS IS OF BULK AT MOST 1048576: true; the input reads as it did. -/
def compareRowsUptoRow : OpenClaim := { program := "ytkngdgplbojdlaagreat", sum := "acd5ef99557f7f0272f0b02d67591b6df7d30d446e64648ba5844a38033d49a7", func := "trustflow/trustflowlaw22.CompareRows", spec := "compareRows", unfollowed := true, recurses := true, named := ["math/bits.divideError", "math/bits.overflowError"], apart := false, narrowed := true }
def CompareRowsUptoSaid : Prop := compareRowsUptoRow.holds Tryz.pinned (OpenSpec.upto compareRowsSpec)

/-- 'trustflowlaw22.CompareGrows', WHERE WHAT IT READS IS OF BULK AT MOST 1048576: true; the input reads as it did. -/
def compareGrowsUptoRow : OpenClaim := { program := "ytkngdgplbojdlaagreat", sum := "acd5ef99557f7f0272f0b02d67591b6df7d30d446e64648ba5844a38033d49a7", func := "trustflow/trustflowlaw22.CompareGrows", spec := "compareGrows", unfollowed := true, recurses := true, named := ["math/bits.divideError", "math/bits.overflowError"], apart := false, narrowed := true }
def CompareGrowsUptoSaid : Prop := compareGrowsUptoRow.holds Tryz.pinned (OpenSpec.upto compareGrowsSpec)

end Rows
end Go.Proofs.YtkngdgplbojdlaaGreat
