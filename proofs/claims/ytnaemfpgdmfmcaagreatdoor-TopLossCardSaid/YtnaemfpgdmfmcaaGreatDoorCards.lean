/-
  DERIVED. GIVEN WITH THE SEED: THE CARDS: each row of YtnaemfpgdmfmcaaGreatDoorRows.lean that lists a variable, with what it lists TIED to the program's text (the seventh form; the later family's looks); each row that meets fmt, with fmt's text TOLD by the authors' own Lean function (tested against real Go, not proved from fmt's source: count such statements apart). THE CARD IS WHAT COUNTS. Prove the row's statement (the work); the ties are given (YtnaemfpgdmfmcaaGreatDoorTie.lean); close each card by the builder's one call (the guide's Derived/Test/ToyasCard.lean, 'card_holds'). Laid BY PROGRAM, IN A SANDBOX (cutbox-door.mjs). By AI agents, Wed Nov 11 2026. No macro, syntax, notation, axiom, sorry.
-/
import Derived.Test.YtnaemfpgdmfmcaaGreatDoorRows
import GoSem.ClaimSeven
namespace Go.Proofs.YtnaemfpgdmfmcaaGreatDoor
namespace Rows

/-- THE TIED CARD OF 'trustflowtop.TopLoss'. -/
def topLossCard : Claim7 := { stood := { row := topLossRow, standIns := [], harness := (true, "ad0ccbdfd3d43024692280a1e81e80a1c58aa8382ed15009e4a62a780d854bb9"), looks := false }, kinds := [], alts := [], laidByText := true, laidKinds := [.data, .data, .data, .data, .pinned, .pinned, .pinned, .pinned, .pinned, .pinned], laidTests := true, laidLooks := .later }
def TopLossCardSaid : Prop := Claim7.holds Tryz.pinned (.plain (OpenSpec.ofChange topLossSpec)) topLossCard

/-- THE SECOND FORM's CARD OF 'trustflowtop.TopLoss'. -/
def topLossUptoCard : Claim7 := { stood := { row := topLossUptoRow, standIns := [], harness := (true, "ad0ccbdfd3d43024692280a1e81e80a1c58aa8382ed15009e4a62a780d854bb9"), looks := false }, kinds := [], alts := [], laidByText := true, laidKinds := [.data, .data, .data, .data, .pinned, .pinned, .pinned, .pinned, .pinned, .pinned], laidTests := true, laidLooks := .later }
def TopLossUptoCardSaid : Prop := Claim7.holds Tryz.pinned (.plain (OpenSpec.upto topLossSpec)) topLossUptoCard
end Rows
end Go.Proofs.YtnaemfpgdmfmcaaGreatDoor
