/-
  DERIVED. GIVEN WITH THE SEED: THE CARDS: each row of YtmmfnloidfibkaaGreatDoorRows.lean that lists a variable, with what it lists TIED to the program's text (the seventh form; the later family's looks); each row that meets fmt, with fmt's text TOLD by the authors' own Lean function (tested against real Go, not proved from fmt's source: count such statements apart). THE CARD IS WHAT COUNTS. Prove the row's statement (the work); the ties are given (YtmmfnloidfibkaaGreatDoorTie.lean); close each card by the builder's one call (the guide's Derived/Test/ToyasCard.lean, 'card_holds'). Laid BY PROGRAM, IN A SANDBOX (cutbox-door.mjs). By AI agents, Wed Nov 11 2026. No macro, syntax, notation, axiom, sorry.
-/
import Derived.Test.YtmmfnloidfibkaaGreatDoorRows
import GoSem.ClaimSeven
namespace Go.Proofs.YtmmfnloidfibkaaGreatDoor
namespace Rows

/-- THE TIED CARD OF 'dragheadtop.TopQueryTwoWays'. -/
def topQueryTwoWaysCard : Claim7 := { stood := { row := topQueryTwoWaysRow, standIns := [], harness := (true, "dc1ec420b609c482a34f996209f33160f685614f78dbcc64c5d8776479bd81c5"), looks := true }, kinds := [], alts := [], laidByText := true, laidKinds := [.data, .data, .data, .data, .sentinel, .sentinel, .pinned], laidTests := true, laidLooks := .later }
def TopQueryTwoWaysCardSaid : Prop := Claim7.holds Tryz.pinned (.plain (OpenSpec.ofChange topQueryTwoWaysSpec)) topQueryTwoWaysCard

/-- THE SECOND FORM's CARD OF 'dragheadtop.TopQueryTwoWays'. -/
def topQueryTwoWaysUptoCard : Claim7 := { stood := { row := topQueryTwoWaysUptoRow, standIns := [], harness := (true, "dc1ec420b609c482a34f996209f33160f685614f78dbcc64c5d8776479bd81c5"), looks := true }, kinds := [], alts := [], laidByText := true, laidKinds := [.data, .data, .data, .data, .sentinel, .sentinel, .pinned], laidTests := true, laidLooks := .later }
def TopQueryTwoWaysUptoCardSaid : Prop := Claim7.holds Tryz.pinned (.plain (OpenSpec.upto topQueryTwoWaysSpec)) topQueryTwoWaysUptoCard
end Rows
end Go.Proofs.YtmmfnloidfibkaaGreatDoor
