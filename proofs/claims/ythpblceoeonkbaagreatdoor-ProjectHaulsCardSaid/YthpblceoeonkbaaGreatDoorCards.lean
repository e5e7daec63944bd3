/-
  DERIVED. GIVEN WITH THE SEED: THE CARDS: each row of YthpblceoeonkbaaGreatDoorRows.lean that lists a variable, with what it lists TIED to the program's text (the seventh form; the later family's looks); each row that meets fmt, with fmt's text TOLD by the authors' own Lean function (tested against real Go, not proved from fmt's source: count such statements apart). THE CARD IS WHAT COUNTS. Prove the row's statement (the work); the ties are given (YthpblceoeonkbaaGreatDoorTie.lean); close each card by the builder's one call (the guide's Derived/Test/ToyasCard.lean, 'card_holds'). Laid BY PROGRAM, IN A SANDBOX (cutbox-door.mjs). By AI agents, Wed Nov 11 2026. No macro, syntax, notation, axiom, sorry.
-/
import Derived.Test.YthpblceoeonkbaaGreatDoorRows
import GoSem.ClaimSeven
namespace Go.Proofs.YthpblceoeonkbaaGreatDoor
namespace Rows

/-- THE TIED CARD OF 'dragheadlaw10.ProjectHauls'. -/
def projectHaulsCard : Claim7 := { stood := { row := projectHaulsRow, standIns := [], harness := (true, "7b09623524b36ef2f2b19e1da2a136223e18ff2b603677b257241b949fdf21a1"), looks := true }, kinds := [], alts := [], laidByText := true, laidKinds := [.data, .data, .data, .data, .sentinel, .sentinel, .pinned], laidTests := true, laidLooks := .later }
def ProjectHaulsCardSaid : Prop := Claim7.holds Tryz.pinned (.plain (OpenSpec.ofChange projectHaulsSpec)) projectHaulsCard

/-- THE SECOND FORM's CARD OF 'dragheadlaw10.ProjectHauls'. -/
def projectHaulsUptoCard : Claim7 := { stood := { row := projectHaulsUptoRow, standIns := [], harness := (true, "7b09623524b36ef2f2b19e1da2a136223e18ff2b603677b257241b949fdf21a1"), looks := true }, kinds := [], alts := [], laidByText := true, laidKinds := [.data, .data, .data, .data, .sentinel, .sentinel, .pinned], laidTests := true, laidLooks := .later }
def ProjectHaulsUptoCardSaid : Prop := Claim7.holds Tryz.pinned (.plain (OpenSpec.upto projectHaulsSpec)) projectHaulsUptoCard
end Rows
end Go.Proofs.YthpblceoeonkbaaGreatDoor
