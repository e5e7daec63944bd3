/-
  DERIVED. GIVEN WITH THE SEED: THE CARDS: each row of YtplioigfcjbbiaaGreatDoorRows.lean that lists a variable, with what it lists TIED to the program's text (the seventh form; the later family's looks); each row that meets fmt, with fmt's text TOLD by the authors' own Lean function (tested against real Go, not proved from fmt's source: count such statements apart). THE CARD IS WHAT COUNTS. Prove the row's statement (the work); the ties are given (YtplioigfcjbbiaaGreatDoorTie.lean); close each card by the builder's one call (the guide's Derived/Test/ToyasCard.lean, 'card_holds'). Laid BY PROGRAM, IN A SANDBOX (cutbox-door.mjs). By AI agents, Wed Nov 11 2026. No macro, syntax, notation, axiom, sorry.
-/
import Derived.Test.YtplioigfcjbbiaaGreatDoorRows
import GoSem.ClaimSeven
namespace Go.Proofs.YtplioigfcjbbiaaGreatDoor
namespace Rows

/-- THE TIED CARD OF 'dragheadlaw10.ProjectPieces'. -/
def projectPiecesCard : Claim7 := { stood := { row := projectPiecesRow, standIns := [], harness := (true, "c5432afffe16b0763dd390e880ba139bf16c99287b972c96bc9ea6603d30497a"), looks := true }, kinds := [], alts := [], laidByText := true, laidKinds := [.data, .data, .data, .data, .sentinel, .sentinel, .pinned], laidTests := true, laidLooks := .later }
def ProjectPiecesCardSaid : Prop := Claim7.holds Tryz.pinned (.plain (OpenSpec.ofChange projectPiecesSpec)) projectPiecesCard

/-- THE SECOND FORM's CARD OF 'dragheadlaw10.ProjectPieces'. -/
def projectPiecesUptoCard : Claim7 := { stood := { row := projectPiecesUptoRow, standIns := [], harness := (true, "c5432afffe16b0763dd390e880ba139bf16c99287b972c96bc9ea6603d30497a"), looks := true }, kinds := [], alts := [], laidByText := true, laidKinds := [.data, .data, .data, .data, .sentinel, .sentinel, .pinned], laidTests := true, laidLooks := .later }
def ProjectPiecesUptoCardSaid : Prop := Claim7.holds Tryz.pinned (.plain (OpenSpec.upto projectPiecesSpec)) projectPiecesUptoCard
end Rows
end Go.Proofs.YtplioigfcjbbiaaGreatDoor
