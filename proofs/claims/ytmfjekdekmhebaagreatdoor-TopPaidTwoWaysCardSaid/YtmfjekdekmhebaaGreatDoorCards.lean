/-
  DERIVED. GIVEN WITH THE SEED: THE CARDS: each row of YtmfjekdekmhebaaGreatDoorRows.lean that lists a variable, with what it lists TIED to the program's text (the seventh form; the later family's looks); each row that meets fmt, with fmt's text TOLD by the authors' own Lean function (tested against real Go, not proved from fmt's source: count such statements apart). THE CARD IS WHAT COUNTS. Prove the row's statement (the work); the ties are given (YtmfjekdekmhebaaGreatDoorTie.lean); close each card by the builder's one call (the guide's Derived/Test/ToyasCard.lean, 'card_holds'). Laid BY PROGRAM, IN A SANDBOX (cutbox-door.mjs). By AI agents, Wed Nov 11 2026. No macro, syntax, notation, axiom, sorry.
-/
import Derived.Test.YtmfjekdekmhebaaGreatDoorRows
import GoSem.ClaimSeven
namespace Go.Proofs.YtmfjekdekmhebaaGreatDoor
namespace Rows

/-- THE TIED CARD OF 'dragheadtop.TopPaidTwoWays'. -/
def topPaidTwoWaysCard : Claim7 := { stood := { row := topPaidTwoWaysRow, standIns := [], harness := (true, "cfaec91f9ad2e3c4032ac2b8b97b5e5b3deb821142c425896f4e59238024348d"), looks := true }, kinds := [], alts := [], laidByText := true, laidKinds := [.data, .data, .data, .data, .sentinel, .sentinel, .pinned], laidTests := true, laidLooks := .later }
def TopPaidTwoWaysCardSaid : Prop := Claim7.holds Tryz.pinned (.plain (OpenSpec.ofChange topPaidTwoWaysSpec)) topPaidTwoWaysCard

/-- THE SECOND FORM's CARD OF 'dragheadtop.TopPaidTwoWays'. -/
def topPaidTwoWaysUptoCard : Claim7 := { stood := { row := topPaidTwoWaysUptoRow, standIns := [], harness := (true, "cfaec91f9ad2e3c4032ac2b8b97b5e5b3deb821142c425896f4e59238024348d"), looks := true }, kinds := [], alts := [], laidByText := true, laidKinds := [.data, .data, .data, .data, .sentinel, .sentinel, .pinned], laidTests := true, laidLooks := .later }
def TopPaidTwoWaysUptoCardSaid : Prop := Claim7.holds Tryz.pinned (.plain (OpenSpec.upto topPaidTwoWaysSpec)) topPaidTwoWaysUptoCard
end Rows
end Go.Proofs.YtmfjekdekmhebaaGreatDoor
