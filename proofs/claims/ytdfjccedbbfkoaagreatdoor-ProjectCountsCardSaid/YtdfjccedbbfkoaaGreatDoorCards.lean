/-
  DERIVED. GIVEN WITH THE SEED: THE CARDS: each row of YtdfjccedbbfkoaaGreatDoorRows.lean that lists a variable, with what it lists TIED to the program's text (the seventh form; the later family's looks); each row that meets fmt, with fmt's text TOLD by the authors' own Lean function (tested against real Go, not proved from fmt's source: count such statements apart). THE CARD IS WHAT COUNTS. Prove the row's statement (the work); the ties are given (YtdfjccedbbfkoaaGreatDoorTie.lean); close each card by the builder's one call (the guide's Derived/Test/ToyasCard.lean, 'card_holds'). Laid BY PROGRAM, IN A SANDBOX (cutbox-door.mjs). By AI agents, Wed Nov 11 2026. No macro, syntax, notation, axiom, sorry.
-/
import Derived.Test.YtdfjccedbbfkoaaGreatDoorRows
import GoSem.ClaimSeven
namespace Go.Proofs.YtdfjccedbbfkoaaGreatDoor
namespace Rows

/-- THE TIED CARD OF 'dragheadlaw10.ProjectCounts'. -/
def projectCountsCard : Claim7 := { stood := { row := projectCountsRow, standIns := [], harness := (true, "7543a6d9c5fcb9567367b16433f6a9dac8b60717638fd4ad9af87865d42d2014"), looks := true }, kinds := [], alts := [], laidByText := true, laidKinds := [.data, .data, .data, .data, .sentinel, .sentinel, .pinned], laidTests := true, laidLooks := .later }
def ProjectCountsCardSaid : Prop := Claim7.holds Tryz.pinned (.plain (OpenSpec.ofChange projectCountsSpec)) projectCountsCard

/-- THE SECOND FORM's CARD OF 'dragheadlaw10.ProjectCounts'. -/
def projectCountsUptoCard : Claim7 := { stood := { row := projectCountsUptoRow, standIns := [], harness := (true, "7543a6d9c5fcb9567367b16433f6a9dac8b60717638fd4ad9af87865d42d2014"), looks := true }, kinds := [], alts := [], laidByText := true, laidKinds := [.data, .data, .data, .data, .sentinel, .sentinel, .pinned], laidTests := true, laidLooks := .later }
def ProjectCountsUptoCardSaid : Prop := Claim7.holds Tryz.pinned (.plain (OpenSpec.upto projectCountsSpec)) projectCountsUptoCard
end Rows
end Go.Proofs.YtdfjccedbbfkoaaGreatDoor
