/-
  DERIVED. GIVEN WITH THE SEED: THE CARDS: each row of YtbcgdnpgfinohaaGreatDoorRows.lean that lists a variable, with what it lists TIED to the program's text (the seventh form; the later family's looks); each row that meets fmt, with fmt's text TOLD by the authors' own Lean function (tested against real Go, not proved from fmt's source: count such statements apart). THE CARD IS WHAT COUNTS. Prove the row's statement (the work); the ties are given (YtbcgdnpgfinohaaGreatDoorTie.lean); close each card by the builder's one call (the guide's Derived/Test/ToyasCard.lean, 'card_holds'). Laid BY PROGRAM, IN A SANDBOX (cutbox-door.mjs). By AI agents, Wed Nov 11 2026. No macro, syntax, notation, axiom, sorry.
-/
import Derived.Test.YtbcgdnpgfinohaaGreatDoorRows
import GoSem.ClaimSeven
namespace Go.Proofs.YtbcgdnpgfinohaaGreatDoor
namespace Rows

/-- THE TIED CARD OF 'dragheadlaw10.ProjectSettles'. -/
def projectSettlesCard : Claim7 := { stood := { row := projectSettlesRow, standIns := [], harness := (true, "2695fb17712069e8e0d0e3f152390bf8e716f23515b000ef722aa95d40e091df"), looks := true }, kinds := [], alts := [], laidByText := true, laidKinds := [.data, .data, .data, .data, .sentinel, .sentinel, .pinned], laidTests := true, laidLooks := .later }
def ProjectSettlesCardSaid : Prop := Claim7.holds Tryz.pinned (.plain (OpenSpec.ofChange projectSettlesSpec)) projectSettlesCard

/-- THE SECOND FORM's CARD OF 'dragheadlaw10.ProjectSettles'. -/
def projectSettlesUptoCard : Claim7 := { stood := { row := projectSettlesUptoRow, standIns := [], harness := (true, "2695fb17712069e8e0d0e3f152390bf8e716f23515b000ef722aa95d40e091df"), looks := true }, kinds := [], alts := [], laidByText := true, laidKinds := [.data, .data, .data, .data, .sentinel, .sentinel, .pinned], laidTests := true, laidLooks := .later }
def ProjectSettlesUptoCardSaid : Prop := Claim7.holds Tryz.pinned (.plain (OpenSpec.upto projectSettlesSpec)) projectSettlesUptoCard
end Rows
end Go.Proofs.YtbcgdnpgfinohaaGreatDoor
