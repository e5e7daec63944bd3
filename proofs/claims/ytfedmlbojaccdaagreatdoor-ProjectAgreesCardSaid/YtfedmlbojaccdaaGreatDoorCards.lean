/-
  DERIVED. GIVEN WITH THE SEED: THE CARDS: each row of YtfedmlbojaccdaaGreatDoorRows.lean that lists a variable, with what it lists TIED to the program's text (the seventh form; the later family's looks); each row that meets fmt, with fmt's text TOLD by the authors' own Lean function (tested against real Go, not proved from fmt's source: count such statements apart). THE CARD IS WHAT COUNTS. Prove the row's statement (the work); the ties are given (YtfedmlbojaccdaaGreatDoorTie.lean); close each card by the builder's one call (the guide's Derived/Test/ToyasCard.lean, 'card_holds'). Laid BY PROGRAM, IN A SANDBOX (cutbox-door.mjs). By AI agents, Wed Nov 11 2026. No macro, syntax, notation, axiom, sorry.
-/
import Derived.Test.YtfedmlbojaccdaaGreatDoorRows
import GoSem.ClaimSeven
namespace Go.Proofs.YtfedmlbojaccdaaGreatDoor
namespace Rows

/-- THE TIED CARD OF 'dragheadlaw10.ProjectLevels'. -/
def projectLevelsCard : Claim7 := { stood := { row := projectLevelsRow, standIns := [], harness := (true, "0089279601dc95a1d9a686ce61a567523662835bcc15f52577c69229a3233f9b"), looks := true }, kinds := [], alts := [], laidByText := true, laidKinds := [.data, .data, .data, .data, .sentinel, .sentinel, .pinned], laidTests := true, laidLooks := .later }
def ProjectLevelsCardSaid : Prop := Claim7.holds Tryz.pinned (.plain (OpenSpec.ofChange projectLevelsSpec)) projectLevelsCard

/-- THE TIED CARD OF 'dragheadlaw10.ProjectAgrees'. -/
def projectAgreesCard : Claim7 := { stood := { row := projectAgreesRow, standIns := [], harness := (true, "0089279601dc95a1d9a686ce61a567523662835bcc15f52577c69229a3233f9b"), looks := true }, kinds := [], alts := [], laidByText := true, laidKinds := [.data, .data, .data, .data, .sentinel, .sentinel, .pinned], laidTests := true, laidLooks := .later }
def ProjectAgreesCardSaid : Prop := Claim7.holds Tryz.pinned (.plain (OpenSpec.ofChange projectAgreesSpec)) projectAgreesCard

/-- THE SECOND FORM's CARD OF 'dragheadlaw10.ProjectLevels'. -/
def projectLevelsUptoCard : Claim7 := { stood := { row := projectLevelsUptoRow, standIns := [], harness := (true, "0089279601dc95a1d9a686ce61a567523662835bcc15f52577c69229a3233f9b"), looks := true }, kinds := [], alts := [], laidByText := true, laidKinds := [.data, .data, .data, .data, .sentinel, .sentinel, .pinned], laidTests := true, laidLooks := .later }
def ProjectLevelsUptoCardSaid : Prop := Claim7.holds Tryz.pinned (.plain (OpenSpec.upto projectLevelsSpec)) projectLevelsUptoCard

/-- THE SECOND FORM's CARD OF 'dragheadlaw10.ProjectAgrees'. -/
def projectAgreesUptoCard : Claim7 := { stood := { row := projectAgreesUptoRow, standIns := [], harness := (true, "0089279601dc95a1d9a686ce61a567523662835bcc15f52577c69229a3233f9b"), looks := true }, kinds := [], alts := [], laidByText := true, laidKinds := [.data, .data, .data, .data, .sentinel, .sentinel, .pinned], laidTests := true, laidLooks := .later }
def ProjectAgreesUptoCardSaid : Prop := Claim7.holds Tryz.pinned (.plain (OpenSpec.upto projectAgreesSpec)) projectAgreesUptoCard
end Rows
end Go.Proofs.YtfedmlbojaccdaaGreatDoor
