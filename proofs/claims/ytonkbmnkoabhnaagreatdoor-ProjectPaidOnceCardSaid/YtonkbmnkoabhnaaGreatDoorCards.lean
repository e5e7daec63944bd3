/-
  DERIVED. GIVEN WITH THE SEED: THE CARDS: each row of YtonkbmnkoabhnaaGreatDoorRows.lean that lists a variable, with what it lists TIED to the program's text (the seventh form; the later family's looks); each row that meets fmt, with fmt's text TOLD by the authors' own Lean function (tested against real Go, not proved from fmt's source: count such statements apart). THE CARD IS WHAT COUNTS. Prove the row's statement (the work); the ties are given (YtonkbmnkoabhnaaGreatDoorTie.lean); close each card by the builder's one call (the guide's Derived/Test/ToyasCard.lean, 'card_holds'). Laid BY PROGRAM, IN A SANDBOX (cutbox-door.mjs). By AI agents, Wed Nov 11 2026. No macro, syntax, notation, axiom, sorry.
-/
import Derived.Test.YtonkbmnkoabhnaaGreatDoorRows
import GoSem.ClaimSeven
namespace Go.Proofs.YtonkbmnkoabhnaaGreatDoor
namespace Rows

/-- THE TIED CARD OF 'dragheadlaw10.ProjectPaidOnce'. -/
def projectPaidOnceCard : Claim7 := { stood := { row := projectPaidOnceRow, standIns := [], harness := (true, "142d727de222c0da0b7ef42314085d7e7a9b8a89ea20b2f2f26132546d36d1ff"), looks := true }, kinds := [], alts := [], laidByText := true, laidKinds := [.data, .data, .data, .data, .sentinel, .sentinel, .pinned], laidTests := true, laidLooks := .later }
def ProjectPaidOnceCardSaid : Prop := Claim7.holds Tryz.pinned (.plain (OpenSpec.ofChange projectPaidOnceSpec)) projectPaidOnceCard

/-- THE SECOND FORM's CARD OF 'dragheadlaw10.ProjectPaidOnce'. -/
def projectPaidOnceUptoCard : Claim7 := { stood := { row := projectPaidOnceUptoRow, standIns := [], harness := (true, "142d727de222c0da0b7ef42314085d7e7a9b8a89ea20b2f2f26132546d36d1ff"), looks := true }, kinds := [], alts := [], laidByText := true, laidKinds := [.data, .data, .data, .data, .sentinel, .sentinel, .pinned], laidTests := true, laidLooks := .later }
def ProjectPaidOnceUptoCardSaid : Prop := Claim7.holds Tryz.pinned (.plain (OpenSpec.upto projectPaidOnceSpec)) projectPaidOnceUptoCard
end Rows
end Go.Proofs.YtonkbmnkoabhnaaGreatDoor
