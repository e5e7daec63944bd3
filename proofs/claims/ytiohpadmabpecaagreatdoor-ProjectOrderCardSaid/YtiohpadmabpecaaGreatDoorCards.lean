/-
  DERIVED. GIVEN WITH THE SEED: THE CARDS: each row of YtiohpadmabpecaaGreatDoorRows.lean that lists a variable, with what it lists TIED to the program's text (the seventh form; the later family's looks); each row that meets fmt, with fmt's text TOLD by the authors' own Lean function (tested against real Go, not proved from fmt's source: count such statements apart). THE CARD IS WHAT COUNTS. Prove the row's statement (the work); the ties are given (YtiohpadmabpecaaGreatDoorTie.lean); close each card by the builder's one call (the guide's Derived/Test/ToyasCard.lean, 'card_holds'). Laid BY PROGRAM, IN A SANDBOX (cutbox-door.mjs). By AI agents, Wed Nov 11 2026. No macro, syntax, notation, axiom, sorry.
-/
import Derived.Test.YtiohpadmabpecaaGreatDoorRows
import GoSem.ClaimSeven
namespace Go.Proofs.YtiohpadmabpecaaGreatDoor
namespace Rows

/-- THE TIED CARD OF 'dragheadlaw10.ProjectOrder'. -/
def projectOrderCard : Claim7 := { stood := { row := projectOrderRow, standIns := [], harness := (true, "7cc88d172b203717f6a788b6e0f560013eebef16278cdf4a3ee047c2ab997216"), looks := true }, kinds := [], alts := [], laidByText := true, laidKinds := [.data, .data, .data, .data, .sentinel, .sentinel, .pinned], laidTests := true, laidLooks := .later }
def ProjectOrderCardSaid : Prop := Claim7.holds Tryz.pinned (.plain (OpenSpec.ofChange projectOrderSpec)) projectOrderCard

/-- THE SECOND FORM's CARD OF 'dragheadlaw10.ProjectOrder'. -/
def projectOrderUptoCard : Claim7 := { stood := { row := projectOrderUptoRow, standIns := [], harness := (true, "7cc88d172b203717f6a788b6e0f560013eebef16278cdf4a3ee047c2ab997216"), looks := true }, kinds := [], alts := [], laidByText := true, laidKinds := [.data, .data, .data, .data, .sentinel, .sentinel, .pinned], laidTests := true, laidLooks := .later }
def ProjectOrderUptoCardSaid : Prop := Claim7.holds Tryz.pinned (.plain (OpenSpec.upto projectOrderSpec)) projectOrderUptoCard
end Rows
end Go.Proofs.YtiohpadmabpecaaGreatDoor
