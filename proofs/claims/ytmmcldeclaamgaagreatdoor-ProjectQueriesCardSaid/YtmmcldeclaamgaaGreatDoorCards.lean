/-
  DERIVED. GIVEN WITH THE SEED: THE CARDS: each row of YtmmcldeclaamgaaGreatDoorRows.lean that lists a variable, with what it lists TIED to the program's text (the seventh form; the later family's looks); each row that meets fmt, with fmt's text TOLD by the authors' own Lean function (tested against real Go, not proved from fmt's source: count such statements apart). THE CARD IS WHAT COUNTS. Prove the row's statement (the work); the ties are given (YtmmcldeclaamgaaGreatDoorTie.lean); close each card by the builder's one call (the guide's Derived/Test/ToyasCard.lean, 'card_holds'). Laid BY PROGRAM, IN A SANDBOX (cutbox-door.mjs). By AI agents, Wed Nov 11 2026. No macro, syntax, notation, axiom, sorry.
-/
import Derived.Test.YtmmcldeclaamgaaGreatDoorRows
import GoSem.ClaimSeven
namespace Go.Proofs.YtmmcldeclaamgaaGreatDoor
namespace Rows

/-- THE TIED CARD OF 'dragheadlaw10.ProjectQueries'. -/
def projectQueriesCard : Claim7 := { stood := { row := projectQueriesRow, standIns := [], harness := (true, "ac41692a258aa9c1cc07cd49ce26564109627f0ff75a42d7b94e6edb138ed815"), looks := true }, kinds := [], alts := [], laidByText := true, laidKinds := [.data, .data, .data, .data, .sentinel, .sentinel, .pinned], laidTests := true, laidLooks := .later }
def ProjectQueriesCardSaid : Prop := Claim7.holds Tryz.pinned (.plain (OpenSpec.ofChange projectQueriesSpec)) projectQueriesCard

/-- THE SECOND FORM's CARD OF 'dragheadlaw10.ProjectQueries'. -/
def projectQueriesUptoCard : Claim7 := { stood := { row := projectQueriesUptoRow, standIns := [], harness := (true, "ac41692a258aa9c1cc07cd49ce26564109627f0ff75a42d7b94e6edb138ed815"), looks := true }, kinds := [], alts := [], laidByText := true, laidKinds := [.data, .data, .data, .data, .sentinel, .sentinel, .pinned], laidTests := true, laidLooks := .later }
def ProjectQueriesUptoCardSaid : Prop := Claim7.holds Tryz.pinned (.plain (OpenSpec.upto projectQueriesSpec)) projectQueriesUptoCard
end Rows
end Go.Proofs.YtmmcldeclaamgaaGreatDoor
