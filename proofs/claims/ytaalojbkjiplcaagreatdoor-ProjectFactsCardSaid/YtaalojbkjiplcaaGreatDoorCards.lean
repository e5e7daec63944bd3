/-
  DERIVED. GIVEN WITH THE SEED: THE CARDS: each row of YtaalojbkjiplcaaGreatDoorRows.lean that lists a variable, with what it lists TIED to the program's text (the seventh form; the later family's looks); each row that meets fmt, with fmt's text TOLD by the authors' own Lean function (tested against real Go, not proved from fmt's source: count such statements apart). THE CARD IS WHAT COUNTS. Prove the row's statement (the work); the ties are given (YtaalojbkjiplcaaGreatDoorTie.lean); close each card by the builder's one call (the guide's Derived/Test/ToyasCard.lean, 'card_holds'). Laid BY PROGRAM, IN A SANDBOX (cutbox-door.mjs). By AI agents, Wed Nov 11 2026. No macro, syntax, notation, axiom, sorry.
-/
import Derived.Test.YtaalojbkjiplcaaGreatDoorRows
import GoSem.ClaimSeven
namespace Go.Proofs.YtaalojbkjiplcaaGreatDoor
namespace Rows

/-- THE TIED CARD OF 'dragheadlaw10.ProjectChecks'. -/
def projectChecksCard : Claim7 := { stood := { row := projectChecksRow, standIns := [], harness := (true, "caad8bd8cb296908289bb9230427a9d279093710ec519cc39fff25173ef74b6a"), looks := true }, kinds := [], alts := [], laidByText := true, laidKinds := [.data, .data, .data, .data, .sentinel, .sentinel, .pinned], laidTests := true, laidLooks := .later }
def ProjectChecksCardSaid : Prop := Claim7.holds Tryz.pinned (.plain (OpenSpec.ofChange projectChecksSpec)) projectChecksCard

/-- THE TIED CARD OF 'dragheadlaw10.ProjectFacts'. -/
def projectFactsCard : Claim7 := { stood := { row := projectFactsRow, standIns := [], harness := (true, "caad8bd8cb296908289bb9230427a9d279093710ec519cc39fff25173ef74b6a"), looks := true }, kinds := [], alts := [], laidByText := true, laidKinds := [.data, .data, .data, .data, .sentinel, .sentinel, .pinned], laidTests := true, laidLooks := .later }
def ProjectFactsCardSaid : Prop := Claim7.holds Tryz.pinned (.plain (OpenSpec.ofChange projectFactsSpec)) projectFactsCard

/-- THE SECOND FORM's CARD OF 'dragheadlaw10.ProjectChecks'. -/
def projectChecksUptoCard : Claim7 := { stood := { row := projectChecksUptoRow, standIns := [], harness := (true, "caad8bd8cb296908289bb9230427a9d279093710ec519cc39fff25173ef74b6a"), looks := true }, kinds := [], alts := [], laidByText := true, laidKinds := [.data, .data, .data, .data, .sentinel, .sentinel, .pinned], laidTests := true, laidLooks := .later }
def ProjectChecksUptoCardSaid : Prop := Claim7.holds Tryz.pinned (.plain (OpenSpec.upto projectChecksSpec)) projectChecksUptoCard

/-- THE SECOND FORM's CARD OF 'dragheadlaw10.ProjectFacts'. -/
def projectFactsUptoCard : Claim7 := { stood := { row := projectFactsUptoRow, standIns := [], harness := (true, "caad8bd8cb296908289bb9230427a9d279093710ec519cc39fff25173ef74b6a"), looks := true }, kinds := [], alts := [], laidByText := true, laidKinds := [.data, .data, .data, .data, .sentinel, .sentinel, .pinned], laidTests := true, laidLooks := .later }
def ProjectFactsUptoCardSaid : Prop := Claim7.holds Tryz.pinned (.plain (OpenSpec.upto projectFactsSpec)) projectFactsUptoCard
end Rows
end Go.Proofs.YtaalojbkjiplcaaGreatDoor
