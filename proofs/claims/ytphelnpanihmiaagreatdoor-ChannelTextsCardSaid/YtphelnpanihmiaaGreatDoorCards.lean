/-
  DERIVED. GIVEN WITH THE SEED: THE CARDS: each row of YtphelnpanihmiaaGreatDoorRows.lean that lists a variable, with what it lists TIED to the program's text (the seventh form; the later family's looks); each row that meets fmt, with fmt's text TOLD by the authors' own Lean function (tested against real Go, not proved from fmt's source: count such statements apart). THE CARD IS WHAT COUNTS. Prove the row's statement (the work); the ties are given (YtphelnpanihmiaaGreatDoorTie.lean); close each card by the builder's one call (the guide's Derived/Test/ToyasCard.lean, 'card_holds'). Laid BY PROGRAM, IN A SANDBOX (cutbox-door.mjs). By AI agents, Wed Nov 11 2026. No macro, syntax, notation, axiom, sorry.
-/
import Derived.Test.YtphelnpanihmiaaGreatDoorRows
import GoSem.ClaimSeven
namespace Go.Proofs.YtphelnpanihmiaaGreatDoor
namespace Rows

/-- THE TIED CARD OF 'dragheadlaw04.BedTexts'. -/
def bedTextsCard : Claim7 := { stood := { row := bedTextsRow, standIns := [], harness := (true, "fec46930493ff3797dcf0533a04c3b88aac084be17ce1c4a93046eb3a491a52f"), looks := true }, kinds := [], alts := [], laidByText := true, laidKinds := [.data, .data, .data, .sentinel, .sentinel, .listed, .data], laidTests := true, laidLooks := .later }
def BedTextsCardSaid : Prop := Claim7.holds Tryz.pinned (.plain (OpenSpec.ofChange bedTextsSpec)) bedTextsCard

/-- THE TIED CARD OF 'dragheadlaw05.ChannelTexts'. -/
def channelTextsCard : Claim7 := { stood := { row := channelTextsRow, standIns := [], harness := (true, "fec46930493ff3797dcf0533a04c3b88aac084be17ce1c4a93046eb3a491a52f"), looks := true }, kinds := [], alts := [], laidByText := true, laidKinds := [.data, .data, .data, .data, .sentinel, .sentinel, .pinned], laidTests := true, laidLooks := .later }
def ChannelTextsCardSaid : Prop := Claim7.holds Tryz.pinned (.plain (OpenSpec.ofChange channelTextsSpec)) channelTextsCard

/-- THE SECOND FORM's CARD OF 'dragheadlaw04.BedTexts'. -/
def bedTextsUptoCard : Claim7 := { stood := { row := bedTextsUptoRow, standIns := [], harness := (true, "fec46930493ff3797dcf0533a04c3b88aac084be17ce1c4a93046eb3a491a52f"), looks := true }, kinds := [], alts := [], laidByText := true, laidKinds := [.data, .data, .data, .sentinel, .sentinel, .listed, .data], laidTests := true, laidLooks := .later }
def BedTextsUptoCardSaid : Prop := Claim7.holds Tryz.pinned (.plain (OpenSpec.upto bedTextsSpec)) bedTextsUptoCard

/-- THE SECOND FORM's CARD OF 'dragheadlaw05.ChannelTexts'. -/
def channelTextsUptoCard : Claim7 := { stood := { row := channelTextsUptoRow, standIns := [], harness := (true, "fec46930493ff3797dcf0533a04c3b88aac084be17ce1c4a93046eb3a491a52f"), looks := true }, kinds := [], alts := [], laidByText := true, laidKinds := [.data, .data, .data, .data, .sentinel, .sentinel, .pinned], laidTests := true, laidLooks := .later }
def ChannelTextsUptoCardSaid : Prop := Claim7.holds Tryz.pinned (.plain (OpenSpec.upto channelTextsSpec)) channelTextsUptoCard
end Rows
end Go.Proofs.YtphelnpanihmiaaGreatDoor
