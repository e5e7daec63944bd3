/-
  No cell of these rows narrows 'for every input' (looked for: loops, veiled, ifaces, maps, wideKeys, modest, calm, conditions, laid).
  DERIVED. THE GIVEN ROWS OF THIS SEAT. 9 by the template 'for every input the law returns true; each argument reads behind the call as it read before'; 0 by the template 'total and deterministic' (their statements: YtlnfjlaiclgjjaaGreatTotals.lean).
  GIVEN WITH THE SEED: the statements are not yours to turn. If you find one false, say at which input.
  Laid BY PROGRAM, IN A SANDBOX (cutbox-rows.mjs): the forced cells as the released guide's own fill.sh prints them over the translation a5ebfbb4d42890d1… (all of the seat's roots in one cut). By AI agents, Wed Nov 11 2026. No macro, syntax, notation, axiom, sorry.
-/
import Derived.Test.YtlnfjlaiclgjjaaGreatChecked
import GoSem.Claim
import GoSem.ClaimJoined
import GoSem.ClaimMapViews
import Derived.JoinedTies
import Derived.KernelRfl
namespace Go.Proofs.YtlnfjlaiclgjjaaGreat
/- THE CELL 'sum', in the pinned program and in every row, IS THE sha256 OF THE DUMP (.gsa) THAT YtlnfjlaiclgjjaaGreatProg.lean LOADS. Nothing in Lean hashes anything: it is a label: what it is worth is what the hold of that sum in a sandbox is worth. -/
noncomputable def Tryz.pinned : Pinned := { name := "ytlnfjlaiclgjjaagreat", sum := "a5ebfbb4d42890d165b7180a111958f2da5a29a4f7966663636a5e4d56d7eb3a", checked := Tryz.checked }
namespace Rows
def none {H : Type} : Left H := { results := [], args := [] }

/-- 'dragheadlaw05.ChannelPays': WHATEVER THE INPUT: true; the input reads as it did. -/
def channelPaysSpec : ChangeSpec := { name := "channelPays", fn := fun _ => fun
  | [d1, d2, d3] => { results := [.lit (.bool true)], args := [d1, d2, d3] }
  | _ => none }
def channelPaysRow : OpenClaim := { program := "ytlnfjlaiclgjjaagreat", sum := "a5ebfbb4d42890d165b7180a111958f2da5a29a4f7966663636a5e4d56d7eb3a", func := "draghead/dragheadlaw05.ChannelPays", spec := "channelPays", inPlace := ["math.sqrt"], unfollowed := true, recurses := true, apart := false }
def ChannelPaysSaid : Prop := channelPaysRow.holds Tryz.pinned (OpenSpec.ofChange channelPaysSpec)

/-- ITS FALSE NEIGHBOUR: 'it returns false'. Refute it at one input. -/
def channelPaysWrong : ChangeSpec := { name := "channelPays", fn := fun _ => fun
  | [d1, d2, d3] => { results := [.lit (.bool false)], args := [d1, d2, d3] }
  | _ => none }
def ChannelPaysWrongFalsely : Prop := channelPaysRow.holds Tryz.pinned (OpenSpec.ofChange channelPaysWrong)

/-- 'dragheadlaw05.ChannelNeeds': WHATEVER THE INPUT: true; the input reads as it did. -/
def channelNeedsSpec : ChangeSpec := { name := "channelNeeds", fn := fun _ => fun
  | [d1, d2] => { results := [.lit (.bool true)], args := [d1, d2] }
  | _ => none }
def channelNeedsRow : OpenClaim := { program := "ytlnfjlaiclgjjaagreat", sum := "a5ebfbb4d42890d165b7180a111958f2da5a29a4f7966663636a5e4d56d7eb3a", func := "draghead/dragheadlaw05.ChannelNeeds", spec := "channelNeeds", inPlace := ["math.sqrt"], unfollowed := true, recurses := true, apart := false }
def ChannelNeedsSaid : Prop := channelNeedsRow.holds Tryz.pinned (OpenSpec.ofChange channelNeedsSpec)

/-- ITS FALSE NEIGHBOUR: 'it returns false'. Refute it at one input. -/
def channelNeedsWrong : ChangeSpec := { name := "channelNeeds", fn := fun _ => fun
  | [d1, d2] => { results := [.lit (.bool false)], args := [d1, d2] }
  | _ => none }
def ChannelNeedsWrongFalsely : Prop := channelNeedsRow.holds Tryz.pinned (OpenSpec.ofChange channelNeedsWrong)

/-- 'dragheadlaw05.ChannelControls': WHATEVER THE INPUT: true; the input reads as it did. -/
def channelControlsSpec : ChangeSpec := { name := "channelControls", fn := fun _ => fun
  | [d1, d2] => { results := [.lit (.bool true)], args := [d1, d2] }
  | _ => none }
def channelControlsRow : OpenClaim := { program := "ytlnfjlaiclgjjaagreat", sum := "a5ebfbb4d42890d165b7180a111958f2da5a29a4f7966663636a5e4d56d7eb3a", func := "draghead/dragheadlaw05.ChannelControls", spec := "channelControls", inPlace := ["math.sqrt"], unfollowed := true, recurses := true, apart := false }
def ChannelControlsSaid : Prop := channelControlsRow.holds Tryz.pinned (OpenSpec.ofChange channelControlsSpec)

/-- ITS FALSE NEIGHBOUR: 'it returns false'. Refute it at one input. -/
def channelControlsWrong : ChangeSpec := { name := "channelControls", fn := fun _ => fun
  | [d1, d2] => { results := [.lit (.bool false)], args := [d1, d2] }
  | _ => none }
def ChannelControlsWrongFalsely : Prop := channelControlsRow.holds Tryz.pinned (OpenSpec.ofChange channelControlsWrong)

/-- 'dragheadlaw05.ChannelPlaces': WHATEVER THE INPUT: true; the input reads as it did. -/
def channelPlacesSpec : ChangeSpec := { name := "channelPlaces", fn := fun _ => fun
  | [d1, d2] => { results := [.lit (.bool true)], args := [d1, d2] }
  | _ => none }
def channelPlacesRow : OpenClaim := { program := "ytlnfjlaiclgjjaagreat", sum := "a5ebfbb4d42890d165b7180a111958f2da5a29a4f7966663636a5e4d56d7eb3a", func := "draghead/dragheadlaw05.ChannelPlaces", spec := "channelPlaces", inPlace := ["math.sqrt"], unfollowed := true, recurses := true, apart := false }
def ChannelPlacesSaid : Prop := channelPlacesRow.holds Tryz.pinned (OpenSpec.ofChange channelPlacesSpec)

/-- ITS FALSE NEIGHBOUR: 'it returns false'. Refute it at one input. -/
def channelPlacesWrong : ChangeSpec := { name := "channelPlaces", fn := fun _ => fun
  | [d1, d2] => { results := [.lit (.bool false)], args := [d1, d2] }
  | _ => none }
def ChannelPlacesWrongFalsely : Prop := channelPlacesRow.holds Tryz.pinned (OpenSpec.ofChange channelPlacesWrong)

/-- 'dragheadlaw05.ChannelQuantities': WHATEVER THE INPUT: true; the input reads as it did. -/
def channelQuantitiesSpec : ChangeSpec := { name := "channelQuantities", fn := fun _ => fun
  | [d1, d2] => { results := [.lit (.bool true)], args := [d1, d2] }
  | _ => none }
def channelQuantitiesRow : OpenClaim := { program := "ytlnfjlaiclgjjaagreat", sum := "a5ebfbb4d42890d165b7180a111958f2da5a29a4f7966663636a5e4d56d7eb3a", func := "draghead/dragheadlaw05.ChannelQuantities", spec := "channelQuantities", inPlace := ["math.sqrt"], unfollowed := true, recurses := true, apart := false }
def ChannelQuantitiesSaid : Prop := channelQuantitiesRow.holds Tryz.pinned (OpenSpec.ofChange channelQuantitiesSpec)

/-- ITS FALSE NEIGHBOUR: 'it returns false'. Refute it at one input. -/
def channelQuantitiesWrong : ChangeSpec := { name := "channelQuantities", fn := fun _ => fun
  | [d1, d2] => { results := [.lit (.bool false)], args := [d1, d2] }
  | _ => none }
def ChannelQuantitiesWrongFalsely : Prop := channelQuantitiesRow.holds Tryz.pinned (OpenSpec.ofChange channelQuantitiesWrong)

/-- 'dragheadlaw05.ChannelGrids': WHATEVER THE INPUT: true; the input reads as it did. -/
def channelGridsSpec : ChangeSpec := { name := "channelGrids", fn := fun _ => fun
  | [d1, d2] => { results := [.lit (.bool true)], args := [d1, d2] }
  | _ => none }
def channelGridsRow : OpenClaim := { program := "ytlnfjlaiclgjjaagreat", sum := "a5ebfbb4d42890d165b7180a111958f2da5a29a4f7966663636a5e4d56d7eb3a", func := "draghead/dragheadlaw05.ChannelGrids", spec := "channelGrids", inPlace := ["math.sqrt"], unfollowed := true, recurses := true, apart := false }
def ChannelGridsSaid : Prop := channelGridsRow.holds Tryz.pinned (OpenSpec.ofChange channelGridsSpec)

/-- ITS FALSE NEIGHBOUR: 'it returns false'. Refute it at one input. -/
def channelGridsWrong : ChangeSpec := { name := "channelGrids", fn := fun _ => fun
  | [d1, d2] => { results := [.lit (.bool false)], args := [d1, d2] }
  | _ => none }
def ChannelGridsWrongFalsely : Prop := channelGridsRow.holds Tryz.pinned (OpenSpec.ofChange channelGridsWrong)

/-- 'dragheadlaw05.ChannelBuffers': WHATEVER THE INPUT: true; the input reads as it did. -/
def channelBuffersSpec : ChangeSpec := { name := "channelBuffers", fn := fun _ => fun
  | [d1, d2, d3] => { results := [.lit (.bool true)], args := [d1, d2, d3] }
  | _ => none }
def channelBuffersRow : OpenClaim := { program := "ytlnfjlaiclgjjaagreat", sum := "a5ebfbb4d42890d165b7180a111958f2da5a29a4f7966663636a5e4d56d7eb3a", func := "draghead/dragheadlaw05.ChannelBuffers", spec := "channelBuffers", inPlace := ["math.sqrt"], unfollowed := true, recurses := true, apart := false }
def ChannelBuffersSaid : Prop := channelBuffersRow.holds Tryz.pinned (OpenSpec.ofChange channelBuffersSpec)

/-- ITS FALSE NEIGHBOUR: 'it returns false'. Refute it at one input. -/
def channelBuffersWrong : ChangeSpec := { name := "channelBuffers", fn := fun _ => fun
  | [d1, d2, d3] => { results := [.lit (.bool false)], args := [d1, d2, d3] }
  | _ => none }
def ChannelBuffersWrongFalsely : Prop := channelBuffersRow.holds Tryz.pinned (OpenSpec.ofChange channelBuffersWrong)

/-- 'dragheadlaw05.ChannelCuts': WHATEVER THE INPUT: true; the input reads as it did. -/
def channelCutsSpec : ChangeSpec := { name := "channelCuts", fn := fun _ => fun
  | [d1, d2, d3] => { results := [.lit (.bool true)], args := [d1, d2, d3] }
  | _ => none }
def channelCutsRow : OpenClaim := { program := "ytlnfjlaiclgjjaagreat", sum := "a5ebfbb4d42890d165b7180a111958f2da5a29a4f7966663636a5e4d56d7eb3a", func := "draghead/dragheadlaw05.ChannelCuts", spec := "channelCuts", inPlace := ["math.sqrt"], unfollowed := true, recurses := true, apart := false }
def ChannelCutsSaid : Prop := channelCutsRow.holds Tryz.pinned (OpenSpec.ofChange channelCutsSpec)

/-- ITS FALSE NEIGHBOUR: 'it returns false'. Refute it at one input. -/
def channelCutsWrong : ChangeSpec := { name := "channelCuts", fn := fun _ => fun
  | [d1, d2, d3] => { results := [.lit (.bool false)], args := [d1, d2, d3] }
  | _ => none }
def ChannelCutsWrongFalsely : Prop := channelCutsRow.holds Tryz.pinned (OpenSpec.ofChange channelCutsWrong)

/-- 'dragheadlaw05.ChannelDeeper': WHATEVER THE INPUT: true; the input reads as it did. -/
def channelDeeperSpec : ChangeSpec := { name := "channelDeeper", fn := fun _ => fun
  | [d1, d2, d3] => { results := [.lit (.bool true)], args := [d1, d2, d3] }
  | _ => none }
def channelDeeperRow : OpenClaim := { program := "ytlnfjlaiclgjjaagreat", sum := "a5ebfbb4d42890d165b7180a111958f2da5a29a4f7966663636a5e4d56d7eb3a", func := "draghead/dragheadlaw05.ChannelDeeper", spec := "channelDeeper", inPlace := ["math.sqrt"], unfollowed := true, recurses := true, apart := false }
def ChannelDeeperSaid : Prop := channelDeeperRow.holds Tryz.pinned (OpenSpec.ofChange channelDeeperSpec)

/-- ITS FALSE NEIGHBOUR: 'it returns false'. Refute it at one input. -/
def channelDeeperWrong : ChangeSpec := { name := "channelDeeper", fn := fun _ => fun
  | [d1, d2, d3] => { results := [.lit (.bool false)], args := [d1, d2, d3] }
  | _ => none }
def ChannelDeeperWrongFalsely : Prop := channelDeeperRow.holds Tryz.pinned (OpenSpec.ofChange channelDeeperWrong)

/- THE SECOND FORM. 'bulk': how many values and letters a reading holds, each counted each time it is reached (what is shared counts as often as it is met; a slice's spare places count too). A statement '..UptoSaid' is the law's where the arguments, and the package variables that the reading takes, are together of bulk at most 1048576: NARROWER than '..Said'. Prove '..Said' where nothing that the law and all that it calls make is longer than what came in: it says more and counts as full. Else prove '..UptoSaid'. A law counts once. -/
mutual
def uptoBulk {H : Type} : DataW H → Nat
  | .lit (.string bytes) => bytes.length + 1
  | .lit _ => 1
  | .nil => 1
  | .ptr d => uptoBulk d + 1
  | .slice elems spare => uptoBulkAll elems + uptoBulkAll spare + 1
  | .agg parts => uptoBulkAll parts + 1
  | .iface _ d => uptoBulk d + 1
  | .map entries => uptoBulkEntries entries + 1
  | .held _ => 1
def uptoBulkAll {H : Type} : List (DataW H) → Nat
  | [] => 0
  | d :: r => uptoBulk d + uptoBulkAll r
def uptoBulkEntries {H : Type} : List (Lit × DataW H) → Nat
  | [] => 0
  | x :: r => uptoBulkEntry x + uptoBulkEntries r
def uptoBulkEntry {H : Type} : Lit × DataW H → Nat
  | (.string bytes, d) => bytes.length + uptoBulk d + 1
  | (_, d) => uptoBulk d + 1
 end
def uptoSmall : (H : Type) → List (DataW H) → Bool := fun _ ds => decide (uptoBulkAll ds ≤ 1048576)
def OpenSpec.upto (s : _root_.Go.ChangeSpec) : _root_.Go.OpenSpec := { _root_.Go.OpenSpec.ofChange s with cond := some uptoSmall }

/-- 'dragheadlaw05.ChannelPays', WHERE WHAT IT READS IS OF BULK AT MOST 1048576: true; the input reads as it did. -/
def channelPaysUptoRow : OpenClaim := { program := "ytlnfjlaiclgjjaagreat", sum := "a5ebfbb4d42890d165b7180a111958f2da5a29a4f7966663636a5e4d56d7eb3a", func := "draghead/dragheadlaw05.ChannelPays", spec := "channelPays", inPlace := ["math.sqrt"], unfollowed := true, recurses := true, apart := false, narrowed := true }
def ChannelPaysUptoSaid : Prop := channelPaysUptoRow.holds Tryz.pinned (OpenSpec.upto channelPaysSpec)

/-- 'dragheadlaw05.ChannelNeeds', WHERE WHAT IT READS IS OF BULK AT MOST 1048576: true; the input reads as it did. -/
def channelNeedsUptoRow : OpenClaim := { program := "ytlnfjlaiclgjjaagreat", sum := "a5ebfbb4d42890d165b7180a111958f2da5a29a4f7966663636a5e4d56d7eb3a", func := "draghead/dragheadlaw05.ChannelNeeds", spec := "channelNeeds", inPlace := ["math.sqrt"], unfollowed := true, recurses := true, apart := false, narrowed := true }
def ChannelNeedsUptoSaid : Prop := channelNeedsUptoRow.holds Tryz.pinned (OpenSpec.upto channelNeedsSpec)

/-- 'dragheadlaw05.ChannelControls', WHERE WHAT IT READS IS OF BULK AT MOST 1048576: true; the input reads as it did. -/
def channelControlsUptoRow : OpenClaim := { program := "ytlnfjlaiclgjjaagreat", sum := "a5ebfbb4d42890d165b7180a111958f2da5a29a4f7966663636a5e4d56d7eb3a", func := "draghead/dragheadlaw05.ChannelControls", spec := "channelControls", inPlace := ["math.sqrt"], unfollowed := true, recurses := true, apart := false, narrowed := true }
def ChannelControlsUptoSaid : Prop := channelControlsUptoRow.holds Tryz.pinned (OpenSpec.upto channelControlsSpec)

/-- 'dragheadlaw05.ChannelPlaces', WHERE WHAT IT READS IS OF BULK AT MOST 1048576: true; the input reads as it did. -/
def channelPlacesUptoRow : OpenClaim := { program := "ytlnfjlaiclgjjaagreat", sum := "a5ebfbb4d42890d165b7180a111958f2da5a29a4f7966663636a5e4d56d7eb3a", func := "draghead/dragheadlaw05.ChannelPlaces", spec := "channelPlaces", inPlace := ["math.sqrt"], unfollowed := true, recurses := true, apart := false, narrowed := true }
def ChannelPlacesUptoSaid : Prop := channelPlacesUptoRow.holds Tryz.pinned (OpenSpec.upto channelPlacesSpec)

/-- 'dragheadlaw05.ChannelQuantities', WHERE WHAT IT READS IS OF BULK AT MOST 1048576: true; the input reads as it did. -/
def channelQuantitiesUptoRow : OpenClaim := { program := "ytlnfjlaiclgjjaagreat", sum := "a5ebfbb4d42890d165b7180a111958f2da5a29a4f7966663636a5e4d56d7eb3a", func := "draghead/dragheadlaw05.ChannelQuantities", spec := "channelQuantities", inPlace := ["math.sqrt"], unfollowed := true, recurses := true, apart := false, narrowed := true }
def ChannelQuantitiesUptoSaid : Prop := channelQuantitiesUptoRow.holds Tryz.pinned (OpenSpec.upto channelQuantitiesSpec)

/-- 'dragheadlaw05.ChannelGrids', WHERE WHAT IT READS IS OF BULK AT MOST 1048576: true; the input reads as it did. -/
def channelGridsUptoRow : OpenClaim := { program := "ytlnfjlaiclgjjaagreat", sum := "a5ebfbb4d42890d165b7180a111958f2da5a29a4f7966663636a5e4d56d7eb3a", func := "draghead/dragheadlaw05.ChannelGrids", spec := "channelGrids", inPlace := ["math.sqrt"], unfollowed := true, recurses := true, apart := false, narrowed := true }
def ChannelGridsUptoSaid : Prop := channelGridsUptoRow.holds Tryz.pinned (OpenSpec.upto channelGridsSpec)

/-- 'dragheadlaw05.ChannelBuffers', WHERE WHAT IT READS IS OF BULK AT MOST 1048576: true; the input reads as it did. -/
def channelBuffersUptoRow : OpenClaim := { program := "ytlnfjlaiclgjjaagreat", sum := "a5ebfbb4d42890d165b7180a111958f2da5a29a4f7966663636a5e4d56d7eb3a", func := "draghead/dragheadlaw05.ChannelBuffers", spec := "channelBuffers", inPlace := ["math.sqrt"], unfollowed := true, recurses := true, apart := false, narrowed := true }
def ChannelBuffersUptoSaid : Prop := channelBuffersUptoRow.holds Tryz.pinned (OpenSpec.upto channelBuffersSpec)

/-- 'dragheadlaw05.ChannelCuts', WHERE WHAT IT READS IS OF BULK AT MOST 1048576: true; the input reads as it did. -/
def channelCutsUptoRow : OpenClaim := { program := "ytlnfjlaiclgjjaagreat", sum := "a5ebfbb4d42890d165b7180a111958f2da5a29a4f7966663636a5e4d56d7eb3a", func := "draghead/dragheadlaw05.ChannelCuts", spec := "channelCuts", inPlace := ["math.sqrt"], unfollowed := true, recurses := true, apart := false, narrowed := true }
def ChannelCutsUptoSaid : Prop := channelCutsUptoRow.holds Tryz.pinned (OpenSpec.upto channelCutsSpec)

/-- 'dragheadlaw05.ChannelDeeper', WHERE WHAT IT READS IS OF BULK AT MOST 1048576: true; the input reads as it did. -/
def channelDeeperUptoRow : OpenClaim := { program := "ytlnfjlaiclgjjaagreat", sum := "a5ebfbb4d42890d165b7180a111958f2da5a29a4f7966663636a5e4d56d7eb3a", func := "draghead/dragheadlaw05.ChannelDeeper", spec := "channelDeeper", inPlace := ["math.sqrt"], unfollowed := true, recurses := true, apart := false, narrowed := true }
def ChannelDeeperUptoSaid : Prop := channelDeeperUptoRow.holds Tryz.pinned (OpenSpec.upto channelDeeperSpec)

end Rows
end Go.Proofs.YtlnfjlaiclgjjaaGreat
