/-
  No cell of these rows narrows 'for every input' (looked for: loops, veiled, ifaces, maps, wideKeys, modest, calm, conditions, laid).
  DERIVED. THE GIVEN ROWS OF THIS SEAT. 14 by the template 'for every input the law returns true; each argument reads behind the call as it read before'; 0 by the template 'total and deterministic' (their statements: YtfdgbddmggoilaaTotals.lean).
  GIVEN WITH THE SEED: the statements are not yours to turn. If you find one false, say at which input.
  Laid BY PROGRAM, IN A SANDBOX (cutbox-rows.mjs): the forced cells as the released guide's own fill.sh prints them over the translation d63c44e99deb59ed… (all of the seat's roots in one cut). By AI agents, Wed Nov 11 2026. No macro, syntax, notation, axiom, sorry.
-/
import Derived.Test.YtfdgbddmggoilaaChecked
import GoSem.Claim
import GoSem.ClaimJoined
import GoSem.ClaimMapViews
import Derived.JoinedTies
import Derived.KernelRfl
namespace Go.Proofs.Ytfdgbddmggoilaa
/- THE CELL 'sum', in the pinned program and in every row, IS THE sha256 OF THE DUMP (.gsa) THAT YtfdgbddmggoilaaProg.lean LOADS. Nothing in Lean hashes anything: it is a label: what it is worth is what the hold of that sum in a sandbox is worth. -/
noncomputable def Try.pinned : Pinned := { name := "ytfdgbddmggoilaa", sum := "d63c44e99deb59ed80d055c2419989aadfdc32bf6f7f5dc8c1ad8c68907f5c2f", checked := Try.checked }
namespace Rows
def none {H : Type} : Left H := { results := [], args := [] }

/-- 'dragheadlaw04.BedPlaces': WHATEVER THE INPUT: true; the input reads as it did. -/
def bedPlacesSpec : ChangeSpec := { name := "bedPlaces", fn := fun _ => fun
  | [d1, d2, d3] => { results := [.lit (.bool true)], args := [d1, d2, d3] }
  | _ => none }
def bedPlacesRow : OpenClaim := { program := "ytfdgbddmggoilaa", sum := "d63c44e99deb59ed80d055c2419989aadfdc32bf6f7f5dc8c1ad8c68907f5c2f", func := "draghead/dragheadlaw04.BedPlaces", spec := "bedPlaces", unfollowed := true, recurses := true, apart := false }
def BedPlacesSaid : Prop := bedPlacesRow.holds Try.pinned (OpenSpec.ofChange bedPlacesSpec)

/-- ITS FALSE NEIGHBOUR: 'it returns false'. Refute it at one input. -/
def bedPlacesWrong : ChangeSpec := { name := "bedPlaces", fn := fun _ => fun
  | [d1, d2, d3] => { results := [.lit (.bool false)], args := [d1, d2, d3] }
  | _ => none }
def BedPlacesWrongFalsely : Prop := bedPlacesRow.holds Try.pinned (OpenSpec.ofChange bedPlacesWrong)

/-- 'dragheadlaw04.BedChecks': WHATEVER THE INPUT: true; the input reads as it did. -/
def bedChecksSpec : ChangeSpec := { name := "bedChecks", fn := fun _ => fun
  | [d] => { results := [.lit (.bool true)], args := [d] }
  | _ => none }
def bedChecksRow : OpenClaim := { program := "ytfdgbddmggoilaa", sum := "d63c44e99deb59ed80d055c2419989aadfdc32bf6f7f5dc8c1ad8c68907f5c2f", func := "draghead/dragheadlaw04.BedChecks", spec := "bedChecks", unfollowed := true, recurses := true, apart := false }
def BedChecksSaid : Prop := bedChecksRow.holds Try.pinned (OpenSpec.ofChange bedChecksSpec)

/-- ITS FALSE NEIGHBOUR: 'it returns false'. Refute it at one input. -/
def bedChecksWrong : ChangeSpec := { name := "bedChecks", fn := fun _ => fun
  | [d] => { results := [.lit (.bool false)], args := [d] }
  | _ => none }
def BedChecksWrongFalsely : Prop := bedChecksRow.holds Try.pinned (OpenSpec.ofChange bedChecksWrong)

/-- 'dragheadlaw04.BedCompares': WHATEVER THE INPUT: true; the input reads as it did. -/
def bedComparesSpec : ChangeSpec := { name := "bedCompares", fn := fun _ => fun
  | [d1, d2] => { results := [.lit (.bool true)], args := [d1, d2] }
  | _ => none }
def bedComparesRow : OpenClaim := { program := "ytfdgbddmggoilaa", sum := "d63c44e99deb59ed80d055c2419989aadfdc32bf6f7f5dc8c1ad8c68907f5c2f", func := "draghead/dragheadlaw04.BedCompares", spec := "bedCompares", unfollowed := true, recurses := true, apart := false }
def BedComparesSaid : Prop := bedComparesRow.holds Try.pinned (OpenSpec.ofChange bedComparesSpec)

/-- ITS FALSE NEIGHBOUR: 'it returns false'. Refute it at one input. -/
def bedComparesWrong : ChangeSpec := { name := "bedCompares", fn := fun _ => fun
  | [d1, d2] => { results := [.lit (.bool false)], args := [d1, d2] }
  | _ => none }
def BedComparesWrongFalsely : Prop := bedComparesRow.holds Try.pinned (OpenSpec.ofChange bedComparesWrong)

/-- 'dragheadlaw04.BedSlices': WHATEVER THE INPUT: true; the input reads as it did. -/
def bedSlicesSpec : ChangeSpec := { name := "bedSlices", fn := fun _ => fun
  | [d1, d2, d3] => { results := [.lit (.bool true)], args := [d1, d2, d3] }
  | _ => none }
def bedSlicesRow : OpenClaim := { program := "ytfdgbddmggoilaa", sum := "d63c44e99deb59ed80d055c2419989aadfdc32bf6f7f5dc8c1ad8c68907f5c2f", func := "draghead/dragheadlaw04.BedSlices", spec := "bedSlices", unfollowed := true, recurses := true, apart := false }
def BedSlicesSaid : Prop := bedSlicesRow.holds Try.pinned (OpenSpec.ofChange bedSlicesSpec)

/-- ITS FALSE NEIGHBOUR: 'it returns false'. Refute it at one input. -/
def bedSlicesWrong : ChangeSpec := { name := "bedSlices", fn := fun _ => fun
  | [d1, d2, d3] => { results := [.lit (.bool false)], args := [d1, d2, d3] }
  | _ => none }
def BedSlicesWrongFalsely : Prop := bedSlicesRow.holds Try.pinned (OpenSpec.ofChange bedSlicesWrong)

/-- 'dragheadlaw04.BedAdds': WHATEVER THE INPUT: true; the input reads as it did. -/
def bedAddsSpec : ChangeSpec := { name := "bedAdds", fn := fun _ => fun
  | [d] => { results := [.lit (.bool true)], args := [d] }
  | _ => none }
def bedAddsRow : OpenClaim := { program := "ytfdgbddmggoilaa", sum := "d63c44e99deb59ed80d055c2419989aadfdc32bf6f7f5dc8c1ad8c68907f5c2f", func := "draghead/dragheadlaw04.BedAdds", spec := "bedAdds", unfollowed := true, recurses := true, apart := false }
def BedAddsSaid : Prop := bedAddsRow.holds Try.pinned (OpenSpec.ofChange bedAddsSpec)

/-- ITS FALSE NEIGHBOUR: 'it returns false'. Refute it at one input. -/
def bedAddsWrong : ChangeSpec := { name := "bedAdds", fn := fun _ => fun
  | [d] => { results := [.lit (.bool false)], args := [d] }
  | _ => none }
def BedAddsWrongFalsely : Prop := bedAddsRow.holds Try.pinned (OpenSpec.ofChange bedAddsWrong)

/-- 'dragheadlaw04.BedProfiles': WHATEVER THE INPUT: true; the input reads as it did. -/
def bedProfilesSpec : ChangeSpec := { name := "bedProfiles", fn := fun _ => fun
  | [d1, d2] => { results := [.lit (.bool true)], args := [d1, d2] }
  | _ => none }
def bedProfilesRow : OpenClaim := { program := "ytfdgbddmggoilaa", sum := "d63c44e99deb59ed80d055c2419989aadfdc32bf6f7f5dc8c1ad8c68907f5c2f", func := "draghead/dragheadlaw04.BedProfiles", spec := "bedProfiles", unfollowed := true, recurses := true, apart := false }
def BedProfilesSaid : Prop := bedProfilesRow.holds Try.pinned (OpenSpec.ofChange bedProfilesSpec)

/-- ITS FALSE NEIGHBOUR: 'it returns false'. Refute it at one input. -/
def bedProfilesWrong : ChangeSpec := { name := "bedProfiles", fn := fun _ => fun
  | [d1, d2] => { results := [.lit (.bool false)], args := [d1, d2] }
  | _ => none }
def BedProfilesWrongFalsely : Prop := bedProfilesRow.holds Try.pinned (OpenSpec.ofChange bedProfilesWrong)

/-- 'dragheadlaw04.BedMerges': WHATEVER THE INPUT: true; the input reads as it did. -/
def bedMergesSpec : ChangeSpec := { name := "bedMerges", fn := fun _ => fun
  | [d1, d2] => { results := [.lit (.bool true)], args := [d1, d2] }
  | _ => none }
def bedMergesRow : OpenClaim := { program := "ytfdgbddmggoilaa", sum := "d63c44e99deb59ed80d055c2419989aadfdc32bf6f7f5dc8c1ad8c68907f5c2f", func := "draghead/dragheadlaw04.BedMerges", spec := "bedMerges", unfollowed := true, recurses := true, apart := false }
def BedMergesSaid : Prop := bedMergesRow.holds Try.pinned (OpenSpec.ofChange bedMergesSpec)

/-- ITS FALSE NEIGHBOUR: 'it returns false'. Refute it at one input. -/
def bedMergesWrong : ChangeSpec := { name := "bedMerges", fn := fun _ => fun
  | [d1, d2] => { results := [.lit (.bool false)], args := [d1, d2] }
  | _ => none }
def BedMergesWrongFalsely : Prop := bedMergesRow.holds Try.pinned (OpenSpec.ofChange bedMergesWrong)

/-- 'dragheadlaw04.BedWithin': WHATEVER THE INPUT: true; the input reads as it did. -/
def bedWithinSpec : ChangeSpec := { name := "bedWithin", fn := fun _ => fun
  | [d1, d2, d3] => { results := [.lit (.bool true)], args := [d1, d2, d3] }
  | _ => none }
def bedWithinRow : OpenClaim := { program := "ytfdgbddmggoilaa", sum := "d63c44e99deb59ed80d055c2419989aadfdc32bf6f7f5dc8c1ad8c68907f5c2f", func := "draghead/dragheadlaw04.BedWithin", spec := "bedWithin", unfollowed := true, recurses := true, apart := false }
def BedWithinSaid : Prop := bedWithinRow.holds Try.pinned (OpenSpec.ofChange bedWithinSpec)

/-- ITS FALSE NEIGHBOUR: 'it returns false'. Refute it at one input. -/
def bedWithinWrong : ChangeSpec := { name := "bedWithin", fn := fun _ => fun
  | [d1, d2, d3] => { results := [.lit (.bool false)], args := [d1, d2, d3] }
  | _ => none }
def BedWithinWrongFalsely : Prop := bedWithinRow.holds Try.pinned (OpenSpec.ofChange bedWithinWrong)

/-- 'dragheadlaw04.BedAbove': WHATEVER THE INPUT: true; the input reads as it did. -/
def bedAboveSpec : ChangeSpec := { name := "bedAbove", fn := fun _ => fun
  | [d1, d2] => { results := [.lit (.bool true)], args := [d1, d2] }
  | _ => none }
def bedAboveRow : OpenClaim := { program := "ytfdgbddmggoilaa", sum := "d63c44e99deb59ed80d055c2419989aadfdc32bf6f7f5dc8c1ad8c68907f5c2f", func := "draghead/dragheadlaw04.BedAbove", spec := "bedAbove", unfollowed := true, recurses := true, apart := false }
def BedAboveSaid : Prop := bedAboveRow.holds Try.pinned (OpenSpec.ofChange bedAboveSpec)

/-- ITS FALSE NEIGHBOUR: 'it returns false'. Refute it at one input. -/
def bedAboveWrong : ChangeSpec := { name := "bedAbove", fn := fun _ => fun
  | [d1, d2] => { results := [.lit (.bool false)], args := [d1, d2] }
  | _ => none }
def BedAboveWrongFalsely : Prop := bedAboveRow.holds Try.pinned (OpenSpec.ofChange bedAboveWrong)

/-- 'dragheadlaw04.BedContours': WHATEVER THE INPUT: true; the input reads as it did. -/
def bedContoursSpec : ChangeSpec := { name := "bedContours", fn := fun _ => fun
  | [d1, d2] => { results := [.lit (.bool true)], args := [d1, d2] }
  | _ => none }
def bedContoursRow : OpenClaim := { program := "ytfdgbddmggoilaa", sum := "d63c44e99deb59ed80d055c2419989aadfdc32bf6f7f5dc8c1ad8c68907f5c2f", func := "draghead/dragheadlaw04.BedContours", spec := "bedContours", unfollowed := true, recurses := true, apart := false }
def BedContoursSaid : Prop := bedContoursRow.holds Try.pinned (OpenSpec.ofChange bedContoursSpec)

/-- ITS FALSE NEIGHBOUR: 'it returns false'. Refute it at one input. -/
def bedContoursWrong : ChangeSpec := { name := "bedContours", fn := fun _ => fun
  | [d1, d2] => { results := [.lit (.bool false)], args := [d1, d2] }
  | _ => none }
def BedContoursWrongFalsely : Prop := bedContoursRow.holds Try.pinned (OpenSpec.ofChange bedContoursWrong)

/-- 'dragheadlaw04.BedMemory': WHATEVER THE INPUT: true; the input reads as it did. -/
def bedMemorySpec : ChangeSpec := { name := "bedMemory", fn := fun _ => fun
  | [d1, d2] => { results := [.lit (.bool true)], args := [d1, d2] }
  | _ => none }
def bedMemoryRow : OpenClaim := { program := "ytfdgbddmggoilaa", sum := "d63c44e99deb59ed80d055c2419989aadfdc32bf6f7f5dc8c1ad8c68907f5c2f", func := "draghead/dragheadlaw04.BedMemory", spec := "bedMemory", unfollowed := true, recurses := true, apart := false }
def BedMemorySaid : Prop := bedMemoryRow.holds Try.pinned (OpenSpec.ofChange bedMemorySpec)

/-- ITS FALSE NEIGHBOUR: 'it returns false'. Refute it at one input. -/
def bedMemoryWrong : ChangeSpec := { name := "bedMemory", fn := fun _ => fun
  | [d1, d2] => { results := [.lit (.bool false)], args := [d1, d2] }
  | _ => none }
def BedMemoryWrongFalsely : Prop := bedMemoryRow.holds Try.pinned (OpenSpec.ofChange bedMemoryWrong)

/-- 'dragheadlaw04.BedMeshes': WHATEVER THE INPUT: true; the input reads as it did. -/
def bedMeshesSpec : ChangeSpec := { name := "bedMeshes", fn := fun _ => fun
  | [d1, d2, d3] => { results := [.lit (.bool true)], args := [d1, d2, d3] }
  | _ => none }
def bedMeshesRow : OpenClaim := { program := "ytfdgbddmggoilaa", sum := "d63c44e99deb59ed80d055c2419989aadfdc32bf6f7f5dc8c1ad8c68907f5c2f", func := "draghead/dragheadlaw04.BedMeshes", spec := "bedMeshes", unfollowed := true, recurses := true, apart := false }
def BedMeshesSaid : Prop := bedMeshesRow.holds Try.pinned (OpenSpec.ofChange bedMeshesSpec)

/-- ITS FALSE NEIGHBOUR: 'it returns false'. Refute it at one input. -/
def bedMeshesWrong : ChangeSpec := { name := "bedMeshes", fn := fun _ => fun
  | [d1, d2, d3] => { results := [.lit (.bool false)], args := [d1, d2, d3] }
  | _ => none }
def BedMeshesWrongFalsely : Prop := bedMeshesRow.holds Try.pinned (OpenSpec.ofChange bedMeshesWrong)

/-- 'dragheadlaw04.BedRoutes': WHATEVER THE INPUT: true; the input reads as it did. -/
def bedRoutesSpec : ChangeSpec := { name := "bedRoutes", fn := fun _ => fun
  | [d1, d2, d3] => { results := [.lit (.bool true)], args := [d1, d2, d3] }
  | _ => none }
def bedRoutesRow : OpenClaim := { program := "ytfdgbddmggoilaa", sum := "d63c44e99deb59ed80d055c2419989aadfdc32bf6f7f5dc8c1ad8c68907f5c2f", func := "draghead/dragheadlaw04.BedRoutes", spec := "bedRoutes", unfollowed := true, recurses := true, apart := false }
def BedRoutesSaid : Prop := bedRoutesRow.holds Try.pinned (OpenSpec.ofChange bedRoutesSpec)

/-- ITS FALSE NEIGHBOUR: 'it returns false'. Refute it at one input. -/
def bedRoutesWrong : ChangeSpec := { name := "bedRoutes", fn := fun _ => fun
  | [d1, d2, d3] => { results := [.lit (.bool false)], args := [d1, d2, d3] }
  | _ => none }
def BedRoutesWrongFalsely : Prop := bedRoutesRow.holds Try.pinned (OpenSpec.ofChange bedRoutesWrong)

/-- 'dragheadlaw04.BedProofs': WHATEVER THE INPUT: true; the input reads as it did. -/
def bedProofsSpec : ChangeSpec := { name := "bedProofs", fn := fun _ => fun
  | [d1, d2] => { results := [.lit (.bool true)], args := [d1, d2] }
  | _ => none }
def bedProofsRow : OpenClaim := { program := "ytfdgbddmggoilaa", sum := "d63c44e99deb59ed80d055c2419989aadfdc32bf6f7f5dc8c1ad8c68907f5c2f", func := "draghead/dragheadlaw04.BedProofs", spec := "bedProofs", unfollowed := true, recurses := true, apart := false }
def BedProofsSaid : Prop := bedProofsRow.holds Try.pinned (OpenSpec.ofChange bedProofsSpec)

/-- ITS FALSE NEIGHBOUR: 'it returns false'. Refute it at one input. -/
def bedProofsWrong : ChangeSpec := { name := "bedProofs", fn := fun _ => fun
  | [d1, d2] => { results := [.lit (.bool false)], args := [d1, d2] }
  | _ => none }
def BedProofsWrongFalsely : Prop := bedProofsRow.holds Try.pinned (OpenSpec.ofChange bedProofsWrong)

/- THE SECOND FORM. 'bulk': how many values and letters a reading holds, each counted each time it is reached (what is shared counts as often as it is met; a slice's spare places count too). A statement '..UptoSaid' is the law's where the arguments, and the package variables that the reading takes, are together of bulk at most 1048576: NARROWER than '..Said'. Prove '..Said' where nothing that the law and all that it calls make is longer than what came in: it says more and counts as full. Else prove '..UptoSaid'. A law counts once. -/
mutual
def uptoBulk {H : Type} : DataW H → Nat
  | .lit (.string bytes) => bytes.length + 1
  | .lit _ => 1
  | .nil => 1
  | .ptr d => uptoBulk d + 1
  | .slice elems spare => uptoBulkAll elems + uptoBulkAll spare + 1
  | .agg parts => uptoBulkAll parts + 1
  | .iface _ d => uptoBulk d + 1
  | .map entries => uptoBulkEntries entries + 1
  | .held _ => 1
def uptoBulkAll {H : Type} : List (DataW H) → Nat
  | [] => 0
  | d :: r => uptoBulk d + uptoBulkAll r
def uptoBulkEntries {H : Type} : List (Lit × DataW H) → Nat
  | [] => 0
  | x :: r => uptoBulkEntry x + uptoBulkEntries r
def uptoBulkEntry {H : Type} : Lit × DataW H → Nat
  | (.string bytes, d) => bytes.length + uptoBulk d + 1
  | (_, d) => uptoBulk d + 1
 end
def uptoSmall : (H : Type) → List (DataW H) → Bool := fun _ ds => decide (uptoBulkAll ds ≤ 1048576)
def OpenSpec.upto (s : _root_.Go.ChangeSpec) : _root_.Go.OpenSpec := { _root_.Go.OpenSpec.ofChange s with cond := some uptoSmall }

/-- 'dragheadlaw04.BedPlaces', WHERE WHAT IT READS IS OF BULK AT MOST 1048576: true; the input reads as it did. -/
def bedPlacesUptoRow : OpenClaim := { program := "ytfdgbddmggoilaa", sum := "d63c44e99deb59ed80d055c2419989aadfdc32bf6f7f5dc8c1ad8c68907f5c2f", func := "draghead/dragheadlaw04.BedPlaces", spec := "bedPlaces", unfollowed := true, recurses := true, apart := false, narrowed := true }
def BedPlacesUptoSaid : Prop := bedPlacesUptoRow.holds Try.pinned (OpenSpec.upto bedPlacesSpec)

/-- 'dragheadlaw04.BedChecks', WHERE WHAT IT READS IS OF BULK AT MOST 1048576: true; the input reads as it did. -/
def bedChecksUptoRow : OpenClaim := { program := "ytfdgbddmggoilaa", sum := "d63c44e99deb59ed80d055c2419989aadfdc32bf6f7f5dc8c1ad8c68907f5c2f", func := "draghead/dragheadlaw04.BedChecks", spec := "bedChecks", unfollowed := true, recurses := true, apart := false, narrowed := true }
def BedChecksUptoSaid : Prop := bedChecksUptoRow.holds Try.pinned (OpenSpec.upto bedChecksSpec)

/-- 'dragheadlaw04.BedCompares', WHERE WHAT IT READS IS OF BULK AT MOST 1048576: true; the input reads as it did. -/
def bedComparesUptoRow : OpenClaim := { program := "ytfdgbddmggoilaa", sum := "d63c44e99deb59ed80d055c2419989aadfdc32bf6f7f5dc8c1ad8c68907f5c2f", func := "draghead/dragheadlaw04.BedCompares", spec := "bedCompares", unfollowed := true, recurses := true, apart := false, narrowed := true }
def BedComparesUptoSaid : Prop := bedComparesUptoRow.holds Try.pinned (OpenSpec.upto bedComparesSpec)

/-- 'dragheadlaw04.BedSlices', WHERE WHAT IT READS IS OF BULK AT MOST 1048576: true; the input reads as it did. -/
def bedSlicesUptoRow : OpenClaim := { program := "ytfdgbddmggoilaa", sum := "d63c44e99deb59ed80d055c2419989aadfdc32bf6f7f5dc8c1ad8c68907f5c2f", func := "draghead/dragheadlaw04.BedSlices", spec := "bedSlices", unfollowed := true, recurses := true, apart := false, narrowed := true }
def BedSlicesUptoSaid : Prop := bedSlicesUptoRow.holds Try.pinned (OpenSpec.upto bedSlicesSpec)

/-- 'dragheadlaw04.BedAdds', WHERE WHAT IT READS IS OF BULK AT MOST 1048576: true; the input reads as it did. -/
def bedAddsUptoRow : OpenClaim := { program := "ytfdgbddmggoilaa", sum := "d63c44e99deb59ed80d055c2419989aadfdc32bf6f7f5dc8c1ad8c68907f5c2f", func := "draghead/dragheadlaw04.BedAdds", spec := "bedAdds", unfollowed := true, recurses := true, apart := false, narrowed := true }
def BedAddsUptoSaid : Prop := bedAddsUptoRow.holds Try.pinned (OpenSpec.upto bedAddsSpec)

/-- 'dragheadlaw04.BedProfiles', WHERE WHAT IT READS IS OF BULK AT MOST 1048576: true; the input reads as it did. -/
def bedProfilesUptoRow : OpenClaim := { program := "ytfdgbddmggoilaa", sum := "d63c44e99deb59ed80d055c2419989aadfdc32bf6f7f5dc8c1ad8c68907f5c2f", func := "draghead/dragheadlaw04.BedProfiles", spec := "bedProfiles", unfollowed := true, recurses := true, apart := false, narrowed := true }
def BedProfilesUptoSaid : Prop := bedProfilesUptoRow.holds Try.pinned (OpenSpec.upto bedProfilesSpec)

/-- 'dragheadlaw04.BedMerges', WHERE WHAT IT READS IS OF BULK AT MOST 1048576: true; the input reads as it did. -/
def bedMergesUptoRow : OpenClaim := { program := "ytfdgbddmggoilaa", sum := "d63c44e99deb59ed80d055c2419989aadfdc32bf6f7f5dc8c1ad8c68907f5c2f", func := "draghead/dragheadlaw04.BedMerges", spec := "bedMerges", unfollowed := true, recurses := true, apart := false, narrowed := true }
def BedMergesUptoSaid : Prop := bedMergesUptoRow.holds Try.pinned (OpenSpec.upto bedMergesSpec)

/-- 'dragheadlaw04.BedWithin', WHERE WHAT IT READS IS OF BULK AT MOST 1048576: true; the input reads as it did. -/
def bedWithinUptoRow : OpenClaim := { program := "ytfdgbddmggoilaa", sum := "d63c44e99deb59ed80d055c2419989aadfdc32bf6f7f5dc8c1ad8c68907f5c2f", func := "draghead/dragheadlaw04.BedWithin", spec := "bedWithin", unfollowed := true, recurses := true, apart := false, narrowed := true }
def BedWithinUptoSaid : Prop := bedWithinUptoRow.holds Try.pinned (OpenSpec.upto bedWithinSpec)

/-- 'dragheadlaw04.BedAbove', WHERE WHAT IT READS IS OF BULK AT MOST 1048576: true; the input reads as it did. -/
def bedAboveUptoRow : OpenClaim := { program := "ytfdgbddmggoilaa", sum := "d63c44e99deb59ed80d055c2419989aadfdc32bf6f7f5dc8c1ad8c68907f5c2f", func := "draghead/dragheadlaw04.BedAbove", spec := "bedAbove", unfollowed := true, recurses := true, apart := false, narrowed := true }
def BedAboveUptoSaid : Prop := bedAboveUptoRow.holds Try.pinned (OpenSpec.upto bedAboveSpec)

/-- 'dragheadlaw04.BedContours', WHERE WHAT IT READS IS OF BULK AT MOST 1048576: true; the input reads as it did. -/
def bedContoursUptoRow : OpenClaim := { program := "ytfdgbddmggoilaa", sum := "d63c44e99deb59ed80d055c2419989aadfdc32bf6f7f5dc8c1ad8c68907f5c2f", func := "draghead/dragheadlaw04.BedContours", spec := "bedContours", unfollowed := true, recurses := true, apart := false, narrowed := true }
def BedContoursUptoSaid : Prop := bedContoursUptoRow.holds Try.pinned (OpenSpec.upto bedContoursSpec)

/-- 'dragheadlaw04.BedMemory', WHERE WHAT IT READS IS OF BULK AT MOST 1048576: true; the input reads as it did. -/
def bedMemoryUptoRow : OpenClaim := { program := "ytfdgbddmggoilaa", sum := "d63c44e99deb59ed80d055c2419989aadfdc32bf6f7f5dc8c1ad8c68907f5c2f", func := "draghead/dragheadlaw04.BedMemory", spec := "bedMemory", unfollowed := true, recurses := true, apart := false, narrowed := true }
def BedMemoryUptoSaid : Prop := bedMemoryUptoRow.holds Try.pinned (OpenSpec.upto bedMemorySpec)

/-- 'dragheadlaw04.BedMeshes', WHERE WHAT IT READS IS OF BULK AT MOST 1048576: true; the input reads as it did. -/
def bedMeshesUptoRow : OpenClaim := { program := "ytfdgbddmggoilaa", sum := "d63c44e99deb59ed80d055c2419989aadfdc32bf6f7f5dc8c1ad8c68907f5c2f", func := "draghead/dragheadlaw04.BedMeshes", spec := "bedMeshes", unfollowed := true, recurses := true, apart := false, narrowed := true }
def BedMeshesUptoSaid : Prop := bedMeshesUptoRow.holds Try.pinned (OpenSpec.upto bedMeshesSpec)

/-- 'dragheadlaw04.BedRoutes', WHERE WHAT IT READS IS OF BULK AT MOST 1048576: true; the input reads as it did. -/
def bedRoutesUptoRow : OpenClaim := { program := "ytfdgbddmggoilaa", sum := "d63c44e99deb59ed80d055c2419989aadfdc32bf6f7f5dc8c1ad8c68907f5c2f", func := "draghead/dragheadlaw04.BedRoutes", spec := "bedRoutes", unfollowed := true, recurses := true, apart := false, narrowed := true }
def BedRoutesUptoSaid : Prop := bedRoutesUptoRow.holds Try.pinned (OpenSpec.upto bedRoutesSpec)

/-- 'dragheadlaw04.BedProofs', WHERE WHAT IT READS IS OF BULK AT MOST 1048576: true; the input reads as it did. -/
def bedProofsUptoRow : OpenClaim := { program := "ytfdgbddmggoilaa", sum := "d63c44e99deb59ed80d055c2419989aadfdc32bf6f7f5dc8c1ad8c68907f5c2f", func := "draghead/dragheadlaw04.BedProofs", spec := "bedProofs", unfollowed := true, recurses := true, apart := false, narrowed := true }
def BedProofsUptoSaid : Prop := bedProofsUptoRow.holds Try.pinned (OpenSpec.upto bedProofsSpec)

end Rows
end Go.Proofs.Ytfdgbddmggoilaa
