/-
  No cell of these rows narrows 'for every input' (looked for: loops, veiled, ifaces, maps, wideKeys, modest, calm, conditions, laid).
  DERIVED. THE GIVEN ROWS OF THIS SEAT. 4 by the template 'for every input the law returns true; each argument reads behind the call as it read before'; 0 by the template 'total and deterministic' (their statements: YtlnfjlaiclgjjaaTotals.lean).
  GIVEN WITH THE SEED: the statements are not yours to turn. If you find one false, say at which input.
  Laid BY PROGRAM, IN A SANDBOX (cutbox-rows.mjs): the forced cells as the released guide's own fill.sh prints them over the translation 73bfd329054e331e… (all of the seat's roots in one cut). By AI agents, Wed Nov 11 2026. No macro, syntax, notation, axiom, sorry.
-/
import Derived.Test.YtlnfjlaiclgjjaaChecked
import GoSem.Claim
import GoSem.ClaimJoined
import GoSem.ClaimMapViews
import Derived.JoinedTies
import Derived.KernelRfl
namespace Go.Proofs.Ytlnfjlaiclgjjaa
/- THE CELL 'sum', in the pinned program and in every row, IS THE sha256 OF THE DUMP (.gsa) THAT YtlnfjlaiclgjjaaProg.lean LOADS. Nothing in Lean hashes anything: it is a label: what it is worth is what the hold of that sum in a sandbox is worth. -/
noncomputable def Try.pinned : Pinned := { name := "ytlnfjlaiclgjjaa", sum := "73bfd329054e331eaf13758b4202a0ef0508b621216767656c6bfc1baa6c1f0e", checked := Try.checked }
namespace Rows
def none {H : Type} : Left H := { results := [], args := [] }

/-- 'dragheadlaw05.ChannelChecks': WHATEVER THE INPUT: true; the input reads as it did. -/
def channelChecksSpec : ChangeSpec := { name := "channelChecks", fn := fun _ => fun
  | [d] => { results := [.lit (.bool true)], args := [d] }
  | _ => none }
def channelChecksRow : OpenClaim := { program := "ytlnfjlaiclgjjaa", sum := "73bfd329054e331eaf13758b4202a0ef0508b621216767656c6bfc1baa6c1f0e", func := "draghead/dragheadlaw05.ChannelChecks", spec := "channelChecks", inPlace := ["math.sqrt"], unfollowed := true, recurses := true, apart := false }
def ChannelChecksSaid : Prop := channelChecksRow.holds Try.pinned (OpenSpec.ofChange channelChecksSpec)

/-- ITS FALSE NEIGHBOUR: 'it returns false'. Refute it at one input. -/
def channelChecksWrong : ChangeSpec := { name := "channelChecks", fn := fun _ => fun
  | [d] => { results := [.lit (.bool false)], args := [d] }
  | _ => none }
def ChannelChecksWrongFalsely : Prop := channelChecksRow.holds Try.pinned (OpenSpec.ofChange channelChecksWrong)

/-- 'dragheadlaw05.ChannelSections': WHATEVER THE INPUT: true; the input reads as it did. -/
def channelSectionsSpec : ChangeSpec := { name := "channelSections", fn := fun _ => fun
  | [d1, d2] => { results := [.lit (.bool true)], args := [d1, d2] }
  | _ => none }
def channelSectionsRow : OpenClaim := { program := "ytlnfjlaiclgjjaa", sum := "73bfd329054e331eaf13758b4202a0ef0508b621216767656c6bfc1baa6c1f0e", func := "draghead/dragheadlaw05.ChannelSections", spec := "channelSections", inPlace := ["math.sqrt"], unfollowed := true, recurses := true, apart := false }
def ChannelSectionsSaid : Prop := channelSectionsRow.holds Try.pinned (OpenSpec.ofChange channelSectionsSpec)

/-- ITS FALSE NEIGHBOUR: 'it returns false'. Refute it at one input. -/
def channelSectionsWrong : ChangeSpec := { name := "channelSections", fn := fun _ => fun
  | [d1, d2] => { results := [.lit (.bool false)], args := [d1, d2] }
  | _ => none }
def ChannelSectionsWrongFalsely : Prop := channelSectionsRow.holds Try.pinned (OpenSpec.ofChange channelSectionsWrong)

/-- 'dragheadlaw05.ChannelVariants': WHATEVER THE INPUT: true; the input reads as it did. -/
def channelVariantsSpec : ChangeSpec := { name := "channelVariants", fn := fun _ => fun
  | [d1, d2] => { results := [.lit (.bool true)], args := [d1, d2] }
  | _ => none }
def channelVariantsRow : OpenClaim := { program := "ytlnfjlaiclgjjaa", sum := "73bfd329054e331eaf13758b4202a0ef0508b621216767656c6bfc1baa6c1f0e", func := "draghead/dragheadlaw05.ChannelVariants", spec := "channelVariants", inPlace := ["math.sqrt"], unfollowed := true, recurses := true, apart := false }
def ChannelVariantsSaid : Prop := channelVariantsRow.holds Try.pinned (OpenSpec.ofChange channelVariantsSpec)

/-- ITS FALSE NEIGHBOUR: 'it returns false'. Refute it at one input. -/
def channelVariantsWrong : ChangeSpec := { name := "channelVariants", fn := fun _ => fun
  | [d1, d2] => { results := [.lit (.bool false)], args := [d1, d2] }
  | _ => none }
def ChannelVariantsWrongFalsely : Prop := channelVariantsRow.holds Try.pinned (OpenSpec.ofChange channelVariantsWrong)

/-- 'dragheadlaw05.ChannelMemory': WHATEVER THE INPUT: true; the input reads as it did. -/
def channelMemorySpec : ChangeSpec := { name := "channelMemory", fn := fun _ => fun
  | [d1, d2] => { results := [.lit (.bool true)], args := [d1, d2] }
  | _ => none }
def channelMemoryRow : OpenClaim := { program := "ytlnfjlaiclgjjaa", sum := "73bfd329054e331eaf13758b4202a0ef0508b621216767656c6bfc1baa6c1f0e", func := "draghead/dragheadlaw05.ChannelMemory", spec := "channelMemory", inPlace := ["math.sqrt"], unfollowed := true, recurses := true, apart := false }
def ChannelMemorySaid : Prop := channelMemoryRow.holds Try.pinned (OpenSpec.ofChange channelMemorySpec)

/-- ITS FALSE NEIGHBOUR: 'it returns false'. Refute it at one input. -/
def channelMemoryWrong : ChangeSpec := { name := "channelMemory", fn := fun _ => fun
  | [d1, d2] => { results := [.lit (.bool false)], args := [d1, d2] }
  | _ => none }
def ChannelMemoryWrongFalsely : Prop := channelMemoryRow.holds Try.pinned (OpenSpec.ofChange channelMemoryWrong)

/- THE SECOND FORM. 'bulk': how many values and letters a reading holds, each counted each time it is reached (what is shared counts as often as it is met; a slice's spare places count too). A statement '..UptoSaid' is the law's where the arguments, and the package variables that the reading takes, are together of bulk at most 1048576: NARROWER than '..Said'. Prove '..Said' where nothing that the law and all that it calls make is longer than what came in: it says more and counts as full. Else prove '..UptoSaid'. A law counts once. -/
mutual
def uptoBulk {H : Type} : DataW H → Nat
  | .lit (.string bytes) => bytes.length + 1
  | .lit _ => 1
  | .nil => 1
  | .ptr d => uptoBulk d + 1
  | .slice elems spare => uptoBulkAll elems + uptoBulkAll spare + 1
  | .agg parts => uptoBulkAll parts + 1
  | .iface _ d => uptoBulk d + 1
  | .map entries => uptoBulkEntries entries + 1
  | .held _ => 1
def uptoBulkAll {H : Type} : List (DataW H) → Nat
  | [] => 0
  | d :: r => uptoBulk d + uptoBulkAll r
def uptoBulkEntries {H : Type} : List (Lit × DataW H) → Nat
  | [] => 0
  | x :: r => uptoBulkEntry x + uptoBulkEntries r
def uptoBulkEntry {H : Type} : Lit × DataW H → Nat
  | (.string bytes, d) => bytes.length + uptoBulk d + 1
  | (_, d) => uptoBulk d + 1
 end
def uptoSmall : (H : Type) → List (DataW H) → Bool := fun _ ds => decide (uptoBulkAll ds ≤ 1048576)
def OpenSpec.upto (s : _root_.Go.ChangeSpec) : _root_.Go.OpenSpec := { _root_.Go.OpenSpec.ofChange s with cond := some uptoSmall }

/-- 'dragheadlaw05.ChannelChecks', WHERE WHAT IT READS IS OF BULK AT MOST 1048576: true; the input reads as it did. -/
def channelChecksUptoRow : OpenClaim := { program := "ytlnfjlaiclgjjaa", sum := "73bfd329054e331eaf13758b4202a0ef0508b621216767656c6bfc1baa6c1f0e", func := "draghead/dragheadlaw05.ChannelChecks", spec := "channelChecks", inPlace := ["math.sqrt"], unfollowed := true, recurses := true, apart := false, narrowed := true }
def ChannelChecksUptoSaid : Prop := channelChecksUptoRow.holds Try.pinned (OpenSpec.upto channelChecksSpec)

/-- 'dragheadlaw05.ChannelSections', WHERE WHAT IT READS IS OF BULK AT MOST 1048576: true; the input reads as it did. -/
def channelSectionsUptoRow : OpenClaim := { program := "ytlnfjlaiclgjjaa", sum := "73bfd329054e331eaf13758b4202a0ef0508b621216767656c6bfc1baa6c1f0e", func := "draghead/dragheadlaw05.ChannelSections", spec := "channelSections", inPlace := ["math.sqrt"], unfollowed := true, recurses := true, apart := false, narrowed := true }
def ChannelSectionsUptoSaid : Prop := channelSectionsUptoRow.holds Try.pinned (OpenSpec.upto channelSectionsSpec)

/-- 'dragheadlaw05.ChannelVariants', WHERE WHAT IT READS IS OF BULK AT MOST 1048576: true; the input reads as it did. -/
def channelVariantsUptoRow : OpenClaim := { program := "ytlnfjlaiclgjjaa", sum := "73bfd329054e331eaf13758b4202a0ef0508b621216767656c6bfc1baa6c1f0e", func := "draghead/dragheadlaw05.ChannelVariants", spec := "channelVariants", inPlace := ["math.sqrt"], unfollowed := true, recurses := true, apart := false, narrowed := true }
def ChannelVariantsUptoSaid : Prop := channelVariantsUptoRow.holds Try.pinned (OpenSpec.upto channelVariantsSpec)

/-- 'dragheadlaw05.ChannelMemory', WHERE WHAT IT READS IS OF BULK AT MOST 1048576: true; the input reads as it did. -/
def channelMemoryUptoRow : OpenClaim := { program := "ytlnfjlaiclgjjaa", sum := "73bfd329054e331eaf13758b4202a0ef0508b621216767656c6bfc1baa6c1f0e", func := "draghead/dragheadlaw05.ChannelMemory", spec := "channelMemory", inPlace := ["math.sqrt"], unfollowed := true, recurses := true, apart := false, narrowed := true }
def ChannelMemoryUptoSaid : Prop := channelMemoryUptoRow.holds Try.pinned (OpenSpec.upto channelMemorySpec)

end Rows
end Go.Proofs.Ytlnfjlaiclgjjaa
