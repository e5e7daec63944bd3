/- Part 6: lemmas that the proofs of this seat share; by itself it claims nothing. -/
import Derived.Test.YtfedmlbojaccdaaGreatDoorCards
import Derived.Test.YtfedmlbojaccdaaGreatDoorTie
import Derived.Deep.DeepHandedRow
import Derived.Test.YtfedmlbojaccdaaGreatDoorPt5
namespace Go.Proofs.YtfedmlbojaccdaaGreatDoor
open Go Go.Proofs
theorem j1 : (Rows.projectLevelsRow.wf (OpenSpec.ofChange (OpenSpec.ofChange Rows.projectLevelsSpec).bare)) = true := by kernel_rfl
theorem j2 : (laidOutB Tryz.prog) = true := by kernel_rfl
theorem j3 : (mapsRowed Tryz.prog) = true := by kernel_rfl
theorem j4 : (Tryz.f3.params.all (Tryz.prog.readableRec ·)) = true := by kernel_rfl
theorem j5 : (namedTie Tryz.prog Rows.projectLevelsRow.named (OpenSpec.ofChange Rows.projectLevelsSpec).bare.vars) = true := by kernel_rfl
theorem j6 : ((Rows.projectLevelsRow.stops == [])) = true := by kernel_rfl
theorem j7 : ((Tryz.prog.stops == [])) = true := by kernel_rfl
theorem j8 : ((Rows.projectLevelsRow.knobs == [])) = true := by kernel_rfl
theorem j9 : ((Tryz.prog.stopKnobs == [])) = true := by kernel_rfl
theorem j10 : ((Rows.projectLevelsRow.inPlace == Tryz.prog.inPlace 3)) = true := by kernel_rfl
theorem j11 : ((Rows.projectLevelsRow.unfollowed == Tryz.prog.unfollowed 3)) = true := by kernel_rfl
theorem j12 : ((Rows.projectLevelsRow.recurses == Tryz.prog.recurses 3)) = true := by kernel_rfl
theorem j13 : ((Rows.projectLevelsRow.named == Tryz.prog.varsNamed 3)) = true := by kernel_rfl
theorem j14 : ((Rows.projectLevelsRow.maps == (Tryz.f3.params.toList ++ (OpenSpec.ofChange Rows.projectLevelsSpec).bare.plain.varTypes Tryz.prog).any (Tryz.prog.mapsRec ·))) = true := by kernel_rfl
theorem j15 : ((Rows.projectLevelsRow.ifaces == (Tryz.f3.params.toList ++ (OpenSpec.ofChange Rows.projectLevelsSpec).bare.plain.varTypes Tryz.prog).any (Tryz.prog.ifacesRec ·))) = true := by kernel_rfl
theorem j16 : ((Rows.projectLevelsRow.mapsOut == Tryz.prog.mapsAmong Tryz.f3.resultTypes.toList)) = true := by kernel_rfl
theorem j17 : ((Rows.projectLevelsRow.loops == (Tryz.f3.params.toList ++ (OpenSpec.ofChange Rows.projectLevelsSpec).bare.plain.varTypes Tryz.prog).any (Tryz.prog.loopsFrom ·))) = true := by kernel_rfl
theorem j18 : ((Rows.projectLevelsRow.wideKeys == (Tryz.f3.params.toList ++ (OpenSpec.ofChange Rows.projectLevelsSpec).bare.plain.varTypes Tryz.prog ++ Tryz.f3.resultTypes.toList).any (Tryz.prog.wideKeysFrom ·))) = true := by kernel_rfl
theorem j19 : ((OpenSpec.ofChange Rows.projectLevelsSpec).bare.vars.all (Tryz.prog.varReadable ·)) = true := by kernel_rfl
theorem j20 : (Tryz.f3.resultTypes.all (fun t => Tryz.prog.readableRec t && decide (t < Tryz.prog.types.size))) = true := by kernel_rfl
theorem j21 : ((Rows.projectLevelsRow.ifacesOut == Tryz.f3.resultTypes.toList.any (Tryz.prog.ifacesRec ·))) = true := by kernel_rfl
theorem j22 : ((Rows.projectLevelsRow.loopsOut == Tryz.f3.resultTypes.toList.any (Tryz.prog.loopsFrom ·))) = true := by kernel_rfl
theorem j23 : ((Rows.projectLevelsRow.plainKeys == Tryz.prog.plainKeys)) = true := by kernel_rfl
theorem j24 : (Rows.projectLevelsRow.shortTexts.isNone) = true := by kernel_rfl
theorem j25 : (Tryz.prog.stopsHeard) = true := by kernel_rfl
theorem j26 : (Tryz.prog.mayEnter) = true := by kernel_rfl
theorem j27 : ((Rows.projectLevelsRow.lifted == Tryz.prog.liftsFinal)) = true := by kernel_rfl
theorem j28 : ((Tryz.prog.make == some Rows.projectLevelsRow.make)) = true := by kernel_rfl
theorem j29 : ((Rows.projectLevelsRow.kinds == (if Rows.projectLevelsRow.domain.isEmpty then [] else Tryz.f3.params.toList.map fun t => match Tryz.prog.underlying t with | some (.int k) => some k | _ => none))) = true := by kernel_rfl
theorem j30 : ((Rows.projectLevelsRow.pinned == Rows.projectLevelsRow.pinnedBy)) = true := by kernel_rfl
theorem j31 : ((Rows.projectLevelsRow.veiled == (Tryz.f3.params.toList ++ (OpenSpec.ofChange Rows.projectLevelsSpec).bare.plain.varTypes Tryz.prog ++ Tryz.f3.resultTypes.toList).any (Tryz.prog.veiledRec ·))) = true := by kernel_rfl
theorem j32 : (Rows.projectLevelsRow.veiledFits Tryz.prog Tryz.f3.params.toList (Tryz.f3.params.toList ++ (OpenSpec.ofChange Rows.projectLevelsSpec).bare.plain.varTypes Tryz.prog ++ Tryz.f3.resultTypes.toList)) = true := by kernel_rfl
theorem ZO {a b : Bool} (h : a = true) (k : b = true) : (a && b) = true := by subst h; subst k; rfl
set_option maxRecDepth 100000 in
theorem closed : joinedFacts Tryz.prog 3 Tryz.f3 (OpenSpec.ofChange Rows.projectLevelsSpec).bare Rows.projectLevelsRow = true := by
 unfold joinedFacts
 exact (ZO (ZO (ZO (ZO (ZO (ZO (ZO (ZO (ZO (ZO (ZO (ZO (ZO (ZO (ZO (ZO (ZO (ZO (ZO (ZO (ZO (ZO (ZO (ZO (ZO (ZO (ZO (ZO (ZO (ZO (ZO j1 j2) j3) j4) j5) j6) j7) j8) j9) j10) j11) j12) j13) j14) j15) j16) j17) j18) j19) j20) j21) j22) j23) j24) j25) j26) j27) j28) j29) j30) j31) j32)
end Go.Proofs.YtfedmlbojaccdaaGreatDoor
