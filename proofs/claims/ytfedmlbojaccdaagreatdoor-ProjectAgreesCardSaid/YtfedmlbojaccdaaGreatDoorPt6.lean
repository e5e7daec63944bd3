/- Part 6: lemmas that the proofs of this seat share; by itself it claims nothing. -/
import Derived.Test.YtfedmlbojaccdaaGreatDoorCards
import Derived.Test.YtfedmlbojaccdaaGreatDoorTie
import Derived.Deep.DeepHandedRow
import Derived.Test.YtfedmlbojaccdaaGreatDoorPt5
namespace Go.Proofs.YtfedmlbojaccdaaGreatDoor
open Go Go.Proofs
theorem j1 : (Rows.projectAgreesRow.wf (OpenSpec.ofChange (OpenSpec.ofChange Rows.projectAgreesSpec).bare)) = true := by kernel_rfl
theorem j2 : (laidOutB Tryz.prog) = true := by kernel_rfl
theorem j3 : (mapsRowed Tryz.prog) = true := by kernel_rfl
theorem j4 : (Tryz.f4.params.all (Tryz.prog.readableRec ·)) = true := by kernel_rfl
theorem j5 : (namedTie Tryz.prog Rows.projectAgreesRow.named (OpenSpec.ofChange Rows.projectAgreesSpec).bare.vars) = true := by kernel_rfl
theorem j6 : ((Rows.projectAgreesRow.stops == [])) = true := by kernel_rfl
theorem j7 : ((Tryz.prog.stops == [])) = true := by kernel_rfl
theorem j8 : ((Rows.projectAgreesRow.knobs == [])) = true := by kernel_rfl
theorem j9 : ((Tryz.prog.stopKnobs == [])) = true := by kernel_rfl
theorem j10 : ((Rows.projectAgreesRow.inPlace == Tryz.prog.inPlace 4)) = true := by kernel_rfl
theorem j11 : ((Rows.projectAgreesRow.unfollowed == Tryz.prog.unfollowed 4)) = true := by kernel_rfl
theorem j12 : ((Rows.projectAgreesRow.recurses == Tryz.prog.recurses 4)) = true := by kernel_rfl
theorem j13 : ((Rows.projectAgreesRow.named == Tryz.prog.varsNamed 4)) = true := by kernel_rfl
theorem j14 : ((Rows.projectAgreesRow.maps == (Tryz.f4.params.toList ++ (OpenSpec.ofChange Rows.projectAgreesSpec).bare.plain.varTypes Tryz.prog).any (Tryz.prog.mapsRec ·))) = true := by kernel_rfl
theorem j15 : ((Rows.projectAgreesRow.ifaces == (Tryz.f4.params.toList ++ (OpenSpec.ofChange Rows.projectAgreesSpec).bare.plain.varTypes Tryz.prog).any (Tryz.prog.ifacesRec ·))) = true := by kernel_rfl
theorem j16 : ((Rows.projectAgreesRow.mapsOut == Tryz.prog.mapsAmong Tryz.f4.resultTypes.toList)) = true := by kernel_rfl
theorem j17 : ((Rows.projectAgreesRow.loops == (Tryz.f4.params.toList ++ (OpenSpec.ofChange Rows.projectAgreesSpec).bare.plain.varTypes Tryz.prog).any (Tryz.prog.loopsFrom ·))) = true := by kernel_rfl
theorem j18 : ((Rows.projectAgreesRow.wideKeys == (Tryz.f4.params.toList ++ (OpenSpec.ofChange Rows.projectAgreesSpec).bare.plain.varTypes Tryz.prog ++ Tryz.f4.resultTypes.toList).any (Tryz.prog.wideKeysFrom ·))) = true := by kernel_rfl
theorem j19 : ((OpenSpec.ofChange Rows.projectAgreesSpec).bare.vars.all (Tryz.prog.varReadable ·)) = true := by kernel_rfl
theorem j20 : (Tryz.f4.resultTypes.all (fun t => Tryz.prog.readableRec t && decide (t < Tryz.prog.types.size))) = true := by kernel_rfl
theorem j21 : ((Rows.projectAgreesRow.ifacesOut == Tryz.f4.resultTypes.toList.any (Tryz.prog.ifacesRec ·))) = true := by kernel_rfl
theorem j22 : ((Rows.projectAgreesRow.loopsOut == Tryz.f4.resultTypes.toList.any (Tryz.prog.loopsFrom ·))) = true := by kernel_rfl
theorem j23 : ((Rows.projectAgreesRow.plainKeys == Tryz.prog.plainKeys)) = true := by kernel_rfl
theorem j24 : (Rows.projectAgreesRow.shortTexts.isNone) = true := by kernel_rfl
theorem j25 : (Tryz.prog.stopsHeard) = true := by kernel_rfl
theorem j26 : (Tryz.prog.mayEnter) = true := by kernel_rfl
theorem j27 : ((Rows.projectAgreesRow.lifted == Tryz.prog.liftsFinal)) = true := by kernel_rfl
theorem j28 : ((Tryz.prog.make == some Rows.projectAgreesRow.make)) = true := by kernel_rfl
theorem j29 : ((Rows.projectAgreesRow.kinds == (if Rows.projectAgreesRow.domain.isEmpty then [] else Tryz.f4.params.toList.map fun t => match Tryz.prog.underlying t with | some (.int k) => some k | _ => none))) = true := by kernel_rfl
theorem j30 : ((Rows.projectAgreesRow.pinned == Rows.projectAgreesRow.pinnedBy)) = true := by kernel_rfl
theorem j31 : ((Rows.projectAgreesRow.veiled == (Tryz.f4.params.toList ++ (OpenSpec.ofChange Rows.projectAgreesSpec).bare.plain.varTypes Tryz.prog ++ Tryz.f4.resultTypes.toList).any (Tryz.prog.veiledRec ·))) = true := by kernel_rfl
theorem j32 : (Rows.projectAgreesRow.veiledFits Tryz.prog Tryz.f4.params.toList (Tryz.f4.params.toList ++ (OpenSpec.ofChange Rows.projectAgreesSpec).bare.plain.varTypes Tryz.prog ++ Tryz.f4.resultTypes.toList)) = true := by kernel_rfl
theorem ZO {a b : Bool} (h : a = true) (k : b = true) : (a && b) = true := by subst h; subst k; rfl
set_option maxRecDepth 100000 in
theorem closed : joinedFacts Tryz.prog 4 Tryz.f4 (OpenSpec.ofChange Rows.projectAgreesSpec).bare Rows.projectAgreesRow = true := by
 unfold joinedFacts
 exact (ZO (ZO (ZO (ZO (ZO (ZO (ZO (ZO (ZO (ZO (ZO (ZO (ZO (ZO (ZO (ZO (ZO (ZO (ZO (ZO (ZO (ZO (ZO (ZO (ZO (ZO (ZO (ZO (ZO (ZO (ZO j1 j2) j3) j4) j5) j6) j7) j8) j9) j10) j11) j12) j13) j14) j15) j16) j17) j18) j19) j20) j21) j22) j23) j24) j25) j26) j27) j28) j29) j30) j31) j32)
end Go.Proofs.YtfedmlbojaccdaaGreatDoor
