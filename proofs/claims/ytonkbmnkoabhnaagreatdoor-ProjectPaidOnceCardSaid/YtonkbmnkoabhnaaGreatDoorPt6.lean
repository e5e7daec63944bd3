/- Part 6: shared lemmas. -/
import Derived.Test.YtonkbmnkoabhnaaGreatDoorCards
import Derived.Test.YtonkbmnkoabhnaaGreatDoorTie
import Derived.Deep.DeepHandedRow
import Derived.Test.YtonkbmnkoabhnaaGreatDoorPt5
namespace Go.Proofs.YtonkbmnkoabhnaaGreatDoor
open Go Go.Proofs Go.Proofs.Tryz
open Rows (projectPaidOnceRow projectPaidOnceSpec)
theorem j1:(projectPaidOnceRow.wf (OpenSpec.ofChange (OpenSpec.ofChange projectPaidOnceSpec).bare))=true:=kR
theorem j2:(laidOutB prog)=true:=kR
theorem j3:(mapsRowed prog)=true:=kR
theorem j4:(f3.params.all (prog.readableRec ·))=true:=kR
theorem j5:(namedTie prog projectPaidOnceRow.named (OpenSpec.ofChange projectPaidOnceSpec).bare.vars)=true:=kR
theorem j6:((projectPaidOnceRow.stops== []))=true:=kR
theorem j7:((prog.stops== []))=true:=kR
theorem j8:((projectPaidOnceRow.knobs== []))=true:=kR
theorem j9:((prog.stopKnobs== []))=true:=kR
theorem j10:((projectPaidOnceRow.inPlace==prog.inPlace 3))=true:=kR
theorem j11:((projectPaidOnceRow.unfollowed==prog.unfollowed 3))=true:=kR
theorem j12:((projectPaidOnceRow.recurses==prog.recurses 3))=true:=kR
theorem j13:((projectPaidOnceRow.named==prog.varsNamed 3))=true:=kR
theorem j14:((projectPaidOnceRow.maps==(f3.params.toList++(OpenSpec.ofChange projectPaidOnceSpec).bare.plain.varTypes prog).any (prog.mapsRec ·)))=true:=kR
theorem j15:((projectPaidOnceRow.ifaces==(f3.params.toList++(OpenSpec.ofChange projectPaidOnceSpec).bare.plain.varTypes prog).any (prog.ifacesRec ·)))=true:=kR
theorem j16:((projectPaidOnceRow.mapsOut==prog.mapsAmong f3.resultTypes.toList))=true:=kR
theorem j17:((projectPaidOnceRow.loops==(f3.params.toList++(OpenSpec.ofChange projectPaidOnceSpec).bare.plain.varTypes prog).any (prog.loopsFrom ·)))=true:=kR
theorem j18:((projectPaidOnceRow.wideKeys==(f3.params.toList++(OpenSpec.ofChange projectPaidOnceSpec).bare.plain.varTypes prog++f3.resultTypes.toList).any (prog.wideKeysFrom ·)))=true:=kR
theorem j19:((OpenSpec.ofChange projectPaidOnceSpec).bare.vars.all (prog.varReadable ·))=true:=kR
theorem j20:(f3.resultTypes.all (fun t=>prog.readableRec t&&decide (t<prog.types.size)))=true:=kR
theorem j21:((projectPaidOnceRow.ifacesOut==f3.resultTypes.toList.any (prog.ifacesRec ·)))=true:=kR
theorem j22:((projectPaidOnceRow.loopsOut==f3.resultTypes.toList.any (prog.loopsFrom ·)))=true:=kR
theorem j23:((projectPaidOnceRow.plainKeys==prog.plainKeys))=true:=kR
theorem j24:(projectPaidOnceRow.shortTexts.isNone)=true:=kR
theorem j25:(prog.stopsHeard)=true:=kR
theorem j26:(prog.mayEnter)=true:=kR
theorem j27:((projectPaidOnceRow.lifted==prog.liftsFinal))=true:=kR
theorem j28:((prog.make==some projectPaidOnceRow.make))=true:=kR
theorem j29:((projectPaidOnceRow.kinds==(if projectPaidOnceRow.domain.isEmpty then []else f3.params.toList.map fun t=>match prog.underlying t with|some (.int k)=>some k|_=>none)))=true:=kR
theorem j30:((projectPaidOnceRow.pinned==projectPaidOnceRow.pinnedBy))=true:=kR
theorem j31:((projectPaidOnceRow.veiled==(f3.params.toList++(OpenSpec.ofChange projectPaidOnceSpec).bare.plain.varTypes prog++f3.resultTypes.toList).any (prog.veiledRec ·)))=true:=kR
theorem j32:(projectPaidOnceRow.veiledFits prog f3.params.toList (f3.params.toList++(OpenSpec.ofChange projectPaidOnceSpec).bare.plain.varTypes prog++f3.resultTypes.toList))=true:=kR
theorem ZO{a b:Bool}(h:a=true)(k:b=true):(a&&b)=true:=by subst h;subst k;rfl
set_option maxRecDepth 100000 in
theorem closed:joinedFacts prog 3 f3 (OpenSpec.ofChange projectPaidOnceSpec).bare projectPaidOnceRow=true:=by
 unfold joinedFacts
 exact(ZO (ZO (ZO (ZO (ZO (ZO (ZO (ZO (ZO (ZO (ZO (ZO (ZO (ZO (ZO (ZO (ZO (ZO (ZO (ZO (ZO (ZO (ZO (ZO (ZO (ZO (ZO (ZO (ZO (ZO (ZO j1 j2) j3) j4) j5) j6) j7) j8) j9) j10) j11) j12) j13) j14) j15) j16) j17) j18) j19) j20) j21) j22) j23) j24) j25) j26) j27) j28) j29) j30) j31) j32)
end Go.Proofs.YtonkbmnkoabhnaaGreatDoor
