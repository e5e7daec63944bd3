/- Part 6: shared lemmas. -/
import Derived.Test.YtmmcldeclaamgaaGreatDoorCards
import Derived.Test.YtmmcldeclaamgaaGreatDoorTie
import Derived.Deep.DeepHandedRow
import Derived.Test.YtmmcldeclaamgaaGreatDoorPt5
namespace Go.Proofs.YtmmcldeclaamgaaGreatDoor
open Go Go.Proofs Go.Proofs.Tryz
open Rows (projectQueriesRow projectQueriesSpec)
theorem j1:(projectQueriesRow.wf (OpenSpec.ofChange (OpenSpec.ofChange projectQueriesSpec).bare))=true:=kR
theorem j2:(laidOutB prog)=true:=kR
theorem j3:(mapsRowed prog)=true:=kR
theorem j4:(f3.params.all (prog.readableRec ·))=true:=kR
theorem j5:(namedTie prog projectQueriesRow.named (OpenSpec.ofChange projectQueriesSpec).bare.vars)=true:=kR
theorem j6:((projectQueriesRow.stops== []))=true:=kR
theorem j7:((prog.stops== []))=true:=kR
theorem j8:((projectQueriesRow.knobs== []))=true:=kR
theorem j9:((prog.stopKnobs== []))=true:=kR
theorem j10:((projectQueriesRow.inPlace==prog.inPlace 3))=true:=kR
theorem j11:((projectQueriesRow.unfollowed==prog.unfollowed 3))=true:=kR
theorem j12:((projectQueriesRow.recurses==prog.recurses 3))=true:=kR
theorem j13:((projectQueriesRow.named==prog.varsNamed 3))=true:=kR
theorem j14:((projectQueriesRow.maps==(f3.params.toList++(OpenSpec.ofChange projectQueriesSpec).bare.plain.varTypes prog).any (prog.mapsRec ·)))=true:=kR
theorem j15:((projectQueriesRow.ifaces==(f3.params.toList++(OpenSpec.ofChange projectQueriesSpec).bare.plain.varTypes prog).any (prog.ifacesRec ·)))=true:=kR
theorem j16:((projectQueriesRow.mapsOut==prog.mapsAmong f3.resultTypes.toList))=true:=kR
theorem j17:((projectQueriesRow.loops==(f3.params.toList++(OpenSpec.ofChange projectQueriesSpec).bare.plain.varTypes prog).any (prog.loopsFrom ·)))=true:=kR
theorem j18:((projectQueriesRow.wideKeys==(f3.params.toList++(OpenSpec.ofChange projectQueriesSpec).bare.plain.varTypes prog++f3.resultTypes.toList).any (prog.wideKeysFrom ·)))=true:=kR
theorem j19:((OpenSpec.ofChange projectQueriesSpec).bare.vars.all (prog.varReadable ·))=true:=kR
theorem j20:(f3.resultTypes.all (fun t=>prog.readableRec t&&decide (t<prog.types.size)))=true:=kR
theorem j21:((projectQueriesRow.ifacesOut==f3.resultTypes.toList.any (prog.ifacesRec ·)))=true:=kR
theorem j22:((projectQueriesRow.loopsOut==f3.resultTypes.toList.any (prog.loopsFrom ·)))=true:=kR
theorem j23:((projectQueriesRow.plainKeys==prog.plainKeys))=true:=kR
theorem j24:(projectQueriesRow.shortTexts.isNone)=true:=kR
theorem j25:(prog.stopsHeard)=true:=kR
theorem j26:(prog.mayEnter)=true:=kR
theorem j27:((projectQueriesRow.lifted==prog.liftsFinal))=true:=kR
theorem j28:((prog.make==some projectQueriesRow.make))=true:=kR
theorem j29:((projectQueriesRow.kinds==(if projectQueriesRow.domain.isEmpty then []else f3.params.toList.map fun t=>match prog.underlying t with|some (.int k)=>some k|_=>none)))=true:=kR
theorem j30:((projectQueriesRow.pinned==projectQueriesRow.pinnedBy))=true:=kR
theorem j31:((projectQueriesRow.veiled==(f3.params.toList++(OpenSpec.ofChange projectQueriesSpec).bare.plain.varTypes prog++f3.resultTypes.toList).any (prog.veiledRec ·)))=true:=kR
theorem j32:(projectQueriesRow.veiledFits prog f3.params.toList (f3.params.toList++(OpenSpec.ofChange projectQueriesSpec).bare.plain.varTypes prog++f3.resultTypes.toList))=true:=kR
theorem ZO{a b:Bool}(h:a=true)(k:b=true):(a&&b)=true:=by subst h;subst k;rfl
set_option maxRecDepth 100000 in
theorem closed:joinedFacts prog 3 f3 (OpenSpec.ofChange projectQueriesSpec).bare projectQueriesRow=true:=by
 unfold joinedFacts
 exact(ZO (ZO (ZO (ZO (ZO (ZO (ZO (ZO (ZO (ZO (ZO (ZO (ZO (ZO (ZO (ZO (ZO (ZO (ZO (ZO (ZO (ZO (ZO (ZO (ZO (ZO (ZO (ZO (ZO (ZO (ZO j1 j2) j3) j4) j5) j6) j7) j8) j9) j10) j11) j12) j13) j14) j15) j16) j17) j18) j19) j20) j21) j22) j23) j24) j25) j26) j27) j28) j29) j30) j31) j32)
end Go.Proofs.YtmmcldeclaamgaaGreatDoor
