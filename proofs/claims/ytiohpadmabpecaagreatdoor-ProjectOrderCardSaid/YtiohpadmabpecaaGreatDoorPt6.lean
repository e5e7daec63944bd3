/- Part 6: shared lemmas. -/
import Derived.Test.YtiohpadmabpecaaGreatDoorCards
import Derived.Test.YtiohpadmabpecaaGreatDoorTie
import Derived.Deep.DeepHandedRow
import Derived.Test.YtiohpadmabpecaaGreatDoorPt5
namespace Go.Proofs.YtiohpadmabpecaaGreatDoor
open Go Go.Proofs Go.Proofs.Tryz
open Rows (projectOrderRow projectOrderSpec)
theorem j1:(projectOrderRow.wf (OpenSpec.ofChange (OpenSpec.ofChange projectOrderSpec).bare))=true:=kR
theorem j2:(laidOutB prog)=true:=kR
theorem j3:(mapsRowed prog)=true:=kR
theorem j4:(f3.params.all (prog.readableRec ·))=true:=kR
theorem j5:(namedTie prog projectOrderRow.named (OpenSpec.ofChange projectOrderSpec).bare.vars)=true:=kR
theorem j6:((projectOrderRow.stops== []))=true:=kR
theorem j7:((prog.stops== []))=true:=kR
theorem j8:((projectOrderRow.knobs== []))=true:=kR
theorem j9:((prog.stopKnobs== []))=true:=kR
theorem j10:((projectOrderRow.inPlace==prog.inPlace 3))=true:=kR
theorem j11:((projectOrderRow.unfollowed==prog.unfollowed 3))=true:=kR
theorem j12:((projectOrderRow.recurses==prog.recurses 3))=true:=kR
theorem j13:((projectOrderRow.named==prog.varsNamed 3))=true:=kR
theorem j14:((projectOrderRow.maps==(f3.params.toList++(OpenSpec.ofChange projectOrderSpec).bare.plain.varTypes prog).any (prog.mapsRec ·)))=true:=kR
theorem j15:((projectOrderRow.ifaces==(f3.params.toList++(OpenSpec.ofChange projectOrderSpec).bare.plain.varTypes prog).any (prog.ifacesRec ·)))=true:=kR
theorem j16:((projectOrderRow.mapsOut==prog.mapsAmong f3.resultTypes.toList))=true:=kR
theorem j17:((projectOrderRow.loops==(f3.params.toList++(OpenSpec.ofChange projectOrderSpec).bare.plain.varTypes prog).any (prog.loopsFrom ·)))=true:=kR
theorem j18:((projectOrderRow.wideKeys==(f3.params.toList++(OpenSpec.ofChange projectOrderSpec).bare.plain.varTypes prog++f3.resultTypes.toList).any (prog.wideKeysFrom ·)))=true:=kR
theorem j19:((OpenSpec.ofChange projectOrderSpec).bare.vars.all (prog.varReadable ·))=true:=kR
theorem j20:(f3.resultTypes.all (fun t=>prog.readableRec t&&decide (t<prog.types.size)))=true:=kR
theorem j21:((projectOrderRow.ifacesOut==f3.resultTypes.toList.any (prog.ifacesRec ·)))=true:=kR
theorem j22:((projectOrderRow.loopsOut==f3.resultTypes.toList.any (prog.loopsFrom ·)))=true:=kR
theorem j23:((projectOrderRow.plainKeys==prog.plainKeys))=true:=kR
theorem j24:(projectOrderRow.shortTexts.isNone)=true:=kR
theorem j25:(prog.stopsHeard)=true:=kR
theorem j26:(prog.mayEnter)=true:=kR
theorem j27:((projectOrderRow.lifted==prog.liftsFinal))=true:=kR
theorem j28:((prog.make==some projectOrderRow.make))=true:=kR
theorem j29:((projectOrderRow.kinds==(if projectOrderRow.domain.isEmpty then []else f3.params.toList.map fun t=>match prog.underlying t with|some (.int k)=>some k|_=>none)))=true:=kR
theorem j30:((projectOrderRow.pinned==projectOrderRow.pinnedBy))=true:=kR
theorem j31:((projectOrderRow.veiled==(f3.params.toList++(OpenSpec.ofChange projectOrderSpec).bare.plain.varTypes prog++f3.resultTypes.toList).any (prog.veiledRec ·)))=true:=kR
theorem j32:(projectOrderRow.veiledFits prog f3.params.toList (f3.params.toList++(OpenSpec.ofChange projectOrderSpec).bare.plain.varTypes prog++f3.resultTypes.toList))=true:=kR
theorem ZO{a b:Bool}(h:a=true)(k:b=true):(a&&b)=true:=by subst h;subst k;rfl
set_option maxRecDepth 100000 in
theorem closed:joinedFacts prog 3 f3 (OpenSpec.ofChange projectOrderSpec).bare projectOrderRow=true:=by
 unfold joinedFacts
 exact(ZO (ZO (ZO (ZO (ZO (ZO (ZO (ZO (ZO (ZO (ZO (ZO (ZO (ZO (ZO (ZO (ZO (ZO (ZO (ZO (ZO (ZO (ZO (ZO (ZO (ZO (ZO (ZO (ZO (ZO (ZO j1 j2) j3) j4) j5) j6) j7) j8) j9) j10) j11) j12) j13) j14) j15) j16) j17) j18) j19) j20) j21) j22) j23) j24) j25) j26) j27) j28) j29) j30) j31) j32)
end Go.Proofs.YtiohpadmabpecaaGreatDoor
