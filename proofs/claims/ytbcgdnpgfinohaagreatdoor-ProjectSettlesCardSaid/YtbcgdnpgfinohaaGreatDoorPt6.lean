/- Part 6: shared lemmas. -/
import Derived.Test.YtbcgdnpgfinohaaGreatDoorCards
import Derived.Test.YtbcgdnpgfinohaaGreatDoorTie
import Derived.Deep.DeepHandedRow
import Derived.Test.YtbcgdnpgfinohaaGreatDoorPt5
set_option linter.defProp false
namespace Go.Proofs.YtbcgdnpgfinohaaGreatDoor
open Go Go.Proofs Go.Proofs.Tryz
open Rows (projectSettlesRow projectSettlesSpec)
def j1:(projectSettlesRow.wf (OpenSpec.ofChange (OpenSpec.ofChange projectSettlesSpec).bare))=true:=kR
def j2:(laidOutB prog)=true:=kR
def j3:(mapsRowed prog)=true:=kR
def j4:(f3.params.all (prog.readableRec ·))=true:=kR
def j5:(namedTie prog projectSettlesRow.named (OpenSpec.ofChange projectSettlesSpec).bare.vars)=true:=kR
def j6:((projectSettlesRow.stops== []))=true:=kR
def j7:((prog.stops== []))=true:=kR
def j8:((projectSettlesRow.knobs== []))=true:=kR
def j9:((prog.stopKnobs== []))=true:=kR
def j10:((projectSettlesRow.inPlace==prog.inPlace 3))=true:=kR
def j11:((projectSettlesRow.unfollowed==prog.unfollowed 3))=true:=kR
def j12:((projectSettlesRow.recurses==prog.recurses 3))=true:=kR
def j13:((projectSettlesRow.named==prog.varsNamed 3))=true:=kR
def j14:((projectSettlesRow.maps==(f3.params.toList++(OpenSpec.ofChange projectSettlesSpec).bare.plain.varTypes prog).any (prog.mapsRec ·)))=true:=kR
def j15:((projectSettlesRow.ifaces==(f3.params.toList++(OpenSpec.ofChange projectSettlesSpec).bare.plain.varTypes prog).any (prog.ifacesRec ·)))=true:=kR
def j16:((projectSettlesRow.mapsOut==prog.mapsAmong f3.resultTypes.toList))=true:=kR
def j17:((projectSettlesRow.loops==(f3.params.toList++(OpenSpec.ofChange projectSettlesSpec).bare.plain.varTypes prog).any (prog.loopsFrom ·)))=true:=kR
def j18:((projectSettlesRow.wideKeys==(f3.params.toList++(OpenSpec.ofChange projectSettlesSpec).bare.plain.varTypes prog++f3.resultTypes.toList).any (prog.wideKeysFrom ·)))=true:=kR
def j19:((OpenSpec.ofChange projectSettlesSpec).bare.vars.all (prog.varReadable ·))=true:=kR
def j20:(f3.resultTypes.all (λt=>prog.readableRec t&&decide (t<prog.types.size)))=true:=kR
def j21:((projectSettlesRow.ifacesOut==f3.resultTypes.toList.any (prog.ifacesRec ·)))=true:=kR
def j22:((projectSettlesRow.loopsOut==f3.resultTypes.toList.any (prog.loopsFrom ·)))=true:=kR
def j23:((projectSettlesRow.plainKeys==prog.plainKeys))=true:=kR
def j24:(projectSettlesRow.shortTexts.isNone)=true:=kR
def j25:(prog.stopsHeard)=true:=kR
def j26:(prog.mayEnter)=true:=kR
def j27:((projectSettlesRow.lifted==prog.liftsFinal))=true:=kR
def j28:((prog.make==some projectSettlesRow.make))=true:=kR
def j29:((projectSettlesRow.kinds==(if projectSettlesRow.domain.isEmpty then []else f3.params.toList.map λt=>match prog.underlying t with|some (.int k)=>some k|_=>none)))=true:=kR
def j30:((projectSettlesRow.pinned==projectSettlesRow.pinnedBy))=true:=kR
def j31:((projectSettlesRow.veiled==(f3.params.toList++(OpenSpec.ofChange projectSettlesSpec).bare.plain.varTypes prog++f3.resultTypes.toList).any (prog.veiledRec ·)))=true:=kR
def j32:(projectSettlesRow.veiledFits prog f3.params.toList (f3.params.toList++(OpenSpec.ofChange projectSettlesSpec).bare.plain.varTypes prog++f3.resultTypes.toList))=true:=kR
def ZO{a b:Bool}(h:a=true)(k:b=true):(a&&b)=true:=by subst h;subst k;rfl
set_option maxRecDepth 100000 in
def closed:joinedFacts prog 3 f3 (OpenSpec.ofChange projectSettlesSpec).bare projectSettlesRow=true:=by
 unfold joinedFacts
 exact(ZO (ZO (ZO (ZO (ZO (ZO (ZO (ZO (ZO (ZO (ZO (ZO (ZO (ZO (ZO (ZO (ZO (ZO (ZO (ZO (ZO (ZO (ZO (ZO (ZO (ZO (ZO (ZO (ZO (ZO (ZO j1 j2) j3) j4) j5) j6) j7) j8) j9) j10) j11) j12) j13) j14) j15) j16) j17) j18) j19) j20) j21) j22) j23) j24) j25) j26) j27) j28) j29) j30) j31) j32)
end Go.Proofs.YtbcgdnpgfinohaaGreatDoor
