/- Part 6: shared lemmas. -/
import Derived.Test.YtmfjekdekmhebaaGreatDoorCards
import Derived.Test.YtmfjekdekmhebaaGreatDoorTie
import Derived.Deep.DeepHandedRow
import Derived.Test.YtmfjekdekmhebaaGreatDoorPt5
set_option linter.defProp false
namespace Go.Proofs.YtmfjekdekmhebaaGreatDoor
open Go Go.Proofs Go.Proofs.Tryz
open Rows (topPaidTwoWaysRow topPaidTwoWaysSpec)
def j1:(topPaidTwoWaysRow.wf (OpenSpec.ofChange (OpenSpec.ofChange topPaidTwoWaysSpec).bare))=true:=kR
def j2:(laidOutB prog)=true:=kR
def j3:(mapsRowed prog)=true:=kR
def j4:(f3.params.all (prog.readableRec ·))=true:=kR
def j5:(namedTie prog topPaidTwoWaysRow.named (OpenSpec.ofChange topPaidTwoWaysSpec).bare.vars)=true:=kR
def j6:((topPaidTwoWaysRow.stops== []))=true:=kR
def j7:((prog.stops== []))=true:=kR
def j8:((topPaidTwoWaysRow.knobs== []))=true:=kR
def j9:((prog.stopKnobs== []))=true:=kR
def j10:((topPaidTwoWaysRow.inPlace==prog.inPlace 3))=true:=kR
def j11:((topPaidTwoWaysRow.unfollowed==prog.unfollowed 3))=true:=kR
def j12:((topPaidTwoWaysRow.recurses==prog.recurses 3))=true:=kR
def j13:((topPaidTwoWaysRow.named==prog.varsNamed 3))=true:=kR
def j14:((topPaidTwoWaysRow.maps==(f3.params.toList++(OpenSpec.ofChange topPaidTwoWaysSpec).bare.plain.varTypes prog).any (prog.mapsRec ·)))=true:=kR
def j15:((topPaidTwoWaysRow.ifaces==(f3.params.toList++(OpenSpec.ofChange topPaidTwoWaysSpec).bare.plain.varTypes prog).any (prog.ifacesRec ·)))=true:=kR
def j16:((topPaidTwoWaysRow.mapsOut==prog.mapsAmong f3.resultTypes.toList))=true:=kR
def j17:((topPaidTwoWaysRow.loops==(f3.params.toList++(OpenSpec.ofChange topPaidTwoWaysSpec).bare.plain.varTypes prog).any (prog.loopsFrom ·)))=true:=kR
def j18:((topPaidTwoWaysRow.wideKeys==(f3.params.toList++(OpenSpec.ofChange topPaidTwoWaysSpec).bare.plain.varTypes prog++f3.resultTypes.toList).any (prog.wideKeysFrom ·)))=true:=kR
def j19:((OpenSpec.ofChange topPaidTwoWaysSpec).bare.vars.all (prog.varReadable ·))=true:=kR
def j20:(f3.resultTypes.all (λt=>prog.readableRec t&&decide (t<prog.types.size)))=true:=kR
def j21:((topPaidTwoWaysRow.ifacesOut==f3.resultTypes.toList.any (prog.ifacesRec ·)))=true:=kR
def j22:((topPaidTwoWaysRow.loopsOut==f3.resultTypes.toList.any (prog.loopsFrom ·)))=true:=kR
def j23:((topPaidTwoWaysRow.plainKeys==prog.plainKeys))=true:=kR
def j24:(topPaidTwoWaysRow.shortTexts.isNone)=true:=kR
def j25:(prog.stopsHeard)=true:=kR
def j26:(prog.mayEnter)=true:=kR
def j27:((topPaidTwoWaysRow.lifted==prog.liftsFinal))=true:=kR
def j28:((prog.make==some topPaidTwoWaysRow.make))=true:=kR
def j29:((topPaidTwoWaysRow.kinds==(if topPaidTwoWaysRow.domain.isEmpty then []else f3.params.toList.map λt=>match prog.underlying t with|some (.int k)=>some k|_=>none)))=true:=kR
def j30:((topPaidTwoWaysRow.pinned==topPaidTwoWaysRow.pinnedBy))=true:=kR
def j31:((topPaidTwoWaysRow.veiled==(f3.params.toList++(OpenSpec.ofChange topPaidTwoWaysSpec).bare.plain.varTypes prog++f3.resultTypes.toList).any (prog.veiledRec ·)))=true:=kR
def j32:(topPaidTwoWaysRow.veiledFits prog f3.params.toList (f3.params.toList++(OpenSpec.ofChange topPaidTwoWaysSpec).bare.plain.varTypes prog++f3.resultTypes.toList))=true:=kR
def ZO{a b:Bool}(h:a=true)(k:b=true):(a&&b)=true:=by subst h;subst k;rfl
set_option maxRecDepth 100000 in
def closed:joinedFacts prog 3 f3 (OpenSpec.ofChange topPaidTwoWaysSpec).bare topPaidTwoWaysRow=true:=by
 unfold joinedFacts
 exact(ZO (ZO (ZO (ZO (ZO (ZO (ZO (ZO (ZO (ZO (ZO (ZO (ZO (ZO (ZO (ZO (ZO (ZO (ZO (ZO (ZO (ZO (ZO (ZO (ZO (ZO (ZO (ZO (ZO (ZO (ZO j1 j2) j3) j4) j5) j6) j7) j8) j9) j10) j11) j12) j13) j14) j15) j16) j17) j18) j19) j20) j21) j22) j23) j24) j25) j26) j27) j28) j29) j30) j31) j32)
end Go.Proofs.YtmfjekdekmhebaaGreatDoor
