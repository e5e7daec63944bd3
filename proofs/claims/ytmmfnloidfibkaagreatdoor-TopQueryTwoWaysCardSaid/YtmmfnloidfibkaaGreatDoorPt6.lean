/- Part 6: shared lemmas. -/
import Derived.Test.YtmmfnloidfibkaaGreatDoorCards
import Derived.Test.YtmmfnloidfibkaaGreatDoorTie
import Derived.Deep.DeepHandedRow
import Derived.Test.YtmmfnloidfibkaaGreatDoorPt5
set_option linter.defProp false
namespace Go.Proofs.YtmmfnloidfibkaaGreatDoor
open Go Go.Proofs Go.Proofs.Tryz
open Rows (topQueryTwoWaysRow topQueryTwoWaysSpec)
def j1:(topQueryTwoWaysRow.wf (OpenSpec.ofChange (OpenSpec.ofChange topQueryTwoWaysSpec).bare))=true:=kR
def j2:(laidOutB prog)=true:=kR
def j3:(mapsRowed prog)=true:=kR
def j4:(f3.params.all (prog.readableRec ·))=true:=kR
def j5:(namedTie prog topQueryTwoWaysRow.named (OpenSpec.ofChange topQueryTwoWaysSpec).bare.vars)=true:=kR
def j6:((topQueryTwoWaysRow.stops== []))=true:=kR
def j7:((prog.stops== []))=true:=kR
def j8:((topQueryTwoWaysRow.knobs== []))=true:=kR
def j9:((prog.stopKnobs== []))=true:=kR
def j10:((topQueryTwoWaysRow.inPlace==prog.inPlace 3))=true:=kR
def j11:((topQueryTwoWaysRow.unfollowed==prog.unfollowed 3))=true:=kR
def j12:((topQueryTwoWaysRow.recurses==prog.recurses 3))=true:=kR
def j13:((topQueryTwoWaysRow.named==prog.varsNamed 3))=true:=kR
def j14:((topQueryTwoWaysRow.maps==(f3.params.toList++(OpenSpec.ofChange topQueryTwoWaysSpec).bare.plain.varTypes prog).any (prog.mapsRec ·)))=true:=kR
def j15:((topQueryTwoWaysRow.ifaces==(f3.params.toList++(OpenSpec.ofChange topQueryTwoWaysSpec).bare.plain.varTypes prog).any (prog.ifacesRec ·)))=true:=kR
def j16:((topQueryTwoWaysRow.mapsOut==prog.mapsAmong f3.resultTypes.toList))=true:=kR
def j17:((topQueryTwoWaysRow.loops==(f3.params.toList++(OpenSpec.ofChange topQueryTwoWaysSpec).bare.plain.varTypes prog).any (prog.loopsFrom ·)))=true:=kR
def j18:((topQueryTwoWaysRow.wideKeys==(f3.params.toList++(OpenSpec.ofChange topQueryTwoWaysSpec).bare.plain.varTypes prog++f3.resultTypes.toList).any (prog.wideKeysFrom ·)))=true:=kR
def j19:((OpenSpec.ofChange topQueryTwoWaysSpec).bare.vars.all (prog.varReadable ·))=true:=kR
def j20:(f3.resultTypes.all (λt=>prog.readableRec t&&decide (t<prog.types.size)))=true:=kR
def j21:((topQueryTwoWaysRow.ifacesOut==f3.resultTypes.toList.any (prog.ifacesRec ·)))=true:=kR
def j22:((topQueryTwoWaysRow.loopsOut==f3.resultTypes.toList.any (prog.loopsFrom ·)))=true:=kR
def j23:((topQueryTwoWaysRow.plainKeys==prog.plainKeys))=true:=kR
def j24:(topQueryTwoWaysRow.shortTexts.isNone)=true:=kR
def j25:(prog.stopsHeard)=true:=kR
def j26:(prog.mayEnter)=true:=kR
def j27:((topQueryTwoWaysRow.lifted==prog.liftsFinal))=true:=kR
def j28:((prog.make==some topQueryTwoWaysRow.make))=true:=kR
def j29:((topQueryTwoWaysRow.kinds==(if topQueryTwoWaysRow.domain.isEmpty then []else f3.params.toList.map λt=>match prog.underlying t with|some (.int k)=>some k|_=>none)))=true:=kR
def j30:((topQueryTwoWaysRow.pinned==topQueryTwoWaysRow.pinnedBy))=true:=kR
def j31:((topQueryTwoWaysRow.veiled==(f3.params.toList++(OpenSpec.ofChange topQueryTwoWaysSpec).bare.plain.varTypes prog++f3.resultTypes.toList).any (prog.veiledRec ·)))=true:=kR
def j32:(topQueryTwoWaysRow.veiledFits prog f3.params.toList (f3.params.toList++(OpenSpec.ofChange topQueryTwoWaysSpec).bare.plain.varTypes prog++f3.resultTypes.toList))=true:=kR
def ZO{a b:Bool}(h:a=true)(k:b=true):(a&&b)=true:=by subst h;subst k;rfl
set_option maxRecDepth 100000 in
def closed:joinedFacts prog 3 f3 (OpenSpec.ofChange topQueryTwoWaysSpec).bare topQueryTwoWaysRow=true:=by
 unfold joinedFacts
 exact(ZO (ZO (ZO (ZO (ZO (ZO (ZO (ZO (ZO (ZO (ZO (ZO (ZO (ZO (ZO (ZO (ZO (ZO (ZO (ZO (ZO (ZO (ZO (ZO (ZO (ZO (ZO (ZO (ZO (ZO (ZO j1 j2) j3) j4) j5) j6) j7) j8) j9) j10) j11) j12) j13) j14) j15) j16) j17) j18) j19) j20) j21) j22) j23) j24) j25) j26) j27) j28) j29) j30) j31) j32)
end Go.Proofs.YtmmfnloidfibkaaGreatDoor
