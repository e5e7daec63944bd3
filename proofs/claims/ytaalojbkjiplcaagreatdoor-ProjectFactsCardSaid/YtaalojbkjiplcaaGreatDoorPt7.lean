/- Part 7: lemmas that the proofs of this seat share; by itself it claims nothing. -/
import Derived.Shelf.Strings.Builder1
import Derived.Shelf.Strings.Builder2
import Derived.Shelf.Strings.OnBuilder
import Derived.Shelf.Small.Bits
import Derived.Shelf.Small.Strs
import Derived.Shelf.Small.Wraps
import Derived.Shelf.Strings.BuilderF
import Derived.Shelf.Strings.BuilderK
import Derived.Shelf.Utf8.RuneCount
import Derived.Shelf.Strings.Builder2Cap
import Derived.Shelf.Strconv.Atoi
import Derived.Shelf.Strconv.Itoa0
import Derived.Shelf.Strconv.Itoa1
import Derived.Shelf.LaysM
import Derived.Shelf.Strconv.Itoa2
import Derived.Shelf.Strconv.Itoa3
import Derived.Shelf.Strconv.AtoiErrFast
import Derived.Shelf.Strconv.ParseIntEmpty
import Derived.Shelf.Strconv.AtoiFail
import Derived.Shelf.Strconv.Clone
import Derived.Shelf.Strconv.SyntaxError
import Derived.Shelf.LaysC
import Derived.Shelf.Strconv.ToError
import Derived.Shelf.Strconv.AtoiErr
import Derived.Shelf.Strconv.Lower
import Derived.Shelf.Strconv.ParseUint10
import Derived.Shelf.Strconv.ParseUint10Empty
import Derived.Shelf.Strconv.ParseUint10Any
import Derived.Shelf.Strconv.ParseInt10
import Derived.Shelf.Strconv.AtoiLong
import Derived.Shelf.Strconv.AtoiInnerAll
import Derived.Shelf.Strconv.RangeError
import Derived.Shelf.Strconv.ToErrorRange
import Derived.Shelf.Strconv.AtoiAll
import Derived.Shelf.Strconv.ParseUintEmpty
import Derived.Shelf.Strconv.ParseUint10b64
import Derived.Shelf.Strconv.ParseUint10b32
import Derived.Shelf.Strconv.ParseUint10b16
import Derived.Shelf.Strconv.ParseUint10b8
import Derived.Shelf.Strconv.ParseUint10At
import Derived.Shelf.Strconv.ParseInt10At64
import Derived.Shelf.Strconv.ParseInt10At32
import Derived.Shelf.Strconv.ParseInt10At16
import Derived.Shelf.Strconv.ParseInt10At8
import Derived.Shelf.Strings.Search1
import Derived.Shelf.Strings.Search2
import Derived.Shelf.Strings.Search3
import Derived.Shelf.Strings.Cut
import Derived.Shelf.Strings.Count
import Derived.Shelf.Strings.Shaped
import Derived.Shelf.Sort.Plain
import Derived.Shelf.Strings.Prefix
import Derived.Shelf.Strings.Split
import Derived.Shelf.Strings.SplitShaped
import Derived.Shelf.Unicode.Decode
import Derived.Shelf.Strings.RuneCount
import Derived.Shelf.Strings.Explode
import Derived.Shelf.Bits.Mul64
import Derived.Shelf.Unicode.DecodeSlow
import Derived.Shelf.Unicode.DecodeAny
import Derived.Shelf.Strings.BuilderCap
import Derived.Shelf.Slices.Turned
import Derived.Ground.Names2Prog
import Derived.Shelf.Slices.ReverseS
import Derived.Shelf.Slices.Clone
import Derived.Shelf.Slices.SearchI
import Derived.Shelf.Slices.Cells
import Derived.Shelf.Slices.In.SortNone
import Derived.Ground.SlgnProg
import Derived.Shelf.SlicesE.Reverse
import Derived.Shelf.SlicesE.Clone
import Derived.Test.YtaalojbkjiplcaaGreatDoorChecked
import Derived.Shelf.Spec.SlicesInsertGrow
import Derived.Lib.LazyBuf
import Derived.Lib.SplitLaws
import Derived.Lib.AtoiTie
import Derived.Shelf.Strings.FieldsAny
import Derived.Shelf.SlSortCmp.NoneTotal
import Derived.Test.YtaalojbkjiplcaaGreatDoorProg
import Derived.WalkKit
import Derived.Lib.Walk
import Derived.Test.YtaalojbkjiplcaaGreatDoorPt6
set_option maxRecDepth 100000
set_option maxHeartbeats 2000000
namespace Go.Proofs
open Go.Shelf
def Tryz.LR:Go.Shelf.Ren:=⟨fun|171=>47|243=>108|246=>168|283=>203|284=>204|285=>205|286=>206|129=>252|317=>251|318=>253|319=>254|320=>255|337=>289|338=>290|n=>n,fun|3=>3|9=>9|2=>2|4=>4|171=>285|0=>0|53=>286|37=>146|5=>5|173=>289|212=>325|51=>326|20=>20|213=>327|46=>328|232=>392|233=>393|n=>n,fun|17=>1|18=>6|19=>7|n=>n⟩
theorem Tryz.Z1:Go.Proofs.LaysM.n171 Tryz.prog Tryz.LR:={
 mixed:=by kernel_rfl
 f129:=Tryz.func252.trans (congrArg some (by kernel_rfl))
 f171:=Tryz.func47.trans (congrArg some (by kernel_rfl))
 f243:=Tryz.func108.trans (congrArg some (by kernel_rfl))
 f246:=Tryz.func168.trans (congrArg some (by kernel_rfl))
 f283:=Tryz.func203.trans (congrArg some (by kernel_rfl))
 f284:=Tryz.func204.trans (congrArg some (by kernel_rfl))
 f285:=Tryz.func205.trans (congrArg some (by kernel_rfl))
 f286:=Tryz.func206.trans (congrArg some (by kernel_rfl))
 f317:=Tryz.func251.trans (congrArg some (by kernel_rfl))
 f318:=Tryz.func253.trans (congrArg some (by kernel_rfl))
 f319:=Tryz.func254.trans (congrArg some (by kernel_rfl))
 f320:=Tryz.func255.trans (congrArg some (by kernel_rfl))
 f337:=Tryz.func289.trans (congrArg some (by kernel_rfl))
 f338:=Tryz.func290.trans (congrArg some (by kernel_rfl))
 t0:=Tryz.underlying0
 a0:=Tryz.isAgg0
 z0:=Tryz.sizeOf0
 v0:=Tryz.zeroValue0
 t2:=Tryz.underlying2
 a2:=Tryz.isAgg2
 z2:=Tryz.sizeOf2
 v2:=Tryz.zeroValue2
 t3:=Tryz.underlying3
 a3:=Tryz.isAgg3
 z3:=Tryz.sizeOf3
 v3:=Tryz.zeroValue3
 t4:=Tryz.underlying4
 a4:=Tryz.isAgg4
 z4:=Tryz.sizeOf4
 v4:=Tryz.zeroValue4
 t5:=Tryz.underlying5
 a5:=Tryz.isAgg5
 z5:=Tryz.sizeOf5
 v5:=Tryz.zeroValue5
 t9:=Tryz.underlying9
 a9:=Tryz.isAgg9
 z9:=Tryz.sizeOf9
 v9:=Tryz.zeroValue9
 t20:=Tryz.underlying20
 a20:=Tryz.isAgg20
 z20:=Tryz.sizeOf20
 v20:=Tryz.zeroValue20
 t37:=Tryz.underlying146
 a37:=Tryz.isAgg146
 z37:=Tryz.sizeOf146
 v37:=Tryz.zeroValue146
 t46:=Tryz.underlying328
 a46:=Tryz.isAgg328
 z46:=Tryz.sizeOf328
 v46:=Tryz.zeroValue328
 t51:=Tryz.underlying326
 a51:=Tryz.isAgg326
 z51:=Tryz.sizeOf326
 v51:=Tryz.zeroValue326
 t53:=Tryz.underlying286
 a53:=Tryz.isAgg286
 z53:=Tryz.sizeOf286
 v53:=Tryz.zeroValue286
 t171:=Tryz.underlying285
 a171:=Tryz.isAgg285
 z171:=Tryz.sizeOf285
 v171:=Tryz.zeroValue285
 t173:=Tryz.underlying289
 a173:=Tryz.isAgg289
 z173:=Tryz.sizeOf289
 v173:=Tryz.zeroValue289
 t212:=Tryz.underlying325
 a212:=Tryz.isAgg325
 z212:=Tryz.sizeOf325
 v212:=Tryz.zeroValue325
 t213:=Tryz.underlying327
 a213:=Tryz.isAgg327
 z213:=Tryz.sizeOf327
 t232:=Tryz.underlying392
 a232:=Tryz.isAgg392
 z232:=Tryz.sizeOf392
 v232:=Tryz.zeroValue392
 t233:=Tryz.underlying393
 a233:=Tryz.isAgg393
 z233:=Tryz.sizeOf393
 v233:=Tryz.zeroValue393
 g17:=by kernel_rfl
 g18:=by kernel_rfl
 g19:=by kernel_rfl
 i0:=by kernel_rfl
 i2:=by kernel_rfl
 i3:=by kernel_rfl
 i4:=by kernel_rfl
 i5:=by kernel_rfl
 i9:=by kernel_rfl
 i20:=by kernel_rfl
 i37:=by kernel_rfl
 i46:=by kernel_rfl
 i51:=by kernel_rfl
 i53:=by kernel_rfl
 i171:=by kernel_rfl
 i173:=by kernel_rfl
 i212:=by kernel_rfl
 i232:=by kernel_rfl
 i233:=by kernel_rfl
 m17:=by kernel_rfl
 m18:=by kernel_rfl
 m19:=by kernel_rfl}
open Go.RowKit Go.Sort Go.Lib in
theorem Tryz.strconv_Itoa(n:Int)(h0: -9223372036854775808≤n)(h1:n≤9223372036854775807)(w:World)(aL1:Lib.TabIs Tryz.prog w "internal/strconv.uint64pow10" .u64 Lib.pow10Tab):
  Calls Tryz.prog 47 #[.int .i64 n] w fun e w'=>e=.returned (.string ⟨(Lib.itoa n).toArray⟩)∧∃k os,w'=grow (w.drewN k) os:=Any.strconv_Itoa Tryz.Z1 n h0 h1 w aL1
def Tryz.LS:Go.Shelf.Ren:=⟨fun|172=>175|244=>212|245=>213|247=>261|279=>262|280=>263|281=>264|282=>265|287=>293|316=>294|171=>47|205=>295|321=>336|322=>337|243=>108|246=>168|283=>203|284=>204|285=>205|286=>206|129=>252|317=>251|318=>253|319=>254|320=>255|337=>289|338=>290|n=>n,fun|9=>9|3=>3|75=>188|76=>189|4=>4|5=>5|167=>330|37=>146|0=>0|85=>331|2=>2|168=>333|53=>286|175=>360|46=>328|210=>364|127=>245|145=>397|143=>395|21=>21|171=>285|173=>289|212=>325|51=>326|20=>20|213=>327|232=>392|233=>393|80=>191|n=>n,fun|15=>4|16=>5|17=>1|18=>6|19=>7|n=>n⟩
theorem Tryz.GI:Go.Proofs.LaysC.n172 Tryz.prog Tryz.LS:={
 mixed:=by kernel_rfl
 f129:=Tryz.func252.trans (congrArg some (by kernel_rfl))
 f171:=Tryz.func47.trans (congrArg some (by kernel_rfl))
 f172:=Tryz.func175.trans (congrArg some (by kernel_rfl))
 f205:=Tryz.func295.trans (congrArg some (by kernel_rfl))
 f243:=Tryz.func108.trans (congrArg some (by kernel_rfl))
 f244:=Tryz.func212.trans (congrArg some (by kernel_rfl))
 f245:=Tryz.func213.trans (congrArg some (by kernel_rfl))
 f246:=Tryz.func168.trans (congrArg some (by kernel_rfl))
 f247:=Tryz.func261.trans (congrArg some (by kernel_rfl))
 f279:=Tryz.func262.trans (congrArg some (by kernel_rfl))
 f280:=Tryz.func263.trans (congrArg some (by kernel_rfl))
 f281:=Tryz.func264.trans (congrArg some (by kernel_rfl))
 f282:=Tryz.func265.trans (congrArg some (by kernel_rfl))
 f283:=Tryz.func203.trans (congrArg some (by kernel_rfl))
 f284:=Tryz.func204.trans (congrArg some (by kernel_rfl))
 f285:=Tryz.func205.trans (congrArg some (by kernel_rfl))
 f286:=Tryz.func206.trans (congrArg some (by kernel_rfl))
 f287:=Tryz.func293.trans (congrArg some (by kernel_rfl))
 f316:=Tryz.func294.trans (congrArg some (by kernel_rfl))
 f317:=Tryz.func251.trans (congrArg some (by kernel_rfl))
 f318:=Tryz.func253.trans (congrArg some (by kernel_rfl))
 f319:=Tryz.func254.trans (congrArg some (by kernel_rfl))
 f320:=Tryz.func255.trans (congrArg some (by kernel_rfl))
 f321:=Tryz.func336.trans (congrArg some (by kernel_rfl))
 f322:=Tryz.func337.trans (congrArg some (by kernel_rfl))
 f337:=Tryz.func289.trans (congrArg some (by kernel_rfl))
 f338:=Tryz.func290.trans (congrArg some (by kernel_rfl))
 t0:=Tryz.underlying0
 a0:=Tryz.isAgg0
 z0:=Tryz.sizeOf0
 v0:=Tryz.zeroValue0
 t2:=Tryz.underlying2
 a2:=Tryz.isAgg2
 z2:=Tryz.sizeOf2
 v2:=Tryz.zeroValue2
 t3:=Tryz.underlying3
 a3:=Tryz.isAgg3
 z3:=Tryz.sizeOf3
 v3:=Tryz.zeroValue3
 t4:=Tryz.underlying4
 a4:=Tryz.isAgg4
 z4:=Tryz.sizeOf4
 v4:=Tryz.zeroValue4
 t5:=Tryz.underlying5
 a5:=Tryz.isAgg5
 z5:=Tryz.sizeOf5
 v5:=Tryz.zeroValue5
 t9:=Tryz.underlying9
 a9:=Tryz.isAgg9
 z9:=Tryz.sizeOf9
 v9:=Tryz.zeroValue9
 t20:=Tryz.underlying20
 a20:=Tryz.isAgg20
 z20:=Tryz.sizeOf20
 v20:=Tryz.zeroValue20
 t21:=Tryz.underlying21
 a21:=Tryz.isAgg21
 z21:=Tryz.sizeOf21
 v21:=Tryz.zeroValue21
 t37:=Tryz.underlying146
 a37:=Tryz.isAgg146
 z37:=Tryz.sizeOf146
 v37:=Tryz.zeroValue146
 t46:=Tryz.underlying328
 a46:=Tryz.isAgg328
 z46:=Tryz.sizeOf328
 v46:=Tryz.zeroValue328
 t51:=Tryz.underlying326
 a51:=Tryz.isAgg326
 z51:=Tryz.sizeOf326
 v51:=Tryz.zeroValue326
 t53:=Tryz.underlying286
 a53:=Tryz.isAgg286
 z53:=Tryz.sizeOf286
 v53:=Tryz.zeroValue286
 t75:=Tryz.underlying188
 a75:=Tryz.isAgg188
 z75:=Tryz.sizeOf188
 v75:=Tryz.zeroValue188
 t76:=Tryz.underlying189
 a76:=Tryz.isAgg189
 z76:=Tryz.sizeOf189
 v76:=Tryz.zeroValue189
 t85:=Tryz.underlying331
 a85:=Tryz.isAgg331
 z85:=Tryz.sizeOf331
 v85:=Tryz.zeroValue331
 t127:=Tryz.underlying245
 a127:=Tryz.isAgg245
 z127:=Tryz.sizeOf245
 v127:=Tryz.zeroValue245
 t143:=Tryz.underlying395
 a143:=Tryz.isAgg395
 z143:=Tryz.sizeOf395
 v143:=Tryz.zeroValue395
 t145:=Tryz.underlying397
 a145:=Tryz.isAgg397
 z145:=Tryz.sizeOf397
 v145:=Tryz.zeroValue397
 t167:=Tryz.underlying330
 a167:=Tryz.isAgg330
 z167:=Tryz.sizeOf330
 v167:=Tryz.zeroValue330
 t168:=Tryz.underlying333
 a168:=Tryz.isAgg333
 z168:=Tryz.sizeOf333
 v168:=Tryz.zeroValue333
 t171:=Tryz.underlying285
 a171:=Tryz.isAgg285
 z171:=Tryz.sizeOf285
 v171:=Tryz.zeroValue285
 t173:=Tryz.underlying289
 a173:=Tryz.isAgg289
 z173:=Tryz.sizeOf289
 v173:=Tryz.zeroValue289
 t175:=Tryz.underlying360
 a175:=Tryz.isAgg360
 z175:=Tryz.sizeOf360
 v175:=Tryz.zeroValue360
 t210:=Tryz.underlying364
 a210:=Tryz.isAgg364
 z210:=Tryz.sizeOf364
 v210:=Tryz.zeroValue364
 t212:=Tryz.underlying325
 a212:=Tryz.isAgg325
 z212:=Tryz.sizeOf325
 v212:=Tryz.zeroValue325
 t213:=Tryz.underlying327
 a213:=Tryz.isAgg327
 z213:=Tryz.sizeOf327
 t232:=Tryz.underlying392
 a232:=Tryz.isAgg392
 z232:=Tryz.sizeOf392
 v232:=Tryz.zeroValue392
 t233:=Tryz.underlying393
 a233:=Tryz.isAgg393
 z233:=Tryz.sizeOf393
 v233:=Tryz.zeroValue393
 g15:=by kernel_rfl
 g16:=by kernel_rfl
 g17:=by kernel_rfl
 g18:=by kernel_rfl
 g19:=by kernel_rfl
 t80:=Tryz.underlying191
 a80:=Tryz.isAgg191
 z80:=Tryz.sizeOf191
 v80:=Tryz.zeroValue191
 i0:=by kernel_rfl
 i2:=by kernel_rfl
 i3:=by kernel_rfl
 i4:=by kernel_rfl
 i5:=by kernel_rfl
 i9:=by kernel_rfl
 i20:=by kernel_rfl
 i21:=by kernel_rfl
 i37:=by kernel_rfl
 i46:=by kernel_rfl
 i51:=by kernel_rfl
 i53:=by kernel_rfl
 i75:=by kernel_rfl
 i76:=by kernel_rfl
 i80:=by kernel_rfl
 i85:=by kernel_rfl
 i127:=by kernel_rfl
 i143:=by kernel_rfl
 i145:=by kernel_rfl
 i167:=by kernel_rfl
 i168:=by kernel_rfl
 i171:=by kernel_rfl
 i173:=by kernel_rfl
 i175:=by kernel_rfl
 i210:=by kernel_rfl
 i212:=by kernel_rfl
 i232:=by kernel_rfl
 i233:=by kernel_rfl
 m15:=by kernel_rfl
 m16:=by kernel_rfl
 m17:=by kernel_rfl
 m18:=by kernel_rfl
 m19:=by kernel_rfl
 c0:=by kernel_rfl
 c2:=by kernel_rfl
 c3:=by kernel_rfl
 c4:=by kernel_rfl
 c5:=by kernel_rfl
 c9:=by kernel_rfl
 c20:=by kernel_rfl
 c21:=by kernel_rfl
 c37:=by kernel_rfl
 c46:=by kernel_rfl
 c51:=by kernel_rfl
 c53:=by kernel_rfl
 c75:=by kernel_rfl
 c76:=by kernel_rfl
 c80:=by kernel_rfl
 c85:=by kernel_rfl
 c127:=by kernel_rfl
 c143:=by kernel_rfl
 c145:=by kernel_rfl
 c167:=by kernel_rfl
 c168:=by kernel_rfl
 c171:=by kernel_rfl
 c173:=by kernel_rfl
 c175:=by kernel_rfl
 c210:=by kernel_rfl
 c212:=by kernel_rfl
 c213:=by kernel_rfl
 c232:=by kernel_rfl
 c233:=by kernel_rfl}
open Go.RowKit in
theorem Tryz.strconv_Atoi_ok(s:ByteArray)(aGN:s.size≤9223372036854775806)(v:Int)(h:Lib.atoiAll s.data.toList=.ok v)(w:World):
  Calls Tryz.prog 175 #[.string s] w fun e w'=>e=.returned (.tuple #[.int .i64 v,.nilIface])∧(w'=w∨∃t,w'=Lib.bytesWorld w 5 t):=Any.strconv_Atoi_ok Tryz.GI s aGN v h w
def ZO:Lib.NumEnd Int→Bool
 |.ok _=>false
 |.range=>false
 |_=>true
open Go.RowKit in
theorem Tryz.B4(s:ByteArray)(aGP:s.size≤281474976710656)(h:ZO (Lib.atoiAll s.data.toList)=true)(ev:Value)(w:World)(hv:w.cell? ⟨4,0,none⟩=some ev)(hev:ev=.nilIface∨∃te pe,ev=.iface te pe):
  Calls Tryz.prog 175 #[.string s] w fun e w'=>∃N,e=.returned (.tuple #[.int .i64 (0),.iface 333 (.pointer (some ⟨N,0,none⟩))])∧w.heap.size≤N∧w'.heap[N]? =some (.cells #[.string ⟨#[65,116,111,105]⟩,.string s,ev] 364 (0,0))∧Below w.heap.size w w':=Any.strconv_Atoi_syntax Tryz.GI s aGP (by revert h;cases Lib.atoiAll s.data.toList <;> intro h <;> first|rfl|cases h) ev w hv hev
open Go.RowKit in
theorem Tryz.strconv_Atoi_range(s:ByteArray)(aGP:s.size≤281474976710656)(h:Lib.atoiAll s.data.toList=.range)(ev:Value)(w:World)(hv:w.cell? ⟨5,0,none⟩=some ev)(hev:ev=.nilIface∨∃te pe,ev=.iface te pe):
  Calls Tryz.prog 175 #[.string s] w fun e w'=>∃N,e=.returned (.tuple #[.int .i64 (Lib.atoiSat s.data.toList),.iface 333 (.pointer (some ⟨N,0,none⟩))])∧w.heap.size≤N∧w'.heap[N]? =some (.cells #[.string ⟨#[65,116,111,105]⟩,.string s,ev] 364 (0,0))∧Below w.heap.size w w':=Any.strconv_Atoi_range Tryz.GI s aGP h ev w hv hev
def Tryz.DK:Go.Shelf.Ren:=⟨fun|156=>43|165=>104|166=>105|169=>106|240=>166|241=>167|276=>201|277=>202|n=>n,fun|31=>97|9=>9|3=>3|4=>4|0=>0|20=>20|72=>185|76=>189|70=>183|37=>146|75=>188|127=>245|164=>282|5=>5|80=>191|n=>n,fun|n=>n⟩
theorem Tryz.TW:Go.Proofs.Lays.n156 Tryz.prog Tryz.DK:={
 mixed:=by kernel_rfl
 f156:=Tryz.func43.trans (congrArg some (by kernel_rfl))
 f165:=Tryz.func104.trans (congrArg some (by kernel_rfl))
 f166:=Tryz.func105.trans (congrArg some (by kernel_rfl))
 f169:=Tryz.func106.trans (congrArg some (by kernel_rfl))
 f240:=Tryz.func166.trans (congrArg some (by kernel_rfl))
 f241:=Tryz.func167.trans (congrArg some (by kernel_rfl))
 f276:=Tryz.func201.trans (congrArg some (by kernel_rfl))
 f277:=Tryz.func202.trans (congrArg some (by kernel_rfl))
 t0:=Tryz.underlying0
 a0:=Tryz.isAgg0
 z0:=Tryz.sizeOf0
 v0:=Tryz.zeroValue0
 t3:=Tryz.underlying3
 a3:=Tryz.isAgg3
 z3:=Tryz.sizeOf3
 v3:=Tryz.zeroValue3
 t4:=Tryz.underlying4
 a4:=Tryz.isAgg4
 z4:=Tryz.sizeOf4
 v4:=Tryz.zeroValue4
 t9:=Tryz.underlying9
 a9:=Tryz.isAgg9
 z9:=Tryz.sizeOf9
 v9:=Tryz.zeroValue9
 t20:=Tryz.underlying20
 a20:=Tryz.isAgg20
 z20:=Tryz.sizeOf20
 v20:=Tryz.zeroValue20
 t31:=Tryz.underlying97
 a31:=Tryz.isAgg97
 z31:=Tryz.sizeOf97
 v31:=Tryz.zeroValue97
 t37:=Tryz.underlying146
 a37:=Tryz.isAgg146
 z37:=Tryz.sizeOf146
 v37:=Tryz.zeroValue146
 t70:=Tryz.underlying183
 a70:=Tryz.isAgg183
 z70:=Tryz.sizeOf183
 v70:=Tryz.zeroValue183
 t72:=Tryz.underlying185
 a72:=Tryz.isAgg185
 z72:=Tryz.sizeOf185
 v72:=Tryz.zeroValue185
 t75:=Tryz.underlying188
 a75:=Tryz.isAgg188
 z75:=Tryz.sizeOf188
 v75:=Tryz.zeroValue188
 t76:=Tryz.underlying189
 a76:=Tryz.isAgg189
 z76:=Tryz.sizeOf189
 v76:=Tryz.zeroValue189
 t127:=Tryz.underlying245
 a127:=Tryz.isAgg245
 z127:=Tryz.sizeOf245
 v127:=Tryz.zeroValue245
 t164:=Tryz.underlying282
 a164:=Tryz.isAgg282
 z164:=Tryz.sizeOf282
 v164:=Tryz.zeroValue282}
theorem Tryz.qQ:Builder.Extra Tryz.prog Tryz.DK:={
 sizeBuilder:=by kernel_rfl
 liesBuilder:=by kernel_rfl
 t5:=Tryz.underlying5
 a5:=Tryz.isAgg5
 z5:=Tryz.sizeOf5
 v5:=Tryz.zeroValue5
 infoByte:=by kernel_rfl
 cellsByte:=by kernel_rfl
 sizeByte:=by kernel_rfl
 neB5:=by decide}
open Go.RowKit in
theorem Tryz.strings_Join(bk o c:Nat)(xs:List ByteArray)(sep:ByteArray)(w:World)(jV:∀(j:Nat) x,xs[j]? =some x→w.cell? ⟨bk,o+j,none⟩=some (.string x))(hbk:bk<w.heap.size)(hN:xs.length≤140737488355328)(uN:xs.length≤c)(hlen:(Lib.join (xs.map (·.data.toList)) sep.data.toList).length≤140737488355328):
  Calls Tryz.prog 43 #[.slice (some ⟨bk,o,none⟩) xs.length c,.string sep] w fun e w'=>e=.returned (.string ⟨(Lib.join (xs.map (·.data.toList)) sep.data.toList).toArray⟩)∧Below w.heap.size w w':=Any.strings_Join Tryz.TW Tryz.qQ bk o c xs sep w jV hbk hN uN hlen
open Go.RowKit in
theorem Tryz.strings_Join_none(a:Option Addr)(c:Nat)(sep:ByteArray)(w:World):
  Calls Tryz.prog 43 #[.slice a 0 c,.string sep] w fun e w'=>e=.returned (.string ⟨#[]⟩)∧w'=w:=Any.strings_Join_none Tryz.TW Tryz.qQ a c sep w
def Tryz.OL:Go.Shelf.Ren:=⟨fun|103=>214|210=>266|206=>296|n=>n,fun|9=>9|4=>4|24=>297|3=>3|n=>n,fun|n=>n⟩
theorem Tryz.aDH:Go.Proofs.Lays.n103 Tryz.prog Tryz.OL:={
 mixed:=by kernel_rfl
 f103:=Tryz.func214.trans (congrArg some (by kernel_rfl))
 f206:=Tryz.func296.trans (congrArg some (by kernel_rfl))
 f210:=Tryz.func266.trans (congrArg some (by kernel_rfl))
 t3:=Tryz.underlying3
 a3:=Tryz.isAgg3
 z3:=Tryz.sizeOf3
 v3:=Tryz.zeroValue3
 t4:=Tryz.underlying4
 a4:=Tryz.isAgg4
 z4:=Tryz.sizeOf4
 v4:=Tryz.zeroValue4
 t9:=Tryz.underlying9
 a9:=Tryz.isAgg9
 z9:=Tryz.sizeOf9
 v9:=Tryz.zeroValue9
 t24:=Tryz.underlying297
 a24:=Tryz.isAgg297
 z24:=Tryz.sizeOf297
 v24:=Tryz.zeroValue297}
open Go.RowKit in
theorem Tryz.strings_CutPrefix(s p:ByteArray)(w:World):
  Calls Tryz.prog 214 #[.string s,.string p] w fun e w'=>e=.returned (.tuple #[.string ⟨(Lib.trimPrefix s.data.toList p.data.toList).toArray⟩,.bool (Lib.hasPrefix s.data.toList p.data.toList)])∧w'=w:=Any.strings_CutPrefix Tryz.aDH s p w
def Tryz.OK:Go.Shelf.Ren:=⟨fun|106=>220|213=>270|265=>306|n=>n,fun|9=>9|3=>3|n=>n,fun|n=>n⟩
theorem Tryz.aDG:Go.Proofs.Lays.n106 Tryz.prog Tryz.OK:={
 mixed:=by kernel_rfl
 f106:=Tryz.func220.trans (congrArg some (by kernel_rfl))
 f213:=Tryz.func270.trans (congrArg some (by kernel_rfl))
 f265:=Tryz.func306.trans (congrArg some (by kernel_rfl))
 t3:=Tryz.underlying3
 a3:=Tryz.isAgg3
 z3:=Tryz.sizeOf3
 v3:=Tryz.zeroValue3
 t9:=Tryz.underlying9
 a9:=Tryz.isAgg9
 z9:=Tryz.sizeOf9
 v9:=Tryz.zeroValue9}
open Go.RowKit in
theorem Tryz.strings_Compare(a b:ByteArray)(w:World):
  Calls Tryz.prog 220 #[.string a,.string b] w fun e w'=>e=.returned (.int .i64 (Lib.compareBytes a.data.toList b.data.toList))∧w'=w:=Any.strings_Compare Tryz.aDG a b w
def Tryz.OH:Go.Shelf.Ren:=⟨fun|190=>223|125=>269|258=>271|128=>305|129=>252|302=>307|303=>308|304=>309|305=>310|306=>311|307=>312|308=>313|309=>314|310=>315|333=>343|329=>339|330=>340|334=>344|335=>345|336=>346|344=>361|n=>n,fun|31=>97|9=>9|3=>3|46=>328|0=>0|51=>326|53=>286|4=>4|183=>369|182=>368|131=>215|5=>5|218=>398|222=>402|228=>418|229=>415|n=>n,fun|n=>n⟩
theorem Tryz.TU:Go.Proofs.Lays.n190 Tryz.prog Tryz.OH:={
 mixed:=by kernel_rfl
 f125:=Tryz.func269.trans (congrArg some (by kernel_rfl))
 f128:=Tryz.func305.trans (congrArg some (by kernel_rfl))
 f129:=Tryz.func252.trans (congrArg some (by kernel_rfl))
 f190:=Tryz.func223.trans (congrArg some (by kernel_rfl))
 f258:=Tryz.func271.trans (congrArg some (by kernel_rfl))
 f302:=Tryz.func307.trans (congrArg some (by kernel_rfl))
 f303:=Tryz.func308.trans (congrArg some (by kernel_rfl))
 f304:=Tryz.func309.trans (congrArg some (by kernel_rfl))
 f305:=Tryz.func310.trans (congrArg some (by kernel_rfl))
 f306:=Tryz.func311.trans (congrArg some (by kernel_rfl))
 f307:=Tryz.func312.trans (congrArg some (by kernel_rfl))
 f308:=Tryz.func313.trans (congrArg some (by kernel_rfl))
 f309:=Tryz.func314.trans (congrArg some (by kernel_rfl))
 f310:=Tryz.func315.trans (congrArg some (by kernel_rfl))
 f329:=Tryz.func339.trans (congrArg some (by kernel_rfl))
 f330:=Tryz.func340.trans (congrArg some (by kernel_rfl))
 f333:=Tryz.func343.trans (congrArg some (by kernel_rfl))
 f334:=Tryz.func344.trans (congrArg some (by kernel_rfl))
 f335:=Tryz.func345.trans (congrArg some (by kernel_rfl))
 f336:=Tryz.func346.trans (congrArg some (by kernel_rfl))
 f344:=Tryz.func361.trans (congrArg some (by kernel_rfl))
 t0:=Tryz.underlying0
 a0:=Tryz.isAgg0
 z0:=Tryz.sizeOf0
 v0:=Tryz.zeroValue0
 t3:=Tryz.underlying3
 a3:=Tryz.isAgg3
 z3:=Tryz.sizeOf3
 v3:=Tryz.zeroValue3
 t4:=Tryz.underlying4
 a4:=Tryz.isAgg4
 z4:=Tryz.sizeOf4
 v4:=Tryz.zeroValue4
 t5:=Tryz.underlying5
 a5:=Tryz.isAgg5
 z5:=Tryz.sizeOf5
 v5:=Tryz.zeroValue5
 t9:=Tryz.underlying9
 a9:=Tryz.isAgg9
 z9:=Tryz.sizeOf9
 v9:=Tryz.zeroValue9
 t31:=Tryz.underlying97
 a31:=Tryz.isAgg97
 z31:=Tryz.sizeOf97
 v31:=Tryz.zeroValue97
 t46:=Tryz.underlying328
 a46:=Tryz.isAgg328
 z46:=Tryz.sizeOf328
 v46:=Tryz.zeroValue328
 t51:=Tryz.underlying326
 a51:=Tryz.isAgg326
 z51:=Tryz.sizeOf326
 v51:=Tryz.zeroValue326
 t53:=Tryz.underlying286
 a53:=Tryz.isAgg286
 z53:=Tryz.sizeOf286
 v53:=Tryz.zeroValue286
 t131:=Tryz.underlying215
 a131:=Tryz.isAgg215
 z131:=Tryz.sizeOf215
 v131:=Tryz.zeroValue215
 t182:=Tryz.underlying368
 a182:=Tryz.isAgg368
 z182:=Tryz.sizeOf368
 v182:=Tryz.zeroValue368
 t183:=Tryz.underlying369
 a183:=Tryz.isAgg369
 z183:=Tryz.sizeOf369
 v183:=Tryz.zeroValue369
 t218:=Tryz.underlying398
 a218:=Tryz.isAgg398
 z218:=Tryz.sizeOf398
 v218:=Tryz.zeroValue398
 t222:=Tryz.underlying402
 a222:=Tryz.isAgg402
 z222:=Tryz.sizeOf402
 v222:=Tryz.zeroValue402
 t228:=Tryz.underlying418
 a228:=Tryz.isAgg418
 z228:=Tryz.sizeOf418
 v228:=Tryz.zeroValue418
 t229:=Tryz.underlying415
 a229:=Tryz.isAgg415
 z229:=Tryz.sizeOf415
 v229:=Tryz.zeroValue415}
open Go.Sort Go.RowKit in
theorem Tryz.slices_Sort_string(blk off cap:Nat)(ss:List (List UInt8))(w:World)(hH:Holds encStr w blk off ss.toArray)(hblk:blk<w.heap.size)(lT:ss.length<4611686018427387904):
  Calls Tryz.prog 223 #[.slice (some ⟨blk,off,none⟩) ss.length cap] w fun e w'=>
   e=.returned (.tuple #[])∧∃n os,w'=grow (putRow encStr (Sort.ahead w n) blk off (ss.mergeSort fun x y=>decide (x≤y)).toArray) os:=Any.slices_Sort_string Tryz.TU blk off cap ss w hH hblk lT
open Go.RowKit Go.Sort in
theorem Tryz.slices_Sort_string_none(p:Option Addr)(cap:Nat)(w:World):
  Calls Tryz.prog 223 #[.slice p 0 cap] w fun e w'=>e=.returned (.tuple #[])∧w'=w:=Any.slices_Sort_string_none Tryz.TU p cap w
def Tryz.OI:Go.Shelf.Ren:=⟨fun|146=>51|221=>112|268=>171|138=>172|143=>173|195=>208|197=>209|218=>210|219=>211|260=>256|217=>257|225=>258|224=>259|267=>260|266=>291|314=>292|n=>n,fun|9=>9|31=>97|3=>3|4=>4|0=>0|105=>292|21=>21|5=>5|46=>328|119=>354|139=>357|138=>356|146=>358|51=>326|n=>n,fun|1=>0|3=>2|4=>3|n=>n⟩
theorem Tryz.aDF:Go.Proofs.Lays.n146 Tryz.prog Tryz.OI:={
 mixed:=by kernel_rfl
 f138:=Tryz.func172.trans (congrArg some (by kernel_rfl))
 f143:=Tryz.func173.trans (congrArg some (by kernel_rfl))
 f146:=Tryz.func51.trans (congrArg some (by kernel_rfl))
 f195:=Tryz.func208.trans (congrArg some (by kernel_rfl))
 f197:=Tryz.func209.trans (congrArg some (by kernel_rfl))
 f217:=Tryz.func257.trans (congrArg some (by kernel_rfl))
 f218:=Tryz.func210.trans (congrArg some (by kernel_rfl))
 f219:=Tryz.func211.trans (congrArg some (by kernel_rfl))
 f221:=Tryz.func112.trans (congrArg some (by kernel_rfl))
 f224:=Tryz.func259.trans (congrArg some (by kernel_rfl))
 f225:=Tryz.func258.trans (congrArg some (by kernel_rfl))
 f260:=Tryz.func256.trans (congrArg some (by kernel_rfl))
 f266:=Tryz.func291.trans (congrArg some (by kernel_rfl))
 f267:=Tryz.func260.trans (congrArg some (by kernel_rfl))
 f268:=Tryz.func171.trans (congrArg some (by kernel_rfl))
 f314:=Tryz.func292.trans (congrArg some (by kernel_rfl))
 t0:=Tryz.underlying0
 a0:=Tryz.isAgg0
 z0:=Tryz.sizeOf0
 v0:=Tryz.zeroValue0
 t3:=Tryz.underlying3
 a3:=Tryz.isAgg3
 z3:=Tryz.sizeOf3
 v3:=Tryz.zeroValue3
 t4:=Tryz.underlying4
 a4:=Tryz.isAgg4
 z4:=Tryz.sizeOf4
 v4:=Tryz.zeroValue4
 t5:=Tryz.underlying5
 a5:=Tryz.isAgg5
 z5:=Tryz.sizeOf5
 v5:=Tryz.zeroValue5
 t9:=Tryz.underlying9
 a9:=Tryz.isAgg9
 z9:=Tryz.sizeOf9
 v9:=Tryz.zeroValue9
 t21:=Tryz.underlying21
 a21:=Tryz.isAgg21
 z21:=Tryz.sizeOf21
 v21:=Tryz.zeroValue21
 t31:=Tryz.underlying97
 a31:=Tryz.isAgg97
 z31:=Tryz.sizeOf97
 v31:=Tryz.zeroValue97
 t46:=Tryz.underlying328
 a46:=Tryz.isAgg328
 z46:=Tryz.sizeOf328
 v46:=Tryz.zeroValue328
 t51:=Tryz.underlying326
 a51:=Tryz.isAgg326
 z51:=Tryz.sizeOf326
 v51:=Tryz.zeroValue326
 t105:=Tryz.underlying292
 a105:=Tryz.isAgg292
 z105:=Tryz.sizeOf292
 v105:=Tryz.zeroValue292
 t119:=Tryz.underlying354
 a119:=Tryz.isAgg354
 z119:=Tryz.sizeOf354
 t138:=Tryz.underlying356
 a138:=Tryz.isAgg356
 z138:=Tryz.sizeOf356
 v138:=Tryz.zeroValue356
 t139:=Tryz.underlying357
 a139:=Tryz.isAgg357
 z139:=Tryz.sizeOf357
 v139:=Tryz.zeroValue357
 t146:=Tryz.underlying358
 a146:=Tryz.isAgg358
 z146:=Tryz.sizeOf358
 v146:=Tryz.zeroValue358
 g1:=by kernel_rfl
 g3:=by kernel_rfl
 g4:=by kernel_rfl}
open Go.RowKit Go.Lib in
theorem Tryz.strings_Split(s sep:ByteArray)(m:Int)(w:World)(hs:s.size<4294967281)(hm:w.cell? ⟨0,0,none⟩=some (.int .i64 m))(h1:1≤sep.size):
  Calls Tryz.prog 51 #[.string s,.string sep] w fun e w'=>
   e=.returned (.slice (some ⟨w.heap.size,0,none⟩) (Lib.countB s sep+1) (Lib.countB s sep+1))∧w'=w.alloc (.cells ((Lib.splitB sep 0 (Lib.countB s sep) s).map Value.string).toArray 9):=Any.strings_Split Tryz.aDF (by kernel_rfl) s sep m w hs hm h1
def Tryz.OJ:Go.Shelf.Ren:=⟨fun|109=>174|n=>n,fun|31=>97|9=>9|3=>3|0=>0|4=>4|n=>n,fun|n=>n⟩
theorem Tryz.TX:Go.Proofs.Lays.n109 Tryz.prog Tryz.OJ:={
 mixed:=by kernel_rfl
 f109:=Tryz.func174.trans (congrArg some (by kernel_rfl))
 t0:=Tryz.underlying0
 a0:=Tryz.isAgg0
 z0:=Tryz.sizeOf0
 v0:=Tryz.zeroValue0
 t3:=Tryz.underlying3
 a3:=Tryz.isAgg3
 z3:=Tryz.sizeOf3
 v3:=Tryz.zeroValue3
 t4:=Tryz.underlying4
 a4:=Tryz.isAgg4
 z4:=Tryz.sizeOf4
 v4:=Tryz.zeroValue4
 t9:=Tryz.underlying9
 a9:=Tryz.isAgg9
 z9:=Tryz.sizeOf9
 v9:=Tryz.zeroValue9
 t31:=Tryz.underlying97
 a31:=Tryz.isAgg97
 z31:=Tryz.sizeOf97
 v31:=Tryz.zeroValue97}
open Go.Lib in
theorem Tryz.slices_Index_string(b off n c:Nat)(zs:List ByteArray)(x:ByteArray)(w:World)(hz:n≤zs.length)(aMM:n≤9223372036854775807)(hc:∀j,j<zs.length→w.cell? ⟨b,off+j,none⟩=some (.string (zs.getD j ByteArray.empty))):
  Calls Tryz.prog 174 #[.slice (some ⟨b,off,none⟩) n c,.string x] w fun e w'=>e=.returned (.int .i64 (Lib.idxOfS (zs.take n) x))∧w'=w:=Any.slices_Index_string Tryz.TX b off n c zs x w hz aMM hc
open Go.Lib in
theorem Tryz.slices_Index_string_empty(a:Option Addr)(c:Nat)(x:ByteArray)(w:World):
  Calls Tryz.prog 174 #[.slice a 0 c,.string x] w fun e w'=>e=.returned (.int .i64 (Lib.idxOfS [] x))∧w'=w:=Any.slices_Index_string_empty Tryz.TX a c x w
end Go.Proofs
namespace Go.Ch
open Go Go.Ax Go.Proofs Go.Proofs.Tryz Go.RowKit
theorem l9{M:Mem}{w w':World}(h:kF M w)(hb:Below w.heap.size w w'):kF M w':=by
 intro b o u e
 have hc:=h b o u e
 have fR:b<w.heap.size:=by
  rcases Nat.lt_or_ge b w.heap.size with h'|h'
  ·exact h'
  ·simp[World.cell?,Array.getElem?_eq_none h']at hc
 have:w'.heap[b]? =w.heap[b]? :=hb.block b fR
 simp only [World.cell?,this]at hc ⊢
 exact hc
def vR(M:Mem)(w w':World):Mem:=fun b o=>if w.heap.size≤b then w'.cell? ⟨b,o,none⟩else M b o
theorem OD{M:Mem}{w w':World}(h:kF M w):Grow w.heap.size M (vR M w w'):=by
 refine⟨fun b o u e=>?_,fun b o u e=>?_⟩
 ·have hc:=h b o u e
  have fR:¬w.heap.size≤b:=fun h'=>by simp[World.cell?,Array.getElem?_eq_none h']at hc
  simp only [vR,if_neg fR];exact e
 ·simp only [vR]at e
  split at e
  ·rename_i h';exact .inr h'
  ·exact .inl e
theorem V0{M:Mem}{w w':World}(h:kF M w)(hb:Below w.heap.size w w'):kF (vR M w w') w':=by
 intro b o u e
 simp only [vR]at e
 split at e
 ·exact e
 ·exact l9 h hb b o u e
theorem B3{x:aB6}{w:World}(h:BT x w){g:Nat}{t:Array Value}(m:(g,t)∈rH x)(o:Nat):w.cell? ⟨g,o,none⟩=t[o]? :=by
 obtain⟨e,fr,c⟩:=h g t m
 simp[World.cell?,c]
theorem aFK{x:aB6}{w:World}(h:BT x w){g:Nat}{name:String}{k:IntKind}{zs:List Int}(hn:prog.globalNamed name=some g)(m:(g,(zs.map fun z=>Value.int k z).toArray)∈rH x):Lib.TabIs prog w name k zs:=by
 obtain⟨e,fr,c⟩:=h g _ m
 simp[Lib.TabIs,World.var?,hn,c]
theorem C4(n:Int)(h0: -9223372036854775808≤n)(h1:n≤9223372036854775807):aF prog 47 [vI n] (vT (Lib.itoa n)):=by
 refine⟨call47,fun M w vs hg hr hM=>?_⟩
 match vs,hr with
 |[v],⟨h,_⟩=>
  obtain rfl:v=.int .i64 n:=h
  obtain⟨x,hx⟩:=hg
  refine(Tryz.strconv_Itoa n h0 h1 w (aFK hx (g:=1) kR (by simp[rH,ZJ]))).mono ?_
  rintro e w' ⟨rfl,k,os,rfl⟩
  have hb:Below w.heap.size w (Sort.grow (w.drewN k) os):=⟨rfl,rfl,rfl,by show w.heap.size≤(w.heap++os).size;rw[Array.size_append];omega,fun _ hj=>Sort.heap_grow_old (w.drewN k) os hj⟩
  exact⟨_,M,rfl,rfl,Grow.refl _ _,l9 hM hb,⟨hb,oO⟩⟩
def atN(l:List UInt8):Int:=match Lib.atoiAll l with|.ok v=>v|.range=>Lib.atoiSat l|_=>0
def SZ(l:List UInt8):Bool:=match Lib.atoiAll l with|.ok _=>false|_=>true
theorem Atoi(l:List UInt8)(hl:l.length≤281474976710656):aF prog 175 [vT l] (.t [.s (.d (.val (.int .i64 (atN l)))),.s (.d (.err (SZ l)))]):=by
 refine⟨call175,fun M w vs hg hr hM=>?_⟩
 match vs,hr with
 |[v],⟨h,_⟩=>
  obtain rfl:v=.string (bs l):=h
  obtain⟨x,hx⟩:=hg
  have hs:(bs l).size≤281474976710656:=by rw[aW];exact hl
  cases ha:Lib.atoiAll l with
  |ok n=>
   refine(Tryz.strconv_Atoi_ok (bs l) oM n ha w).mono ?_
   rintro e w' ⟨rfl,hw⟩
   have hb:Below w.heap.size w w':=by
    rcases hw with rfl|⟨t,rfl⟩
    ·exact Below.refl _ _
    ·exact Lib.bytesWorld_below _ _ _
   refine⟨_,M,rfl,?_,Grow.refl _ _,l9 hM hb,⟨hb,oO⟩⟩
   simp only [atN,SZ,ha]
   exact⟨[_,_],rfl,rfl,.inl ⟨rfl,rfl⟩,oO⟩
  |range=>
   refine(Tryz.strconv_Atoi_range (bs l) hs ha (.iface x.t3 x.p3) w (by rw[B3 hx (t:= #[.iface x.t3 x.p3]) (by simp[rH])];rfl) (.inr ⟨_,_,rfl⟩)).mono ?_
   rintro e w' ⟨N,rfl,_,_,hb⟩
   refine⟨_,M,rfl,?_,Grow.refl _ _,l9 hM hb,⟨hb,oO⟩⟩
   simp only [atN,SZ,ha]
   exact⟨[_,_],rfl,rfl,.inr ⟨rfl,_,_,rfl⟩,oO⟩
  |_=>
   refine(Tryz.B4 (bs l) hs (by show ZO (Lib.atoiAll l)=true;rw[ha];rfl) (.iface x.t2 x.p2) w (by rw[B3 hx (t:= #[.iface x.t2 x.p2]) (by simp[rH])];rfl) (.inr ⟨_,_,rfl⟩)).mono ?_
   rintro e w' ⟨N,rfl,_,_,hb⟩
   refine⟨_,M,rfl,?_,Grow.refl _ _,l9 hM hb,⟨hb,oO⟩⟩
   simp only [atN,SZ,ha]
   exact⟨[_,_],rfl,rfl,.inr ⟨rfl,_,_,rfl⟩,oO⟩
def MI(ls:List (List UInt8)):DV:=.fJ ls.length 1 fun i _=>dT (ls.getD i [])
end Go.Ch
namespace Go.Pj
open Go Go.Ax Go.Ch Go.Proofs Go.Proofs.Tryz
abbrev bG:=List UInt8
def tx(b:ByteArray):bG:=b.data.toList
theorem sF(b:ByteArray):bs (tx b)=b:=by
 apply ByteArray.ext;simp[bs,tx]
theorem aBF(b:ByteArray):dS b=dT (tx b):=by rw[dT,sF]
def kP:bG:=[115,117,114,118,101,121]
def rG:bG:=[108,111,97,100]
def nF:bG:=[119,97,105,118,101]
def bS:bG:=[119,105,116,104,100,114,97,119]
def bK(kind:Int)(f:Fact):Int:=
 bif (kind==0&&within f.aX 0 2)&&within f.month 0 24 then 0
 else bif kind==1&&within f.number 1 1000000 then 0
 else bif kind !=2|| !within f.month 1 24 then 2
 else bif !isName f.cE then 4 else 0
def aY(kind:Int)(f:Fact):List bG:=
 bif kind==0 then [kP,Lib.itoa f.aX,Lib.itoa f.month]else bif kind==1 then [rG,Lib.itoa f.number]else [nF,tx f.cE,Lib.itoa f.month]
def sJ(l:List bG)(k:Nat)(_:Nat):DV:=dT (l.getD k [])
theorem JX(kind:Int)(f:Fact)(hf:f.fits)(he:bK kind f≠0):aF prog 103 [vI kind,oB f] (.t [.s (.d (.val (.slice none 0 0))),.s (.d (dI (bK kind f)))]):=by
 have no1:(kind==0)=true→(kind==1)=true→False:=fun a b=>by
  have:kind=0:=by simpa using a
  subst this;cases b
 have no2:(kind==0)=true→(kind !=2)=false→False:=fun a b=>by
  have:kind=0:=by simpa using a
  subst this;cases b
 have no3:(kind==1)=true→(kind !=2)=false→False:=fun a b=>by
  have:kind=1:=by simpa using a
  subst this;cases b
 have e0:(kind==0)=true→bK kind f=2:=fun a=>by
  have:kind=0:=by simpa using a
  subst this
  unfold bK at he ⊢
  revert he
  cases h:(((0:Int)==0&&within f.aX 0 2)&&within f.month 0 24)with
  |true=>intro he;exact absurd rfl he
  |false=>intro _;rfl
 refine eP func103 rfl rfl call103 rfl rfl fun cx aA=>?_
 repeat refine aR ?_
 refine aI (fun h1=>?_) (fun h1=>?_)
 ·refine ob (by rw[h1];rfl) ?_
  refine aB (lK 0 2 f.aX rfl) ?_
  repeat refine aR ?_
  refine aI (fun h2=>?_) (fun h2=>?_)
  ·refine ob (by rw[h2];rfl) ?_
   refine aB (lK 0 24 f.month rfl) ?_
   repeat refine aR ?_
   refine aI (fun h3=>?_) (fun h3=>?_)
   ·exact absurd (by unfold bK;rw[h1,h2,h3];rfl) he
   ·repeat refine aR ?_
    refine aI (fun h4=>?_) (fun h4=>?_)
    ·exact(no1 h1 h4).elim
    repeat refine aR ?_
    refine aI (fun h5=>?_) (fun h5=>?_)
    ·exact(no2 h1 h5).elim
    ·exact aC.of_eq (by rw[e0 h1];rfl)
  ·have h2:within f.aX 0 2=false:=h2
   repeat refine aR ?_
   refine aI (fun h4=>?_) (fun h4=>?_)
   ·exact(no1 h1 h4).elim
   repeat refine aR ?_
   refine aI (fun h5=>?_) (fun h5=>?_)
   ·exact(no2 h1 h5).elim
   ·exact aC.of_eq (by rw[e0 h1];rfl)
 ·have h1:(kind==0)=false:=h1
  repeat refine aR ?_
  refine aI (fun h4=>?_) (fun h4=>?_)
  ·refine ob (by rw[h4];rfl) ?_
   refine aB (lK 1 1000000 f.number rfl) ?_
   repeat refine aR ?_
   refine aI (fun h5=>?_) (fun h5=>?_)
   ·have h4:(kind==1)=true:=h4
    exact absurd (by unfold bK;rw[h1,h4,h5];rfl) he
   ·have h5:within f.number 1 1000000=false:=h5
    repeat refine aR ?_
    refine aI (fun h6=>?_) (fun h6=>?_)
    ·exact(no3 h4 h6).elim
    ·have h6:(kind !=2)=true:=h6
     exact aC.of_eq (by unfold bK;rw[h1,h4,h5,h6];rfl)
  ·have h4:(kind==1)=false:=h4
   repeat refine aR ?_
   refine aI (fun h6=>?_) (fun h6=>?_)
   ·have h6:(kind !=2)=false:=h6
    refine ob (by rw[h6];rfl) ?_
    refine aB (lK 1 24 f.month rfl) ?_
    repeat refine aR ?_
    refine aI (fun h7=>?_) (fun h7=>?_)
    ·have h7:(!within f.month 1 24)=true:=h7
     exact aC.of_eq (by unfold bK;rw[h1,h4,h6,h7];rfl)
    ·have h7:(!within f.month 1 24)=false:=h7
     refine aB (AE f.cE hf.cE) ?_
     repeat refine aR ?_
     refine aI (fun h8=>?_) (fun h8=>?_)
     ·have h8:(!isName f.cE)=true:=h8
      exact aC.of_eq (by unfold bK;rw[h1,h4,h6,h7,h8];rfl)
     ·have h8:(!isName f.cE)=false:=h8
      exact absurd (by unfold bK;rw[h1,h4,h6,h7,h8];rfl) he
   ·have h6:(kind !=2)=true:=h6
    exact aC.of_eq (by unfold bK;rw[h1,h4,h6];rfl)
theorem wd2{a b:bG}{f:Nat→Nat→DV}(h0:f 0 0=dT a)(h1:f 1 0=dT b):∀i j,i<2→j<1→aJ (f i j) (sJ [a,b] i j):=fun i j hi hj=>by
 obtain rfl:j=0:=oM
 match i,hi with
 |0,_=>exact aJ.of_eq h0
 |1,_=>exact aJ.of_eq h1
theorem wd3{a b c:bG}{f:Nat→Nat→DV}(h0:f 0 0=dT a)(h1:f 1 0=dT b)(h2:f 2 0=dT c):∀i j,i<3→j<1→aJ (f i j) (sJ [a,b,c] i j):=fun i j hi hj=>by
 obtain rfl:j=0:=oM
 match i,hi with
 |0,_=>exact aJ.of_eq h0
 |1,_=>exact aJ.of_eq h1
 |2,_=>exact aJ.of_eq h2
theorem OP(kind:Int)(f:Fact)(hf:f.fits)(he:bK kind f=0):bM prog 103 [vI kind,oB f] [] (.t [.s (.own 9),.s (.d (dI 0))]) [(9,.row 9 (aY kind f).length 1 (sJ (aY kind f)))]:=by
 have no1:(kind==0)=true→(kind==1)=true→False:=fun a b=>by
  have:kind=0:=by simpa using a
  subst this;cases b
 have no2:(kind==0)=true→(kind !=2)=false→False:=fun a b=>by
  have:kind=0:=by simpa using a
  subst this;cases b
 have no3:(kind==1)=true→(kind !=2)=false→False:=fun a b=>by
  have:kind=1:=by simpa using a
  subst this;cases b
 cases h1:kind==0 with
 |true=>
  have hW:aY kind f=[kP,Lib.itoa f.aX,Lib.itoa f.month]:=by unfold aY;rw[h1];rfl
  have hc:within f.aX 0 2=true∧within f.month 0 24=true:=by
   have:kind=0:=by simpa using h1
   subst this
   unfold bK at he
   revert he
   cases within f.aX 0 2 <;> cases within f.month 0 24 <;> simp
  obtain⟨h2,h3⟩:=hc
  have h2':=within_iff.1 h2
  have UD:=within_iff.1 h3
  rw[hW]
  apply bM.LN (a:=27) (n:=3) 9 rfl
  case h=>
   refine fG (rc:=[]) (N:=62) func103 rfl rfl call103 aK mix rfl rfl rfl rfl (fun cx aA=>?_)
   repeat refine aR ?_
   refine aI (fun k1=>?_) (fun k1=>(Bool.noConfusion (h1.symm.trans k1)))
   refine ob (by rw[h1];rfl) ?_
   refine aB (lK 0 2 f.aX rfl) ?_
   repeat refine aR ?_
   refine aI (fun k1=>?_) (fun k1=>(Bool.noConfusion (h2.symm.trans k1)))
   refine ob (by rw[h2];rfl) ?_
   refine aB (lK 0 24 f.month rfl) ?_
   repeat refine aR ?_
   refine aI (fun k1=>?_) (fun k1=>(Bool.noConfusion (h3.symm.trans k1)))
   refine aB (C4 f.aX oM oM) ?_
   refine aB (C4 f.month oM oM) ?_
   refine aD ?_
   exact⟨aM.rfl,rfl,oO⟩
  case hg=>exact wd3 rfl rfl rfl
 |false=>
  cases h4:kind==1 with
  |true=>
   have hW:aY kind f=[rG,Lib.itoa f.number]:=by unfold aY;rw[h1,h4];rfl
   have h5:within f.number 1 1000000=true:=by
    have:kind=1:=by simpa using h4
    subst this
    unfold bK at he
    revert he
    cases within f.number 1 1000000 <;> simp
   have h5':=within_iff.1 h5
   rw[hW]
   apply bM.LN (a:=40) (n:=2) 9 rfl
   case h=>
    refine fG (rc:=[]) (N:=62) func103 rfl rfl call103 aK mix rfl rfl rfl rfl (fun cx aA=>?_)
    repeat refine aR ?_
    refine aI (fun k1=>(Bool.noConfusion (h1.symm.trans k1))) (fun k1=>?_)
    repeat refine aR ?_
    refine aI (fun k1=>?_) (fun k1=>(Bool.noConfusion (h4.symm.trans k1)))
    refine ob (by rw[h4];rfl) ?_
    refine aB (lK 1 1000000 f.number rfl) ?_
    repeat refine aR ?_
    refine aI (fun k1=>?_) (fun k1=>(Bool.noConfusion (h5.symm.trans k1)))
    refine aB (C4 f.number oM oM) ?_
    exact⟨aM.rfl,rfl,oO⟩
   case hg=>exact wd2 rfl rfl
  |false=>
   have hW:aY kind f=[nF,tx f.cE,Lib.itoa f.month]:=by unfold aY;rw[h1,h4];rfl
   have hc:(kind !=2)=false∧(!within f.month 1 24)=false∧(!isName f.cE)=false:=by
    unfold bK at he
    rw[h1,h4]at he
    revert he
    cases kind !=2 <;> cases within f.month 1 24 <;> cases isName f.cE <;> simp
   obtain⟨h6,h7,h8⟩:=hc
   have h7':=within_iff.1 (show within f.month 1 24=true by revert h7;cases within f.month 1 24 <;> simp)
   rw[hW]
   apply bM.LN (a:=61) (n:=3) 9 rfl
   case h=>
    refine fG (rc:=[]) (N:=62) func103 rfl rfl call103 aK mix rfl rfl rfl rfl (fun cx aA=>?_)
    repeat refine aR ?_
    refine aI (fun k1=>(Bool.noConfusion (h1.symm.trans k1))) (fun k1=>?_)
    repeat refine aR ?_
    refine aI (fun k1=>(Bool.noConfusion (h4.symm.trans k1))) (fun k1=>?_)
    repeat refine aR ?_
    refine aI (fun k1=>?_) (fun k1=>(Bool.noConfusion (h6.symm.trans k1)))
    refine ob (by rw[h6];rfl) ?_
    refine aB (lK 1 24 f.month rfl) ?_
    repeat refine aR ?_
    refine aI (fun k1=>(Bool.noConfusion (h7.symm.trans k1))) (fun k1=>?_)
    refine aB (AE f.cE hf.cE) ?_
    repeat refine aR ?_
    refine aI (fun k1=>(Bool.noConfusion (h8.symm.trans k1))) (fun k1=>?_)
    refine aB (C4 f.month oM oM) ?_
    refine aD ?_
    exact⟨aM.rfl,rfl,oO⟩
   case hg=>exact wd3 rfl (aBF f.cE) rfl
end Go.Pj
--K2
namespace Go.Proofs
open Go Go.Lib
def Tryz.DI:Go.Shelf.Ren:=⟨fun|22=>48|17=>207|29=>109|30=>110|36=>169|n=>n,fun|24=>97|9=>9|3=>3|4=>4|0=>0|n=>n,fun|n=>n⟩
theorem Tryz.TT:Go.Proofs.Lays2.n22 prog Tryz.DI:={
 mixed:=kR
 f17:=func207.trans (congrArg some kR)
 f22:=func48.trans (congrArg some kR)
 f29:=func109.trans (congrArg some kR)
 f30:=func110.trans (congrArg some kR)
 f36:=func169.trans (congrArg some kR)
 t0:=underlying0
 a0:=Tryz.isAgg0
 z0:=Tryz.sizeOf0
 v0:=zeroValue0
 t3:=underlying3
 a3:=Tryz.isAgg3
 z3:=Tryz.sizeOf3
 v3:=zeroValue3
 t4:=underlying4
 a4:=Tryz.isAgg4
 z4:=Tryz.sizeOf4
 v4:=zeroValue4
 t9:=underlying9
 a9:=Tryz.isAgg9
 z9:=Tryz.sizeOf9
 v9:=zeroValue9
 t24:=underlying97
 a24:=Tryz.isAgg97
 z24:=Tryz.sizeOf97
 v24:=zeroValue97
 i9:=by kernel_rfl}
end Go.Proofs
namespace Go.Pj
open Go Go.Ax Go.Ch Go.Proofs Go.Proofs.Tryz
set_option maxRecDepth 100000
set_option maxHeartbeats 1000000
theorem gS{b k:Nat}(h:k≠b):∀(vs:List Value) (o:Nat) (w:World),(w.setCells b o vs).heap[k]? =w.heap[k]?
 |[],_,_=>rfl
 |v::r,o,w=>by
  rw[World.setCells,gS h r]
  simp[World.setCell,Array.getElem?_modify,Ne.symm h]
theorem size_setCells{b:Nat}:∀(vs:List Value) (o:Nat) (w:World),(w.setCells b o vs).heap.size=w.heap.size
 |[],_,_=>rfl
 |v::r,o,w=>by
  rw[World.setCells,size_setCells r]
  simp[World.setCell]
theorem jR{b:Nat}:∀(vs:List Value) (o:Nat) (w:World),(w.setCells b o vs).os=w.os∧(w.setCells b o vs).tape=w.tape∧(w.setCells b o vs).output=w.output
 |[],_,_=>⟨rfl,rfl,rfl⟩
 |v::r,o,w=>by
  rw[World.setCells]
  obtain⟨h1,h2,h3⟩:=jR (b:=b) r (o+1) (w.setCell ⟨b,o,none⟩ v)
  exact⟨h1,h2,h3⟩
def sW(l:List bG)(i:Nat)(x:bG):List bG:=l.take i++x::l.drop i
theorem U3(l:List bG)(i:Nat)(x:bG)(hi:i<l.length)(hl:l.length≤100000){f g:Nat→Nat→DV}(hf:∀k,k<l.length→aJ (f k 0) (dT (l.getD k [])))(hg:aJ (g 0 0) (dT x)):
  bM prog 48 [.s (.own 1),vI i,.s (.own 2)] [(1,.row 9 l.length 1 f),(2,.row 9 1 1 g)] (.s (.own 9)) [(9,.row 9 (l.length+1) 1 (sJ (sW l i x)))]:=by
 refine⟨call48,fun M β w vs hG hr hM qE hβ=>?_⟩
 obtain⟨b,c,cur,hb1,hb2,hb3,hb4,hb5,hb6,hb7⟩:=qE.rep 1 _ (List.mem_cons_self ..)
 obtain⟨d,e,aHB,hd1,hd2,hd3,hd4,hd5,hd6,hd7⟩:=qE.rep 2 _ (List.mem_cons_of_mem _ (List.mem_cons_self ..))
 match vs,hr with
 |[v1,v2,v3],⟨h1,h2,h3,_⟩=>
  obtain⟨b',c',O1,rfl,PD⟩:=h1
  rw[hb1]at O1;cases O1
  obtain rfl:v2=.int .i64 i:=h2
  obtain⟨d',e',O1,rfl,IP⟩:=h3
  rw[hd1]at O1;cases O1
  have R1:b≠d:=fun h=>by
   subst h
   have:=qE.inj 1 2 b c e (by simp[names]) (by simp[names]) hb1 hd1
   cases this
  have mS:∀(j:Nat) v,(l.map fun t=>Value.string (bs t))[j]? =some v→cur[j]? =some v:=by
   intro j v hj
   have xS:j<l.length:=by have:=(List.getElem?_eq_some_iff.1 hj).1;simpa using this
   obtain⟨u,hu,hr⟩:=hb7 j 0 xS oM
   rw[show j*1+0=j by omega]at hu
   have hr:u=.string (bs (l.getD j [])):=hf j xS M u hr
   rw[hu,hr]
   simp only [List.getElem?_map,List.getElem?_eq_getElem xS,Option.map_some]at hj
   rw[bA xS,←Option.some.inj hj]
  have WE:aHB[0]? =some (.string (bs x)):=by
   obtain⟨u,hu,hr⟩:=hd7 0 0 oM oM
   have hr:u=.string (bs x):=hg M u hr
   rw[←hr];exact hu
  have hvs:∀(j:Nat) v,[Value.string (bs x)][j]? =some v→aHB[j]? =some v:=by
   intro j v hj
   match j,hj with
   |0,hj=>rw[WE];exact hj
  have aGN:c.1≤9223372036854775807:=hb6
  have bw:b<w.heap.size:=(Array.getElem?_eq_some_iff.1 hb2).1
  have dw:d<w.heap.size:=(Array.getElem?_eq_some_iff.1 hd2).1
  have fin:∀(w':World) (b2 cap:Nat) (F:Nat→Value),w'.rowIs b2 9 cap F→l.length+1≤cap→cap≤maxLen→(∀j,j<l.length+1→F j=.string (bs ((sW l i x).getD j [])))→(b2=b∨w.heap.size≤b2)→
    (∀k,k<w.heap.size→k≠b→w'.heap[k]? =w.heap[k]?)→w.heap.size≤w'.heap.size→w'.os=w.os∧w'.tape=w.tape∧w'.output=w.output→
    ∃v M' β',Ending.returned (.slice (some ⟨b2,0,none⟩) (l.length+1) cap)=.returned v∧Nm.le β β'∧(AV.s (.own 9)).a7 M' β' v∧Grow w.heap.size M M'∧kF M' w'∧qR M' β' w' [(9,.row 9 (l.length+1) 1 (sJ (sW l i x)))]∧
     (∀z b c,z∈names [(9,jM.row 9 (l.length+1) 1 (sJ (sW l i x)))]→β' z=some (b,c)→w.heap.size≤b∨∃y c',β y=some (b,c'))∧
     w'.os=w.os∧w'.tape=w.tape∧w'.output=w.output∧w.heap.size≤w'.heap.size∧(∀k,k<w.heap.size→(∀y c,β y≠some (k,c))→w'.heap[k]? =w.heap[k]?)∧Dr w w':=by
   intro w' b2 cap F hF hn uN aAH aAG hold hs ⟨ho1,ho2,ho3⟩
   obtain⟨cu,hc1,H7,hc3⟩:=hF
   have only:∀y,y∈names [(9,jM.row 9 (l.length+1) 1 (sJ (sW l i x)))]→y=9:=fun y hy=>List.mem_singleton.1 hy
   have h9:β 9=none:=by
    cases h:β 9 with
    |none=>rfl
    |some p=>have:=hβ 9 p h;simp[names]at this
   let β':Nm:=fun y=>if y=9 then some (b2,(cap,l.length+1))else β y
   have e9:β' 9=some (b2,(cap,l.length+1)):=if_pos rfl
   have noM:∀o,M b2 o=none:=fun o=>by
    rcases aAG with rfl|h
    ·exact qE.apart 1 b2 c (by simp[names]) hb1 o
    ·cases hm:M b2 o with
     |none=>rfl
     |some u=>
      have:=World.block_lt_of_cell? w ⟨b2,o,none⟩ (hM b2 o u hm)
      exact absurd this (by simp only;omega)
   refine⟨_,M,β',rfl,?_,⟨b2,_,e9,rfl,hn⟩,Grow.refl _ _,?_,⟨?_,?_,?_,?_⟩,?_,ho1,ho2,ho3,hs,?_,oO⟩
   ·intro y p hy
    show(if y=9 then _ else β y)=_
    rw[if_neg (fun h=>by rw[h,h9]at hy;cases hy)];exact hy
   ·intro b3 o u hu
    have hw:=hM b3 o u hu
    have fR:=World.block_lt_of_cell? w ⟨b3,o,none⟩ hw
    have hV:b3≠b:=fun h=>by
     subst h
     rw[qE.apart 1 b3 c (by simp[names]) hb1 o]at hu;cases hu
    simp only [World.cell?]at hw ⊢
    rw[hold b3 fR hV];exact hw
   ·intro y hy
    obtain rfl:=only y hy
    exact⟨_,_,e9⟩
   ·intro y bb hy
    have hy:=List.mem_singleton.1 hy
    cases hy
    refine⟨b2,_,cu,e9,hc1,rfl,by rw[H7];simp,hn,uN,fun k j hk hj=>?_⟩
    obtain rfl:j=0:=oM
    refine⟨F k,by rw[Nat.mul_one,Nat.add_zero];exact hc3 k oM,aAH k hk⟩
   ·intro y z _ _ _ hy hz _ _
    rw[only y hy,only z hz]
   ·intro y b3 c3 hy hb o
    obtain rfl:=only y hy
    rw[e9]at hb;cases hb
    exact noM o
   ·intro y b3 c3 hy hb
    obtain rfl:=only y hy
    rw[e9]at hb;cases hb
    rcases aAG with rfl|h
    ·exact .inr ⟨1,c,hb1⟩
    ·exact .inl h
   ·intro k hk WJ
    exact hold k hk (fun h=>WJ 1 c (by rw[h];exact hb1))
  have AS:∀j,j<l.length+1→(sW l i x).getD j []=if j<i then l.getD j []else if j=i then x else l.getD (j - 1) []:=by
   intro j hj
   unfold sW
   simp only [List.getD_eq_getElem?_getD]
   by_cases h1:j<i
   ·rw[List.getElem?_append_left (by simp;omega),List.getElem?_take_of_lt h1,if_pos h1]
   ·rw[List.getElem?_append_right (by simp;omega),if_neg h1]
    have hlen:(l.take i).length=i:=by simp;omega
    rw[hlen]
    by_cases h2:j=i
    ·subst h2;simp
    ·rw[if_neg h2,show j - i=(j - 1 - i)+1 by omega,List.getElem?_cons_succ,List.getElem?_drop,show i+(j - 1 - i)=j - 1 by omega]
  have PC:∀(j k:Nat),i+k=j→j<l.length→(((l.map fun t=>Value.string (bs t)).drop i)[k]?).getD default=.string (bs (l.getD j [])):=by
   intro j k e hj
   rw[List.getElem?_drop,e,List.getElem?_map,List.getElem?_eq_getElem hj,bA hj];rfl
  have oN:w.rowIs b 9 c.1 (fun j=>(cur[j]?).getD default):=⟨cur,hb2,oM,fun j hj=>by
   have:=Array.getElem?_eq_getElem (xs:=cur) (i:=j) oM
   simp[this]⟩
  have aAU:∀j,j<l.length→(cur[j]?).getD default=.string (bs (l.getD j [])):=fun j hj=>by
   rw[mS j (.string (bs (l.getD j []))) (by rw[List.getElem?_map,List.getElem?_eq_getElem hj,bA hj];rfl)];rfl
  rw[hb3,hd3]
  by_cases qL:l.length+1≤c.1
  ·refine(Any2.slices_Insert_string_shift Tryz.TT b 0 l.length c.1 i d 0 1 e.1 (l.map fun t=>Value.string (bs t)) [.string (bs x)] w hi oM qL aGN (Ne.symm R1) sM rfl
    (fun j v hj=>by simp only [World.cell?,hb2];simpa using mS j v hj) (fun j hj=>by
     simp only [World.cell?,hb2]
     simp
     omega) (fun j hj=>by simp[World.frozen?,hb2])
    (fun j v hj=>by simp only [World.cell?,hd2];simpa using hvs j v hj) (fun v hv=>by
     obtain⟨t,_,rfl⟩:=List.mem_map.1 hv;rfl) (fun v hv=>by rw[List.mem_singleton.1 hv];rfl)
    9 9 aHB.size cur.size (by simp[World.shape?,hd2]) (by simp[World.shape?,hb2]) oM (by simp[World.frozen?,hd2]) (by simp[World.frozen?,hd2])).mono ?_
   rintro q w' ⟨rfl,rfl⟩
   have r1:w.drew.rowIs b 9 c.1 _:=oN.of_block rfl
   have r2:=Go.rowIs_setCells [Value.string (bs x)] (0+i) _ _ (Go.rowIs_setCells ((l.map fun t=>Value.string (bs t)).drop i) (0+(i+1)) _ _ r1)
   refine fin _ b c.1 _ r2 qL hb6 (fun j hj=>?_) (.inl rfl) (fun k hk hV=>?_) ?_ ?_
   ·rw[AS j hj]
    simp only [List.length_cons,List.length_nil,List.length_drop,List.length_map,Nat.zero_add]
    by_cases h1:j<i
    ·rw[if_neg oM,if_neg oM,if_pos h1]
     exact aAU j oM
    ·by_cases h2:j=i
     ·subst h2
      rw[if_pos oM,if_neg oM,if_pos rfl,Nat.sub_self];rfl
     ·rw[if_neg oM,if_pos oM,if_neg h1,if_neg h2]
      exact PC (j - 1) (j - (i+1)) oM oM
   ·rw[gS hV,gS hV];rfl
   ·rw[size_setCells,size_setCells];exact Nat.le_refl _
   ·obtain⟨a1,a2,a3⟩:=jR (b:=b) [Value.string (bs x)] (0+i) (w.drew.setCells b (0+(i+1)) ((l.map fun t=>Value.string (bs t)).drop i))
    obtain⟨b1,b2,b3⟩:=jR (b:=b) ((l.map fun t=>Value.string (bs t)).drop i) (0+(i+1)) w.drew
    exact⟨a1.trans b1,a2.trans b2,a3.trans b3⟩
  ·have uN:=grownCap_ge w (l.length+1) c.1 9
   have aEX:=grownCap_le_maxLen w (l.length+1) c.1 9 (by unfold maxLen;omega)
   refine(Any2.slices_Insert_string_grow Tryz.TT b 0 l.length c.1 i d 0 1 e.1 (l.map fun t=>Value.string (bs t)) [.string (bs x)] w hi oM hb5 oM oM sM rfl
    (fun j v hj=>by simp only [World.cell?,hb2];simpa using mS j v hj)
    (fun j v hj=>by simp only [World.cell?,hd2];simpa using hvs j v hj) (fun v hv=>by
     obtain⟨t,_,rfl⟩:=List.mem_map.1 hv;rfl) (fun v hv=>by rw[List.mem_singleton.1 hv];rfl)).mono ?_
   rintro q w' ⟨rfl,rfl⟩
   have hG:grownCap w (l.length+1) c.1 (Tryz.DI.t 9)=grownCap w (l.length+1) c.1 9:=rfl
   rw[hG]
   generalize grownCap w (l.length+1) c.1 9=G at uN aEX
   generalize aJY:(((l.map fun t=>Value.string (bs t)).take i).toArray++Builtin.zeroCells (Value.string ⟨#[]⟩).cells (l.length+1 - i)++Builtin.zeroCells (Value.string ⟨#[]⟩).cells (G - (l.length+1)))=XX
   have hRl:XX.size=G:=by
    rw[←aJY]
    simp[Builtin.zeroCells,Value.cells]
    omega
   have hRt:∀j,j<i→XX[j]? =some (.string (bs (l.getD j []))):=by
    intro j hj
    rw[←aJY,Array.append_assoc,Array.getElem?_append_left (by simp;omega)]
    simp only [List.getElem?_toArray,List.getElem?_take_of_lt hj,List.getElem?_map,List.getElem?_eq_getElem (show j<l.length by omega),bA (show j<l.length by omega)]
    rfl
   have r1:((w.alloc (.cells XX 9)).drew).rowIs w.heap.size 9 G (fun j=>(XX[j]?).getD default):=⟨XX,heap_alloc_new w _,hRl,fun j hj=>by
    have:=Array.getElem?_eq_getElem (xs:=XX) (i:=j) oM
    simp[this]⟩
   have r2:=Go.rowIs_setCells [Value.string (bs x)] i _ _ r1
   have r3:=Go.rowIs_setCells ((l.map fun t=>Value.string (bs t)).drop i) (i+1) _ _ (World.rowIs.of_block (w':=(((w.alloc (.cells XX 9)).drew).setCells w.heap.size i [Value.string (bs x)]).drew) r2 rfl)
   have lT:(w.alloc (.cells XX 9)).heap.size=w.heap.size+1:=by show(w.heap.push _).size=_;simp
   refine fin _ w.heap.size G _ r3 uN aEX (fun j hj=>?_) (.inr (Nat.le_refl _)) (fun k hk hV=>?_) ?_ ?_
   ·rw[AS j hj]
    simp only [List.length_cons,List.length_nil,List.length_drop,List.length_map,Nat.zero_add]
    by_cases h1:j<i
    ·rw[if_neg oM,if_neg oM,if_pos h1,hRt j h1];rfl
    ·by_cases h2:j=i
     ·subst h2
      rw[if_neg oM,if_pos oM,if_neg h1,if_pos rfl,Nat.sub_self];rfl
     ·rw[if_pos oM,if_neg h1,if_neg h2]
      exact PC (j - 1) (j - (i+1)) oM oM
   ·rw[gS oM]
    show((((w.alloc (.cells XX 9)).drew).setCells w.heap.size i [Value.string (bs x)])).heap[k]? =_
    rw[gS oM]
    exact heap_alloc_old w _ hk
   ·rw[size_setCells]
    show w.heap.size≤((((w.alloc (.cells XX 9)).drew).setCells w.heap.size i [Value.string (bs x)])).heap.size
    rw[size_setCells]
    show w.heap.size≤(w.alloc (.cells XX 9)).heap.size
    omega
   ·obtain⟨a1,a2,a3⟩:=jR (b:=w.heap.size) ((l.map fun t=>Value.string (bs t)).drop i) (i+1) ((((w.alloc (.cells XX 9)).drew).setCells w.heap.size i [Value.string (bs x)]).drew)
    obtain⟨b1,b2,b3⟩:=jR (b:=w.heap.size) [Value.string (bs x)] i ((w.alloc (.cells XX 9)).drew)
    exact⟨a1.trans b1,a2.trans b2,a3.trans b3⟩
end Go.Pj
namespace Go.Ch
open Go Go.Ax Go.Proofs Go.Proofs.Tryz Go.RowKit
theorem aH2(ls:List (List UInt8))(sep:List UInt8)(hN:ls.length≤140737488355328)(hl:(Lib.join ls sep).length≤140737488355328):
  aF prog 43 [.s (.d (MI ls)),vT sep] (vT (Lib.join ls sep)):=by
 refine⟨call43,fun M w vs hg hr hM=>?_⟩
 match vs,hr with
 |[v,s],⟨h,h2,_⟩=>
  obtain rfl:s=.string (bs sep):=h2
  obtain⟨a,cap,rfl,hc,cN⟩:=h
  have WL:(ls.map bs).map (·.data.toList)=ls:=by
   rw[List.map_map]
   exact(List.map_congr_left fun x _=>by simp[bs]).trans (List.map_id _)
  have aJB:(bs sep).data.toList=sep:=by simp[bs]
  rcases cN with h0|⟨b,o,rfl,cN⟩
  ·have:ls=[]:=List.eq_nil_of_length_eq_zero h0
   subst this
   refine(Tryz.strings_Join_none a cap (bs sep) w).mono ?_
   rintro e w' ⟨rfl,rfl⟩
   exact⟨_,M,rfl,rfl,Grow.refl _ _,hM,⟨Below.refl _ _,oO⟩⟩
  ·by_cases h0:ls.length=0
   ·have:ls=[]:=List.eq_nil_of_length_eq_zero h0
    subst this
    refine(Tryz.strings_Join_none _ cap (bs sep) w).mono ?_
    rintro e w' ⟨rfl,rfl⟩
    exact⟨_,M,rfl,rfl,Grow.refl _ _,hM,⟨Below.refl _ _,oO⟩⟩
   have cells:∀(j:Nat) x,(ls.map bs)[j]? =some x→w.cell? ⟨b,o+j,none⟩=some (.string x):=by
    intro j x hx
    have hj:j<ls.length:=by have:=(List.getElem?_eq_some_iff.1 hx).1;simpa using this
    obtain⟨u,hu,hr⟩:=cN j 0 hj oM
    rw[show o+j*1+0=o+j by omega]at hu
    rw[hM _ _ _ hu]
    have hr:u=.string (bs (ls.getD j [])):=hr
    rw[hr]
    simp[List.getElem?_eq_getElem hj]at hx
    rw[bA hj,hx]
   have hb:b<w.heap.size:=by
    have:=cells 0 (bs ls[0]) (by simp[List.getElem?_eq_getElem (show 0<ls.length by omega)])
    exact World.block_lt_of_cell? w ⟨b,o+0,none⟩ this
   have hsh:=Tryz.strings_Join b o cap (ls.map bs) (bs sep) w cells hb (by simpa using hN) (by simpa using hc) (by rw[WL,aJB];exact hl)
   rw[WL,aJB,List.length_map]at hsh
   refine hsh.mono ?_
   rintro e w' ⟨rfl,pR⟩
   exact⟨_,M,rfl,rfl,Grow.refl _ _,l9 hM pR,⟨pR,oO⟩⟩
end Go.Ch
namespace Go.Pj
open Go Go.Ax Go.Ch Go.Proofs Go.Proofs.Tryz
def mH(f:Fact):Int:=bif f.kind !=3 then bK f.kind f else bK f.target f
def kZ(f:Fact):List bG:=bif f.kind !=3 then aY f.kind f else bS::aY f.target f
theorem lV(k:Int)(f:Fact):1≤(aY k f).length∧(aY k f).length≤3:=by
 unfold aY
 cases k==0 <;> cases k==1 <;> simp
theorem xA(f:Fact):1≤(kZ f).length∧(kZ f).length≤4:=by
 unfold kZ
 have:=lV f.kind f
 have:=lV f.target f
 cases f.kind !=3 <;> simp <;> omega
theorem Z5(f:Fact)(hf:f.fits)(he:mH f≠0):aF prog 42 [oB f] (.t [.s (.d (.val (.slice none 0 0))),.s (.d (dI (mH f)))]):=by
 cases h1:f.kind !=3 with
 |true=>
  have e:mH f=bK f.kind f:=by unfold mH;rw[h1];rfl
  rw[e]at he ⊢
  refine eP func42 rfl rfl call42 rfl rfl fun cx aA=>?_
  refine aI (fun k1=>?_) (fun k1=>(Bool.noConfusion (h1.symm.trans k1)))
  refine aB (JX f.kind f hf he) ?_
  exact aC.refl _
 |false=>
  have e:mH f=bK f.target f:=by unfold mH;rw[h1];rfl
  rw[e]at he ⊢
  refine eP func42 rfl rfl call42 rfl rfl fun cx aA=>?_
  refine aI (fun k1=>(Bool.noConfusion (h1.symm.trans k1))) (fun k1=>?_)
  refine aB (JX f.target f hf he) ?_
  refine aI (fun k2=>?_) (fun k2=>?_)
  ·exact aC.refl _
  ·have k2:(bK f.target f !=0)=false:=k2
   exact absurd (by simpa using k2) he
theorem JT(f:Fact)(hf:f.fits)(he:mH f=0):bM prog 42 [oB f] [] (.t [.s (.own 9),.s (.d (dI 0))]) [(9,.row 9 (kZ f).length 1 (sJ (kZ f)))]:=by
 cases h1:f.kind !=3 with
 |true=>
  have e:mH f=bK f.kind f:=by unfold mH;rw[h1];rfl
  have e2:kZ f=aY f.kind f:=by unfold kZ;rw[h1];rfl
  rw[e]at he
  rw[e2]
  refine fG (rc:=[103]) (N:=28) func42 rfl rfl call42 aK mix rfl rfl rfl rfl (fun cx aA=>?_)
  refine aI (fun k1=>?_) (fun k1=>(Bool.noConfusion (h1.symm.trans k1)))
  refine⟨[(9,9)],_,_,_,_,OP f.kind f hf he,rfl,trivial,rfl,?_⟩
  exact⟨aM.rfl,rfl,oO⟩
 |false=>
  have e:mH f=bK f.target f:=by unfold mH;rw[h1];rfl
  have e2:kZ f=bS::aY f.target f:=by unfold kZ;rw[h1];rfl
  have hlen:=lV f.target f
  rw[e]at he
  rw[e2]
  refine bM.LN (a:=27) 9 rfl (fun i j _ _=>aJ.refl _) ?_
  refine fG (rc:=[103,48]) (N:=28) func42 rfl rfl call42 aK mix rfl rfl rfl rfl (fun cx aA=>?_)
  refine aI (fun k1=>(Bool.noConfusion (h1.symm.trans k1))) (fun k1=>?_)
  refine⟨[(9,9)],_,_,_,_,OP f.target f hf he,rfl,trivial,rfl,?_⟩
  refine aI (fun k2=>absurd k2 dC) (fun _=>?_)
  refine⟨[(1,9),(2,26),(9,27)],_,_,_,_,U3 (aY f.target f) 0 bS hlen.1 oM (fun k hk=>aJ.refl _) (aJ.refl _),rfl,⟨rfl,rfl,oO⟩,rfl,?_⟩
  exact⟨aM.rfl,rfl,oO⟩
def iH(l:List bG):bG:=Lib.join l [32]
def dR(f:Fact):bG:=bif mH f==0 then iH (kZ f)else []
theorem mB(a:bG):iH [a]=a:=by simp[iH,Lib.join]
theorem fC(a b:bG)(l:List bG):iH (a::b::l)=a++ [32]++iH (b::l):=by simp[iH,Lib.join,List.intercalate_cons_cons]
theorem yK(a:bG){l:List bG}(h:l≠[]):iH (a::l)=a++ [32]++iH l:=by
 cases l with
 |nil=>exact absurd rfl h
 |cons b l=>exact fC a b l
theorem rR{c:Nat}:∀{l:List bG},(∀x∈l,x.length≤c)→(iH l).length≤l.length*(c+1)
 |[],_=>Nat.zero_le _
 |[a],h=>by rw[mB];have:=h a (List.mem_singleton.2 rfl);simp;omega
 |a::b::l,h=>by
  rw[fC]
  have h1:=h a (List.mem_cons_self ..)
  have h2:=rR (l:=b::l) (fun x hx=>h x (List.mem_cons_of_mem _ hx))
  simp only [List.length_append,List.length_cons,List.length_nil,Nat.add_mul]at h2 ⊢
  omega
theorem mQ(n:Int):(Lib.itoa n).length≤n.natAbs / 10+3:=by
 have h:=nI n.natAbs n.natAbs (Nat.le_refl _)
 rw[←Lib.decDigits_length]at h
 unfold Lib.itoa
 split
 ·simp only [List.length_cons];omega
 ·rename_i h0
  have:n.toNat=n.natAbs:=oM
  rw[this];omega
theorem iQ{s:ByteArray}(h:isName s=true):1≤s.size∧s.size≤12:=by
 rw[sV,Bool.and_eq_true]at h
 have:=within_iff.1 h.1
 omega
theorem vC(s:ByteArray):(tx s).length=s.size:=by
 show s.data.toList.length=s.data.size
 exact Array.length_toList
theorem fW{k:Int}{f:Fact}(h:bK k f=0):(k=0∧within f.aX 0 2=true∧within f.month 0 24=true)∨(k=1∧within f.number 1 1000000=true)∨(k=2∧within f.month 1 24=true∧isName f.cE=true):=by
 unfold bK at h
 cases h0:(k==0&&within f.aX 0 2)&&within f.month 0 24 with
 |true=>
  simp only [Bool.and_eq_true,beq_iff_eq]at h0
  exact .inl ⟨h0.1.1,h0.1.2,h0.2⟩
 |false=>
  rw[h0]at h
  cases h1:k==1&&within f.number 1 1000000 with
  |true=>
   simp only [Bool.and_eq_true,beq_iff_eq]at h1
   exact .inr (.inl h1)
  |false=>
   rw[h1]at h
   cases h2:k !=2|| !within f.month 1 24 with
   |true=>rw[h2]at h;exact absurd h (show ¬((2:Int)=0) by decide)
   |false=>
    rw[h2]at h
    cases h3:isName f.cE with
    |false=>rw[h3]at h;exact absurd h (show ¬((4:Int)=0) by decide)
    |true=>
     simp at h2
     exact .inr (.inr ⟨h2.1,h2.2,rfl⟩)
theorem AL{k:Int}{f:Fact}(h:bK k f=0):∀x∈aY k f,x.length≤200000:=by
 intro x hx
 have hp:=mQ f.aX
 have hm:=mQ f.month
 have hn:=mQ f.number
 rcases fW h with⟨rfl,h1,h2⟩|⟨rfl,h1⟩|⟨rfl,h1,h2⟩
 ·have h1:=within_iff.1 h1
  have h2:=within_iff.1 h2
  simp only [aY,List.mem_cons,List.not_mem_nil,or_false,show((0:Int)==0)=true from rfl,cond_true]at hx
  rcases hx with rfl|rfl|rfl
  ·decide
  ·omega
  ·omega
 ·have h1:=within_iff.1 h1
  simp only [aY,List.mem_cons,List.not_mem_nil,or_false,show((1:Int)==0)=false from rfl,show((1:Int)==1)=true from rfl,cond_true,cond_false]at hx
  rcases hx with rfl|rfl
  ·decide
  ·omega
 ·have h1:=within_iff.1 h1
  have h2:=iQ h2
  simp only [aY,List.mem_cons,List.not_mem_nil,or_false,show((2:Int)==0)=false from rfl,show((2:Int)==1)=false from rfl,cond_false]at hx
  rcases hx with rfl|rfl|rfl
  ·decide
  ·rw[vC];omega
  ·omega
theorem JU{f:Fact}(h:mH f=0):∀x∈kZ f,x.length≤200000:=by
 intro x hx
 unfold mH at h
 unfold kZ at hx
 cases h1:f.kind !=3 with
 |true=>rw[h1]at h hx;exact AL h x hx
 |false=>
  rw[h1]at h hx
  rcases List.mem_cons.1 hx with rfl|hx
  ·decide
  ·exact AL h x hx
theorem Key(f:Fact)(hf:f.fits):aF prog 12 [oB f] (.t [.s (.d (dT (dR f))),.s (.d (dI (mH f)))]):=by
 by_cases he:mH f=0
 ·have hk:dR f=iH (kZ f):=by unfold dR;rw[he];rfl
  have hl:=xA f
  have hj:=rR (JU he)
  rw[hk,he]
  refine gA (rc:=[42,2000043]) (N:=14) func12 rfl rfl call12 aK mix rfl rfl (fun cx aA=>?_)
  refine⟨[(9,9)],_,_,_,_,JT f hf he,rfl,trivial,rfl,?_⟩
  refine⟨[9],_,(aH2 (kZ f) [32] oM (by have:(Lib.join (kZ f) [32]).length≤(kZ f).length*(200000+1):=hj;omega)).conv (args':=_) ⟨aJ.refl _,aJ.refl _,oO⟩,?_⟩
  exact aC.refl _
 ·have hk:dR f=[]:=by unfold dR;rw[show(mH f==0)=false by simpa using he];rfl
  rw[hk]
  refine eP func12 rfl rfl call12 rfl rfl fun cx aA=>?_
  refine aB (Z5 f hf he) ?_
  refine aB ((aH2 [] [32] dC dC).conv (args':=_) ⟨aJ.nil,aJ.refl _,oO⟩) ?_
  exact aC.refl _
def rD(n:Int):bG:=bif n==30000 then [45]else Lib.itoa n
def fA(f:Fact):Int:=bif mH f !=0 then mH f else iF f
def fL(f:Fact):List bG:=
 bif f.kind==0 then kZ f++ [Lib.itoa f.seq]++f.levels.map rD
 else bif f.kind==1 then kZ f++ [Lib.itoa f.month,Lib.itoa f.seq,Lib.itoa f.aS,Lib.itoa f.over,tx f.aN,Lib.itoa f.cls,tx f.cQ]
 else bif f.kind==2 then kZ f++ [Lib.itoa f.seq]
 else sW (kZ f) 1 (Lib.itoa f.seq)
def eI(f:Fact):bG:=bif fA f==0 then iH (fL f)else []
theorem l6{f:Fact}(h:iF f=0):within f.seq 0 1000000=true:=by
 unfold iF at h
 cases h1:within f.seq 0 1000000 with
 |true=>rfl
 |false=>rw[h1]at h;exact absurd h (show ¬((2:Int)=0) by decide)
theorem nG{f:Fact}(h:iF f=0)(k:(f.kind==0)=true):f.levels.any jD=false∧f.levels.length≤100:=by
 have h1:=l6 h
 unfold iF at h
 rw[h1,k]at h
 cases h2:f.levels.any jD with
 |true=>rw[h2]at h;exact absurd h (show ¬((2:Int)=0) by decide)
 |false=>
  rw[h2]at h
  cases h3:decide ((f.levels.length:Int)>100)with
  |true=>rw[h3]at h;exact absurd h (show ¬((8:Int)=0) by decide)
  |false=>
   have:=cD h3
   exact⟨rfl,oM⟩
theorem kJ{f:Fact}(h:iF f=0)(k:(f.kind==1)=true):(within f.month 1 24=true∧within f.aS 1 1000000000000=true∧within f.over 0 f.aS=true∧within f.cls 0 9=true)∧isName f.aN=true∧isName f.cQ=true:=by
 have h1:=l6 h
 have k0:(f.kind==0)=false:=by
  have:f.kind=1:=by simpa using k
  rw[this];rfl
 unfold iF at h
 rw[h1,k0,k]at h
 cases h2:iB f with
 |true=>rw[h2]at h;exact absurd h (show ¬((2:Int)=0) by decide)
 |false=>
  rw[h2]at h
  have hb:=DH f
  rw[h2]at hb
  simp only [Bool.not_false,Bool.and_eq_true]at hb
  cases h3: !isName f.aN|| !isName f.cQ with
  |true=>rw[h3]at h;exact absurd h (show ¬((4:Int)=0) by decide)
  |false=>
   simp only [Bool.or_eq_false_iff,Bool.not_eq_false']at h3
   exact⟨⟨hb.1.1.1,hb.1.1.2,hb.1.2,hb.2⟩,h3.1,h3.2⟩
theorem aC8{n:Int}(h:jD n=false):(rD n).length≤3000:=by
 unfold rD
 cases h1:n==30000 with
 |true=>simp
 |false=>
  have hn:n≠30000:=by simpa using h1
  have h2:within n (-20000) 20000=true:=by
   unfold jD at h
   simpa [hn]using h
  have:=within_iff.1 h2
  have:=mQ n
  simp only [cond_false]
  omega
theorem nM{f:Fact}(h:fA f=0):mH f=0∧iF f=0:=by
 unfold fA at h
 cases h1:mH f !=0 with
 |true=>rw[h1]at h;exact absurd h (by simpa using h1)
 |false=>rw[h1]at h;exact⟨by simpa using h1,h⟩
theorem R5{f:Fact}(h:fA f=0):(fL f).length≤110∧∀x∈fL f,x.length≤100000000010:=by
 obtain⟨h1,h2⟩:=nM h
 have hk:=JU h1
 have hl:=xA f
 have hs:=within_iff.1 (l6 h2)
 have i1:=mQ f.seq
 have x0:∀x∈kZ f,x.length≤100000000010:=fun x hx=>Nat.le_trans (hk x hx) dC
 unfold fL
 cases k0:f.kind==0 with
 |true=>
  obtain⟨a,b⟩:=nG h2 k0
  refine⟨by simp;omega,fun x hx=>?_⟩
  simp only [cond_true,List.mem_append,List.mem_singleton,List.mem_map]at hx
  rcases hx with(hx|rfl)|⟨n,hn,rfl⟩
  ·exact x0 x hx
  ·omega
  ·have:jD n=false:=by
    rw[List.any_eq_false]at a
    simpa using a n hn
   exact Nat.le_trans (aC8 this) dC
 |false=>
  cases k1:f.kind==1 with
  |true=>
   obtain⟨⟨a,b,c,d⟩,e,g⟩:=kJ h2 k1
   have a:=within_iff.1 a
   have b:=within_iff.1 b
   have c:=within_iff.1 c
   have d:=within_iff.1 d
   have e:=iQ e
   have g:=iQ g
   have j1:=mQ f.month
   have j2:=mQ f.aS
   have j3:=mQ f.over
   have j4:=mQ f.cls
   refine⟨by simp;omega,fun x hx=>?_⟩
   simp only [cond_true,cond_false,List.mem_append,List.mem_cons,List.not_mem_nil,or_false]at hx
   rcases hx with hx|rfl|rfl|rfl|rfl|rfl|rfl|rfl
   ·exact x0 x hx
   ·omega
   ·omega
   ·omega
   ·omega
   ·rw[vC];omega
   ·omega
   ·rw[vC];omega
  |false=>
   cases k2:f.kind==2 with
   |true=>
    refine⟨by simp;omega,fun x hx=>?_⟩
    simp only [cond_true,cond_false,List.mem_append,List.mem_singleton]at hx
    rcases hx with hx|rfl
    ·exact x0 x hx
    ·omega
   |false=>
    refine⟨by simp[sW];omega,fun x hx=>?_⟩
    simp only [cond_false,sW,List.mem_append,List.mem_cons]at hx
    rcases hx with hx|rfl|hx
    ·exact x0 x (List.mem_of_mem_take hx)
    ·omega
    ·exact x0 x (List.mem_of_mem_drop hx)
theorem EZ{f:Fact}(he:fA f=0):aF prog 43 [.s (.d (MI (fL f))),vT [32]] (vT (eI f)):=by
 have hl:=R5 he
 have hj:=rR hl.2
 have hk:eI f=Lib.join (fL f) [32]:=by unfold eI;rw[he];rfl
 rw[hk]
 refine aH2 (fL f) [32] oM ?_
 have h1:(Lib.join (fL f) [32]).length≤(fL f).length*(100000000010+1):=hj
 have h2:=Nat.mul_le_mul_right (100000000010+1) hl.1
 omega
theorem K3(l:List bG):gH 1 l.length (sJ l) (fun t _=>dT t) l:=⟨rfl,fun _ _ _ _=>rfl⟩
theorem YH{n:Nat}{f g:Nat→Nat→DV}{l:List bG}{x:bG}{e:TypeId}(h:gH 1 n f (fun t _=>dT t) l)(hg:g 0 0=dT x):aQ (.row e (n+1) 1 (kM n f g)) (.row e (l++ [x]).length 1 (sJ (l++ [x]))):=
 gH.row (el:=fun t _=>dT t) (gH.snoc h (xO hg))
def zF(f:Fact)(i:Nat):List bG:=kZ f++ [Lib.itoa f.seq]++(f.levels.take i).map rD
theorem XU(f:Fact):zF f 0=kZ f++ [Lib.itoa f.seq]:=by simp[zF]
theorem KY(f:Fact){i:Nat}(h:i<f.levels.length):zF f (i+1)=zF f i++ [rD (f.levels.getD i 0)]:=by
 simp only [zF,List.take_add_one,List.getElem?_eq_getElem h,bA h,Option.toList_some,List.map_append,List.map_cons,List.map_nil,List.append_assoc]
theorem qA(f:Fact)(hf:f.fits):aF prog 14 [oB f] (.t [.s (.d (dT (eI f))),.s (.d (dI (fA f)))]):=by
 by_cases h1:mH f=0
 ·have e1:fA f=iF f:=by unfold fA;rw[h1];rfl
  by_cases h2:iF f=0
  ·have he:fA f=0:=by rw[e1,h2]
   have hl:=xA f
   have hs:=within_iff.1 (l6 h2)
   cases k0:f.kind==0 with
   |true=>
    have hw:fL f=kZ f++ [Lib.itoa f.seq]++f.levels.map rD:=by unfold fL;rw[k0];rfl
    obtain⟨a,b⟩:=nG h2 k0
    rw[he]
    refine gA (rc:=[42,2000043]) (N:=86) func14 rfl rfl call14 aK mix rfl rfl (fun cx aA=>?_)
    refine⟨[(9,9)],_,_,_,_,JT f hf h1,rfl,trivial,rfl,?_⟩
    refine aI (fun k2=>absurd k2 dC) (fun _=>?_)
    refine aB (sE f hf) ?_
    rw[h2]
    refine aI (fun k2=>absurd k2 dC) (fun _=>?_)
    refine aB (C4 f.seq oM oM) ?_
    refine aI (fun k2=>?_) (fun k2=>(Bool.noConfusion (k0.symm.trans k2)))
    refine ob (show((kZ f).length+1)*16≤_ by omega) ?_
    refine ob (mT (xO rfl)) ?_
    refine AW.cZ (fun i:Nat=>⟨[(1,.s (.ptr 1 0)),(4,.s (.own 100)),(39,kA f.levels),(40,vI f.levels.length),(41,vI i)],[(1,some (.cells (tG f))),(100,some (.row 9 (zF f i).length 1 (sJ (zF f i))))]⟩)
     (fun i=>i≤f.levels.length) (fun i=>f.levels.length - i) 0 (Nat.zero_le _) ?_ ?_
    ·refine aP.b7 aA [(100,37)] rfl ⟨bQ,⟨rfl,?_⟩,oO⟩ ⟨qZ,qZ,qZ,qZ,qZ,oO⟩
     rw[XU]
     exact YH (K3 (kZ f)) rfl
    ·intro i hi
     refine ex.sound (rc:=[2000043]) aK mix aA _ ?_
     refine aI (fun h=>?_) (fun h=>?_)
     ·have h:(i:Int)<f.levels.length:=cB h
      have bN:i<f.levels.length:=oM
      have hN:(zF f i).length≤110:=by simp[zF];omega
      have L4:jD (f.levels.getD i 0)=false:=by
       rw[List.any_eq_false]at a
       rw[bA bN]
       simpa using a _ (List.getElem_mem bN)
      have ew:aU ((i:Int)+1)=((i+1:Nat):Int):=aG oM oM
      refine oi ⟨oM,oM⟩ ?_
      refine aI (fun g=>?_) (fun g=>?_)
      ·have g:(f.levels.getD i 0==30000)=true:=g
       refine ob (show((zF f i).length+1)*16≤_ by omega) ?_
       refine ob (mT (xO rfl)) ?_
       refine⟨i+1,oM,oM,?_⟩
       refine aP.b7 aA [(100,49)] rfl ⟨bQ,⟨rfl,?_⟩,oO⟩ ⟨qZ,qZ,qZ,qZ,⟨rfl,aM.int ew⟩,oO⟩
       rw[KY f bN]
       exact YH (K3 (zF f i)) (by unfold rD;rw[g];rfl)
      ·have g:(f.levels.getD i 0==30000)=false:=g
       have T4:within (f.levels.getD i 0) (-20000) 20000=true:=by
        unfold jD at L4
        rw[show(f.levels.getD i 0 !=30000)=true by simpa using g]at L4
        simpa using L4
       have hw3:=within_iff.1 T4
       refine aB (C4 (f.levels.getD i 0) oM oM) ?_
       refine ob (show((zF f i).length+1)*16≤_ by omega) ?_
       refine ob (mT (xO rfl)) ?_
       refine⟨i+1,oM,oM,?_⟩
       refine aP.b7 aA [(100,54)] rfl ⟨bQ,⟨rfl,?_⟩,oO⟩ ⟨qZ,qZ,qZ,qZ,⟨rfl,aM.int ew⟩,oO⟩
       rw[KY f bN]
       exact YH (K3 (zF f i)) (by unfold rD;rw[g];rfl)
     ·have h:¬(i:Int)<f.levels.length:=cD h
      obtain rfl:i=f.levels.length:=oM
      have ew:zF f f.levels.length=fL f:=by rw[hw];simp[zF]
      refine⟨[100],_,(EZ he).conv (args':=_) ⟨aJ.of_eq (by rw[←ew];rfl),aJ.refl _,oO⟩,?_⟩
      exact aC.refl _
   |false=>
    cases k1:f.kind==1 with
    |true=>
     have hw:fL f=kZ f++ [Lib.itoa f.month,Lib.itoa f.seq,Lib.itoa f.aS,Lib.itoa f.over,tx f.aN,Lib.itoa f.cls,tx f.cQ]:=by unfold fL;rw[k0,k1];rfl
     obtain⟨⟨a,b,c,d⟩,e,g⟩:=kJ h2 k1
     have a:=within_iff.1 a
     have b:=within_iff.1 b
     have c:=within_iff.1 c
     have d:=within_iff.1 d
     rw[he]
     refine gA (rc:=[42,2000043]) (N:=86) func14 rfl rfl call14 aK mix rfl rfl (fun cx aA=>?_)
     refine⟨[(9,9)],_,_,_,_,JT f hf h1,rfl,trivial,rfl,?_⟩
     refine aI (fun k2=>absurd k2 dC) (fun _=>?_)
     refine aB (sE f hf) ?_
     rw[h2]
     refine aI (fun k2=>absurd k2 dC) (fun _=>?_)
     refine aB (C4 f.seq oM oM) ?_
     refine aI (fun k2=>(Bool.noConfusion (k0.symm.trans k2))) (fun k2=>?_)
     refine aI (fun k2=>?_) (fun k2=>(Bool.noConfusion (k1.symm.trans k2)))
     refine aB (C4 f.month oM oM) ?_
     refine aB (C4 f.aS oM oM) ?_
     refine aB (C4 f.over oM oM) ?_
     refine aB (C4 f.cls oM oM) ?_
     refine ob (show((kZ f).length+7)*16≤_ by omega) ?_
     refine ob (fun k j hk hj=>by
      obtain rfl:j=0:=by have:j<1:=hj;omega
      match k,hk with
      |0,_=>rfl
      |1,_=>rfl
      |2,_=>rfl
      |3,_=>rfl
      |4,_=>rfl
      |5,_=>rfl
      |6,_=>rfl) ?_
     refine aD ?_
     refine⟨[77],_,(EZ he).conv (args':=_) ⟨aJ.xL (by rw[hw,List.length_append];rfl) fun i j hi hj=>aJ.of_eq ?_,aJ.refl _,oO⟩,?_⟩
     ·obtain rfl:j=0:=by have:j<1:=hj;omega
      have hi:i<(kZ f).length+7:=hi
      rw[hw]
      by_cases hik:i<(kZ f).length
      ·refine(show kM _ _ _ i 0=_ from if_pos hik).trans ?_
       show dT ((kZ f).getD i [])=dT _
       simp only [List.getD_eq_getElem?_getD,List.getElem?_append_left hik]
      ·refine(show kM _ _ _ i 0=_ from if_neg hik).trans ?_
       obtain⟨k,rfl⟩:∃k,i=(kZ f).length+k:=⟨i - (kZ f).length,oM⟩
       simp only [List.getD_eq_getElem?_getD,List.getElem?_append_right (Nat.le_add_right _ _),Nat.add_sub_cancel_left]
       have hk:k<7:=oM
       match k,hk with
       |0,_=>rfl
       |1,_=>rfl
       |2,_=>rfl
       |3,_=>rfl
       |4,_=>exact aBF _
       |5,_=>rfl
       |6,_=>exact aBF _
     exact aC.refl _
    |false=>
     cases k2:f.kind==2 with
     |true=>
      have hw:fL f=kZ f++ [Lib.itoa f.seq]:=by unfold fL;rw[k0,k1,k2];rfl
      rw[he]
      refine gA (rc:=[42,2000043]) (N:=86) func14 rfl rfl call14 aK mix rfl rfl (fun cx aA=>?_)
      refine⟨[(9,9)],_,_,_,_,JT f hf h1,rfl,trivial,rfl,?_⟩
      refine aI (fun k2=>absurd k2 dC) (fun _=>?_)
      refine aB (sE f hf) ?_
      rw[h2]
      refine aI (fun k2=>absurd k2 dC) (fun _=>?_)
      refine aB (C4 f.seq oM oM) ?_
      refine aI (fun k3=>(Bool.noConfusion (k0.symm.trans k3))) (fun k3=>?_)
      refine aI (fun k3=>(Bool.noConfusion (k1.symm.trans k3))) (fun k3=>?_)
      refine aI (fun k3=>?_) (fun k3=>(Bool.noConfusion (k2.symm.trans k3)))
      refine ob (show((kZ f).length+1)*16≤_ by omega) ?_
      refine ob (mT (xO rfl)) ?_
      refine⟨[83],_,(EZ he).conv (args':=_) ⟨?_,aJ.refl _,oO⟩,?_⟩
      ·rw[hw]
       exact gH.fJ (gH.snoc (K3 (kZ f)) (xO rfl))
      exact aC.refl _
     |false=>
      have hw:fL f=sW (kZ f) 1 (Lib.itoa f.seq):=by unfold fL;rw[k0,k1,k2];rfl
      have hl2:1<(kZ f).length:=by
       unfold kZ
       cases h3:f.kind !=3 with
       |false=>have:=lV f.target f;simp;omega
       |true=>
        have e3:mH f=bK f.kind f:=by unfold mH;rw[h3];rfl
        rw[e3]at h1
        rcases fW h1 with⟨q,_⟩|⟨q,_⟩|⟨q,_⟩
        ·rw[q]at k0;cases k0
        ·rw[q]at k1;cases k1
        ·rw[q]at k2;cases k2
      rw[he]
      refine gA (rc:=[42,48,2000043]) (N:=86) func14 rfl rfl call14 aK mix rfl rfl (fun cx aA=>?_)
      refine⟨[(9,9)],_,_,_,_,JT f hf h1,rfl,trivial,rfl,?_⟩
      refine aI (fun k2=>absurd k2 dC) (fun _=>?_)
      refine aB (sE f hf) ?_
      rw[h2]
      refine aI (fun k2=>absurd k2 dC) (fun _=>?_)
      refine aB (C4 f.seq oM oM) ?_
      refine aI (fun k3=>(Bool.noConfusion (k0.symm.trans k3))) (fun k3=>?_)
      refine aI (fun k3=>(Bool.noConfusion (k1.symm.trans k3))) (fun k3=>?_)
      refine aI (fun k3=>(Bool.noConfusion (k2.symm.trans k3))) (fun k3=>?_)
      refine⟨[(1,9),(2,30),(9,31)],_,_,_,_,U3 (kZ f) 1 (Lib.itoa f.seq) hl2 oM (fun k hk=>aJ.refl _) (aJ.refl _),rfl,⟨rfl,rfl,oO⟩,rfl,?_⟩
      have hw3:(kZ f).length+1=(fL f).length:=by rw[hw];simp[sW];omega
      refine⟨[31],_,(EZ he).conv (args':=_) ⟨aJ.xL hw3 fun i j _ _=>aJ.of_eq (by rw[hw];rfl),aJ.refl _,oO⟩,?_⟩
      exact aC.refl _
  ·have he:eI f=[]:=by unfold eI;rw[e1,show(iF f==0)=false by simpa using h2];rfl
   rw[he,e1]
   refine gA (rc:=[42]) (N:=86) func14 rfl rfl call14 aK mix rfl rfl (fun cx aA=>?_)
   refine⟨[(9,9)],_,_,_,_,JT f hf h1,rfl,trivial,rfl,?_⟩
   refine aI (fun k2=>absurd k2 dC) (fun _=>?_)
   refine aB (sE f hf) ?_
   refine aI (fun k2=>?_) (fun k2=>?_)
   ·exact aC.refl _
   ·have k2:(iF f !=0)=false:=k2
    exact absurd (by simpa using k2) h2
 ·have e1:fA f=mH f:=by unfold fA;rw[show(mH f !=0)=true by simpa using h1];rfl
  have he:eI f=[]:=by unfold eI;rw[e1,show(mH f==0)=false by simpa using h1];rfl
  rw[he,e1]
  refine eP func14 rfl rfl call14 rfl rfl fun cx aA=>?_
  refine aB (Z5 f hf h1) ?_
  refine aI (fun k2=>?_) (fun k2=>?_)
  ·exact aC.refl _
  ·have k2:(mH f !=0)=false:=k2
   exact absurd (by simpa using k2) h1
def tD{α:Type}(f:α→Int):List α→Int
 |[]=>0
 |x::r=>bif f x !=0 then f x else tD f r
theorem D2{α:Type}(f:α→Int)(x:α)(r:List α):tD f (x::r)=bif f x !=0 then f x else tD f r:=rfl
def yE(p:Proj)(f:Fact):Bool:=f.kind==0&&(f.levels.length:Int) !=p.aS.levels.length
def XL(p:Proj)(f:Fact):Int:=bif fA f !=0 then fA f else bif yE p f then 10 else 0
theorem XJ(p:Proj)(f:Fact)(hf:f.fits):aF prog 40 [LH p,oB f] (vI (XL p f)):=by
 refine eP func40 rfl rfl call40 rfl rfl fun cx aA=>?_
 refine aB (qA f hf) ?_
 refine aI (fun h1=>?_) (fun h1=>?_)
 ·have h1:(fA f !=0)=true:=h1
  exact aC.of_eq (by unfold XL;rw[h1];rfl)
 have h1:(fA f !=0)=false:=h1
 repeat refine aR ?_
 refine aI (fun h2=>?_) (fun h2=>?_)
 ·have h2:yE p f=true:=h2
  exact aC.of_eq (by unfold XL;rw[h1,h2];rfl)
 ·have h2:yE p f=false:=h2
  exact aC.of_eq (by unfold XL;rw[h1,h2];rfl)
def mV(p:Proj)(l:List Fact):Int:=bif l8 p !=0 then l8 p else bif decide ((l.length:Int)>200)then 8 else tD (XL p) l
theorem SL(p:Proj)(l:List Fact)(hp:p.fits)(hf:∀f∈l,f.fits)(hl:l.length≤9223372036854775807):aF prog 117 [LH p,jF l] (vI (mV p l)):=by
 refine eP func117 rfl rfl call117 rfl rfl fun cx aA=>?_
 refine aB (MS p hp) ?_
 refine aI (fun h1=>?_) (fun h1=>?_)
 ·have h1:(l8 p !=0)=true:=h1
  exact aC.of_eq (by unfold mV;rw[h1];rfl)
 have h1:(l8 p !=0)=false:=h1
 refine aI (fun h2=>?_) (fun h2=>?_)
 ·have h2:decide ((l.length:Int)>200)=true:=h2
  exact aC.of_eq (by unfold mV;rw[h1,h2];rfl)
 have h2:decide ((l.length:Int)>200)=false:=h2
 have he:mV p l=tD (XL p) l:=by unfold mV;rw[h1,h2];rfl
 refine AW.loop (fun i:Nat=>⟨[(2,.s (.ptr 2 0)),(17,jF l),(18,vI l.length),(19,vI i)],[(2,some (.cells (F0 p)))]⟩) (fun i=>i≤l.length∧tD (XL p) l=tD (XL p) (l.drop i)) (fun i=>l.length - i) 0 ⟨Nat.zero_le _,rfl⟩ ?_ ?_
 ·refine Sub.b7 aA ⟨rQ,oO⟩ ⟨rQ,rQ,rQ,rQ,oO⟩
 ·rintro i ⟨hi,hj⟩
  refine eX aA ?_
  refine aI (fun h=>?_) (fun h=>?_)
  ·have h:(i:Int)<l.length:=cB h
   have bN:i<l.length:=oM
   have hd:l.drop i=l[i]::l.drop (i+1):=List.drop_eq_getElem_cons bN
   have hg:l.getD i default=l[i]:=bA bN
   rw[hd]at hj
   refine oi ⟨oM,oM⟩ ?_
   repeat refine aR ?_
   refine aB (XJ p (l.getD i default) (by rw[hg];exact hf _ (List.getElem_mem bN))) ?_
   refine aI (fun h3=>?_) (fun h3=>?_)
   ·have h3:(XL p (l.getD i default) !=0)=true:=h3
    exact aC.of_eq (by rw[he,hj,←hg];unfold tD;rw[h3];rfl)
   ·have h3:(XL p (l.getD i default) !=0)=false:=h3
    refine⟨i+1,⟨oM,by rw[hj,←hg,D2,h3];rfl⟩,oM,?_⟩
    refine Sub.b7 aA ⟨rQ,oO⟩ ⟨rQ,rQ,rQ,⟨rfl,?_⟩,oO⟩
    exact congrArg vI (aG oM oM)
  ·have h:¬(i:Int)<l.length:=cD h
   obtain rfl:i=l.length:=oM
   exact aC.of_eq (by rw[he,hj,List.drop_length];rfl)
end Go.Pj
namespace Go.Ch
open Go Go.Ax Go.Proofs Go.Proofs.Tryz Go.RowKit
theorem BJ(l:List UInt8):(bs l).data.toList=l:=by simp[bs]
theorem X2(s p:List UInt8):aF prog 214 [vT s,vT p] (.t [.s (.d (dT (Lib.trimPrefix s p))),.s (.d (.val (.bool (Lib.hasPrefix s p))))]):=by
 refine⟨call214,fun M w vs hg hr hM=>?_⟩
 match vs,hr with
 |[a,b],⟨h,h2,_⟩=>
  obtain rfl:a=.string (bs s):=h
  obtain rfl:b=.string (bs p):=h2
  refine(Tryz.strings_CutPrefix (bs s) (bs p) w).mono ?_
  rintro e w' ⟨rfl,rfl⟩
  rw[BJ,BJ]
  exact⟨_,M,rfl,⟨[_,_],rfl,rfl,rfl,oO⟩,Grow.refl _ _,hM,⟨Below.refl _ _,oO⟩⟩
theorem aLB{M:Mem}{w:World}{ls:List (List UInt8)}{n:Nat}(hn:ls.length=n):(MI ls).a7 (vR M w (w.alloc (.cells (ls.map fun l=>Value.string (bs l)).toArray 9))) (.slice (some ⟨w.heap.size,0,none⟩) n n):=by
 subst hn
 refine⟨_,_,rfl,Nat.le_refl _,.inr ⟨w.heap.size,0,rfl,fun i j hi hj=>?_⟩⟩
 obtain rfl:j=0:=oM
 refine⟨.string (bs (ls.getD i [])),?_,rfl⟩
 simp only [vR,Nat.le_refl,if_true,Nat.zero_add,Nat.mul_one,Nat.add_zero]
 have h:=heap_alloc_new w (.cells (ls.map fun l=>Value.string (bs l)).toArray 9)
 simp only [World.cell?,h]
 simp[List.getD,List.getElem?_eq_getElem hi]
def oI(s sep:List UInt8):List (List UInt8):=(Lib.splitB (bs sep) 0 (Lib.countB (bs s) (bs sep)) (bs s)).map fun b=>b.data.toList
theorem Split(s sep:List UInt8)(hs:s.length<4294967281)(h1:1≤sep.length):aF prog 51 [vT s,vT sep] (.s (.d (MI (oI s sep)))):=by
 refine⟨call51,fun M w vs hg hr hM=>?_⟩
 match vs,hr with
 |[v,u],⟨h,h2,_⟩=>
  obtain rfl:v=.string (bs s):=h
  obtain rfl:u=.string (bs sep):=h2
  obtain⟨x,hx⟩:=hg
  refine(Tryz.strings_Split (bs s) (bs sep) x.m w (by rw[aW];exact hs) (by rw[B3 hx (g:=0) (t:= #[.int .i64 x.m]) (by simp[rH])];rfl) (by rw[aW];exact h1)).mono ?_
  rintro e w' ⟨rfl,rfl⟩
  have hb:Below w.heap.size w (w.alloc (.cells ((Lib.splitB (bs sep) 0 (Lib.countB (bs s) (bs sep)) (bs s)).map Value.string).toArray 9)):=(Below.refl _ w).alloc (Nat.le_refl _) _
  refine⟨_,vR M w _,rfl,?_,OD hM,V0 hM hb,⟨hb,oO⟩⟩
  have e1:(Lib.splitB (bs sep) 0 (Lib.countB (bs s) (bs sep)) (bs s)).map Value.string=(oI s sep).map fun l=>Value.string (bs l):=by
   simp only [oI,List.map_map]
   exact List.map_congr_left fun b _=>rfl
  rw[e1]
  exact aLB (by simp only [oI,List.length_map];exact Lib.splitB_all (bs sep) (by rw[aW];exact h1) 0 _ (bs s) rfl)
theorem aH3(ls:List (List UInt8))(x:List UInt8)(hN:ls.length≤9223372036854775807):aF prog 174 [.s (.d (MI ls)),vT x] (vI (Lib.idxOfS (ls.map bs) (bs x))):=by
 refine⟨call174,fun M w vs hg hr hM=>?_⟩
 match vs,hr with
 |[v,s],⟨h,h2,_⟩=>
  obtain rfl:s=.string (bs x):=h2
  obtain⟨a,cap,rfl,hc,cN⟩:=h
  by_cases h0:ls.length=0
  ·have:ls=[]:=List.eq_nil_of_length_eq_zero h0
   subst this
   refine(Tryz.slices_Index_string_empty a cap (bs x) w).mono ?_
   rintro e w' ⟨rfl,rfl⟩
   exact⟨_,M,rfl,rfl,Grow.refl _ _,hM,⟨Below.refl _ _,oO⟩⟩
  rcases cN with h1|⟨b,o,rfl,cN⟩
  ·exact absurd h1 h0
  have cells:∀j,j<(ls.map bs).length→w.cell? ⟨b,o+j,none⟩=some (.string ((ls.map bs).getD j ByteArray.empty)):=by
   intro j hj
   have hj:j<ls.length:=by simpa using hj
   obtain⟨u,hu,hr⟩:=cN j 0 hj oM
   rw[show o+j*1+0=o+j by omega]at hu
   rw[hM _ _ _ hu]
   have hr:u=.string (bs (ls.getD j [])):=hr
   rw[hr,bA hj]
   simp[List.getD,List.getElem?_eq_getElem hj]
  have hsh:=Tryz.slices_Index_string b o ls.length cap (ls.map bs) (bs x) w sM hN cells
  rw[List.take_of_length_le sM]at hsh
  refine hsh.mono ?_
  rintro e w' ⟨rfl,rfl⟩
  exact⟨_,M,rfl,rfl,Grow.refl _ _,hM,⟨Below.refl _ _,oO⟩⟩
end Go.Ch
--K6
namespace Go.Ax
def EF:eO→eO→Prop
 |[],[]=>True
 |(x,b)::r,(y,c)::s=>x=y∧aQ b c∧EF r s
 |_,_=>False
theorem EF.names:∀{a b:eO},EF a b→names a=names b
 |[],[],_=>rfl
 |(x,b)::r,(y,c)::s,⟨h,_,k⟩=>by
  subst h
  have:=EF.names k
  simp only [Ax.names]at this ⊢
  rw[this]
 |[],_::_,h=>h.elim
 |_::_,[],h=>h.elim
theorem EF.get{M:Mem}{β:Nm}{w:World}:∀{a b:eO},EF a b→(∀x c,(x,c)∈a→cH M β w x c)→∀x c,(x,c)∈b→cH M β w x c
 |[],[],_,_,x,c,hc=>by cases hc
 |(x,b)::r,(y,c)::s,⟨h,h2,k⟩,hr,z,d,hd=>by
  subst h
  cases hd with
  |head=>exact h2 M β w x (hr x b (List.mem_cons_self ..))
  |tail _ hd=>exact EF.get k (fun x c hc=>hr x c (List.mem_cons_of_mem _ hc)) z d hd
 |[],_::_,h,_,_,_,_=>h.elim
 |_::_,[],h,_,_,_,_=>h.elim
theorem bM.le{P:Program}{f:FuncId}{args:List AV}{bx:eO}{r r':AV}{b1 b2:eO}(h:bM P f args bx r b1)(hr:aM r r')(hb:EF b1 b2):bM P f args bx r' b2:=by
 refine⟨h.1,fun M β w vs hG hA hM qE hβ=>(h.2 M β w vs hG hA hM qE hβ).mono ?_⟩
 rintro q w' ⟨v,M',β',he,hle,dU,QT,aGK,fT,EJ,rest⟩
 have hn:=hb.names
 exact⟨v,M',β',he,hle,hr _ _ _ dU,QT,aGK,⟨fun x hx=>fT.has x (hn▸hx),hb.get fT.rep,fun x y b c c' hx hy=>fT.inj x y b c c' (hn▸hx) (hn▸hy),fun x b c hx=>fT.apart x b c (hn▸hx)⟩,fun x b c hx=>EJ x b c (hn▸hx),rest⟩
end Go.Ax
namespace Go.Pj
open Go Go.Ax Go.Ch Go.Proofs Go.Proofs.Tryz
set_option maxRecDepth 100000
set_option maxHeartbeats 1000000
abbrev RS:=List bG×Bool
abbrev dB(b:Bool):DV:=.val (.bool b)
abbrev CG(s:RS):List SV:=[.d (MI s.1),.d (.lit s.2)]
def cU(s:RS):bG×RS:=(s.1.headD [],(s.1.tail,s.2||s.1.isEmpty))
def rdNum(s:RS):Int×RS:=(atN (s.1.headD []),(s.1.tail,(s.2||s.1.isEmpty)||SZ (s.1.headD [])))
theorem word(s:RS)(hl:s.1.length≤9223372036854775807):bM prog 114 [.s (.ptr 1 0)] [(1,.cells (CG s))] (vT (cU s).1) [(1,.cells (CG (cU s).2))]:=by
 obtain⟨l,b⟩:=s
 cases l with
 |nil=>
  refine bM.le (b1:=[(1,.cells [.d (MI []),.d (.lit true)])]) (r:=vT []) ?_ aM.rfl ⟨rfl,aQ.cells ⟨aM.rfl,aM.of_eq (by cases b <;> rfl),oO⟩,oO⟩
  refine fZ (rc:=[]) (N:=28) func114 rfl rfl call114 aK mix rfl rfl rfl rfl (fun cx aA=>?_)
  refine aI (fun h=>?_) (fun h=>Bool.noConfusion (show true=false from h))
  exact⟨aC.refl _,rfl,oO⟩
 |cons a l=>
  apply bM.le (b1:=[(1,.cells [_,_])]) (r:=vT a)
  case h=>
   refine fZ (rc:=[]) (N:=28) func114 rfl rfl call114 aK mix rfl rfl rfl rfl (fun cx aA=>?_)
   refine aI (fun h=>?_) (fun h=>?_)
   ·have h:(((a::l).length:Int)==0)=true:=h
    simp at h
    omega
   refine oi (show(0:Int)≤0∧(0:Int)<((a::l).length:Int) by simp only [List.length_cons];omega) ?_
   refine oi (show(0:Int)≤1∧(1:Int)≤((a::l).length:Int)∧((a::l).length:Int)≤((a::l).length:Int) by simp only [List.length_cons];omega) ?_
   exact⟨aC.refl _,rfl,oO⟩
  case hr=>exact aM.rfl
  case hb=>
   refine⟨rfl,aQ.cells ⟨aM.d (aJ.xL ?_ fun i j hi hj=>aJ.of_eq ?_),?_,oO⟩,oO⟩
   ·show(((a::l).length:Int) - 1).toNat=l.length
    simp only [List.length_cons];omega
   ·show dT ((a::l).getD (1+i) [])=dT (l.getD i [])
    rw[Nat.add_comm];rfl
   ·exact aM.of_eq (by simp[cU])
theorem aM.val{b c:Bool}(h:b=c):aM (.s (.d (.val (.bool b)))) (.s (.d (.lit c))):=by subst h;exact fun _ _ _ r=>r
theorem number(s:RS)(hl:s.1.length≤9223372036854775807)(hw:(s.1.headD []).length≤281474976710656):bM prog 116 [.s (.ptr 1 0)] [(1,.cells (CG s))] (vI (rdNum s).1) [(1,.cells (CG (rdNum s).2))]:=by
 obtain⟨l,b⟩:=s
 cases hb:b||l.isEmpty with
 |true=>
  have e1:(cU (l,b)).2=(l.tail,true):=by simp[cU,hb]
  have e2:(rdNum (l,b)).2=(l.tail,true):=by simp[rdNum,hb]
  rw[e2]
  have O2:=word (l,b) hl
  rw[e1]at O2
  refine bM.le (b1:=[(1,.cells [.d (MI l.tail),.d (.lit true)])]) (r:=vI (rdNum (l,b)).1) ?_ aM.rfl ⟨rfl,aQ.rfl,oO⟩
  refine fZ (rc:=[114]) (N:=23) func116 rfl rfl call116 aK mix rfl rfl rfl rfl (fun cx aA=>?_)
  refine⟨[(1,1)],_,_,_,_,O2,rfl,⟨rfl,oO⟩,rfl,?_⟩
  refine aB (Atoi (l.headD []) hw) ?_
  repeat refine aR ?_
  exact⟨aC.refl _,rfl,oO⟩
 |false=>
  have e1:(cU (l,b)).2=(l.tail,false):=by simp[cU,hb]
  have e2:(rdNum (l,b)).2=(l.tail,SZ (l.headD [])):=by simp[rdNum,hb]
  rw[e2]
  have O2:=word (l,b) hl
  rw[e1]at O2
  refine bM.le (b1:=[(1,.cells [.d (MI l.tail),.d (.val (.bool (SZ (l.headD []))))])]) (r:=vI (rdNum (l,b)).1) ?_ aM.rfl ⟨rfl,aQ.cells ⟨aM.rfl,aM.val rfl,oO⟩,oO⟩
  refine fZ (rc:=[114]) (N:=23) func116 rfl rfl call116 aK mix rfl rfl rfl rfl (fun cx aA=>?_)
  refine⟨[(1,1)],_,_,_,_,O2,rfl,⟨rfl,oO⟩,rfl,?_⟩
  refine aB (Atoi (l.headD []) hw) ?_
  repeat refine aR ?_
  intro c hc
  obtain rfl:c=SZ (l.headD []):=by
   revert hc
   cases c <;> cases SZ (l.headD []) <;> simp
  repeat refine aR ?_
  exact⟨aC.refl _,rfl,oO⟩
end Go.Pj
namespace Go.Pj
open Go Go.Ax Go.Ch Go.Proofs Go.Proofs.Tryz
def pI(s:RS):Prop:=s.1.length≤4294967296∧∀w∈s.1,w.length≤4294967296
theorem pI.tail{l:List bG}{b c:Bool}(h:pI (l,b)):pI (l.tail,c):=
 ⟨Nat.le_trans sM h.1,fun w hw=>h.2 w (List.mem_of_mem_tail hw)⟩
theorem pI.head{s:RS}(h:pI s):(s.1.headD []).length≤281474976710656:=by
 obtain⟨l,b⟩:=s
 cases l with
 |nil=>simp
 |cons a l=>exact Nat.le_trans (h.2 a (List.mem_cons_self ..)) dC
theorem pI.num{s:RS}(h:pI s):pI (rdNum s).2:=pI.tail (b:=s.2) h
theorem pI.word{s:RS}(h:pI s):pI (cU s).2:=pI.tail (b:=s.2) h
theorem num{s:RS}(h:pI s):bM prog 116 [.s (.ptr 1 0)] [(1,.cells (CG s))] (vI (rdNum s).1) [(1,.cells (CG (rdNum s).2))]:=number s (Nat.le_trans h.1 dC) h.head
theorem wrd{s:RS}(h:pI s):bM prog 114 [.s (.ptr 1 0)] [(1,.cells (CG s))] (vT (cU s).1) [(1,.cells (CG (cU s).2))]:=word s (Nat.le_trans h.1 dC)
def tY(x:bG):Int:=Lib.idxOfS ([kP,rG,nF,bS].map bs) (bs x)
theorem kindOf(x:bG):aF prog 113 [vT x] (vI (tY x)):=by
 refine eP func113 rfl rfl call113 rfl rfl fun cx aA=>?_
 refine aB ((aH3 [kP,rG,nF,bS] x dC).conv (args':=_) ⟨aJ.xL rfl fun i j hi hj=>?_,aJ.refl _,oO⟩) ?_
 ·obtain rfl:j=0:=by have:j<1:=hj;omega
  have hi:i<4:=hi
  match i,hi with
  |0,_=>exact aJ.refl _
  |1,_=>exact aJ.refl _
  |2,_=>exact aJ.refl _
  |3,_=>exact aJ.refl _
 ·exact aC.refl _
def iG(k:Int)(f:Fact)(s:RS):Fact×RS:=
 bif k==0 then({f with aX:=(rdNum s).1,month:=(rdNum (rdNum s).2).1},(rdNum (rdNum s).2).2)
 else bif k==1 then({f with number:=(rdNum s).1},(rdNum s).2)
 else bif k==2 then({f with cE:=bs (cU s).1,month:=(rdNum (cU s).2).1},(rdNum (cU s).2).2)
 else(f,(s.1,true))
theorem pI.key{k:Int}{f:Fact}{s:RS}(h:pI s):pI (iG k f s).2:=by
 unfold iG
 cases k==0 <;> cases k==1 <;> cases k==2
 all_goals first|exact h.num.num|exact h.num|exact h.word.num|exact h
abbrev oC(f:Fact)(x:SV):List SV:=[.d (dI f.kind),.d (dI f.seq),.d (dI f.aX),.d (dI f.month),.d (dI f.number),.d (dI f.aS),.d (dI f.over),.d (dI f.cls),.d (dI f.target),.d (dS f.aN),.d (dS f.cQ),.d (dS f.cE),x]
theorem aI3(k:Int)(f:Fact)(x:DV){s:RS}(h:pI s):bM prog 115 [.s (.ptr 1 0),.s (.ptr 2 0),vI k] [(1,.cells (CG s)),(2,.cells (oC f (.d x)))] (.t []) [(1,.cells (CG (iG k f s).2)),(2,.cells (oC (iG k f s).1 (.d x)))]:=by
 cases k0:k==0 with
 |true=>
  have e:iG k f s=({f with aX:=(rdNum s).1,month:=(rdNum (rdNum s).2).1},(rdNum (rdNum s).2).2):=by unfold iG;rw[k0];rfl
  rw[e]
  refine qP (rc:=[116]) (N:=41) func115 rfl rfl call115 aK mix rfl rfl rfl (fun cx aA=>?_)
  refine aI (fun g=>?_) (fun g=>(Bool.noConfusion (k0.symm.trans g)))
  refine⟨[(1,1)],_,_,_,_,num h,rfl,⟨rfl,oO⟩,rfl,?_⟩
  refine⟨[(1,1)],_,_,_,_,num h.num,rfl,⟨rfl,oO⟩,rfl,?_⟩
  exact⟨rfl,rfl,oO⟩
 |false=>
  cases k1:k==1 with
  |true=>
   have e:iG k f s=({f with number:=(rdNum s).1},(rdNum s).2):=by unfold iG;rw[k0,k1];rfl
   rw[e]
   refine qP (rc:=[116]) (N:=41) func115 rfl rfl call115 aK mix rfl rfl rfl (fun cx aA=>?_)
   refine aI (fun g=>(Bool.noConfusion (k0.symm.trans g))) (fun g=>?_)
   refine aI (fun g=>?_) (fun g=>(Bool.noConfusion (k1.symm.trans g)))
   refine⟨[(1,1)],_,_,_,_,num h,rfl,⟨rfl,oO⟩,rfl,?_⟩
   exact⟨rfl,rfl,oO⟩
  |false=>
   cases k2:k==2 with
   |true=>
    have e:iG k f s=({f with cE:=bs (cU s).1,month:=(rdNum (cU s).2).1},(rdNum (cU s).2).2):=by unfold iG;rw[k0,k1,k2];rfl
    rw[e]
    refine qP (rc:=[116,114]) (N:=41) func115 rfl rfl call115 aK mix rfl rfl rfl (fun cx aA=>?_)
    refine aI (fun g=>(Bool.noConfusion (k0.symm.trans g))) (fun g=>?_)
    refine aI (fun g=>(Bool.noConfusion (k1.symm.trans g))) (fun g=>?_)
    refine aI (fun g=>?_) (fun g=>(Bool.noConfusion (k2.symm.trans g)))
    refine⟨[(1,1)],_,_,_,_,wrd h,rfl,⟨rfl,oO⟩,rfl,?_⟩
    refine⟨[(1,1)],_,_,_,_,num h.word,rfl,⟨rfl,oO⟩,rfl,?_⟩
    exact⟨rfl,rfl,oO⟩
   |false=>
    have e:iG k f s=(f,(s.1,true)):=by unfold iG;rw[k0,k1,k2];rfl
    rw[e]
    refine qP (rc:=[]) (N:=41) func115 rfl rfl call115 aK mix rfl rfl rfl (fun cx aA=>?_)
    refine aI (fun g=>(Bool.noConfusion (k0.symm.trans g))) (fun g=>?_)
    refine aI (fun g=>(Bool.noConfusion (k1.symm.trans g))) (fun g=>?_)
    refine aI (fun g=>(Bool.noConfusion (k2.symm.trans g))) (fun g=>?_)
    exact⟨rfl,rfl,oO⟩
theorem aM.gl{l m:List SV}(h:XZ l m):aM (.g l) (.g m):=by
 rintro M β v ⟨vs,e,r⟩
 refine⟨vs,e,?_⟩
 clear e
 induction l generalizing m vs with
 |nil=>cases m with
  |nil=>exact r
  |cons _ _=>exact h.elim
 |cons a l ih=>
  cases m with
  |nil=>exact h.elim
  |cons b m=>
   match vs,r with
   |u::us,⟨r1,r2⟩=>exact⟨h.1 M β u r1,ih h.2 us r2⟩
theorem E3(f:Fact){x y:SV}(h:aM (.s x) (.s y)):aM (.g (oC f x)) (.g (oC f y)):=
 aM.gl ⟨aM.rfl,aM.rfl,aM.rfl,aM.rfl,aM.rfl,aM.rfl,aM.rfl,aM.rfl,aM.rfl,aM.rfl,aM.rfl,aM.rfl,h,oO⟩
def cO(k:Int):Fact:={(default:Fact)with kind:=k,seq:=0,aX:=0,month:=0,number:=0,aS:=0,over:=0,cls:=0,target:=0,aN:=bs [],cQ:=bs [],cE:=bs [],levels:=[]}
def DG(w:bG):Int:=bif w== [45]then 30000 else atN w
def JS(w:bG):Bool:=bif w== [45]then false else SZ w
def Q5(f:Fact)(s:RS):Fact×RS:=
 let s1:=(rdNum s).2
 let s2:=(rdNum s1).2
 let s3:=(rdNum s2).2
 let s4:=(rdNum s3).2
 let s5:=(cU s4).2
 let s6:=(rdNum s5).2
 ({f with month:=(rdNum s).1,seq:=(rdNum s1).1,aS:=(rdNum s2).1,over:=(rdNum s3).1,aN:=bs (cU s4).1,cls:=(rdNum s5).1,cQ:=bs (cU s6).1},(cU s6).2)
def iJ(s:RS):Fact×RS:=
 let k:=tY (cU s).1
 let s1:=(cU s).2
 bif k==0 then
  let r:=iG k (cO k) s1
  let s3:=(rdNum r.2).2
  ({r.1 with seq:=(rdNum r.2).1,levels:=s3.1.map DG},([],s3.2||s3.1.any JS))
 else bif k==1 then Q5 (iG k (cO k) s1).1 (iG k (cO k) s1).2
 else bif k==3 then
  let s2:=(rdNum s1).2
  let s3:=(cU s2).2
  iG (tY (cU s2).1) {cO k with seq:=(rdNum s1).1,target:=tY (cU s2).1} s3
 else
  let r:=iG k (cO k) s1
  ({r.1 with seq:=(rdNum r.2).1},(rdNum r.2).2)
theorem AA(k:Int)(f:Fact)(s:RS):(iG k f s).1.levels=f.levels:=by
 unfold iG
 cases k==0 <;> cases k==1 <;> cases k==2 <;> rfl
abbrev dK:DV:=.val (.slice none 0 0)
theorem pU{l:List Int}(h:l=[]):aM (.s (.d dK)) (.s (.d (cG l))):=by
 subst h
 exact aM.d aJ.nil
theorem aE8{s:RS}(h:pI s):bM prog 52 [.s (.ptr 1 0)] [(1,.cells (CG s))] (oB (iJ s).1) [(1,.cells (CG (iJ s).2))]:=by
 have h1:=h.word
 generalize hk:tY (cU s).1=k
 generalize J6:(cU s).2=s1 at h1
 have hr:=h1.key (k:=k) (f:=cO k)
 have hl:=AA k (cO k) s1
 have rU:=aI3 k (cO k) dK h1
 cases k0:k==0 with
 |true=>
  generalize M5:iG k (cO k) s1=r at hl rU hr
  obtain⟨f1,s2⟩:=r
  have c1:=num (s:=s2) hr
  have UD:=pI.num (s:=s2) hr
  generalize e1:rdNum s2=r1 at c1 UD
  obtain⟨n1,l,b⟩:=r1
  have h3:pI (l,b):=UD
  have e:iJ s=({f1 with seq:=n1,levels:=l.map DG},([],b||l.any JS)):=by
   unfold iJ
   simp only [hk,J6,k0,cond_true,M5,e1]
  rw[e]
  have PC:∀i c,pI (l.drop i,c):=fun i c=>⟨Nat.le_trans sM h3.1,fun w hw=>h3.2 w (List.mem_of_mem_drop hw)⟩
  have hn:=h3.1
  have hn:l.length≤4294967296:=hn
  refine bM.le (b1:=[(1,.cells (CG ([],b||l.any JS)))]) (r:=.g (oC {f1 with seq:=n1} (.d (.fJ (bif (l.map DG).isEmpty then 0 else(l.map DG).length) 1 (dM (l.map DG)))))) ?_ (E3 {f1 with seq:=n1} (aM.of_eq (by rw[dW];rfl))) ⟨rfl,aQ.rfl,oO⟩
  refine kN func52 rfl rfl call52 aK rfl rfl rfl rfl (fun cx aA=>?_)
  refine sX aA ?_
  refine AW.seq (ex.sound (rc:=[114]) aK mix aA _ ?_)
  refine⟨[(1,1)],_,_,_,_,wrd h,rfl,⟨rfl,oO⟩,rfl,?_⟩
  refine aB (kindOf (cU s).1) ?_
  rw[hk,J6]
  refine AW.fU (σ':=⟨[(0,.s (.ptr 1 0)),(2,.s (.ptr 2 0)),(3,.s (.ptr 3 0))],[(1,some (.cells (CG s1))),(2,some (.cells (iE ty40.zero))),(3,some (.cells (oC (cO k) (.d dK))))]⟩) (aP.of [] (by rw[aA];rfl) rfl ⟨bQ,bQ,bQ,oO⟩ ⟨qZ,qZ,qZ,oO⟩) ?_
  refine AW.seq (sX aA ?_)
  refine AW.block (sX aA ?_)
  refine AW.cond ?_
  refine aI (fun g=>?_) (fun g=>(Bool.noConfusion (k0.symm.trans g)))
  refine AW.seq (ex.sound (rc:=[115]) aK mix aA _ ?_)
  refine⟨[(1,1),(2,3)],_,_,_,_,rU,rfl,⟨rfl,rfl,oO⟩,rfl,?_⟩
  refine AW.fU (σ':=⟨[(0,.s (.ptr 1 0)),(2,.s (.ptr 2 0)),(3,.s (.ptr 3 0))],[(1,some (.cells (CG s2))),(2,some (.cells (iE ty40.zero))),(3,some (.cells (oC (f1) (.d dK))))]⟩) (aP.of [] (by rw[aA];rfl) rfl ⟨bQ,bQ,bQ,oO⟩ ⟨qZ,qZ,qZ,oO⟩) ?_
  refine AW.seq (ex.sound (rc:=[116]) aK mix aA _ ?_)
  refine⟨[(1,1)],_,_,_,_,c1,rfl,⟨rfl,oO⟩,rfl,?_⟩
  refine AW.block ?_
  refine AW.cZ (fun i:Nat=>⟨[(0,.s (.ptr 1 0)),(2,.s (.ptr 2 0)),(3,.s (.ptr 3 0))],[(1,some (.cells (CG (l.drop i,b||(l.take i).any JS)))),(2,some (.cells (iE ty40.zero))),(3,some (.cells (oC {f1 with seq:=n1} (.mo ((l.take i).map DG).isEmpty 100)))),(100,some (.bW 3 ((l.take i).map DG).length 1 (dM ((l.take i).map DG))))]⟩)
   (fun i=>i≤l.length) (fun i=>l.length - i) 0 (Nat.zero_le _) ?_ ?_
  ·exact aP.of [(100,1000)] (by rw[aA];rfl) rfl ⟨⟨rfl,aQ.cells ⟨aM.rfl,aM.of_eq (show AV.s (.d (.lit b))=AV.s (.d (.lit (b||false))) by rw[Bool.or_false]),oO⟩⟩,bQ,⟨rfl,aQ.cells ⟨aM.rfl,aM.rfl,aM.rfl,aM.rfl,aM.rfl,aM.rfl,aM.rfl,aM.rfl,aM.rfl,aM.rfl,aM.rfl,aM.rfl,aM.nil rfl,oO⟩⟩,⟨rfl,rfl⟩,oO⟩ ⟨qZ,qZ,qZ,oO⟩
  ·intro i hi
   refine ex.sound (rc:=[114,1500116]) aK mix aA _ ?_
   refine aI (fun g=>?_) (fun g=>?_)
   ·have g:((l.drop i).length:Int)>0:=cB g
    rw[List.length_drop]at g
    have bN:i<l.length:=oM
    have hd:l.drop i=l.getD i []::l.drop (i+1):=by rw[bA bN];exact List.drop_eq_getElem_cons bN
    refine oi (show(0:Int)≤0∧(0:Int)<((l.drop i).length:Int) by rw[List.length_drop];omega) ?_
    have hlen:((l.take i).map DG).length=i:=by simp;omega
    have tk1:l.take (i+1)=l.take i++ [l.getD i []]:=by rw[List.take_add_one,List.getElem?_eq_getElem bN,bA bN];rfl
    have tkE:(l.take (i+1)).any JS=((l.take i).any JS||JS (l.getD i [])):=by rw[tk1,List.any_append];simp
    have tkN:(l.take (i+1)).map DG=(l.take i).map DG++ [DG (l.getD i [])]:=by rw[tk1,List.map_append];rfl
    have hg0:(l.drop i).getD 0 []=l.getD i []:=by rw[hd];rfl
    refine aI (fun g2=>?_) (fun g2=>?_)
    ·have g2:((bs ((l.drop i).getD 0 [])).toList==(bs [45]).toList)=true:=g2
     rw[hg0,mE,mE]at g2
     have eN:DG (l.getD i [])=30000:=by unfold DG;rw[g2];rfl
     have eE:JS (l.getD i [])=false:=by unfold JS;rw[g2];rfl
     refine ob dC ?_
     refine ob (by rw[dW];show(((l.take i).map DG).length+1)*8≤_;rw[hlen];omega) ?_
     refine ob (mT (xO rfl)) ?_
     refine⟨[(1,1)],_,_,_,_,wrd (PC i _),rfl,⟨rfl,oO⟩,rfl,?_⟩
     refine⟨i+1,oM,oM,?_⟩
     refine aP.of [(100,42)] (by rw[aA];rfl) rfl ⟨⟨rfl,aQ.cells ⟨aM.of_eq (by rw[hd];rfl),aM.of_eq ?_,oO⟩⟩,bQ,⟨rfl,aQ.cells ⟨aM.rfl,aM.rfl,aM.rfl,aM.rfl,aM.rfl,aM.rfl,aM.rfl,aM.rfl,aM.rfl,aM.rfl,aM.rfl,aM.rfl,aM.mo ?_,oO⟩⟩,⟨rfl,?_⟩,oO⟩ ⟨qZ,qZ,qZ,oO⟩
     ·show AV.s (.d (.lit ((b||(l.take i).any JS)||(l.drop i).isEmpty)))=AV.s (.d (.lit (b||(l.take (i+1)).any JS)))
      rw[tkE,hd,eE];simp
     ·rw[tkN];exact b9 _ _
     ·show aQ _ (.bW 3 ((l.take (i+1)).map DG).length 1 (dM ((l.take (i+1)).map DG)))
      rw[tkN,eN]
      exact aQ.snoc (el:=fun n _=>dI n) (x:=30000) (xO rfl)
    ·have g2:((bs ((l.drop i).getD 0 [])).toList==(bs [45]).toList)=false:=g2
     rw[hg0,mE,mE]at g2
     have eN:DG (l.getD i [])=(rdNum (l.drop i,b||(l.take i).any JS)).1:=by unfold DG rdNum;rw[g2,hd];rfl
     have eE:JS (l.getD i [])=SZ (l.getD i []):=by unfold JS;rw[g2];rfl
     refine⟨[(1,1)],_,_,_,_,num (PC i _),rfl,⟨rfl,oO⟩,rfl,?_⟩
     refine ob dC ?_
     refine ob (by rw[dW];show(((l.take i).map DG).length+1)*8≤_;rw[hlen];omega) ?_
     refine ob (mT (xO rfl)) ?_
     refine aD ?_
     refine⟨i+1,oM,oM,?_⟩
     refine aP.of [(100,51)] (by rw[aA];rfl) rfl ⟨⟨rfl,aQ.cells ⟨aM.of_eq (by rw[hd];rfl),aM.of_eq ?_,oO⟩⟩,bQ,⟨rfl,aQ.cells ⟨aM.rfl,aM.rfl,aM.rfl,aM.rfl,aM.rfl,aM.rfl,aM.rfl,aM.rfl,aM.rfl,aM.rfl,aM.rfl,aM.rfl,aM.mo ?_,oO⟩⟩,⟨rfl,?_⟩,oO⟩ ⟨qZ,qZ,qZ,oO⟩
     ·show AV.s (.d (.lit (((b||(l.take i).any JS)||(l.drop i).isEmpty)||SZ ((l.drop i).headD []))))=AV.s (.d (.lit (b||(l.take (i+1)).any JS)))
      rw[tkE,hd,eE];simp[Bool.or_assoc]
     ·rw[tkN];exact b9 _ _
     ·show aQ _ (.bW 3 ((l.take (i+1)).map DG).length 1 (dM ((l.take (i+1)).map DG)))
      rw[tkN,eN]
      exact aQ.snoc (el:=fun n _=>dI n) (x:=(rdNum (l.drop i,b||(l.take i).any JS)).1) (xO rfl)
   ·have g:¬((l.drop i).length:Int)>0:=cD g
    rw[List.length_drop]at g
    obtain rfl:i=l.length:=oM
    rw[List.drop_length,List.take_length]
    refine eX aA ?_
    exact⟨aC.refl _,rfl,oO⟩
 |false=>
  cases k1:k==1 with
  |true=>
   generalize M5:iG k (cO k) s1=r at hl rU hr
   obtain⟨f1,s2⟩:=r
   have aJW:pI s2:=hr
   have c1:=num (s:=s2) aJW
   have aE5:=pI.num aJW
   generalize e1:rdNum s2=r1 at c1 aE5
   obtain⟨n1,s3⟩:=r1
   have aJV:pI s3:=aE5
   have c2:=num (s:=s3) aJV
   have aE4:=pI.num aJV
   generalize e2:rdNum s3=r2 at c2 aE4
   obtain⟨n2,s4⟩:=r2
   have aJU:pI s4:=aE4
   have c3:=num (s:=s4) aJU
   have aE3:=pI.num aJU
   generalize e3:rdNum s4=r3 at c3 aE3
   obtain⟨n3,s5⟩:=r3
   have aJT:pI s5:=aE3
   have c4:=num (s:=s5) aJT
   have aE2:=pI.num aJT
   generalize e4:rdNum s5=r4 at c4 aE2
   obtain⟨n4,s6⟩:=r4
   have aJS:pI s6:=aE2
   have c5:=wrd (s:=s6) aJS
   have aE1:=pI.word aJS
   generalize e5:cU s6=r5 at c5 aE1
   obtain⟨w1,s7⟩:=r5
   have aJR:pI s7:=aE1
   have c6:=num (s:=s7) aJR
   have aE0:=pI.num aJR
   generalize e6:rdNum s7=r6 at c6 aE0
   obtain⟨n5,s8⟩:=r6
   have aJQ:pI s8:=aE0
   have c7:=wrd (s:=s8) aJQ
   have aEZ:=pI.word aJQ
   generalize e7:cU s8=r7 at c7 aEZ
   obtain⟨w2,s9⟩:=r7
   have aNH:pI s9:=aEZ
   have e:iJ s=({f1 with month:=n1,seq:=n2,aS:=n3,over:=n4,aN:=bs w1,cls:=n5,cQ:=bs w2},s9):=by
    unfold iJ
    simp only [hk,J6,k0,k1,cond_false,cond_true,M5,Q5,e1,e2,e3,e4,e5,e6,e7]
   rw[e]
   refine bM.le (b1:=[(1,.cells (CG s9))]) (r:=.g (oC {f1 with month:=n1,seq:=n2,aS:=n3,over:=n4,aN:=bs w1,cls:=n5,cQ:=bs w2} (.d dK))) ?_ (E3 _ (pU hl)) ⟨rfl,aQ.rfl,oO⟩
   refine kN func52 rfl rfl call52 aK rfl rfl rfl rfl (fun cx aA=>?_)
   refine sX aA ?_
   refine AW.seq (ex.sound (rc:=[114]) aK mix aA _ ?_)
   refine⟨[(1,1)],_,_,_,_,wrd h,rfl,⟨rfl,oO⟩,rfl,?_⟩
   refine aB (kindOf (cU s).1) ?_
   rw[hk,J6]
   refine AW.fU (σ':=⟨[(0,.s (.ptr 1 0)),(2,.s (.ptr 2 0)),(3,.s (.ptr 3 0))],[(1,some (.cells (CG s1))),(2,some (.cells (iE ty40.zero))),(3,some (.cells (oC (cO k) (.d dK))))]⟩) (aP.of [] (by rw[aA];rfl) rfl ⟨bQ,bQ,bQ,oO⟩ ⟨qZ,qZ,qZ,oO⟩) ?_
   refine AW.seq (sX aA ?_)
   refine AW.block (sX aA ?_)
   refine AW.cond ?_
   refine aI (fun g=>(Bool.noConfusion (k0.symm.trans g))) (fun g=>?_)
   refine sX aA ?_
   refine AW.cond ?_
   refine aI (fun g=>?_) (fun g=>(Bool.noConfusion (k1.symm.trans g)))
   refine AW.fU (σ':=⟨[(0,.s (.ptr 1 0)),(2,.s (.ptr 2 0)),(3,.s (.ptr 3 0))],[(1,some (.cells (CG s1))),(2,some (.cells (iE ty40.zero))),(3,some (.cells (oC (cO k) (.d dK))))]⟩) (aP.of [] (by rw[aA];rfl) rfl ⟨bQ,bQ,bQ,oO⟩ ⟨qZ,qZ,qZ,oO⟩) ?_
   refine AW.seq (ex.sound (rc:=[115]) aK mix aA _ ?_)
   refine⟨[(1,1),(2,3)],_,_,_,_,rU,rfl,⟨rfl,rfl,oO⟩,rfl,?_⟩
   refine AW.fU (σ':=⟨[(0,.s (.ptr 1 0)),(2,.s (.ptr 2 0)),(3,.s (.ptr 3 0))],[(1,some (.cells (CG s2))),(2,some (.cells (iE ty40.zero))),(3,some (.cells (oC (f1) (.d dK))))]⟩) (aP.of [] (by rw[aA];rfl) rfl ⟨bQ,bQ,bQ,oO⟩ ⟨qZ,qZ,qZ,oO⟩) ?_
   refine AW.seq (ex.sound (rc:=[116]) aK mix aA _ ?_)
   refine⟨[(1,1)],_,_,_,_,c1,rfl,⟨rfl,oO⟩,rfl,?_⟩
   refine⟨[(1,1)],_,_,_,_,c2,rfl,⟨rfl,oO⟩,rfl,?_⟩
   refine AW.fU (σ':=⟨[(0,.s (.ptr 1 0)),(2,.s (.ptr 2 0)),(3,.s (.ptr 3 0))],[(1,some (.cells (CG s4))),(2,some (.cells (iE ty40.zero))),(3,some (.cells (oC ({f1 with month:=n1,seq:=n2}) (.d dK))))]⟩) (aP.of [] (by rw[aA];rfl) rfl ⟨bQ,bQ,bQ,oO⟩ ⟨qZ,qZ,qZ,oO⟩) ?_
   refine AW.seq (ex.sound (rc:=[116]) aK mix aA _ ?_)
   refine⟨[(1,1)],_,_,_,_,c3,rfl,⟨rfl,oO⟩,rfl,?_⟩
   refine⟨[(1,1)],_,_,_,_,c4,rfl,⟨rfl,oO⟩,rfl,?_⟩
   refine AW.fU (σ':=⟨[(0,.s (.ptr 1 0)),(2,.s (.ptr 2 0)),(3,.s (.ptr 3 0))],[(1,some (.cells (CG s6))),(2,some (.cells (iE ty40.zero))),(3,some (.cells (oC ({f1 with month:=n1,seq:=n2,aS:=n3,over:=n4}) (.d dK))))]⟩) (aP.of [] (by rw[aA];rfl) rfl ⟨bQ,bQ,bQ,oO⟩ ⟨qZ,qZ,qZ,oO⟩) ?_
   refine AW.seq (ex.sound (rc:=[114]) aK mix aA _ ?_)
   refine⟨[(1,1)],_,_,_,_,c5,rfl,⟨rfl,oO⟩,rfl,?_⟩
   refine AW.fU (σ':=⟨[(0,.s (.ptr 1 0)),(2,.s (.ptr 2 0)),(3,.s (.ptr 3 0))],[(1,some (.cells (CG s7))),(2,some (.cells (iE ty40.zero))),(3,some (.cells (oC ({f1 with month:=n1,seq:=n2,aS:=n3,over:=n4,aN:=bs w1}) (.d dK))))]⟩) (aP.of [] (by rw[aA];rfl) rfl ⟨bQ,bQ,bQ,oO⟩ ⟨qZ,qZ,qZ,oO⟩) ?_
   refine AW.seq (ex.sound (rc:=[116]) aK mix aA _ ?_)
   refine⟨[(1,1)],_,_,_,_,c6,rfl,⟨rfl,oO⟩,rfl,?_⟩
   refine AW.fU (σ':=⟨[(0,.s (.ptr 1 0)),(2,.s (.ptr 2 0)),(3,.s (.ptr 3 0))],[(1,some (.cells (CG s8))),(2,some (.cells (iE ty40.zero))),(3,some (.cells (oC ({f1 with month:=n1,seq:=n2,aS:=n3,over:=n4,aN:=bs w1,cls:=n5}) (.d dK))))]⟩) (aP.of [] (by rw[aA];rfl) rfl ⟨bQ,bQ,bQ,oO⟩ ⟨qZ,qZ,qZ,oO⟩) ?_
   refine ex.sound (rc:=[114]) aK mix aA _ ?_
   refine⟨[(1,1)],_,_,_,_,c7,rfl,⟨rfl,oO⟩,rfl,?_⟩
   refine AW.fU (σ':=⟨[(0,.s (.ptr 1 0)),(2,.s (.ptr 2 0)),(3,.s (.ptr 3 0))],[(1,some (.cells (CG s9))),(2,some (.cells (iE ty40.zero))),(3,some (.cells (oC ({f1 with month:=n1,seq:=n2,aS:=n3,over:=n4,aN:=bs w1,cls:=n5,cQ:=bs w2}) (.d dK))))]⟩) (aP.of [] (by rw[aA];rfl) rfl ⟨bQ,bQ,bQ,oO⟩ ⟨qZ,qZ,qZ,oO⟩) ?_
   refine eX aA ?_
   exact⟨aC.refl _,rfl,oO⟩
  |false=>
   cases k3:k==3 with
   |true=>
    have c1:=num (s:=s1) h1
    have h2':=pI.num h1
    generalize e1:rdNum s1=r1 at c1 h2'
    obtain⟨n1,s2⟩:=r1
    have h2:pI s2:=h2'
    have c2:=wrd (s:=s2) h2
    have UD:=pI.word h2
    generalize e2:cU s2=r2 at c2 UD
    obtain⟨w1,s3⟩:=r2
    have h3:pI s3:=UD
    generalize hT:tY w1=tg
    have c3:=aI3 tg {cO k with seq:=n1,target:=tg} dK h3
    have hl2:=AA tg {cO k with seq:=n1,target:=tg} s3
    have e:iJ s=iG tg {cO k with seq:=n1,target:=tg} s3:=by
     unfold iJ
     simp only [hk,J6,k0,k1,k3,cond_false,cond_true,hT,e1,e2]
    rw[e]
    generalize iG tg {cO k with seq:=n1,target:=tg} s3=r3 at c3 hl2
    obtain⟨f3,s4⟩:=r3
    refine bM.le (b1:=[(1,.cells (CG s4))]) (r:=.g (oC f3 (.d dK))) ?_ (E3 _ (pU hl2)) ⟨rfl,aQ.rfl,oO⟩
    refine fZ (rc:=[114,115,116]) (N:=94) func52 rfl rfl call52 aK mix rfl rfl rfl rfl (fun cx aA=>?_)
    refine⟨[(1,1)],_,_,_,_,wrd h,rfl,⟨rfl,oO⟩,rfl,?_⟩
    refine aB (kindOf (cU s).1) ?_
    rw[hk,J6]
    refine aI (fun g=>(Bool.noConfusion (k0.symm.trans g))) (fun g=>?_)
    refine aI (fun g=>(Bool.noConfusion (k1.symm.trans g))) (fun g=>?_)
    refine aI (fun g=>?_) (fun g=>(Bool.noConfusion (k3.symm.trans g)))
    refine⟨[(1,1)],_,_,_,_,c1,rfl,⟨rfl,oO⟩,rfl,?_⟩
    refine⟨[(1,1)],_,_,_,_,c2,rfl,⟨rfl,oO⟩,rfl,?_⟩
    refine aB (kindOf w1) ?_
    rw[hT]
    refine⟨[(1,1),(2,3)],_,_,_,_,c3,rfl,⟨rfl,rfl,oO⟩,rfl,?_⟩
    exact⟨aC.refl _,rfl,oO⟩
   |false=>
    generalize M5:iG k (cO k) s1=r at hl rU hr
    obtain⟨f1,s2⟩:=r
    have e:iJ s=({f1 with seq:=(rdNum s2).1},(rdNum s2).2):=by
     unfold iJ
     simp only [hk,J6,k0,k1,k3,cond_false,M5]
    rw[e]
    refine bM.le (b1:=[(1,.cells (CG (rdNum s2).2))]) (r:=.g (oC {f1 with seq:=(rdNum s2).1} (.d dK))) ?_ (E3 _ (pU hl)) ⟨rfl,aQ.rfl,oO⟩
    refine fZ (rc:=[114,115,116]) (N:=94) func52 rfl rfl call52 aK mix rfl rfl rfl rfl (fun cx aA=>?_)
    refine⟨[(1,1)],_,_,_,_,wrd h,rfl,⟨rfl,oO⟩,rfl,?_⟩
    refine aB (kindOf (cU s).1) ?_
    rw[hk,J6]
    refine aI (fun g=>(Bool.noConfusion (k0.symm.trans g))) (fun g=>?_)
    refine aI (fun g=>(Bool.noConfusion (k1.symm.trans g))) (fun g=>?_)
    refine aI (fun g=>(Bool.noConfusion (k3.symm.trans g))) (fun g=>?_)
    refine⟨[(1,1),(2,3)],_,_,_,_,rU,rfl,⟨rfl,rfl,oO⟩,rfl,?_⟩
    refine⟨[(1,1)],_,_,_,_,num (s:=s2) hr,rfl,⟨rfl,oO⟩,rfl,?_⟩
    exact⟨aC.refl _,rfl,oO⟩
open Go.Lib in
theorem aIU:∀(k u:Nat),u<10^(k+1)→nDigits u≤k+1
 |0,u,h=>by rw[nDigits_small (by simpa using h)];exact Nat.le_refl _
 |k+1,u,h=>by
  by_cases hu:u<10
  ·rw[nDigits_small hu];omega
  ·rw[nDigits_big hu]
   have:=aIU k (u / 10) (by rw[Nat.div_lt_iff_lt_mul dC,←Nat.pow_succ];exact h)
   omega
theorem j7{n:Int}(h: -1000000000000≤n∧n≤1000000000000):(Lib.itoa n).length≤14:=by
 have h1:=aIU 12 n.natAbs (by show n.natAbs<10000000000000;omega)
 rw[←Lib.decDigits_length]at h1
 unfold Lib.itoa
 split
 ·simp only [List.length_cons];omega
 ·rename_i h0
  have:n.toNat=n.natAbs:=oM
  rw[this];omega
theorem GM{k:Int}{f:Fact}(h:bK k f=0):∀x∈aY k f,x.length≤14:=by
 intro x hx
 rcases fW h with⟨rfl,h1,h2⟩|⟨rfl,h1⟩|⟨rfl,h1,h2⟩
 ·have h1:=within_iff.1 h1
  have h2:=within_iff.1 h2
  simp only [aY,List.mem_cons,List.not_mem_nil,or_false,show((0:Int)==0)=true from rfl,cond_true]at hx
  rcases hx with rfl|rfl|rfl
  ·decide
  ·exact j7 oM
  ·exact j7 oM
 ·have h1:=within_iff.1 h1
  simp only [aY,List.mem_cons,List.not_mem_nil,or_false,show((1:Int)==0)=false from rfl,show((1:Int)==1)=true from rfl,cond_true,cond_false]at hx
  rcases hx with rfl|rfl
  ·decide
  ·exact j7 oM
 ·have h1:=within_iff.1 h1
  have h2:=iQ h2
  simp only [aY,List.mem_cons,List.not_mem_nil,or_false,show((2:Int)==0)=false from rfl,show((2:Int)==1)=false from rfl,cond_false]at hx
  rcases hx with rfl|rfl|rfl
  ·decide
  ·rw[vC];omega
  ·exact j7 oM
theorem aI2{f:Fact}(h:mH f=0):∀x∈kZ f,x.length≤14:=by
 intro x hx
 unfold mH at h
 unfold kZ at hx
 cases h1:f.kind !=3 with
 |true=>rw[h1]at h hx;exact GM h x hx
 |false=>
  rw[h1]at h hx
  rcases List.mem_cons.1 hx with rfl|hx
  ·decide
  ·exact GM h x hx
theorem aEQ{n:Int}(h:jD n=false):(rD n).length≤14:=by
 unfold rD
 cases h1:n==30000 with
 |true=>simp
 |false=>
  have hn:n≠30000:=by simpa using h1
  have h2:within n (-20000) 20000=true:=by
   unfold jD at h
   simpa [hn]using h
  have:=within_iff.1 h2
  simp only [cond_false]
  exact j7 oM
theorem aGX{f:Fact}(h:fA f=0):(fL f).length≤110∧∀x∈fL f,x.length≤14:=by
 obtain⟨h1,h2⟩:=nM h
 have hk:=aI2 h1
 have hl:=xA f
 have hs:=within_iff.1 (l6 h2)
 have i1:(Lib.itoa f.seq).length≤14:=j7 oM
 have x0:∀x∈kZ f,x.length≤14:=fun x hx=>Nat.le_trans (hk x hx) dC
 unfold fL
 cases k0:f.kind==0 with
 |true=>
  obtain⟨a,b⟩:=nG h2 k0
  refine⟨by simp;omega,fun x hx=>?_⟩
  simp only [cond_true,List.mem_append,List.mem_singleton,List.mem_map]at hx
  rcases hx with(hx|rfl)|⟨n,hn,rfl⟩
  ·exact x0 x hx
  ·omega
  ·have:jD n=false:=by
    rw[List.any_eq_false]at a
    simpa using a n hn
   exact Nat.le_trans (aEQ this) dC
 |false=>
  cases k1:f.kind==1 with
  |true=>
   obtain⟨⟨a,b,c,d⟩,e,g⟩:=kJ h2 k1
   have a:=within_iff.1 a
   have b:=within_iff.1 b
   have c:=within_iff.1 c
   have d:=within_iff.1 d
   have e:=iQ e
   have g:=iQ g
   have j1:(Lib.itoa f.month).length≤14:=j7 oM
   have j2:(Lib.itoa f.aS).length≤14:=j7 oM
   have j3:(Lib.itoa f.over).length≤14:=j7 oM
   have j4:(Lib.itoa f.cls).length≤14:=j7 oM
   refine⟨by simp;omega,fun x hx=>?_⟩
   simp only [cond_true,cond_false,List.mem_append,List.mem_cons,List.not_mem_nil,or_false]at hx
   rcases hx with hx|rfl|rfl|rfl|rfl|rfl|rfl|rfl
   ·exact x0 x hx
   ·omega
   ·omega
   ·omega
   ·omega
   ·rw[vC];omega
   ·omega
   ·rw[vC];omega
  |false=>
   cases k2:f.kind==2 with
   |true=>
    refine⟨by simp;omega,fun x hx=>?_⟩
    simp only [cond_true,cond_false,List.mem_append,List.mem_singleton]at hx
    rcases hx with hx|rfl
    ·exact x0 x hx
    ·omega
   |false=>
    refine⟨by simp[sW];omega,fun x hx=>?_⟩
    simp only [cond_false,sW,List.mem_append,List.mem_cons]at hx
    rcases hx with hx|rfl|hx
    ·exact x0 x (List.mem_of_mem_take hx)
    ·omega
    ·exact x0 x (List.mem_of_mem_drop hx)
theorem A1(f:Fact):(eI f).length≤1650:=by
 unfold eI
 cases he:fA f==0 with
 |false=>simp
 |true=>
  have he:fA f=0:=by simpa using he
  obtain⟨h1,h2⟩:=aGX he
  have:=rR h2
  have h3:=Nat.mul_le_mul_right (14+1) h1
  simp only [cond_true]
  omega
def eG(f:Fact):Fact:=(iJ (oI (eI f) [32],false)).1
end Go.Pj
namespace Go.Ch
open Go Go.Ax Go.Proofs Go.Proofs.Tryz
open Go.Lib (decDigits itoa decFrom digitVal nDigits)
theorem CX{d:Nat}(h:d<10):(o4 d).toNat=48+d:=by
 have:∀k:Fin 10,(o4 k.val).toNat=48+k.val:=by decide+kernel
 exact this ⟨d,h⟩
theorem r9:∀(n u:Nat),u≤n→∀b∈decDigits u,48≤b.toNat∧b.toNat≤57
 |n,u,h,b,hb=>by
  by_cases hu:u<10
  ·rw[BC hu]at hb
   simp only [List.mem_cons,List.not_mem_nil,or_false]at hb
   subst hb
   rw[CX hu];omega
  ·rw[wN hu]at hb
   simp only [List.mem_append,List.mem_cons,List.not_mem_nil,or_false]at hb
   rcases hb with hb|hb
   ·match n with
    |0=>omega
    |n+1=>exact r9 n (u / 10) oM b hb
   ·subst hb
    rw[CX oM];omega
theorem tN:∀(l:List UInt8) (acc n:Nat) (b:UInt8) (d:Nat),decFrom acc l=some n→digitVal b=some d→decFrom acc (l++ [b])=some (n*10+d)
 |[],acc,n,b,d,h,hb=>by
  simp only [decFrom,Option.some.injEq]at h
  subst h
  simp[decFrom,hb]
 |a::t,acc,n,b,d,h,hb=>by
  simp only [decFrom,List.cons_append]at h ⊢
  cases ha:digitVal a with
  |none=>rw[ha]at h;cases h
  |some e=>
   rw[ha]at h
   exact tN t _ n b d h hb
theorem BA{d:Nat}(h:d<10):digitVal (o4 d)=some d:=by
 unfold digitVal
 rw[CX h,if_pos oM]
 congr 1;omega
theorem MH:∀(n u:Nat),u≤n→decFrom 0 (decDigits u)=some u
 |n,u,h=>by
  by_cases hu:u<10
  ·rw[BC hu]
   simp[decFrom,BA hu]
  ·rw[wN hu]
   match n with
   |0=>omega
   |n+1=>
    rw[tN _ _ _ _ _ (MH n (u / 10) oM) (BA oM)]
    congr 1;omega
theorem yL(n:Int):(n<0∧itoa n=45::decDigits n.natAbs)∨(0≤n∧itoa n=decDigits n.natAbs):=by
 unfold itoa
 by_cases h:n<0
 ·left;exact⟨h,by rw[if_pos h]⟩
 ·right;exact⟨oM,by rw[if_neg h,show n.toNat=n.natAbs by omega]⟩
theorem V6(n:Int):∀b∈itoa n,b.toNat=45∨(48≤b.toNat∧b.toNat≤57):=by
 intro b hb
 rcases yL n with⟨_,e⟩|⟨_,e⟩ <;> rw[e]at hb
 ·rcases List.mem_cons.1 hb with rfl|hb
  ·exact .inl rfl
  ·exact .inr (r9 _ _ (Nat.le_refl _) b hb)
 ·exact .inr (r9 _ _ (Nat.le_refl _) b hb)
end Go.Ch
namespace Go.Ch
open Go Go.Ax Go.Proofs Go.Proofs.Tryz
open Go.Lib (itoa)
def OT(s:UInt8)(ws:List (List UInt8))(w:List UInt8):List UInt8:=ws.flatMap (fun x=>x++ [s])++w
def gQ(s:UInt8)(out:List (List UInt8))(b:UInt8):List (List UInt8):=bif b==s then out++ [[]]else out.dropLast++ [out.getLastD []++ [b]]
def fB(s:UInt8)(l:List UInt8):List (List UInt8):=l.foldl (gQ s) [[]]
theorem MK{s:UInt8}:∀(l:List UInt8) (out:List (List UInt8)) (cur:List UInt8),(∀b∈l,b≠s)→l.foldl (gQ s) (out++ [cur])=out++ [cur++l]
 |[],out,cur,_=>by simp
 |b::l,out,cur,h=>by
  have hb:(b==s)=false:=by rw[beq_eq_false_iff_ne];exact h b List.mem_cons_self
  have e:gQ s (out++ [cur]) b=out++ [cur++ [b]]:=by
   unfold gQ
   rw[hb]
   simp
  rw[List.foldl_cons,e,MK l out _ (fun x hx=>h x (List.mem_cons_of_mem _ hx))]
  simp
theorem KN{s:UInt8}:∀(ws out:List (List UInt8)),(∀w∈ws,∀b∈w,b≠s)→(ws.flatMap (fun x=>x++ [s])).foldl (gQ s) (out++ [[]])=(out++ws)++ [[]]
 |[],out,_=>by simp
 |w::ws,out,h=>by
  rw[List.flatMap_cons,List.foldl_append,List.foldl_append,MK w out [] (h w List.mem_cons_self)]
  have e:List.foldl (gQ s) (out++ [[]++w]) [s]=(out++ [w])++ [[]]:=by
   simp[gQ]
  rw[e,KN ws (out++ [w]) (fun x hx=>h x (List.mem_cons_of_mem _ hx))]
  simp
theorem W9{s:UInt8}{ws:List (List UInt8)}{w:List UInt8}(h:∀x∈ws,∀b∈x,b≠s)(hw:∀b∈w,b≠s):fB s (OT s ws w)=ws++ [w]:=by
 unfold fB OT
 have:=KN ws [] h
 simp only [List.nil_append]at this
 rw[List.foldl_append,this,MK w ws [] hw]
 simp
theorem PY(s:UInt8)(out:List (List UInt8))(b:UInt8)(h:out≠[]):gQ s out b≠[]∧out.length≤(gQ s out b).length∧(gQ s out b).length≤out.length+1:=by
 have hp:=List.length_pos_iff.2 h
 unfold gQ
 cases b==s
 ·refine⟨sM,?_,?_⟩ <;> simp <;> omega
 ·refine⟨sM,?_,?_⟩ <;> simp
theorem BF(s:UInt8):∀(l:List UInt8) (out:List (List UInt8)),out≠[]→l.foldl (gQ s) out≠[]∧(l.foldl (gQ s) out).length≤out.length+l.length
 |[],out,h=>⟨h,sM⟩
 |b::l,out,h=>by
  obtain⟨h1,_,h3⟩:=PY s out b h
  obtain⟨k1,k2⟩:=BF s l _ h1
  rw[List.foldl_cons]
  exact⟨k1,by simp;omega⟩
theorem HN(s:UInt8)(l:List UInt8):fB s l≠[]∧(fB s l).length≤1+l.length:=BF s l [[]] sM
theorem KQ(s:UInt8)(l:List UInt8)(b:UInt8):fB s (l++ [b])=gQ s (fB s l) b:=by simp[fB]
theorem PX(s:UInt8):∀(l:List UInt8) (out:List (List UInt8)) (m:Nat),(∀w∈out,w.length≤m)→∀w∈l.foldl (gQ s) out,w.length≤m+l.length
 |[],out,m,h,w,hw=>by simpa using h w hw
 |b::l,out,m,h,w,hw=>by
  rw[List.foldl_cons]at hw
  have:=PX s l (gQ s out b) (m+1) (fun x hx=>by
   unfold gQ at hx
   cases hb:b==s with
   |true=>
    rw[hb]at hx
    simp at hx
    rcases hx with hx|rfl
    ·have:=h x hx;omega
    ·simp
   |false=>
    rw[hb]at hx
    simp only [cond_false,List.mem_append,List.mem_cons,List.not_mem_nil,or_false]at hx
    rcases hx with hx|rfl
    ·have:=h x (List.dropLast_subset _ hx);omega
    ·cases ho:out.getLast? with
     |none=>simp[List.getLastD_eq_getLast?,ho]
     |some q=>
      have:=h q (List.mem_of_getLast? ho)
      simp[List.getLastD_eq_getLast?,ho];omega) w hw
  simp;omega
theorem KR{s:UInt8}{l w:List UInt8}(h:w∈fB s l):w.length≤l.length:=by
 have:=PX s l [[]] 0 sM w h
 omega
end Go.Ch
namespace Go.Ch
open Go Go.Ax Go.Proofs Go.Proofs.Tryz
abbrev vY(b:UInt8):AV:=.s (.d (.val (.int .u8 (b.toNat:Int))))
theorem zA(l:List UInt8)(i:Nat):(bs l)[i]! =l.getD i 0:=by
 by_cases h:i<l.length
 ·rw[getElem!_pos (bs l) i (by rw[aW];exact h)]
  show l.toArray[i]=_
  simp[List.getD,h]
 ·rw[getElem!_neg (bs l) i (by rw[aW];exact h)]
  rw[List.getD_eq_getElem?_getD,List.getElem?_eq_none oM];rfl
theorem YL(a b:UInt8):(((a.toNat:Int))==(b.toNat:Int))=(a==b):=by
 rw[Bool.eq_iff_iff,beq_iff_eq,beq_iff_eq]
 constructor
 ·intro h;exact UInt8.toNat_inj.1 oM
 ·rintro rfl;rfl
def NG(w:List UInt8)(_:Nat):DV:=dT w
theorem FG(l:List UInt8){i:Nat}(h:i<l.length):l.take (i+1)=l.take i++ [l.getD i 0]:=by
 rw[List.take_add_one,List.getElem?_eq_getElem h]
 simp[List.getD,h]
theorem Cut(s:List UInt8)(at':UInt8)(hl:s.length≤100000):aF prog 53 [vT s,vY at'] (.s (.d (MI (fB at' s)))):=by
 refine eP func53 rfl rfl call53 rfl rfl fun cx aA=>?_
 refine AW.cZ (fun i:Nat=>⟨[(0,vT s),(1,vY at'),(5,.s (.own 100)),(6,vI i)],[(100,some (.row 9 (fB at' (s.take i)).length 1 (fun k=>NG ((fB at' (s.take i)).getD k default))))]⟩)
  (fun i=>i≤s.length) (fun i=>s.length - i) 0 (Nat.zero_le _) ?_ ?_
 ·exact aP.b7 aA [(100,7)] rfl ⟨⟨rfl,aQ.row rfl fun i j hi hj=>aJ.of_eq (by
   obtain rfl:i=0:=oM
   obtain rfl:j=0:=by have:j<1:=hj;omega
   rfl)⟩,oO⟩ ⟨qZ,qZ,qZ,qZ,oO⟩
 ·intro i hi
  obtain⟨c1,c2⟩:=HN at' (s.take i)
  have c3:(s.take i).length=i:=by simp;omega
  have c4:=List.length_pos_iff.2 c1
  refine eX aA ?_
  refine aI (fun h=>?_) (fun h=>?_)
  ·have h:(i:Int)<((bs s).size:Int):=cB h
   rw[aW]at h
   have bN:i<s.length:=oM
   have qV:=FG s bN
   refine oi (show 0≤(i:Int)∧(i:Int)<((bs s).size:Int) by rw[aW];omega) ?_
   refine aI (fun h2=>?_) (fun h2=>?_)
   ·have h2:(((((bs s)[(i:Int).toNat]!).toNat:Int))==(at'.toNat:Int))=true:=h2
    rw[YL,zA,Int.toNat_natCast]at h2
    have e:fB at' (s.take (i+1))=fB at' (s.take i)++ [[]]:=by
     rw[qV,KQ,gQ,h2];rfl
    refine ob (show((fB at' (s.take i)).length+1)*16≤_ by omega) ?_
    refine ob (mT (xO rfl)) ?_
    refine⟨i+1,oM,oM,?_⟩
    refine aP.b7 aA [(100,21)] rfl ⟨⟨rfl,?_⟩,oO⟩ ⟨qZ,qZ,qZ,⟨rfl,aM.int (aG oM oM)⟩,oO⟩
    rw[e]
    exact gH.row (el:=NG) (gH.snoc gH.refl (xO rfl))
   ·have h2:(((((bs s)[(i:Int).toNat]!).toNat:Int))==(at'.toNat:Int))=false:=h2
    rw[YL,zA,Int.toNat_natCast]at h2
    have ew:aU ((fB at' (s.take i)).length - 1)=((fB at' (s.take i)).length:Int) - 1:=aG oM oM
    refine oi (show 0≤aU ((fB at' (s.take i)).length - 1)∧aU ((fB at' (s.take i)).length - 1)<((fB at' (s.take i)).length:Int) by rw[ew];omega) ?_
    have hx:(aU ((fB at' (s.take i)).length - 1)).toNat<(fB at' (s.take i)).length:=by rw[ew];omega
    have ei:aU ((i:Int)+1)=(i:Int)+1:=aG oM oM
    refine oi hx ?_
    refine oi (show 0≤(i:Int)∧(i:Int)≤aU ((i:Int)+1)∧aU ((i:Int)+1)≤((bs s).size:Int) by rw[aW,ei];omega) ?_
    refine oi (show(bs ((fB at' (s.take i)).getD (aU ((fB at' (s.take i)).length - 1)).toNat default)).size+((bs s).extract (i:Int).toNat (aU ((i:Int)+1)).toNat).size≤9223372036854775807 from ?_) ?_
    ·have hm:((fB at' (s.take i)).getD (aU ((fB at' (s.take i)).length - 1)).toNat default)∈fB at' (s.take i):=by
      rw[List.getD_eq_getElem?_getD,List.getElem?_eq_getElem hx];exact List.getElem_mem hx
     have:=KR hm
     rw[zB,aW,aW]
     simp only [List.length_drop,List.length_take]
     omega
    refine oi (show 0≤aU ((fB at' (s.take i)).length - 1)∧aU ((fB at' (s.take i)).length - 1)<((fB at' (s.take i)).length:Int) by rw[ew];omega) ?_
    refine ob hx ?_
    refine aD ?_
    refine⟨i+1,oM,oM,?_⟩
    refine aP.b7 aA [] rfl ⟨⟨rfl,?_⟩,oO⟩ ⟨qZ,qZ,qZ,⟨rfl,aM.int ei⟩,oO⟩
    have e:fB at' (s.take (i+1))=(fB at' (s.take i)).dropLast++ [(fB at' (s.take i)).getLastD []++ [s.getD i 0]]:=by
     rw[qV,KQ,gQ,h2];rfl
    have en:(aU ((fB at' (s.take i)).length - 1)).toNat=(fB at' (s.take i)).length - 1:=by rw[ew];omega
    refine aQ.row (by rw[e];simp;omega) fun k j hk hj=>aJ.of_eq ?_
    obtain rfl:j=0:=by have:j<1:=hj;omega
    rw[e,en]
    by_cases J8:k=(fB at' (s.take i)).length - 1
    ·subst J8
     refine qH.trans ?_
     show DV.val (Value.string (bs ((fB at' (s.take i)).getD ((fB at' (s.take i)).length - 1) default)++(bs s).extract (i:Int).toNat (aU ((i:Int)+1)).toNat))=dT _
     rw[zB,eV]
     have e1:((s.take (aU ((i:Int)+1)).toNat).drop (i:Int).toNat)=[s.getD i 0]:=by
      rw[ei,show((i:Int)+1).toNat=i+1 by omega,Int.toNat_natCast,qV,List.drop_append_of_le_length oM,List.drop_eq_nil_of_le oM,List.nil_append]
     have e2:(fB at' (s.take i)).getD ((fB at' (s.take i)).length - 1) default=(fB at' (s.take i)).getLastD []:=by
      rw[List.getLastD_eq_getLast?,List.getLast?_eq_getElem?,List.getD_eq_getElem?_getD];rfl
     rw[e1,e2]
     refine congrArg dT ?_
     have e3:∀(l:List (List UInt8)) (x d:List UInt8),(l++ [x]).getD l.length d=x:=by intro l x d;simp
     rw[show(fB at' (s.take i)).length - 1=(fB at' (s.take i)).dropLast.length by simp]
     exact(e3 _ _ _).symm
    ·refine(w8 J8).trans ?_
     show NG _ 0=NG _ 0
     congr 1
     rw[List.getD_eq_getElem?_getD,List.getD_eq_getElem?_getD,List.getElem?_append_left (by simp;omega),List.getElem?_dropLast,if_pos oM]
  ·have h:¬(i:Int)<((bs s).size:Int):=cD h
   rw[aW]at h
   obtain rfl:i=s.length:=oM
   rw[List.take_length]
   exact aC.refl _
end Go.Ch
namespace Go.Pj
open Go Go.Ax Go.Ch Go.Proofs Go.Proofs.Tryz
theorem aBT{n:Int}(h: -1000000000000≤n∧n≤1000000000000):Lib.atoiAll (Lib.itoa n)=.ok n:=by
 rw[Lib.atoiAll_short _ (by have:=j7 h;omega)]
 have hv:=MH _ _ (Nat.le_refl n.natAbs)
 have hn:Lib.decNat (Lib.decDigits n.natAbs)=some n.natAbs:=by
  unfold Lib.decNat
  rw[hv]
  cases hq:Lib.decDigits n.natAbs with
  |nil=>exact absurd hq (aBB _)
  |cons _ _=>rfl
 have ho:Lib.atoi (Lib.itoa n)=some n:=by
  rcases yL n with⟨h0,e⟩|⟨h0,e⟩ <;> rw[e]
  ·unfold Lib.atoi
   simp only [beq_self_eq_true,if_true,hn,Option.map]
   congr 1;omega
  ·cases hq:Lib.decDigits n.natAbs with
   |nil=>exact absurd hq (aBB _)
   |cons b r=>
    have hb:=r9 _ _ (Nat.le_refl n.natAbs) b (by rw[hq];exact List.mem_cons_self)
    unfold Lib.atoi
    have h1:(b==45)=false:=by
     rw[beq_eq_false_iff_ne];rintro rfl;simp at hb
    have h2:(b==43)=false:=by
     rw[beq_eq_false_iff_ne];rintro rfl;simp at hb
    simp only [h1,h2,Bool.false_eq_true,if_false]
    rw[←hq,hn]
    simp only [Option.map]
    congr 1;omega
 rw[ho];rfl
theorem aFD{n:Int}(h: -1000000000000≤n∧n≤1000000000000):atN (Lib.itoa n)=n:=by
 unfold atN;rw[aBT h]
theorem aBV{n:Int}(h: -1000000000000≤n∧n≤1000000000000):SZ (Lib.itoa n)=false:=by
 unfold SZ;rw[aBT h]
def nQ(c:UInt8):bG→List bG
 |[]=>[[]]
 |b::l=>bif b==c then []::nQ c l else match nQ c l with|h::t=>(b::h)::t|[]=>[[b]]
theorem ML(c:UInt8):∀l,nQ c l≠[]
 |[]=>by simp[nQ]
 |b::l=>by
  rw[nQ]
  cases b==c with
  |true=>simp
  |false=>
   cases h:nQ c l with
   |nil=>exact absurd h (ML c l)
   |cons _ _=>simp
open Go.Lib in
theorem vK(c:UInt8):∀(s:bG) (k:Nat),count s [c]=k→splitK [c] 0 k s=nQ c s
 |[],k,h=>by
  have h0:count ([]:bG) [c]=0:=by rw[count_one];rfl
  rw[h0]at h
  subst h
  rfl
 |b::l,k,h=>by
  rw[nQ]
  by_cases hb:b=c
  ·subst hb
   rw[count_cons_eq]at h
   obtain⟨k,rfl⟩:∃j,k=j+1:=⟨k - 1,oM⟩
   have hix:index (b::l) [b]=0:=by rw[index];simp[List.isPrefixOf]
   rw[splitK,hix,beq_self_eq_true]
   simp only [show((0:Int)== -1)=false from rfl,Bool.false_eq_true,if_false,cond_true]
   have:=vK b l k oM
   simp only [Int.toNat_zero,Nat.zero_add,List.take_zero,List.length_cons,List.length_nil,List.drop_succ_cons,List.drop_zero,this]
  ·have hbf:(b==c)=false:=by simpa using hb
   rw[count_cons_ne b c l hb]at h
   have ih:=vK c l k h
   have hp:([c]:List UInt8).isPrefixOf (b::l)=false:=by simp[List.isPrefixOf,Ne.symm hb]
   have hix:index (b::l) [c]=if index l [c]== -1 then -1 else index l [c]+1:=by rw[index,hp];simp
   rw[hbf,cond_false,←ih]
   cases k with
   |zero=>rfl
   |succ k=>
    rw[splitK,splitK,hix]
    by_cases hm:index l [c]= -1
    ·rw[hm];rfl
    ·have EL:=index_ge l [c]
     have h1:(index l [c]== -1)=false:=by simpa using hm
     have h2:((index l [c]+1)== -1)=false:=by
      simp only [beq_eq_false_iff_ne];omega
     rw[h1]
     simp only [Bool.false_eq_true,if_false,h2]
     have e:(index l [c]+1).toNat=(index l [c]).toNat+1:=oM
     rw[e]
     simp only [Nat.add_zero,List.take_succ_cons,List.length_cons,List.length_nil,Nat.zero_add,List.drop_succ_cons]
open Go.Lib in
theorem vL(s:bG)(c:UInt8):oI s [c]=nQ c s:=by
 unfold oI
 rw[splitB_data]
 have e:countB (bs s) (bs [c])=count s [c]:=by simp[countB,bs]
 rw[e]
 have e2:(bs [c]).data.toList=[c]:=by simp[bs]
 have e3:(bs s).data.toList=s:=by simp[bs]
 rw[e2,e3]
 exact vK c s _ rfl
theorem PZ(c:UInt8):∀l,(nQ c l).length≤l.length+1
 |[]=>Nat.le_refl _
 |b::l=>by
  have:=PZ c l
  rw[nQ]
  cases b==c with
  |true=>simp only [cond_true,List.length_cons];omega
  |false=>
   cases h:nQ c l with
   |nil=>exact absurd h (ML c l)
   |cons x r=>rw[h]at this;simp only [cond_false,List.length_cons]at this ⊢;omega
theorem KP(c:UInt8):∀l,∀w∈nQ c l,w.length≤l.length
 |[],w,hw=>by simp[nQ]at hw;subst hw;exact Nat.le_refl _
 |b::l,w,hw=>by
  have ih:=KP c l
  rw[nQ]at hw
  cases hb:b==c with
  |true=>
   rw[hb]at hw
   rcases List.mem_cons.1 hw with rfl|hw
   ·exact Nat.zero_le _
   ·exact Nat.le_trans (ih w hw) sM
  |false=>
   rw[hb]at hw
   cases h:nQ c l with
   |nil=>exact absurd h (ML c l)
   |cons x r=>
    rw[h]at hw ih
    rcases List.mem_cons.1 hw with rfl|hw
    ·have:=ih x (List.mem_cons_self ..);simp only [List.length_cons];omega
    ·exact Nat.le_trans (ih w (List.mem_cons_of_mem _ hw)) sM
theorem B7{s:bG}(h:s.length<4294967281)(b:Bool):pI (oI s [32],b):=by
 rw[vL]
 exact⟨Nat.le_trans (PZ 32 s) oM,fun w hw=>Nat.le_trans (KP 32 s w hw) oM⟩
theorem KO{c:UInt8}:∀{w:bG},(∀b∈w,b≠c)→nQ c w=[w]
 |[],_=>rfl
 |b::w,h=>by
  have hb:(b==c)=false:=by simpa using h b (List.mem_cons_self ..)
  rw[nQ,hb,cond_false,KO (fun x hx=>h x (List.mem_cons_of_mem _ hx))]
theorem P0{c:UInt8}:∀{w:bG} (l:bG),(∀b∈w,b≠c)→nQ c (w++ [c]++l)=w::nQ c l
 |[],l,_=>by
  show nQ c (c::l)=_
  rw[nQ,beq_self_eq_true];rfl
 |b::w,l,h=>by
  have hb:(b==c)=false:=by simpa using h b (List.mem_cons_self ..)
  show nQ c (b::(w++ [c]++l))=_
  rw[nQ,hb,cond_false,P0 l (fun x hx=>h x (List.mem_cons_of_mem _ hx))]
theorem y7:∀{ws:List bG},ws≠[]→(∀w∈ws,∀b∈w,b≠32)→nQ 32 (iH ws)=ws
 |[],h,_=>absurd rfl h
 |[w],_,h=>by rw[mB];exact KO (h w (List.mem_singleton.2 rfl))
 |w::v::ws,_,h=>by
  rw[fC,P0 _ (h w (List.mem_cons_self ..)),y7 (ws:=v::ws) sM (fun x hx=>h x (List.mem_cons_of_mem _ hx))]
theorem aD5(f:Fact)(hf:f.fits):aF prog 215 [oB f] (.t [.g (tG (eG f)),.s (.d (dT (eI f)))]):=by
 have hl:=A1 f
 have fT:=B7 (s:=eI f) oM false
 have hR:=aE8 fT
 generalize hc:iJ (oI (eI f) [32],false)=r at hR
 have hcf:eG f=r.1:=by unfold eG;rw[hc]
 rw[hcf]
 refine gA (rc:=[52]) (N:=19) func215 rfl rfl call215 aK mix rfl rfl (fun cx aA=>?_)
 refine aB (qA f hf) ?_
 refine aB (Split (eI f) [32] oM dC) ?_
 refine⟨[(1,15)],_,_,_,_,hR,rfl,⟨rfl,oO⟩,rfl,?_⟩
 exact aC.refl _
theorem EC(s:ByteArray):∀(n i:Nat),fH s n i=false→∀k,i≤k→k<i+n→uT k (u8 s k)=false
 |0,i,_,k,h1,h2=>by omega
 |n+1,i,h,k,h1,h2=>by
  rw[fH,Bool.or_eq_false_iff]at h
  rcases Nat.eq_or_lt_of_le h1 with e|h1
  ·subst e;exact h.1
  ·exact EC s n (i+1) h.2 k h1 oM
theorem aED(i:Int):uT i 32=true:=by
 unfold uT letter
 cases i==0 <;> decide
theorem wC{s:ByteArray}(h:isName s=true):∀b∈tx s,b≠32:=by
 intro b hb
 rintro rfl
 unfold isName at h
 rw[Bool.and_eq_true]at h
 obtain⟨k,hk,e⟩:=List.mem_iff_getElem.1 hb
 have x0:k<s.size:=by rw[vC]at hk;exact hk
 have h2:=EC s s.size 0 (by simpa using h.2) k (Nat.zero_le _) oM
 have e2:u8 s k=32:=by
  unfold u8
  rw[getElem!_pos s k x0]
  have:s[k]=32:=by
   rw[←e];simp[tx];rfl
  rw[this];rfl
 rw[e2,aED]at h2
 cases h2
theorem gV(n:Int):∀b∈Lib.itoa n,b≠32:=by
 intro b hb
 rintro rfl
 have:=V6 n _ hb
 simp at this
theorem aBU:SZ [45]=true:=dC
theorem vZ{n:Int}(h: -1000000000000≤n∧n≤1000000000000):(Lib.itoa n== [45])=false:=by
 have:=aBV h
 cases hq:Lib.itoa n== [45]with
 |false=>rfl
 |true=>
  have e:Lib.itoa n=[45]:=by simpa using hq
  rw[e,aBU]at this
  cases this
theorem gI{n:Int}(h: -1000000000000≤n∧n≤1000000000000)(r:List bG)(b:Bool):rdNum (Lib.itoa n::r,b)=(n,(r,b)):=by
 have h1:=aFD h
 have h2:=aBV h
 simp[rdNum,h1,h2]
theorem l7(w:bG)(r:List bG)(b:Bool):cU (w::r,b)=(w,(r,b)):=by simp[cU]
theorem xG{n:Int}(h:jD n=false):n=30000∨(n≠30000∧ -20000≤n∧n≤20000):=by
 by_cases e:n=30000
 ·exact .inl e
 ·right
  unfold jD at h
  rw[show(n !=30000)=true by simpa using e]at h
  have:within n (-20000) 20000=true:=by simpa using h
  exact⟨e,within_iff.1 this⟩
theorem aDA{n:Int}(h:jD n=false):DG (rD n)=n:=by
 rcases xG h with rfl|⟨h0,h1⟩
 ·rfl
 ·have e:rD n=Lib.itoa n:=by unfold rD;rw[show(n==30000)=false by simpa using h0];rfl
  unfold DG
  rw[e,vZ oM,cond_false]
  exact aFD oM
theorem aDB{n:Int}(h:jD n=false):JS (rD n)=false:=by
 rcases xG h with rfl|⟨h0,h1⟩
 ·rfl
 ·have e:rD n=Lib.itoa n:=by unfold rD;rw[show(n==30000)=false by simpa using h0];rfl
  unfold JS
  rw[e,vZ oM,cond_false]
  exact aBV oM
theorem OE:∀{l:List Int},l.any jD=false→(l.map rD).map DG=l∧(l.map rD).any JS=false
 |[],_=>⟨rfl,rfl⟩
 |n::l,h=>by
  rw[List.any_cons,Bool.or_eq_false_iff]at h
  obtain⟨h1,h2⟩:=OE h.2
  simp only [List.map_cons,List.any_cons,aDA h.1,aDB h.1,h1,h2,Bool.or_self,and_self]
theorem OM:tY kP=0:=by decide+kernel
theorem V5:tY rG=1:=by decide+kernel
theorem RE:tY nF=2:=by decide+kernel
theorem IK:tY bS=3:=by decide+kernel
def eK(f:Fact):Int:=bif f.kind==3 then f.target else f.kind
def bH(f:Fact):Fact:=
 {kind:=f.kind,seq:=f.seq
  target:=bif f.kind==3 then f.target else 0
  aX:=bif eK f==0 then f.aX else 0
  month:=bif f.kind==1 then f.month else bif eK f==1 then 0 else f.month
  number:=bif eK f==1 then f.number else 0
  cE:=bif eK f==0||eK f==1 then bs []else f.cE
  aS:=bif f.kind==1 then f.aS else 0
  over:=bif f.kind==1 then f.over else 0
  cls:=bif f.kind==1 then f.cls else 0
  aN:=bif f.kind==1 then f.aN else bs []
  cQ:=bif f.kind==1 then f.cQ else bs []
  levels:=bif f.kind==0 then f.levels else []}
theorem HA{f:Fact}(he:fA f=0):fL f≠[]∧∀w∈fL f,∀b∈w,b≠32:=by
 obtain⟨h1,h2⟩:=nM he
 have hl:=xA f
 have keyed:∀k,bK k f=0→∀w∈aY k f,∀b∈w,b≠32:=by
  intro k hk w hw
  rcases fW hk with⟨rfl,_⟩|⟨rfl,_⟩|⟨rfl,_,hn⟩
  ·simp only [aY,List.mem_cons,List.not_mem_nil,or_false,show((0:Int)==0)=true from rfl,cond_true]at hw
   rcases hw with rfl|rfl|rfl
   ·decide
   ·exact gV _
   ·exact gV _
  ·simp only [aY,List.mem_cons,List.not_mem_nil,or_false,show((1:Int)==0)=false from rfl,show((1:Int)==1)=true from rfl,cond_true,cond_false]at hw
   rcases hw with rfl|rfl
   ·decide
   ·exact gV _
  ·simp only [aY,List.mem_cons,List.not_mem_nil,or_false,show((2:Int)==0)=false from rfl,show((2:Int)==1)=false from rfl,cond_false]at hw
   rcases hw with rfl|rfl|rfl
   ·decide
   ·exact wC hn
   ·exact gV _
 have kw:∀w∈kZ f,∀b∈w,b≠32:=by
  intro w hw
  unfold mH at h1
  unfold kZ at hw
  cases h3:f.kind !=3 with
  |true=>rw[h3]at h1 hw;exact keyed _ h1 w hw
  |false=>
   rw[h3]at h1 hw
   rcases List.mem_cons.1 hw with rfl|hw
   ·decide
   ·exact keyed _ h1 w hw
 have ne:kZ f≠[]:=List.length_pos_iff.1 hl.1
 unfold fL
 cases k0:f.kind==0 with
 |true=>
  obtain⟨a,b⟩:=nG h2 k0
  refine⟨sM,fun w hw=>?_⟩
  simp only [cond_true,List.mem_append,List.mem_singleton,List.mem_map]at hw
  rcases hw with(hw|rfl)|⟨n,hn,rfl⟩
  ·exact kw w hw
  ·exact gV _
  ·unfold rD
   cases n==30000 with
   |true=>exact(by decide:∀b∈([45]:bG),b≠32)
   |false=>exact gV _
 |false=>
  cases k1:f.kind==1 with
  |true=>
   obtain⟨_,e,g⟩:=kJ h2 k1
   refine⟨sM,fun w hw=>?_⟩
   simp only [cond_true,cond_false,List.mem_append,List.mem_cons,List.not_mem_nil,or_false]at hw
   rcases hw with hw|rfl|rfl|rfl|rfl|rfl|rfl|rfl
   ·exact kw w hw
   ·exact gV _
   ·exact gV _
   ·exact gV _
   ·exact gV _
   ·exact wC e
   ·exact gV _
   ·exact wC g
  |false=>
   cases k2:f.kind==2 with
   |true=>
    refine⟨sM,fun w hw=>?_⟩
    simp only [cond_true,cond_false,List.mem_append,List.mem_singleton]at hw
    rcases hw with hw|rfl
    ·exact kw w hw
    ·exact gV _
   |false=>
    refine⟨by simp[sW],fun w hw=>?_⟩
    simp only [cond_false,sW,List.mem_append,List.mem_cons]at hw
    rcases hw with hw|rfl|hw
    ·exact kw w (List.mem_of_mem_take hw)
    ·exact gV _
    ·exact kw w (List.mem_of_mem_drop hw)
theorem sS{k:Int}{f:Fact}(he:bK k f=0)(g:Fact)(r:List bG)(b:Bool):
  iG k g ((aY k f).tail++r,b)=({g with aX:=bif k==0 then f.aX else g.aX,month:=bif k==1 then g.month else f.month,number:=bif k==1 then f.number else g.number,cE:=bif k==0||k==1 then g.cE else f.cE},(r,b)):=by
 rcases fW he with⟨rfl,h1,h2⟩|⟨rfl,h1⟩|⟨rfl,h1,h2⟩
 ·have h1:=within_iff.1 h1
  have h2:=within_iff.1 h2
  simp only [aY,iG,show((0:Int)==0)=true from rfl,show((0:Int)==1)=false from rfl,cond_true,cond_false,Bool.true_or,List.tail_cons,List.cons_append,List.nil_append,gI (show -1000000000000≤f.aX∧f.aX≤1000000000000 by omega),gI (show -1000000000000≤f.month∧f.month≤1000000000000 by omega)]
 ·have h1:=within_iff.1 h1
  simp only [aY,iG,show((1:Int)==0)=false from rfl,show((1:Int)==1)=true from rfl,cond_true,cond_false,Bool.or_true,List.tail_cons,List.cons_append,List.nil_append,gI (show -1000000000000≤f.number∧f.number≤1000000000000 by omega)]
 ·have h1:=within_iff.1 h1
  simp only [aY,iG,show((2:Int)==0)=false from rfl,show((2:Int)==1)=false from rfl,show((2:Int)==2)=true from rfl,cond_true,cond_false,Bool.or_self,List.tail_cons,List.cons_append,List.nil_append,l7,sF,gI (show -1000000000000≤f.month∧f.month≤1000000000000 by omega)]
theorem DL{k:Int}{f:Fact}(he:bK k f=0):∃w,aY k f=w::(aY k f).tail∧tY w=k:=by
 rcases fW he with⟨rfl,_⟩|⟨rfl,_⟩|⟨rfl,_⟩
 ·exact⟨kP,rfl,OM⟩
 ·exact⟨rG,rfl,V5⟩
 ·exact⟨nF,rfl,RE⟩
theorem JL{f:Fact}(he:fA f=0):iJ (fL f,false)=(bH f,([],false)):=by
 obtain⟨h1,h2⟩:=nM he
 have hs:=within_iff.1 (l6 h2)
 have QP: -1000000000000≤f.seq∧f.seq≤1000000000000:=oM
 cases h3:f.kind !=3 with
 |false=>
  have k3:f.kind=3:=by simpa using h3
  have e1:bK f.target f=0:=by unfold mH at h1;rw[h3]at h1;exact h1
  have e2:kZ f=bS::aY f.target f:=by unfold kZ;rw[h3];rfl
  obtain⟨w,hw,hk⟩:=DL e1
  have e3:fL f=bS::Lib.itoa f.seq::w::((aY f.target f).tail++ []):=by
   unfold fL sW
   rw[k3,e2,List.append_nil,←hw];rfl
  rw[e3]
  unfold iJ
  simp only [l7,IK,show((3:Int)==0)=false from rfl,show((3:Int)==1)=false from rfl,show((3:Int)==3)=true from rfl,cond_true,cond_false,gI QP,hk,sS e1]
  unfold bH eK cO
  rw[k3]
  simp only [show((3:Int)==0)=false from rfl,show((3:Int)==1)=false from rfl,show((3:Int)==3)=true from rfl,cond_true,cond_false]
 |true=>
  have e1:bK f.kind f=0:=by unfold mH at h1;rw[h3]at h1;exact h1
  have e2:kZ f=aY f.kind f:=by unfold kZ;rw[h3];rfl
  obtain⟨w,hw,hk⟩:=DL e1
  rcases fW e1 with⟨k0,_⟩|⟨k1,_⟩|⟨k2,_⟩
  ·obtain⟨a,b⟩:=nG h2 (by rw[k0];rfl)
   obtain⟨l1,l2⟩:=OE a
   have e3:fL f=w::((aY f.kind f).tail++(Lib.itoa f.seq::f.levels.map rD)):=by
    unfold fL
    rw[e2,←List.cons_append,←hw,k0];simp
   rw[e3]
   unfold iJ
   simp only [l7,hk]
   rw[sS e1]
   simp only [k0,show((0:Int)==0)=true from rfl,cond_true,gI QP,l1,l2]
   unfold bH eK cO
   rw[k0]
   simp[show((0:Int)==1)=false from rfl,show((0:Int)==3)=false from rfl]
  ·obtain⟨⟨a,b,c,d⟩,e,g⟩:=kJ h2 (by rw[k1];rfl)
   have a:=within_iff.1 a
   have b:=within_iff.1 b
   have c:=within_iff.1 c
   have d:=within_iff.1 d
   have e3:fL f=w::((aY f.kind f).tail++ [Lib.itoa f.month,Lib.itoa f.seq,Lib.itoa f.aS,Lib.itoa f.over,tx f.aN,Lib.itoa f.cls,tx f.cQ]):=by
    unfold fL
    rw[e2,←List.cons_append,←hw,k1];rfl
   rw[e3]
   unfold iJ
   simp only [l7,hk]
   rw[sS e1]
   simp only [k1,Q5,show((1:Int)==0)=false from rfl,show((1:Int)==1)=true from rfl,cond_true,cond_false,gI QP,l7,sF,gI (show -1000000000000≤f.month∧f.month≤1000000000000 by omega),gI (show -1000000000000≤f.aS∧f.aS≤1000000000000 by omega),gI (show -1000000000000≤f.over∧f.over≤1000000000000 by omega),gI (show -1000000000000≤f.cls∧f.cls≤1000000000000 by omega)]
   unfold bH eK cO
   rw[k1]
   simp[show((1:Int)==0)=false from rfl,show((1:Int)==3)=false from rfl]
  ·have e3:fL f=w::((aY f.kind f).tail++ [Lib.itoa f.seq]):=by
    unfold fL
    rw[e2,←List.cons_append,←hw,k2];rfl
   rw[e3]
   unfold iJ
   simp only [l7,hk]
   rw[sS e1]
   simp only [k2,show((2:Int)==0)=false from rfl,show((2:Int)==1)=false from rfl,show((2:Int)==3)=false from rfl,cond_false,gI QP]
   unfold bH eK cO
   rw[k2]
   simp[show((2:Int)==0)=false from rfl,show((2:Int)==1)=false from rfl,show((2:Int)==3)=false from rfl]
theorem XG{f:Fact}(he:fA f=0):eG f=bH f:=by
 unfold eG
 obtain⟨h1,h2⟩:=HA he
 have e:eI f=iH (fL f):=by unfold eI;rw[he];rfl
 rw[vL,e,y7 h1 h2,JL he]
def xB(f:Fact):Bool:= !within f.kind 0 3||(f.kind==3&& !within f.target 0 2)
theorem AK(f:Fact):mH f=bK (eK f) f:=by
 unfold mH eK
 cases h:f.kind==3 with
 |true=>rw[show(f.kind !=3)=false by simp[bne,h]];rfl
 |false=>rw[show(f.kind !=3)=true by simp[bne,h]];rfl
theorem AM{k:Int}(f:Fact)(h:k<0∨2<k):bK k f=2:=by
 unfold bK
 rw[show(k==0)=false by simp;omega,show(k==1)=false by simp;omega,show(k !=2)=true by simp;omega]
 rfl
theorem LV{f:Fact}(h:xB f=true):mH f=2:=by
 rw[AK]
 unfold xB at h
 unfold eK
 cases h3:f.kind==3 with
 |true=>
  have e:f.kind=3:=by simpa using h3
  rw[h3,e]at h
  have h2:within f.target 0 2=false:=by simpa [show within 3 0 3=true from rfl]using h
  refine AM f ?_
  have:¬(0≤f.target∧f.target≤2):=fun h=>by rw[within_iff.2 h]at h2;cases h2
  simp only [cond_true]
  omega
 |false=>
  rw[h3,Bool.false_and,Bool.or_false]at h
  have e:f.kind≠3:=by simpa using h3
  have:¬(0≤f.kind∧f.kind≤3):=fun h'=>by rw[within_iff.2 h']at h;cases h
  refine AM f ?_
  simp only [cond_false]
  omega
theorem IL{f:Fact}(h:xB f=false):eK f=0∨eK f=1∨eK f=2:=by
 unfold xB at h
 unfold eK
 rw[Bool.or_eq_false_iff]at h
 have h1:=within_iff.1 (show within f.kind 0 3=true by simpa using h.1)
 cases h3:f.kind==3 with
 |true=>
  rw[h3]at h
  have h2:=within_iff.1 (show within f.target 0 2=true by simpa using h.2)
  simp only [cond_true]
  omega
 |false=>
  have e:f.kind≠3:=by simpa using h3
  simp only [cond_false]
  omega
def mF(f:Fact):bG:=iH (aY (eK f) f)
theorem mA{f:Fact}(he:mH f=0):dR f=bif f.kind==3 then bS++ [32]++mF f else mF f:=by
 unfold dR
 rw[he]
 show iH (kZ f)=_
 unfold kZ mF eK
 cases h:f.kind==3 with
 |true=>
  rw[show(f.kind !=3)=false by simp[bne,h]]
  simp only [cond_false,cond_true]
  have:=lV f.target f
  exact yK bS (fun h=>by rw[h]at this;simp at this)
 |false=>rw[show(f.kind !=3)=true by simp[bne,h]];rfl
theorem sH{f:Fact}(he:mH f=0):(mF f).length≤45:=by
 have h:=rR (GM (k:=eK f) (f:=f) (by rw[←AK];exact he))
 have h2:=lV (eK f) f
 have h3:=Nat.mul_le_mul_right (14+1) h2.2
 unfold mF
 omega
theorem aF0(f:Fact)(hf:f.fits):aF prog 13 [oB f] (.t [.s (.d (dT (dR f))),.s (.d (dI (mH f)))]):=by
 have bad:mH f≠0→dR f=[]:=fun h=>by unfold dR;rw[show(mH f==0)=false by simpa using h];rfl
 refine eP func13 rfl rfl call13 rfl rfl fun cx aA=>?_
 refine aB (oS _ _ _) ?_
 repeat refine aR ?_
 refine eJ (oS _ _ _) ?_
 repeat refine aR ?_
 refine aI (fun g=>?_) (fun g=>?_)
 ·have g:xB f=true:=g
  have e:=LV g
  exact aC.of_eq (by rw[bad (by rw[e];decide),e];rfl)
 have g:xB f=false:=g
 refine aB (Y4 f) ?_
 have hk:mH f=bK (eK f) f:=AK f
 refine aI (fun k0=>?_) (fun k0=>?_)
 ·have k0:(eK f==0)=true:=k0
  have k0':eK f=0:=by simpa using k0
  refine aB (oS _ _ _) ?_
  repeat refine aR ?_
  refine eJ (oS _ _ _) ?_
  repeat refine aR ?_
  refine aI (fun g1=>?_) (fun g1=>?_)
  ·have g1:(!within f.aX 0 2|| !within f.month 0 24)=true:=g1
   have e:mH f=2:=by
    rw[hk,k0']
    unfold bK
    revert g1
    cases within f.aX 0 2 <;> cases within f.month 0 24 <;> simp
   exact aC.of_eq (by rw[bad (by rw[e];decide),e];rfl)
  ·have g1:(!within f.aX 0 2|| !within f.month 0 24)=false:=g1
   have e:mH f=0:=by
    rw[hk,k0']
    unfold bK
    revert g1
    cases within f.aX 0 2 <;> cases within f.month 0 24 <;> simp
   rw[Bool.or_eq_false_iff]at g1
   have g2:=within_iff.1 (show within f.aX 0 2=true by simpa using g1.1)
   have g3:=within_iff.1 (show within f.month 0 24=true by simpa using g1.2)
   have l1:(Lib.itoa f.aX).length≤14:=j7 oM
   have l2:(Lib.itoa f.month).length≤14:=j7 oM
   have hB:mF f=[115,117,114,118,101,121,32]++Lib.itoa f.aX++ [32]++Lib.itoa f.month:=by
    unfold mF
    rw[k0']
    show iH [kP,Lib.itoa f.aX,Lib.itoa f.month]=_
    rw[fC,fC,mB]
    simp[kP]
   refine aB (BW f.aX oM oM) ?_
   refine oi (show(bs [115,117,114,118,101,121,32]).size+(bs (Lib.itoa f.aX)).size≤9223372036854775807 by simp only [aW,List.length_cons,List.length_nil];omega) ?_
   refine oi (show(bs [115,117,114,118,101,121,32]++bs (Lib.itoa f.aX)).size+(bs [32]).size≤9223372036854775807 by simp only [eV,aW,List.length_append,List.length_cons,List.length_nil];omega) ?_
   refine aB (BW f.month oM oM) ?_
   refine oi (show(bs [115,117,114,118,101,121,32]++bs (Lib.itoa f.aX)++bs [32]).size+(bs (Lib.itoa f.month)).size≤9223372036854775807 by simp only [eV,aW,List.length_append,List.length_cons,List.length_nil];omega) ?_
   refine aD ?_
   have pR:=sH e
   rw[hB]at pR
   refine aI (fun g5=>?_) (fun g5=>?_)
   ·have g5:(f.kind==3)=true:=g5
    refine oi (show(bs [119,105,116,104,100,114,97,119,32]).size+(bs [115,117,114,118,101,121,32]++bs (Lib.itoa f.aX)++bs [32]++bs (Lib.itoa f.month)).size≤9223372036854775807 by simp only [eV,aW,List.length_append,List.length_cons,List.length_nil]at pR ⊢;omega) ?_
    refine aC.of_eq ?_
    rw[e,mA e,g5,hB]
    show AV.t [.s (.d (.val (.string (bs [119,105,116,104,100,114,97,119,32]++(bs [115,117,114,118,101,121,32]++bs (Lib.itoa f.aX)++bs [32]++bs (Lib.itoa f.month)))))),.s (.d (dI 0))]=_
    simp only [eV,cond_true]
    rfl
   ·have g5:(f.kind==3)=false:=g5
    refine aC.of_eq ?_
    rw[e,mA e,g5,hB]
    show AV.t [.s (.d (.val (.string (bs [115,117,114,118,101,121,32]++bs (Lib.itoa f.aX)++bs [32]++bs (Lib.itoa f.month))))),.s (.d (dI 0))]=_
    simp only [eV,cond_false]
 ·have k0:(eK f==0)=false:=k0
  refine aI (fun k1=>?_) (fun k1=>?_)
  ·have k1:(eK f==1)=true:=k1
   have k1':eK f=1:=by simpa using k1
   refine aB (oS _ _ _) ?_
   repeat refine aR ?_
   refine aI (fun g1=>?_) (fun g1=>?_)
   ·have g1:(!within f.number 1 1000000)=true:=g1
    have e:mH f=2:=by
     rw[hk,k1']
     unfold bK
     revert g1
     cases within f.number 1 1000000 <;> simp
    exact aC.of_eq (by rw[bad (by rw[e];decide),e];rfl)
   ·have g1:(!within f.number 1 1000000)=false:=g1
    have e:mH f=0:=by
     rw[hk,k1']
     unfold bK
     revert g1
     cases within f.number 1 1000000 <;> simp
    have g2:=within_iff.1 (show within f.number 1 1000000=true by simpa using g1)
    have l1:(Lib.itoa f.number).length≤14:=j7 oM
    have hB:mF f=[108,111,97,100,32]++Lib.itoa f.number:=by
     unfold mF
     rw[k1']
     show iH [rG,Lib.itoa f.number]=_
     rw[fC,mB]
     simp[rG]
    refine aB (BW f.number oM oM) ?_
    refine oi (show(bs [108,111,97,100,32]).size+(bs (Lib.itoa f.number)).size≤9223372036854775807 by simp only [aW,List.length_cons,List.length_nil];omega) ?_
    have pR:=sH e
    rw[hB]at pR
    refine aI (fun g5=>?_) (fun g5=>?_)
    ·have g5:(f.kind==3)=true:=g5
     refine oi (show(bs [119,105,116,104,100,114,97,119,32]).size+(bs [108,111,97,100,32]++bs (Lib.itoa f.number)).size≤9223372036854775807 by simp only [eV,aW,List.length_append,List.length_cons,List.length_nil]at pR ⊢;omega) ?_
     refine aC.of_eq ?_
     rw[e,mA e,g5,hB]
     show AV.t [.s (.d (.val (.string (bs [119,105,116,104,100,114,97,119,32]++(bs [108,111,97,100,32]++bs (Lib.itoa f.number)))))),.s (.d (dI 0))]=_
     simp only [eV,cond_true]
     rfl
    ·have g5:(f.kind==3)=false:=g5
     refine aC.of_eq ?_
     rw[e,mA e,g5,hB]
     show AV.t [.s (.d (.val (.string (bs [108,111,97,100,32]++bs (Lib.itoa f.number))))),.s (.d (dI 0))]=_
     simp only [eV,cond_false]
  ·have k1:(eK f==1)=false:=k1
   have k2':eK f=2:=by
    rcases IL g with h|h|h
    ·rw[h]at k0;cases k0
    ·rw[h]at k1;cases k1
    ·exact h
   refine aB (oS _ _ _) ?_
   repeat refine aR ?_
   refine aI (fun g1=>?_) (fun g1=>?_)
   ·have g1:(!within f.month 1 24)=true:=g1
    have e:mH f=2:=by
     rw[hk,k2']
     unfold bK
     revert g1
     cases within f.month 1 24 <;> simp
    exact aC.of_eq (by rw[bad (by rw[e];decide),e];rfl)
   ·have g1:(!within f.month 1 24)=false:=g1
    refine aB (S5 f.cE hf.cE) ?_
    repeat refine aR ?_
    refine aI (fun g4=>?_) (fun g4=>?_)
    ·have g4:(!isName f.cE)=true:=g4
     have e:mH f=4:=by
      rw[hk,k2']
      unfold bK
      revert g1 g4
      cases within f.month 1 24 <;> cases isName f.cE <;> simp
     exact aC.of_eq (by rw[bad (by rw[e];decide),e];rfl)
    ·have g4:(!isName f.cE)=false:=g4
     have e:mH f=0:=by
      rw[hk,k2']
      unfold bK
      revert g1 g4
      cases within f.month 1 24 <;> cases isName f.cE <;> simp
     have g2:=within_iff.1 (show within f.month 1 24=true by simpa using g1)
     have l1:(Lib.itoa f.month).length≤14:=j7 oM
     have l2:=iQ (show isName f.cE=true by simpa using g4)
     have l3:(tx f.cE).length≤12:=by rw[vC];omega
     have hB:mF f=[119,97,105,118,101,32]++tx f.cE++ [32]++Lib.itoa f.month:=by
      unfold mF
      rw[k2']
      show iH [nF,tx f.cE,Lib.itoa f.month]=_
      rw[fC,fC,mB]
      simp[nF]
     refine oi (show(bs [119,97,105,118,101,32]).size+(f.cE).size≤9223372036854775807 by rw[aW];simp only [List.length_cons,List.length_nil];omega) ?_
     refine oi (show(bs [119,97,105,118,101,32]++f.cE).size+(bs [32]).size≤9223372036854775807 by rw[←sF f.cE];simp only [eV,aW,List.length_append,List.length_cons,List.length_nil];omega) ?_
     refine aB (BW f.month oM oM) ?_
     refine oi (show(bs [119,97,105,118,101,32]++f.cE++bs [32]).size+(bs (Lib.itoa f.month)).size≤9223372036854775807 by rw[←sF f.cE];simp only [eV,aW,List.length_append,List.length_cons,List.length_nil];omega) ?_
     refine aD ?_
     have pR:=sH e
     rw[hB]at pR
     refine aI (fun g5=>?_) (fun g5=>?_)
     ·have g5:(f.kind==3)=true:=g5
      refine oi (show(bs [119,105,116,104,100,114,97,119,32]).size+(bs [119,97,105,118,101,32]++f.cE++bs [32]++bs (Lib.itoa f.month)).size≤9223372036854775807 by rw[←sF f.cE];simp only [eV,aW,List.length_append,List.length_cons,List.length_nil]at pR ⊢;omega) ?_
      refine aC.of_eq ?_
      rw[e,mA e,g5,hB]
      show AV.t [.s (.d (.val (.string (bs [119,105,116,104,100,114,97,119,32]++(bs [119,97,105,118,101,32]++f.cE++bs [32]++bs (Lib.itoa f.month)))))),.s (.d (dI 0))]=_
      rw[show bs [119,97,105,118,101,32]++f.cE=bs ([119,97,105,118,101,32]++tx f.cE) by rw[←eV,sF]]
      simp only [eV,cond_true]
      rfl
     ·have g5:(f.kind==3)=false:=g5
      refine aC.of_eq ?_
      rw[e,mA e,g5,hB]
      show AV.t [.s (.d (.val (.string (bs [119,97,105,118,101,32]++f.cE++bs [32]++bs (Lib.itoa f.month))))),.s (.d (dI 0))]=_
      rw[show bs [119,97,105,118,101,32]++f.cE=bs ([119,97,105,118,101,32]++tx f.cE) by rw[←eV,sF]]
      simp only [eV,cond_false]
theorem LC{f:Fact}(h:lS f=false):iF f=2:=by
 unfold lS at h
 unfold iF
 cases h1:within f.seq 0 1000000 with
 |false=>rfl
 |true=>
  rw[h1]at h
  cases h2:f.kind==1 with
  |true=>
   rw[h2]at h
   have k0:(f.kind==0)=false:=by
    have:f.kind=1:=by simpa using h2
    rw[this];rfl
   have h3:iB f=true:=by simpa using h
   rw[k0,h3];rfl
  |false=>
   rw[h2]at h
   cases h3:f.kind==0 with
   |false=>rw[h3]at h;cases h
   |true=>
    rw[h3]at h
    have h4:f.levels.any jD=true:=by
     cases h5:f.levels.any jD with
     |true=>rfl
     |false=>rw[h5]at h;cases h
    rw[h4];rfl
theorem Q4{f:Fact}(h:lS f=true):iF f=bif f.kind==1&&(!isName f.aN|| !isName f.cQ)then 4 else bif f.kind==0&&decide ((f.levels.length:Int)>100)then 8 else 0:=by
 unfold lS at h
 unfold iF
 cases h1:within f.seq 0 1000000 with
 |false=>rw[h1]at h;cases h
 |true=>
  rw[h1]at h
  cases h2:f.kind==1 with
  |true=>
   rw[h2]at h
   have k0:(f.kind==0)=false:=by
    have:f.kind=1:=by simpa using h2
    rw[this];rfl
   have h3:iB f=false:=by simpa using h
   rw[k0,h3]
   cases !isName f.aN|| !isName f.cQ <;> rfl
  |false=>
   rw[h2]at h
   cases h3:f.kind==0 with
   |false=>rfl
   |true=>
    rw[h3]at h
    have h4:f.levels.any jD=false:=by
     cases h5:f.levels.any jD with
     |false=>rfl
     |true=>rw[h5]at h;cases h
    rw[h4]
    cases decide ((f.levels.length:Int)>100) <;> rfl
theorem Q6(f:Fact)(hf:f.fits):aF prog 49 [oB f] (vI (fA f)):=by
 refine eP func49 rfl rfl call49 rfl rfl fun cx aA=>?_
 refine aB (aF0 f hf) ?_
 refine aI (fun h1=>?_) (fun h1=>?_)
 ·have h1:(mH f !=0)=true:=h1
  exact aC.of_eq (by unfold fA;rw[h1];rfl)
 have h1:(mH f !=0)=false:=h1
 have e1:fA f=iF f:=by unfold fA;rw[h1];rfl
 refine aB (aCP f hf) ?_
 refine aI (fun h2=>?_) (fun h2=>?_)
 ·have h2:(!lS f)=true:=h2
  exact aC.of_eq (by rw[e1,LC (by simpa using h2)];rfl)
 have h2:(!lS f)=false:=h2
 have e2:=Q4 (f:=f) (by simpa using h2)
 repeat refine aR ?_
 refine eJ (S5 f.aN hf.aN) ?_
 repeat refine aR ?_
 refine eJ (S5 f.cQ hf.cQ) ?_
 repeat refine aR ?_
 refine aI (fun h3=>?_) (fun h3=>?_)
 ·have h3:(f.kind==1&&(!isName f.aN|| !isName f.cQ))=true:=h3
  exact aC.of_eq (by rw[e1,e2,h3];rfl)
 have h3:(f.kind==1&&(!isName f.aN|| !isName f.cQ))=false:=h3
 repeat refine aR ?_
 refine aI (fun h4=>?_) (fun h4=>?_)
 ·have h4:(f.kind==0&&decide ((f.levels.length:Int)>100))=true:=h4
  exact aC.of_eq (by rw[e1,e2,h3,h4];rfl)
 ·have h4:(f.kind==0&&decide ((f.levels.length:Int)>100))=false:=h4
  exact aC.of_eq (by rw[e1,e2,h3,h4];rfl)
def gZ(l:List Int):bG:=l.flatMap fun n=>32::Lib.itoa n
abbrev okI(n:Int):Prop:= -1000000000000≤n∧n≤1000000000000
theorem VM{l:List Int}{i:Nat}(h:i<l.length):gZ (l.take (i+1))=gZ (l.take i)++(32::Lib.itoa (l.getD i 0)):=by
 unfold gZ
 rw[List.take_add_one,List.getElem?_eq_getElem h,List.flatMap_append]
 simp[List.getD_eq_getElem?_getD,h]
theorem zZ:∀{l:List Int},(∀n∈l,okI n)→(gZ l).length≤l.length*15
 |[],_=>Nat.zero_le _
 |n::r,h=>by
  have h1:=j7 (h n (List.mem_cons_self))
  have h2:=zZ (l:=r) fun x hx=>h x (List.mem_cons_of_mem _ hx)
  have e:gZ (n::r)=(32::Lib.itoa n)++gZ r:=rfl
  rw[e,List.length_append,List.length_cons,List.length_cons]
  omega
theorem row(l:List Int)(hl:l.length≤1000)(hn:∀n∈l,okI n):aF prog 50 [kA l] (vT (gZ l)):=by
 refine eP func50 rfl rfl call50 rfl rfl fun cx aA=>?_
 refine AW.loop (fun i:Nat=>⟨[(0,kA l),(3,vT (gZ (l.take i))),(4,vI i)],[]⟩) (fun i=>i≤l.length) (fun i=>l.length - i) 0 (Nat.zero_le _) ?_ ?_
 ·exact Sub.b7 aA trivial ⟨rQ,rQ,rQ,oO⟩
 intro i hi
 refine eX aA ?_
 refine aI (fun h=>?_) (fun h=>?_)
 ·have h:(i:Int)<l.length:=cB h
  have bN:i<l.length:=oM
  have hx:=hn (l.getD i 0) (by rw[List.getD_eq_getElem?_getD,List.getElem?_eq_getElem bN];exact List.getElem_mem _)
  have h1:=j7 hx
  have h2:=zZ (l:=l.take i) fun x hx=>hn x (List.mem_of_mem_take hx)
  have h3:(l.take i).length≤1000:=by rw[List.length_take];omega
  have h4:=Nat.mul_le_mul_right 15 h3
  refine oi (show(bs (gZ (l.take i))).size+(bs [32]).size≤9223372036854775807 by simp only [aW,List.length_cons,List.length_nil];omega) ?_
  refine oi ⟨oM,oM⟩ ?_
  refine aB (BW (l.getD i 0) oM oM) ?_
  refine oi (show(bs (gZ (l.take i))++bs [32]).size+(bs (Lib.itoa (l.getD i 0))).size≤9223372036854775807 by simp only [eV,aW,List.length_append,List.length_cons,List.length_nil];omega) ?_
  refine⟨i+1,oM,oM,?_⟩
  refine Sub.b7 aA trivial ⟨rQ,⟨rfl,?_⟩,⟨rfl,congrArg vI (aG oM oM)⟩,oO⟩
  show vS (bs (gZ (l.take i))++bs [32]++bs (Lib.itoa (l.getD i 0)))=vT (gZ (l.take (i+1)))
  rw[VM bN,eV,eV,List.append_assoc];rfl
 have h:¬(i:Int)<l.length:=cD h
 have e:i=l.length:=oM
 exact aC.of_eq (by rw[e,List.take_length];rfl)
def q7(l:List bG):bG:=l.flatMap fun w=>32::w
theorem rT:∀{a:List bG} (_:a≠[]) (b:List bG),iH (a++b)=iH a++q7 b
 |[],h,_=>absurd rfl h
 |[x],_,[]=>by simp[q7]
 |[x],_,y::r=>by
  rw[List.singleton_append,fC,mB]
  have:=rT (a:=[y]) sM r
  rw[List.singleton_append,mB]at this
  rw[this]
  simp[q7]
 |x::y::r,_,b=>by
  rw[List.cons_append,List.cons_append,fC,fC]
  have:=rT (a:=y::r) sM b
  rw[List.cons_append]at this
  rw[this]
  simp
theorem XM(l:List Int):q7 (l.map Lib.itoa)=gZ l:=by
 unfold q7 gZ
 induction l with
 |nil=>rfl
 |cons a r ih=>simp[ih]
theorem Z6{f:Fact}(h:mH f=0):(dR f).length≤54:=by
 have h1:=sH h
 rw[mA h]
 cases f.kind==3 with
 |true=>show(bS++ [32]++mF f).length≤54;simp[bS];omega
 |false=>show(mF f).length≤54;omega
theorem KV{l:List Int}{i:Nat}(g:Int→bG)(h:i<l.length):q7 ((l.take (i+1)).map g)=q7 ((l.take i).map g)++(32::g (l.getD i 0)):=by
 unfold q7
 rw[List.take_add_one,List.getElem?_eq_getElem h,List.map_append,List.flatMap_append]
 congr 1
 simp[List.getD_eq_getElem?_getD,h]
theorem DC(f:Fact)(hf:f.fits):aF prog 15 [oB f] (.t [.s (.d (dT (eI f))),.s (.d (dI (fA f)))]):=by
 refine eP func15 rfl rfl call15 rfl rfl fun cx aA=>?_
 refine aB (Q6 f hf) ?_
 refine aI (fun h=>?_) (fun h=>?_)
 ·have h:(fA f !=0)=true:=h
  have h':(fA f==0)=false:=by simpa [bne]using h
  exact aC.of_eq (by unfold eI;rw[h'];rfl)
 have h:(fA f !=0)=false:=h
 have he:fA f=0:=by simpa using h
 obtain⟨hk,hr⟩:=nM he
 have J8:=Z6 hk
 have hw:=xA f
 have hT:eI f=iH (fL f):=by unfold eI;rw[he];rfl
 have hK:dR f=iH (kZ f):=by unfold dR;rw[hk];rfl
 have hV:kZ f≠[]:=List.length_pos_iff.1 hw.1
 have hsq:=within_iff.1 (l6 hr)
 have one:∀n,okI n→aF prog 50 [kA [n]] (vT (gZ [n])):=fun n hn=>row [n] sM (fun x hx=>by rw[List.mem_singleton.1 hx];exact hn)
 have aDE:∀n,okI n→(gZ [n]).length≤15:=fun n hn=>zZ (l:=[n]) (fun x hx=>by rw[List.mem_singleton.1 hx];exact hn)
 refine aB (aF0 f hf) ?_
 refine aI (fun k0=>?_) (fun k0=>?_)
 ·have k0:(f.kind==0)=true:=k0
  have hl1:=aDE f.seq ⟨oM,oM⟩
  refine aB ((one f.seq ⟨oM,oM⟩).conv (args':=_) ⟨aJ.fJ fun i j hi hj=>?_,oO⟩) ?_
  ·have hi:i<1:=hi
   have hj:j<1:=hj
   match i,j,hi,hj with
   |0,0,_,_=>exact aJ.refl _
  refine oi (show(bs (dR f)).size+(bs (gZ [f.seq])).size≤9223372036854775807 by simp only [aW];omega) ?_
  obtain⟨WM,X8⟩:=nG hr k0
  have hW:eI f=dR f++gZ [f.seq]++q7 (f.levels.map rD):=by
   rw[hT,hK]
   unfold fL
   rw[k0]
   show iH (kZ f++ [Lib.itoa f.seq]++f.levels.map rD)=_
   rw[List.append_assoc,rT hV,List.append_assoc,←XM]
   simp[q7]
  have hL:∀n∈f.levels,jD n=false:=fun n hn=>by
   have:=List.any_eq_false.1 WM n hn
   simpa using this
  have uA:∀i,i≤f.levels.length→(q7 ((f.levels.take i).map rD)).length≤i*15:=by
   intro i
   induction i with
   |zero=>intro _;simp[q7]
   |succ i ih=>
    intro hi
    have:=ih oM
    have hx:=aEQ (hL _ (List.getElem_mem (show i<f.levels.length by omega)))
    rw[KV rD oM,List.length_append,List.length_cons]
    rw[show f.levels.getD i 0=f.levels[i]'oM by simp[List.getD_eq_getElem?_getD,show i<f.levels.length by omega]]
    omega
  refine AW.loop (fun i:Nat=>⟨[(1,.s (.ptr 1 0)),(7,vT (dR f++gZ [f.seq]++q7 ((f.levels.take i).map rD))),(8,vI i)],[(1,some (.cells (tG f)))]⟩) (fun i=>i≤f.levels.length) (fun i=>f.levels.length - i) 0 (Nat.zero_le _) ?_ ?_
  ·exact Sub.b7 aA ⟨rQ,oO⟩ ⟨rQ,⟨rfl,by show vS (bs (dR f)++bs (gZ [f.seq]))=_;rw[eV];simp[q7]⟩,rQ,oO⟩
  intro i hi
  have lT:((dR f++gZ [f.seq]++q7 ((f.levels.take i).map rD))).length≤2000:=by
   have:=uA i hi
   simp only [List.length_append];omega
  have UA:i<f.levels.length→dR f++gZ [f.seq]++q7 ((f.levels.take (i+1)).map rD)=dR f++gZ [f.seq]++q7 ((f.levels.take i).map rD)++(32::rD (f.levels.getD i 0)):=fun bN=>by
   rw[KV rD bN,←List.append_assoc]
  refine eX aA ?_
  refine aI (fun h=>?_) (fun h=>?_)
  ·have h:(i:Int)<f.levels.length:=cB h
   have bN:i<f.levels.length:=oM
   have UA:=UA bN
   have L4:jD (f.levels.getD i 0)=false:=hL _ (by rw[List.getD_eq_getElem?_getD,List.getElem?_eq_getElem bN];exact List.getElem_mem _)
   refine oi ⟨oM,oM⟩ ?_
   refine aI (fun g=>?_) (fun g=>?_)
   ·have g:(f.levels.getD i 0==30000)=true:=g
    refine oi (show(bs (dR f++gZ [f.seq]++q7 ((f.levels.take i).map rD))).size+(bs [32,45]).size≤9223372036854775807 by simp only [aW,List.length_cons,List.length_nil];omega) ?_
    refine⟨i+1,oM,oM,?_⟩
    refine Sub.b7 aA ⟨rQ,oO⟩ ⟨rQ,⟨rfl,?_⟩,⟨rfl,congrArg vI (aG oM oM)⟩,oO⟩
    show vS (bs _++bs [32,45])=_
    rw[UA,eV]
    unfold rD
    rw[g];rfl
   ·have g:(f.levels.getD i 0==30000)=false:=g
    have hx:okI (f.levels.getD i 0):=by
     rcases xG L4 with h0|⟨_,h1⟩
     ·rw[h0]at g;cases g
     ·exact⟨oM,oM⟩
    have hl2:=aDE _ hx
    refine oi ⟨oM,oM⟩ ?_
    refine aB ((one (f.levels.getD i 0) hx).conv (args':=_) ⟨aJ.fJ fun i j hi hj=>?_,oO⟩) ?_
    ·have hi:i<1:=hi
     have hj:j<1:=hj
     match i,j,hi,hj with
     |0,0,_,_=>exact aJ.refl _
    refine oi (show(bs (dR f++gZ [f.seq]++q7 ((f.levels.take i).map rD))).size+(bs (gZ [f.levels.getD i 0])).size≤9223372036854775807 by simp only [aW];omega) ?_
    refine⟨i+1,oM,oM,?_⟩
    refine Sub.b7 aA ⟨rQ,oO⟩ ⟨rQ,⟨rfl,?_⟩,⟨rfl,congrArg vI (aG oM oM)⟩,oO⟩
    show vS (bs _++bs _)=_
    rw[UA,eV]
    unfold rD gZ
    rw[g];simp
  have h:¬(i:Int)<f.levels.length:=cD h
  have e:i=f.levels.length:=oM
  exact aC.of_eq (by rw[e,List.take_length,he,hW];rfl)
 have k0:(f.kind==0)=false:=k0
 refine aI (fun k1=>?_) (fun k1=>?_)
 ·have k1:(f.kind==1)=true:=k1
  obtain⟨⟨hm,hb,hov,hc⟩,hso,hpi⟩:=kJ hr k1
  have hm:=within_iff.1 hm
  have hb:=within_iff.1 hb
  have hov:=within_iff.1 hov
  have hc:=within_iff.1 hc
  have hso:=iQ hso
  have hpi:=iQ hpi
  have ok4:∀x∈[f.month,f.seq,f.aS,f.over],okI x:=fun x hx=>by
   simp only [List.mem_cons,List.not_mem_nil,or_false]at hx
   rcases hx with rfl|rfl|rfl|rfl <;> exact⟨oM,oM⟩
  have r4:=row [f.month,f.seq,f.aS,f.over] sM ok4
  have l4:(gZ [f.month,f.seq,f.aS,f.over]).length≤60:=zZ ok4
  have uA:=aDE f.cls ⟨oM,oM⟩
  have hW:eI f=dR f++gZ [f.month,f.seq,f.aS,f.over]++ [32]++tx f.aN++gZ [f.cls]++ [32]++tx f.cQ:=by
   rw[hT,hK]
   unfold fL
   rw[k0,k1]
   show iH (kZ f++ [Lib.itoa f.month,Lib.itoa f.seq,Lib.itoa f.aS,Lib.itoa f.over,tx f.aN,Lib.itoa f.cls,tx f.cQ])=_
   rw[rT hV]
   simp[q7,gZ]
  generalize gZ [f.month,f.seq,f.aS,f.over]=R4 at r4 l4 hW
  refine aB (r4.conv (args':=_) ⟨aJ.fJ fun i j hi hj=>?_,oO⟩) ?_
  ·have hi:i<4:=hi
   have hj:j<1:=hj
   match i,j,hi,hj with
   |0,0,_,_|1,0,_,_|2,0,_,_|3,0,_,_=>exact aJ.refl _
  refine oi (show(bs (dR f)).size+(bs R4).size≤9223372036854775807 by simp only [aW];omega) ?_
  refine oi (show(bs (dR f)++bs R4).size+(bs [32]).size≤9223372036854775807 by simp only [ByteArray.size_append,aW,List.length_cons,List.length_nil];omega) ?_
  refine oi (show(bs (dR f)++bs R4++bs [32]).size+f.aN.size≤9223372036854775807 by simp only [ByteArray.size_append,aW,List.length_cons,List.length_nil];omega) ?_
  refine aB ((one f.cls ⟨oM,oM⟩).conv (args':=_) ⟨aJ.fJ fun i j hi hj=>?_,oO⟩) ?_
  ·have hi:i<1:=hi
   have hj:j<1:=hj
   match i,j,hi,hj with
   |0,0,_,_=>exact aJ.refl _
  refine oi (show(bs (dR f)++bs R4++bs [32]++f.aN).size+(bs (gZ [f.cls])).size≤9223372036854775807 by simp only [ByteArray.size_append,aW,List.length_cons,List.length_nil];omega) ?_
  refine oi (show(bs (dR f)++bs R4++bs [32]++f.aN++bs (gZ [f.cls])).size+(bs [32]).size≤9223372036854775807 by simp only [ByteArray.size_append,aW,List.length_cons,List.length_nil];omega) ?_
  refine oi (show(bs (dR f)++bs R4++bs [32]++f.aN++bs (gZ [f.cls])++bs [32]).size+f.cQ.size≤9223372036854775807 by simp only [ByteArray.size_append,aW,List.length_cons,List.length_nil];omega) ?_
  refine aD ?_
  refine aC.of_eq ?_
  rw[he,hW]
  show AV.t [.s (.d (.val (.string (bs (dR f)++bs R4++bs [32]++f.aN++bs (gZ [f.cls])++bs [32]++f.cQ)))),.s (.d (dI 0))]=.t [.s (.d (dT (dR f++R4++ [32]++tx f.aN++gZ [f.cls]++ [32]++tx f.cQ))),.s (.d (dI 0))]
  simp only [dT,←eV,sF]
 have k1:(f.kind==1)=false:=k1
 have hl1:=aDE f.seq ⟨oM,oM⟩
 refine aI (fun k2=>?_) (fun k2=>?_)
 ·have k2:(f.kind==2)=true:=k2
  refine aB ((one f.seq ⟨oM,oM⟩).conv (args':=_) ⟨aJ.fJ fun i j hi hj=>?_,oO⟩) ?_
  ·have hi:i<1:=hi
   have hj:j<1:=hj
   match i,j,hi,hj with
   |0,0,_,_=>exact aJ.refl _
  refine oi (show(bs (dR f)).size+(bs (gZ [f.seq])).size≤9223372036854775807 by simp only [aW];omega) ?_
  have hW:eI f=dR f++gZ [f.seq]:=by
   rw[hT,hK]
   unfold fL
   rw[k0,k1,k2]
   show iH (kZ f++ [Lib.itoa f.seq])=_
   rw[rT hV]
   simp[q7,gZ]
  refine aC.of_eq ?_
  rw[he,hW]
  show AV.t [.s (.d (.val (.string (bs (dR f)++bs (gZ [f.seq]))))),.s (.d (dI 0))]=_
  rw[eV]
 have k2:(f.kind==2)=false:=k2
 have k3:(f.kind==3)=true:=by
  have x0:mH f=bK (eK f) f:=AK f
  unfold mH at hk
  cases h3:f.kind==3 with
  |true=>rfl
  |false=>
   rw[show(f.kind !=3)=true by simp[bne,h3]]at hk
   have hk:bK f.kind f=0:=hk
   rcases fW hk with⟨e,_⟩|⟨e,_⟩|⟨e,_⟩
   ·rw[e]at k0;cases k0
   ·rw[e]at k1;cases k1
   ·rw[e]at k2;cases k2
 have hKB:dR f=bS++ [32]++mF f:=by rw[mA hk,k3];rfl
 have pR:=sH hk
 refine aB ((one f.seq ⟨oM,oM⟩).conv (args':=_) ⟨aJ.fJ fun i j hi hj=>?_,oO⟩) ?_
 ·have hi:i<1:=hi
  have hj:j<1:=hj
  match i,j,hi,hj with
  |0,0,_,_=>exact aJ.refl _
 refine oi (show(bs bS).size+(bs (gZ [f.seq])).size≤9223372036854775807 by simp only [aW];have:bS.length=8:=rfl;omega) ?_
 refine oi (show(bs bS++bs (gZ [f.seq])).size+(bs [32]).size≤9223372036854775807 by simp only [ByteArray.size_append,aW,List.length_cons,List.length_nil];have:bS.length=8:=rfl;omega) ?_
 refine oi (show(0:Int)≤9∧(9:Int)≤((bs (dR f)).size:Int)∧((bs (dR f)).size:Int)≤((bs (dR f)).size:Int) by rw[aW,hKB];simp[bS];omega) ?_
 have hx:(bs (dR f)).extract (9:Int).toNat (((bs (dR f)).size:Nat):Int).toNat=bs (mF f):=by
  rw[Int.toNat_natCast,zB,aW,List.take_length,hKB];rfl
 have hx:(bs (dR f)).extract ((some (9:Int)).getD 0).toNat ((none:Option Int).getD ((bs (dR f)).size:Int)).toNat=bs (mF f):=hx
 rw[hx]
 refine oi (show(bs bS++bs (gZ [f.seq])++bs [32]).size+(bs (mF f)).size≤9223372036854775807 by simp only [ByteArray.size_append,aW,List.length_cons,List.length_nil];have:bS.length=8:=rfl;omega) ?_
 refine aD ?_
 have hW:eI f=bS++gZ [f.seq]++ [32]++mF f:=by
  rw[hT]
  unfold fL mF
  rw[k0,k1,k2]
  show iH (sW (kZ f) 1 (Lib.itoa f.seq))=_
  have hkw:kZ f=bS::aY f.target f:=by unfold kZ;rw[show(f.kind !=3)=false by simp[bne,k3]];rfl
  have hkk:eK f=f.target:=by unfold eK;rw[k3];rfl
  have aJI:=lV f.target f
  rw[hkw,hkk]
  show iH (bS::Lib.itoa f.seq::aY f.target f)=_
  rw[fC,yK _ (fun h=>by rw[h]at aJI;simp at aJI)]
  simp[gZ]
 refine aC.of_eq ?_
 rw[he,hW]
 show AV.t [.s (.d (.val (.string (bs bS++bs (gZ [f.seq])++bs [32]++bs (mF f))))),.s (.d (dI 0))]=_
 simp only [eV]
theorem ZH(a b:List Int)(ha:a.length≤9223372036854775807):aF prog 58 [kA a,kA b] (vB (a==b)):=by
 refine eP func58 rfl rfl call58 rfl rfl fun cx aA=>?_
 refine aI (fun h=>?_) (fun h=>?_)
 ·have h:((a.length:Int) !=(b.length:Int))=true:=h
  have h:(a.length:Int)≠b.length:=by simpa using h
  have h:a.length≠b.length:=fun e=>h (by rw[e])
  exact aC.lit (by symm;simp only [beq_eq_false_iff_ne];exact fun e=>h (by rw[e]))
 have h:((a.length:Int) !=(b.length:Int))=false:=h
 have hl:(a.length:Int)=b.length:=by simpa using h
 have hl:a.length=b.length:=oM
 refine AW.cZ (fun i:Nat=>⟨[(0,kA a),(1,kA b),(5,vI i)],[]⟩) (fun i=>i≤a.length∧∀k,k<i→a.getD k 0=b.getD k 0) (fun i=>a.length - i) 0 ⟨Nat.zero_le _,fun _ h=>absurd h (Nat.not_lt_zero _)⟩ ?_ ?_
 ·exact aP.b7 aA [] rfl trivial ⟨qZ,qZ,qZ,oO⟩
 ·rintro i ⟨hi,hj⟩
  refine eX aA ?_
  refine aI (fun h=>?_) (fun h=>?_)
  ·have h:(i:Int)<a.length:=cB h
   refine oi ⟨oM,oM⟩ ?_
   refine oi ⟨oM,oM⟩ ?_
   refine aD ?_
   refine aI (fun h2=>?_) (fun h2=>?_)
   ·have h2:(a.getD i 0 !=b.getD i 0)=true:=h2
    have h2:a.getD i 0≠b.getD i 0:=by simpa using h2
    exact aC.lit (by symm;simp only [beq_eq_false_iff_ne];exact fun e=>h2 (by rw[e]))
   ·have h2:(a.getD i 0 !=b.getD i 0)=false:=h2
    have h2:a.getD i 0=b.getD i 0:=by simpa using h2
    refine⟨i+1,⟨oM,fun k hk=>?_⟩,oM,?_⟩
    ·by_cases M6:k=i
     ·rw[M6];exact h2
     ·exact hj k oM
    ·exact aP.b7 aA [] rfl trivial ⟨qZ,qZ,⟨rfl,aM.int (aG oM oM)⟩,oO⟩
  ·have h:¬(i:Int)<a.length:=cD h
   refine aC.lit ?_
   symm
   rw[beq_iff_eq]
   refine List.ext_getElem hl fun k h1 h2=>?_
   have:=hj k oM
   simpa [List.getD_eq_getElem?_getD,h1,h2]using this
theorem VU(l:List Int)(hl:l.length≤1000000):aF prog 59 [kA l] (kA l):=by
 refine eP func59 rfl rfl call59 rfl rfl fun cx aA=>?_
 refine ob (show(0+l.length)*8≤140737488355328 by omega) ?_
 refine ob (fun a c ha hc=>by match c,hc with|0,_=>rfl) ?_
 refine aC.le ?_
 refine aJ.xL (Nat.zero_add _) fun i j hi hj=>aJ.of_eq ?_
 unfold kM
 rw[if_neg (Nat.not_lt_zero i),Nat.sub_zero]
def eqF(a b:Fact):Bool:=
 a.kind==b.kind&&a.seq==b.seq&&a.aX==b.aX&&a.month==b.month&&a.number==b.number&&a.aS==b.aS&&a.over==b.over&&a.cls==b.cls&&a.target==b.target&&a.aN.toList==b.aN.toList&&a.cQ.toList==b.cQ.toList&&a.cE.toList==b.cE.toList
def JJ(a b:Fact):Bool:=a.levels==b.levels&&eqF a b
theorem FN(a:Fact):JJ a a=true:=by
 unfold JJ eqF
 simp
theorem aEN(a b:Fact)(ha:a.fits):aF prog 18 [oB a,oB b] (vB (JJ a b)):=by
 refine eP func18 rfl rfl call18 rfl rfl fun cx aA=>?_
 refine aB (ZH a.levels b.levels ha.levels) ?_
 refine aI (fun h=>?_) (fun h=>?_)
 ·have h:(a.levels==b.levels)=false:=by
   have h:(!(a.levels==b.levels))=true:=h
   simpa using h
  exact aC.lit (by unfold JJ;rw[h];rfl)
 have h:(a.levels==b.levels)=true:=by
  have h:(!(a.levels==b.levels))=false:=h
  simpa using h
 repeat refine aR ?_
 exact aC.of_eq (by unfold JJ;rw[h];rfl)
theorem aF1(f:Fact)(hf:f.levels.length≤1000000):aF prog 19 [oB f] (oB (bH f)):=by
 refine eW func19 rfl rfl call19 rfl rfl (fun cx aA=>?_)
 refine sX aA ?_
 refine sX aA ?_
 refine AW.fU (σ':=⟨[(1,.s (.ptr 1 0)),(2,.s (.ptr 2 0)),(3,.s (.ptr 3 0))],[(1,some (.cells (tG f))),(2,some (.cells (iE ty40.zero))),(3,some (.cells [.d (dI (f.kind)),.d (dI (f.seq)),.d (dI (0)),.d (dI (0)),.d (dI (0)),.d (dI (0)),.d (dI (0)),.d (dI (0)),.d (dI (0)),.d (dS (bs [])),.d (dS (bs [])),.d (dS (bs [])),.d dK]))]⟩) (aP.b7 aA [] rfl ⟨bQ,bQ,bQ,oO⟩ ⟨qZ,qZ,qZ,oO⟩) ?_
 refine AW.cut (σ':=⟨[(1,.s (.ptr 1 0)),(2,.s (.ptr 2 0)),(3,.s (.ptr 3 0))],[(1,some (.cells (tG f))),(2,some (.cells (iE ty40.zero))),(3,some (.cells [.d (dI (f.kind)),.d (dI (f.seq)),.d (dI (0)),.d (dI (0)),.d (dI (0)),.d (dI (0)),.d (dI (0)),.d (dI (0)),.d (dI (bif f.kind==3 then f.target else 0)),.d (dS (bs [])),.d (dS (bs [])),.d (dS (bs [])),.d dK]))]⟩) ?_ ?_
 ·refine sX aA ?_
  refine AW.cond ?_
  refine aI (fun h=>?_) (fun h=>AW.skip ?_)
  ·have h:(f.kind==3)=true:=h
   refine eX aA ?_
   exact⟨rfl,aP.b7 aA [] rfl ⟨bQ,bQ,⟨rfl,aQ.of_eq (by rw[h];rfl)⟩,oO⟩ ⟨qZ,qZ,qZ,oO⟩⟩
  ·have h:(f.kind==3)=false:=h
   exact⟨rfl,aP.b7 aA [] rfl ⟨bQ,bQ,⟨rfl,aQ.of_eq (by rw[h];rfl)⟩,oO⟩ ⟨qZ,qZ,qZ,oO⟩⟩
 refine AW.cut (σ':=⟨[(1,.s (.ptr 1 0)),(2,.s (.ptr 2 0)),(3,.s (.ptr 3 0))],[(1,some (.cells (tG f))),(2,some (.cells (iE ty40.zero))),(3,some (.cells [.d (dI (f.kind)),.d (dI (f.seq)),.d (dI (bif eK f==0 then f.aX else 0)),.d (dI (bif eK f==0 then f.month else bif eK f==1 then 0 else f.month)),.d (dI (bif eK f==1 then f.number else 0)),.d (dI (0)),.d (dI (0)),.d (dI (0)),.d (dI (bif f.kind==3 then f.target else 0)),.d (dS (bs [])),.d (dS (bs [])),.d (dS (bif eK f==0||eK f==1 then bs []else f.cE)),.d dK]))]⟩) ?_ ?_
 ·refine sX aA ?_
  refine aB (Y4 f) ?_
  refine eX aA ?_
  refine aI (fun h=>?_) (fun h=>?_)
  ·have h:(eK f==0)=true:=h
   have h1:(eK f==1)=false:=by rw[show eK f=0 by simpa using h];rfl
   refine aD ?_
   exact⟨rfl,aP.b7 aA [] rfl ⟨bQ,bQ,⟨rfl,aQ.of_eq (by rw[h,h1];rfl)⟩,oO⟩ ⟨qZ,qZ,qZ,oO⟩⟩
  have h:(eK f==0)=false:=h
  refine aI (fun h1=>?_) (fun h1=>?_)
  ·have h1:(eK f==1)=true:=h1
   exact⟨rfl,aP.b7 aA [] rfl ⟨bQ,bQ,⟨rfl,aQ.of_eq (by rw[h,h1];rfl)⟩,oO⟩ ⟨qZ,qZ,qZ,oO⟩⟩
  ·have h1:(eK f==1)=false:=h1
   refine aD ?_
   exact⟨rfl,aP.b7 aA [] rfl ⟨bQ,bQ,⟨rfl,aQ.of_eq (by rw[h,h1];rfl)⟩,oO⟩ ⟨qZ,qZ,qZ,oO⟩⟩
 refine AW.cut (σ':=⟨[(1,.s (.ptr 1 0)),(2,.s (.ptr 2 0)),(3,.s (.ptr 3 0))],[(1,some (.cells (tG f))),(2,some (.cells (iE ty40.zero))),(3,some (.cells [.d (dI (f.kind)),.d (dI (f.seq)),.d (dI (bif eK f==0 then f.aX else 0)),.d (dI (bif f.kind==1 then f.month else bif eK f==0 then f.month else bif eK f==1 then 0 else f.month)),.d (dI (bif eK f==1 then f.number else 0)),.d (dI (bif f.kind==1 then f.aS else 0)),.d (dI (bif f.kind==1 then f.over else 0)),.d (dI (bif f.kind==1 then f.cls else 0)),.d (dI (bif f.kind==3 then f.target else 0)),.d (dS (bif f.kind==1 then f.aN else bs [])),.d (dS (bif f.kind==1 then f.cQ else bs [])),.d (dS (bif eK f==0||eK f==1 then bs []else f.cE)),.d (cG (bif f.kind==0 then f.levels else []))]))]⟩) ?_ ?_
 ·refine sX aA ?_
  refine eX aA ?_
  refine aI (fun h=>?_) (fun h=>?_)
  ·have h:(f.kind==0)=true:=h
   have h1:(f.kind==1)=false:=by rw[show f.kind=0 by simpa using h];rfl
   refine aB (VU f.levels hf) ?_
   exact⟨rfl,aP.b7 aA [] rfl ⟨bQ,bQ,⟨rfl,aQ.of_eq (by rw[h,h1];rfl)⟩,oO⟩ ⟨qZ,qZ,qZ,oO⟩⟩
  have h:(f.kind==0)=false:=h
  refine aI (fun h1=>?_) (fun h1=>?_)
  ·have h1:(f.kind==1)=true:=h1
   refine aD ?_
   exact⟨rfl,aP.b7 aA [] rfl ⟨bQ,bQ,⟨rfl,aQ.cells ⟨aM.rfl,aM.rfl,aM.rfl,aM.of_eq (by rw[h1];rfl),aM.rfl,aM.of_eq (by rw[h1];rfl),aM.of_eq (by rw[h1];rfl),aM.of_eq (by rw[h1];rfl),aM.rfl,aM.of_eq (by rw[h1];rfl),aM.of_eq (by rw[h1];rfl),aM.rfl,aM.d (by rw[h];exact aJ.nil),oO⟩⟩,oO⟩ ⟨qZ,qZ,qZ,oO⟩⟩
  ·have h1:(f.kind==1)=false:=h1
   exact⟨rfl,aP.b7 aA [] rfl ⟨bQ,bQ,⟨rfl,aQ.cells ⟨aM.rfl,aM.rfl,aM.rfl,aM.of_eq (by rw[h1];rfl),aM.rfl,aM.of_eq (by rw[h1];rfl),aM.of_eq (by rw[h1];rfl),aM.of_eq (by rw[h1];rfl),aM.rfl,aM.of_eq (by rw[h1];rfl),aM.of_eq (by rw[h1];rfl),aM.rfl,aM.d (by rw[h];exact aJ.nil),oO⟩⟩,oO⟩ ⟨qZ,qZ,qZ,oO⟩⟩
 refine eX aA ?_
 refine aC.of_eq ?_
 have hm:(bif f.kind==1 then f.month else bif eK f==0 then f.month else bif eK f==1 then 0 else f.month)=(bH f).month:=by
  show _=bif f.kind==1 then f.month else bif eK f==1 then 0 else f.month
  cases f.kind==1 with
  |true=>rfl
  |false=>
   cases h0:eK f==0 with
   |true=>
    have h1:(eK f==1)=false:=by rw[show eK f=0 by simpa using h0];rfl
    rw[h1];rfl
   |false=>rfl
 rw[hm]
 rfl
theorem pI.size{s:RS}(h:pI s):(bs (cU s).1).size≤9223372036854775807:=by
 have:=h.head
 rw[aW]
 show(s.1.headD []).length≤_
 omega
theorem kL(k:Int):(cO k).fits:=⟨Nat.zero_le _,by show(bs []).size≤_;rw[aW];exact Nat.zero_le _,by show(bs []).size≤_;rw[aW];exact Nat.zero_le _,by show(bs []).size≤_;rw[aW];exact Nat.zero_le _⟩
theorem FV{k:Int}{f:Fact}{s:RS}(hf:f.fits)(h:pI s):(iG k f s).1.fits:=by
 unfold iG
 cases k==0 with
 |true=>exact⟨hf.levels,hf.aN,hf.cQ,hf.cE⟩
 |false=>
  cases k==1 with
  |true=>exact⟨hf.levels,hf.aN,hf.cQ,hf.cE⟩
  |false=>
   cases k==2 with
   |true=>exact⟨hf.levels,hf.aN,hf.cQ,h.size⟩
   |false=>exact hf
theorem DB{s:RS}(h:pI s):(iJ s).1.fits:=by
 have h1:=h.word
 unfold iJ
 generalize tY (cU s).1=k
 simp only
 have hk:=FV (k:=k) (kL k) h1
 have hs:=h1.key (k:=k) (f:=cO k)
 cases k==0 with
 |true=>
  have hn:=hs.num
  refine⟨?_,hk.aN,hk.cQ,hk.cE⟩
  show(List.map DG _).length≤_
  rw[List.length_map]
  exact Nat.le_trans hn.1 dC
 |false=>
  cases k==1 with
  |true=>
   have n4:=hs.num.num.num.num
   refine⟨hk.levels,?_,?_,hk.cE⟩
   ·exact n4.size
   ·exact n4.word.num.size
  |false=>
   cases k==3 with
   |true=>exact FV (f:={cO k with seq:=_,target:=_}) ⟨(kL k).levels,(kL k).aN,(kL k).cQ,(kL k).cE⟩ h1.num.word
   |false=>exact⟨hk.levels,hk.aN,hk.cQ,hk.cE⟩
def uM(s:bG):Fact×RS:=iJ (oI s [32],false)
def N6(s:bG):Bool:=(uM s).2.2||fA (uM s).1 !=0||(bs (eI (uM s).1)).toList !=(bs s).toList
def qT(s:bG):Int:=bif decide ((s.length:Int)>2000)then 8 else bif N6 s then 7 else 0
def xM(s:bG):Fact:=bif qT s==0 then(uM s).1 else cO 0
theorem KZ(s:bG)(hs:s.length<4294967281):aF prog 16 [vT s] (.t [.g (tG (xM s)),.s (.d (dI (qT s)))]):=by
 have fT:=B7 (s:=s) hs false
 have hR:=aE8 fT
 have nK:=DB fT
 have hcf:iJ (oI s [32],false)=uM s:=rfl
 rw[hcf]at hR nK
 have hl:((bs s).size:Int)=s.length:=by rw[aW]
 refine eW func16 rfl rfl call16 rfl rfl (fun cx aA=>?_)
 refine sX aA ?_
 refine sX aA ?_
 refine aI (fun h1=>?_) (fun h1=>?_)
 ·have h1:decide (((bs s).size:Int)>2000)=true:=h1
  rw[hl]at h1
  have hE:qT s=8:=by unfold qT;rw[h1];rfl
  have hF:xM s=cO 0:=by unfold xM;rw[hE];rfl
  rw[hE,hF]
  exact aC.t ⟨⟨aJ.refl _,aJ.refl _,aJ.refl _,aJ.refl _,aJ.refl _,aJ.refl _,aJ.refl _,aJ.refl _,aJ.refl _,aJ.refl _,aJ.refl _,aJ.refl _,aJ.nil,oO⟩,aJ.refl _,oO⟩
 have h1:decide (((bs s).size:Int)>2000)=false:=h1
 rw[hl]at h1
 refine sX aA ?_
 refine aB (Split s [32] hs dC) ?_
 refine AW.seq (ex.sound (rc:=[52]) aK mix aA _ ?_)
 refine⟨[(1,15)],_,_,_,_,hR,rfl,⟨rfl,oO⟩,rfl,?_⟩
 refine AW.fU (σ':=⟨[(0,vT s),(2,.s (.ptr 2 0)),(4,.s (.ptr 15 0)),(5,.s (.ptr 5 0))],[(2,some (.cells (iE ty40.zero))),(15,some (.cells [.d (MI (uM s).2.1),.d (dB (uM s).2.2)])),(5,some (.cells (tG (uM s).1)))]⟩) (aP.b7 aA [] rfl ⟨bQ,⟨rfl,aQ.cells ⟨aM.rfl,aM.lit rfl,oO⟩⟩,bQ,oO⟩ ⟨qZ,qZ,qZ,qZ,oO⟩) ?_
 refine eX aA ?_
 refine aB (qA (uM s).1 nK) ?_
 repeat refine aR ?_
 refine aI (fun h2=>?_) (fun h2=>?_)
 ·have h2:N6 s=true:=h2
  have hE:qT s=7:=by unfold qT;rw[h1,h2];rfl
  have hF:xM s=cO 0:=by unfold xM;rw[hE];rfl
  rw[hE,hF]
  exact aC.t ⟨⟨aJ.refl _,aJ.refl _,aJ.refl _,aJ.refl _,aJ.refl _,aJ.refl _,aJ.refl _,aJ.refl _,aJ.refl _,aJ.refl _,aJ.refl _,aJ.refl _,aJ.nil,oO⟩,aJ.refl _,oO⟩
 ·have h2:N6 s=false:=h2
  have hE:qT s=0:=by unfold qT;rw[h1,h2];rfl
  have hF:xM s=(uM s).1:=by unfold xM;rw[hE];rfl
  rw[hE,hF]
  exact aC.refl _
theorem oU(l:List bG)(i:Int)(hl:l.length≤9223372036854775807)(hi:0≤i):aF prog 57 [.s (.d (MI l)),vI i] (vT (l.getD i.toNat [])):=by
 refine eP func57 rfl rfl call57 rfl rfl fun cx aA=>?_
 refine aI (fun h=>?_) (fun h=>?_)
 ·have h:i<(l.length:Int):=cB h
  refine oi ⟨hi,h⟩ ?_
  exact aC.refl _
 ·have h:¬i<(l.length:Int):=cD h
  rw[List.getD_eq_getElem?_getD,List.getElem?_eq_none oM]
  exact aC.refl _
theorem aIC{n:Int}(h:0≤n)(k:n≤255):IntKind.u8.wrap n=n:=by
 unfold IntKind.wrap
 simp[IntKind.bits,IntKind.signed]
 omega
def qI(w:bG):Nat→Int×Bool
 |0=>(0,false)
 |i+1=>
  bif i==0&&w.getD i 0==45 then((qI w i).1,true)
  else bif decide ((w.getD i 0).toNat≥48)&&decide ((w.getD i 0).toNat≤57)then(10*(qI w i).1+(((w.getD i 0).toNat:Int) - 48),(qI w i).2)
  else qI w i
def oL(w:bG):Int:=bif (qI w (min 14 w.length)).2 then -(qI w (min 14 w.length)).1 else(qI w (min 14 w.length)).1
theorem JP(w:bG):∀i,0≤(qI w i).1∧(qI w i).1<10^i
 |0=>⟨Int.le_refl 0,show(0:Int)<1 by decide⟩
 |i+1=>by
  have ih:=JP w i
  have e:(10:Int)^(i+1)=10*10^i:=by rw[Int.pow_succ,Int.mul_comm]
  rw[qI]
  cases hb:(i==0&&w.getD i 0==45)with
  |true=>exact⟨ih.1,by show(qI w i).1<_;omega⟩
  |false=>
   cases hc:(decide ((w.getD i 0).toNat≥48)&&decide ((w.getD i 0).toNat≤57))with
   |true=>
    simp only [Bool.and_eq_true,decide_eq_true_eq]at hc
    refine⟨?_,?_⟩
    ·show 0≤10*(qI w i).1+(((w.getD i 0).toNat:Int) - 48);omega
    ·show 10*(qI w i).1+(((w.getD i 0).toNat:Int) - 48)<_;omega
   |false=>exact⟨ih.1,by show(qI w i).1<_;omega⟩
theorem aGB(w:bG){i:Nat}(h:i≤14):0≤(qI w i).1∧(qI w i).1<100000000000000:=by
 have b:=JP w i
 have:(10:Int)^i≤10^14:=by
  have:=Nat.pow_le_pow_right (n:=10) dC h
  exact_mod_cast this
 have e9:(10:Int)^14=100000000000000:=dC
 omega
theorem kU(w:bG):aF prog 56 [vT w] (vI (oL w)):=by
 refine eP func56 rfl rfl call56 rfl rfl fun cx aA=>?_
 refine AW.cZ (fun i:Nat=>⟨[(0,vT w),(3,vI (qI w i).1),(4,vB (qI w i).2),(5,vI i)],[]⟩)
  (fun i=>i≤w.length∧i≤14) (fun i=>w.length - i) 0 ⟨Nat.zero_le _,Nat.zero_le _⟩ ?_ ?_
 ·exact aP.b7 aA [] rfl trivial ⟨qZ,qZ,qZ,qZ,oO⟩
 ·rintro i ⟨hi,h14⟩
  obtain⟨b1,b2⟩:=aGB w h14
  have n0:((i:Int)==0)=(i==0):=by rw[Bool.eq_iff_iff,beq_iff_eq,beq_iff_eq];omega
  have u45:=YL (w.getD i 0) 45
  have d1:decide (((w.getD i 0).toNat:Int)≥48)=decide ((w.getD i 0).toNat≥48):=decide_eq_decide.2 oM
  have d2:decide (((w.getD i 0).toNat:Int)≤57)=decide ((w.getD i 0).toNat≤57):=decide_eq_decide.2 oM
  refine eX aA ?_
  repeat refine aR ?_
  refine aI (fun h=>?_) (fun h=>?_)
  ·have h:(decide ((i:Int)<((bs w).size:Int))&&decide ((i:Int)<14))=true:=h
   rw[aW]at h
   simp only [Bool.and_eq_true,decide_eq_true_eq]at h
   have hb:0≤(i:Int)∧(i:Int)<((bs w).size:Int):=by rw[aW];omega
   repeat refine aR ?_
   refine aI (fun _=>hb) ?_
   repeat refine aR ?_
   refine aI (fun h2=>?_) (fun h2=>?_)
   ·have h2:(((i:Int)==0)&&((((bs w)[(i:Int).toNat]!).toNat:Int)==45))=true:=h2
    have h2:(i==0&&w.getD i 0==45)=true:=by rw[←n0,←u45,←zA];exact h2
    have e:qI w (i+1)=((qI w i).1,true):=by rw[qI,h2];rfl
    refine⟨i+1,⟨oM,oM⟩,oM,?_⟩
    rw[e]
    exact aP.b7 aA [] rfl trivial ⟨qZ,qZ,⟨rfl,aM.lit rfl⟩,⟨rfl,aM.int (aG oM oM)⟩,oO⟩
   ·have h2:(((i:Int)==0)&&((((bs w)[(i:Int).toNat]!).toNat:Int)==45))=false:=h2
    have h2:(i==0&&w.getD i 0==45)=false:=by rw[←n0,←u45,←zA];exact h2
    refine oi hb ?_
    repeat refine aR ?_
    refine aI (fun _=>hb) ?_
    repeat refine aR ?_
    refine aI (fun h3=>?_) (fun h3=>?_)
    ·have h3:(decide ((((bs w)[(i:Int).toNat]!).toNat:Int)≥48)&&decide ((((bs w)[(i:Int).toNat]!).toNat:Int)≤57))=true:=h3
     have h3:(decide ((w.getD i 0).toNat≥48)&&decide ((w.getD i 0).toNat≤57))=true:=by rw[←d1,←d2,←zA];exact h3
     have e:qI w (i+1)=(10*(qI w i).1+(((w.getD i 0).toNat:Int) - 48),(qI w i).2):=by rw[qI,h2,h3];rfl
     simp only [Bool.and_eq_true,decide_eq_true_eq]at h3
     refine oi hb ?_
     refine⟨i+1,⟨oM,oM⟩,oM,?_⟩
     rw[e]
     refine aP.b7 aA [] rfl trivial ⟨qZ,⟨rfl,aM.int ?_⟩,qZ,⟨rfl,aM.int (aG oM oM)⟩,oO⟩
     show aU (aU (10*(qI w i).1)+aU (IntKind.u8.wrap ((((bs w)[(i:Int).toNat]!).toNat:Int) - 48)))=_
     rw[Int.toNat_natCast,zA,aIC oM oM,aG (n:=10*(qI w i).1) oM oM,aG (n:=((w.getD i 0).toNat:Int) - 48) oM oM,aG oM oM]
    ·have h3:(decide ((((bs w)[(i:Int).toNat]!).toNat:Int)≥48)&&decide ((((bs w)[(i:Int).toNat]!).toNat:Int)≤57))=false:=h3
     have h3:(decide ((w.getD i 0).toNat≥48)&&decide ((w.getD i 0).toNat≤57))=false:=by rw[←d1,←d2,←zA];exact h3
     have e:qI w (i+1)=qI w i:=by rw[qI,h2,h3];rfl
     refine⟨i+1,⟨oM,oM⟩,oM,?_⟩
     rw[e]
     exact aP.b7 aA [] rfl trivial ⟨qZ,qZ,qZ,⟨rfl,aM.int (aG oM oM)⟩,oO⟩
  ·have h:(decide ((i:Int)<((bs w).size:Int))&&decide ((i:Int)<14))=false:=h
   rw[aW]at h
   have hm:min 14 w.length=i:=by
    simp only [Bool.and_eq_false_iff,decide_eq_false_iff_not]at h
    omega
   refine aI (fun h2=>?_) (fun h2=>?_)
   ·have h2:(qI w i).2=true:=h2
    have e:oL w= -(qI w i).1:=by unfold oL;rw[hm,h2];rfl
    rw[e]
    refine aC.of_eq (congrArg vI (show aU (0 - (qI w i).1)= -(qI w i).1 from ?_))
    rw[aG oM oM];omega
   ·have h2:(qI w i).2=false:=h2
    have e:oL w=(qI w i).1:=by unfold oL;rw[hm,h2];rfl
    rw[e]
    exact aC.refl _
def vX:List bG:=[kP,rG,nF,bS]
def kdF(x:bG):Nat→List bG→Int
 |_,[]=> -1
 |i,y::l=>bif (bs y).toList==(bs x).toList then(i:Int)else kdF x (i+1) l
def zH(x:bG):Int:=kdF x 0 vX
theorem aEO(x:bG):aF prog 54 [vT x] (vI (zH x)):=by
 refine eP func54 rfl rfl call54 rfl rfl fun cx aA=>?_
 refine AW.cZ (fun i:Nat=>⟨[(0,vT x),(3,.s (.own 100)),(4,vI i)],[(100,some (.row 9 4 1 (fun k=>NG (vX.getD k []))))]⟩)
  (fun i=>i≤4∧zH x=kdF x i (vX.drop i)) (fun i=>4 - i) 0 ⟨Nat.zero_le _,rfl⟩ ?_ ?_
 ·refine aP.b7 aA [(100,5)] rfl ⟨⟨rfl,aQ.row rfl fun i j hi hj=>?_⟩,oO⟩ ⟨qZ,qZ,qZ,oO⟩
  obtain rfl:j=0:=by have:j<1:=hj;omega
  have hi:i<4:=hi
  match i,hi with
  |0,_=>exact aJ.refl _
  |1,_=>exact aJ.refl _
  |2,_=>exact aJ.refl _
  |3,_=>exact aJ.refl _
 ·rintro i ⟨hi,he⟩
  refine eX aA ?_
  refine aI (fun h=>?_) (fun h=>?_)
  ·have h:(i:Int)<((4:Nat):Int):=cB h
   have h4:i<4:=oM
   refine oi ⟨oM,h⟩ ?_
   have hd:vX.drop i=vX.getD i []::vX.drop (i+1):=by
    match i,h4 with
    |0,_=>rfl
    |1,_=>rfl
    |2,_=>rfl
    |3,_=>rfl
   have e:kdF x i (vX.drop i)=bif (bs (vX.getD i [])).toList==(bs x).toList then(i:Int)else kdF x (i+1) (vX.drop (i+1)):=by rw[hd];rfl
   refine oi (show(i:Int).toNat<4 by omega) ?_
   refine aI (fun h2=>?_) (fun h2=>?_)
   ·have h2:((bs (vX.getD i [])).toList==(bs x).toList)=true:=h2
    rw[he,e,h2]
    exact aC.refl _
   ·have h2:((bs (vX.getD i [])).toList==(bs x).toList)=false:=h2
    refine⟨i+1,⟨oM,by rw[he,e,h2];rfl⟩,oM,?_⟩
    exact aP.b7 aA [] rfl ⟨bQ,oO⟩ ⟨qZ,qZ,⟨rfl,aM.int (aG oM oM)⟩,oO⟩
  ·have h:¬(i:Int)<((4:Nat):Int):=cD h
   have h4:i=4:=oM
   subst h4
   rw[he]
   exact aC.refl _
def EW(f:Fact)(k:Int)(l:List bG):Fact:=
 bif k==0 then {f with aX:=oL (l.getD 0 []),month:=oL (l.getD 1 [])}
 else bif k==1 then {f with number:=oL (l.getD 0 [])}
 else {f with cE:=bs (l.getD 0 []),month:=oL (l.getD 1 [])}
theorem AB(f:Fact)(k:Int)(l:List bG)(hl:l.length≤9223372036854775807):aF prog 55 [.g (oC f (.d dK)),vI k,.s (.d (MI l))] (.g (oC (EW f k l) (.d dK))):=by
 refine eP func55 rfl rfl call55 rfl rfl fun cx aA=>?_
 refine aI (fun h=>?_) (fun h=>?_)
 ·have h:(k==0)=true:=h
  refine aB (oU l 0 hl dC) ?_
  refine aB (kU _) ?_
  refine aB (oU l 1 hl dC) ?_
  refine aB (kU _) ?_
  have e:EW f k l= {f with aX:=oL (l.getD 0 []),month:=oL (l.getD 1 [])}:=by unfold EW;rw[h];rfl
  rw[e]
  exact aC.refl _
 ·have h:(k==0)=false:=h
  refine aI (fun h2=>?_) (fun h2=>?_)
  ·have h2:(k==1)=true:=h2
   refine aB (oU l 0 hl dC) ?_
   refine aB (kU _) ?_
   have e:EW f k l= {f with number:=oL (l.getD 0 [])}:=by unfold EW;rw[h,h2];rfl
   rw[e]
   exact aC.refl _
  ·have h2:(k==1)=false:=h2
   refine aB (oU l 0 hl dC) ?_
   refine aB (oU l 1 hl dC) ?_
   refine aB (kU _) ?_
   have e:EW f k l= {f with cE:=bs (l.getD 0 []),month:=oL (l.getD 1 [])}:=by unfold EW;rw[h,h2];rfl
   rw[e]
   exact aC.refl _
end Go.Pj
--K78
namespace Go.Ax
theorem AW.nQ{P:Program}{cx:Cx}{N:Nat}{σ:St}{K:Exit→St→Prop}{x y:Code}{S:Type}(NA:S→St)(J:S→Prop)(h:AW P cx N x σ fun e s=>(e=.normal∧∃q,J q∧kH cx N s (NA q))∨(e=.ret∧K .ret s))(k:∀q,J q→AW P cx N y (NA q) K):AW P cx N (.seq x y) σ K:=
 AW.seq (AW.mono h fun e s he=>by
  rcases he with⟨rfl,q,hq,hs⟩|⟨rfl,hs⟩
  ·exact AW.VC hs (k q hq)
  ·exact hs)
theorem kH.tr{cx:Cx}{N:Nat}{a b c:St}(h:kH cx N a b)(k:kH cx N b c):kH cx N a c:=fun M β x w i=>
 let⟨M1,β1,i1,g1⟩:=h M β x w i
 let⟨M2,β2,i2,g2⟩:=k M1 β1 x w i1
 ⟨M2,β2,i2,g1.trans g2⟩
end Go.Ax
namespace Go.Pj
open Go Go.Ax Go.Ch Go.Proofs Go.Proofs.Tryz
set_option maxRecDepth 100000
set_option maxHeartbeats 1000000
def CK(w:bG):Int:=bif (bs w).toList==(bs [45]).toList then 30000 else oL w
def CC(l:List bG):Option Fact:=
 bif zH (l.getD 0 [])==0 then
  some {EW (cO (zH (l.getD 0 []))) (zH (l.getD 0 [])) (l.drop 1)with seq:=oL (l.getD 3 []),levels:=(l.drop 4).map CK}
 else bif zH (l.getD 0 [])==1 then
  some {EW (cO (zH (l.getD 0 []))) (zH (l.getD 0 [])) (l.drop 1)with month:=oL (l.getD 2 []),seq:=oL (l.getD 3 []),aS:=oL (l.getD 4 []),over:=oL (l.getD 5 []),aN:=bs (l.getD 6 []),cls:=oL (l.getD 7 []),cQ:=bs (l.getD 8 [])}
 else bif zH (l.getD 0 [])==2 then
  some {EW (cO (zH (l.getD 0 []))) (zH (l.getD 0 [])) (l.drop 1)with seq:=oL (l.getD 3 [])}
 else bif zH (l.getD 0 [])==3 then
  some (EW {cO (zH (l.getD 0 []))with seq:=oL (l.getD 1 []),target:=zH (l.getD 2 [])} (zH (l.getD 2 [])) (l.drop (min 3 l.length)))
 else none
def rpB(s:bG)(f:Fact):Bool:=fA f !=0||(bs (eI f)).toList !=(bs s).toList
def N1(s:bG):Int:=bif decide ((s.length:Int)>2000)then 8 else
 match CC (fB 32 s)with
 |none=>7
 |some f=>bif rpB s f then 7 else 0
def rpF(s:bG):Fact:=match CC (fB 32 s)with
 |none=>cO 0
 |some f=>bif N1 s==0 then f else cO 0
theorem NJ{f:Fact}{k:Int}{l:List bG}(hf:f.fits)(hw:(bs (l.getD 0 [])).size≤9223372036854775807):(EW f k l).fits:=by
 unfold EW
 cases k==0 with
 |true=>exact⟨hf.levels,hf.aN,hf.cQ,hf.cE⟩
 |false=>
  cases k==1 with
  |true=>exact⟨hf.levels,hf.aN,hf.cQ,hf.cE⟩
  |false=>exact⟨hf.levels,hf.aN,hf.cQ,hw⟩
theorem Y0{s:bG}(hs:s.length≤2000){f:Fact}(h:CC (fB 32 s)=some f):f.fits:=by
 have hw:∀i,(bs ((fB 32 s).getD i [])).size≤9223372036854775807:=fun i=>by
  rw[aW,List.getD_eq_getElem?_getD]
  cases hq:(fB 32 s)[i]? with
  |none=>exact Nat.zero_le _
  |some x=>
   have:=KR (List.mem_of_getElem? hq)
   show x.length≤_
   omega
 have hd:∀j,(bs (((fB 32 s).drop j).getD 0 [])).size≤9223372036854775807:=fun j=>by
  rw[List.getD_eq_getElem?_getD,List.getElem?_drop,Nat.add_zero,←List.getD_eq_getElem?_getD]
  exact hw j
 have hl:=(HN 32 s).2
 generalize fB 32 s=l at*
 unfold CC at h
 have h0:=kL (zH (l.getD 0 []))
 generalize zH (l.getD 0 [])=k at*
 have ht:=NJ (k:=k) (l:=l.drop 1) h0 (hd 1)
 cases k0:k==0 with
 |true=>
  rw[k0]at h
  obtain rfl:=Option.some.inj h
  refine⟨?_,ht.aN,ht.cQ,ht.cE⟩
  show((l.drop 4).map CK).length≤_
  rw[List.length_map,List.length_drop]
  omega
 |false=>
  rw[k0]at h
  cases k1:k==1 with
  |true=>
   rw[k1]at h
   obtain rfl:=Option.some.inj h
   exact⟨ht.levels,hw 6,hw 8,ht.cE⟩
  |false=>
   rw[k1]at h
   cases k2:k==2 with
   |true=>
    rw[k2]at h
    obtain rfl:=Option.some.inj h
    exact⟨ht.levels,ht.aN,ht.cQ,ht.cE⟩
   |false=>
    rw[k2]at h
    cases k3:k==3 with
    |true=>
     rw[k3]at h
     obtain rfl:=Option.some.inj h
     exact NJ (f:={cO k with seq:=_,target:=_}) ⟨h0.levels,h0.aN,h0.cQ,h0.cE⟩ (hd _)
    |false=>rw[k3]at h;cases h
theorem yC(f:Fact)(k:Int)(l:List bG):(EW f k l).levels=f.levels:=by
 unfold EW
 cases k==0 <;> cases k==1 <;> rfl
theorem BS.fac(f:Fact):BS (oC f (.d dK)) (oC f (.d dK)):=⟨aJ.refl _,aJ.refl _,aJ.refl _,aJ.refl _,aJ.refl _,aJ.refl _,aJ.refl _,aJ.refl _,aJ.refl _,aJ.refl _,aJ.refl _,aJ.refl _,aJ.refl _,oO⟩
theorem A9(l:List bG)(j n:Nat)(hn:n=l.length - j):aJ (.fJ n 1 (fun i _=>dT (l.getD (j+i) []))) (MI (l.drop j)):=by
 subst hn
 refine aJ.xL sM fun i q hi hq=>aJ.of_eq ?_
 show dT (l.getD (j+i) [])=dT ((l.drop j).getD i [])
 rw[List.getD_eq_getElem?_getD,List.getD_eq_getElem?_getD,List.getElem?_drop]
theorem S3(s:bG)(hs:s.length<4294967281):aF prog 17 [vT s] (.t [.g (tG (rpF s)),.s (.d (dI (N1 s)))]):=by
 have hl:((bs s).size:Int)=s.length:=by rw[aW]
 refine eW func17 rfl rfl call17 rfl rfl (fun cx aA=>?_)
 refine sX aA ?_
 refine sX aA ?_
 refine aI (fun h1=>?_) (fun h1=>?_)
 ·have h1:decide (((bs s).size:Int)>2000)=true:=h1
  rw[hl]at h1
  have hE:N1 s=8:=by unfold N1;rw[h1];rfl
  have hF:rpF s=cO 0:=by unfold rpF;rw[hE];cases CC (fB 32 s) <;> rfl
  rw[hE,hF]
  exact aC.t ⟨⟨aJ.refl _,aJ.refl _,aJ.refl _,aJ.refl _,aJ.refl _,aJ.refl _,aJ.refl _,aJ.refl _,aJ.refl _,aJ.refl _,aJ.refl _,aJ.refl _,aJ.nil,oO⟩,aJ.refl _,oO⟩
 have h1:decide (((bs s).size:Int)>2000)=false:=h1
 rw[hl]at h1
 have M5:s.length≤2000:=by simp at h1;omega
 have hE0:N1 s=match CC (fB 32 s)with
  |none=>7
  |some f=>bif rpB s f then 7 else 0:=by unfold N1;rw[h1];rfl
 have nK:=fun f=>Y0 (f:=f) M5
 have uA:=HN 32 s
 have wG:=List.length_pos_iff.2 uA.1
 refine sX aA ?_
 refine aB (Cut s 32 oM) ?_
 unfold rpF
 generalize N1 s=E at*
 generalize fB 32 s=l at*
 have hlen:l.length≤9223372036854775807:=oM
 refine sX aA ?_
 refine oi (show(0:Int)≤0∧(0:Int)<(l.length:Int) by omega) ?_
 refine aB (aEO _) ?_
 generalize hk:zH (l.getD 0 [])=k
 have h0:=kL k
 refine AW.fU (σ':=⟨[(0,vT s),(2,.s (.ptr 2 0)),(4,.s (.d (MI l))),(5,.s (.ptr 5 0))],[(2,some (.cells (iE ty40.zero))),(5,some (.cells (oC (cO k) (.d dK))))]⟩) (aP.b7 aA [] rfl ⟨bQ,⟨rfl,aQ.of_eq (by rw[←hk];rfl)⟩,oO⟩ ⟨qZ,qZ,qZ,qZ,oO⟩) ?_
 refine AW.nQ (S:=Fact) (fun f=>⟨[(0,vT s),(2,.s (.ptr 2 0)),(5,.s (.ptr 5 0))],[(2,some (.cells (iE ty40.zero))),(5,some (.cells (tG f)))]⟩) (fun f=>CC l=some f) ?_ ?_
 ·refine sX aA ?_
  refine AW.block (sX aA ?_)
  refine AW.cond ?_
  refine aI (fun g=>?_) (fun g=>?_)
  ·have k0:(k==0)=true:=g
   refine sX aA ?_
   refine oi (show(0:Int)≤1∧(1:Int)≤(l.length:Int)∧(l.length:Int)≤(l.length:Int) by omega) ?_
   refine aB ((AB (cO k) k (l.drop 1) (by simp;omega)).conv (args':=_) ⟨BS.fac _,aJ.refl _,A9 l 1 _ (by show((l.length:Int) - 1).toNat=_;omega),oO⟩) ?_
   refine aD ?_
   generalize ht:EW (cO k) k (l.drop 1)=f1
   refine sX aA ?_
   refine aB (oU l 3 hlen dC) ?_
   refine aB (kU _) ?_
   refine sX aA ?_
   refine AW.block ?_
   refine AW.cZ (fun i:Nat=>⟨[(0,vT s),(2,.s (.ptr 2 0)),(4,.s (.d (MI l))),(5,.s (.ptr 5 0)),(6,vI ((4+i:Nat):Int))],[(2,some (.cells (iE ty40.zero))),(5,some (.cells (oC {f1 with seq:=oL (l.getD 3 [])} (.mo (((l.drop 4).take i).map CK).isEmpty 100)))),(100,some (.bW 3 (((l.drop 4).take i).map CK).length 1 (dM (((l.drop 4).take i).map CK))))]⟩)
    (fun i=>i≤(l.drop 4).length) (fun i=>(l.drop 4).length - i) 0 (Nat.zero_le _) ?_ ?_
   ·exact aP.of [(100,1000)] (by rw[aA];rfl) rfl ⟨bQ,⟨rfl,aQ.cells ⟨aM.rfl,aM.rfl,aM.rfl,aM.rfl,aM.rfl,aM.rfl,aM.rfl,aM.rfl,aM.rfl,aM.rfl,aM.rfl,aM.rfl,aM.nil rfl,oO⟩⟩,⟨rfl,rfl⟩,oO⟩ ⟨qZ,qZ,qZ,qZ,qZ,oO⟩
   ·intro i hi
    have hd4:(l.drop 4).length=l.length - 4:=sM
    refine eX aA ?_
    refine aI (fun g=>?_) (fun g=>?_)
    ·have g:((4+i:Nat):Int)<(l.length:Int):=cB g
     have bN:i<(l.drop 4).length:=oM
     have hb:(0:Int)≤((4+i:Nat):Int)∧((4+i:Nat):Int)<(l.length:Int):=oM
     have aET:(((l.drop 4).take i).map CK).length=i:=by simp;omega
     have tk1:(l.drop 4).take (i+1)=(l.drop 4).take i++ [l.getD (4+i) []]:=by
      rw[List.take_add_one,List.getElem?_drop,List.getD_eq_getElem?_getD,List.getElem?_eq_getElem oM];rfl
     have tkN:((l.drop 4).take (i+1)).map CK=((l.drop 4).take i).map CK++ [CK (l.getD (4+i) [])]:=by rw[tk1,List.map_append];rfl
     refine oi hb ?_
     refine aI (fun g2=>?_) (fun g2=>?_)
     ·have g2:((bs (l.getD (4+i) [])).toList==(bs [45]).toList)=true:=g2
      have eN:CK (l.getD (4+i) [])=30000:=by unfold CK;rw[g2];rfl
      refine ob dC ?_
      refine ob (by rw[dW];show((((l.drop 4).take i).map CK).length+1)*8≤_;rw[aET];omega) ?_
      refine ob (mT (xO rfl)) ?_
      refine⟨i+1,oM,oM,?_⟩
      refine aP.of [(100,49)] (by rw[aA];rfl) rfl ⟨bQ,⟨rfl,aQ.cells ⟨aM.rfl,aM.rfl,aM.rfl,aM.rfl,aM.rfl,aM.rfl,aM.rfl,aM.rfl,aM.rfl,aM.rfl,aM.rfl,aM.rfl,aM.mo ?_,oO⟩⟩,⟨rfl,?_⟩,oO⟩ ⟨qZ,qZ,qZ,qZ,⟨rfl,aM.int (aG oM oM)⟩,oO⟩
      ·rw[tkN];exact b9 _ _
      ·show aQ _ (.bW 3 (((l.drop 4).take (i+1)).map CK).length 1 (dM (((l.drop 4).take (i+1)).map CK)))
       rw[tkN,eN]
       exact aQ.snoc (el:=fun n _=>dI n) (x:=30000) (xO rfl)
     ·have g2:((bs (l.getD (4+i) [])).toList==(bs [45]).toList)=false:=g2
      have eN:CK (l.getD (4+i) [])=oL (l.getD (4+i) []):=by unfold CK;rw[g2];rfl
      refine oi hb ?_
      refine aB (kU _) ?_
      refine ob dC ?_
      refine ob (by rw[dW];show((((l.drop 4).take i).map CK).length+1)*8≤_;rw[aET];omega) ?_
      refine ob (mT (xO rfl)) ?_
      refine aD ?_
      refine⟨i+1,oM,oM,?_⟩
      refine aP.of [(100,59)] (by rw[aA];rfl) rfl ⟨bQ,⟨rfl,aQ.cells ⟨aM.rfl,aM.rfl,aM.rfl,aM.rfl,aM.rfl,aM.rfl,aM.rfl,aM.rfl,aM.rfl,aM.rfl,aM.rfl,aM.rfl,aM.mo ?_,oO⟩⟩,⟨rfl,?_⟩,oO⟩ ⟨qZ,qZ,qZ,qZ,⟨rfl,aM.int (aG oM oM)⟩,oO⟩
      ·rw[tkN];exact b9 _ _
      ·show aQ _ (.bW 3 (((l.drop 4).take (i+1)).map CK).length 1 (dM (((l.drop 4).take (i+1)).map CK)))
       rw[tkN,eN]
       exact aQ.snoc (el:=fun n _=>dI n) (x:=oL (l.getD (4+i) [])) (xO rfl)
    ·have g:¬((4+i:Nat):Int)<(l.length:Int):=cD g
     have bN:(l.drop 4).take i=l.drop 4:=List.take_of_length_le oM
     rw[bN]
     refine Or.inl ⟨rfl,{f1 with seq:=oL (l.getD 3 []),levels:=(l.drop 4).map CK},?_,?_⟩
     ·unfold CC
      rw[hk,k0,ht]
      rfl
     ·cases hz:((l.drop 4).map CK).isEmpty with
      |true=>exact kH.w9 (aP.b7 aA [] rfl ⟨bQ,⟨rfl,aQ.cells ⟨aM.rfl,aM.rfl,aM.rfl,aM.rfl,aM.rfl,aM.rfl,aM.rfl,aM.rfl,aM.rfl,aM.rfl,aM.rfl,aM.rfl,fun M β v r=>pU (List.isEmpty_iff.1 hz) M β v (aM.YN rfl M β v r),oO⟩⟩,oO⟩ ⟨qZ,qZ,qZ,oO⟩)
      |false=>
       refine kH.tr (kH.w9 (aP.aF7 (e:=3) (n:=((l.drop 4).map CK).length) (s:=1) (f:=dM ((l.drop 4).map CK)) (z:=false) (cs:=oC {f1 with seq:=oL (l.getD 3 [])} (.mo false 100)) 5 12 100 rfl rfl rfl rfl)) ?_
       exact kH.of aA [] [100] rfl rfl rfl ⟨⟨rfl,iI.rfl⟩,⟨rfl,iI.cells ⟨bO.rfl,bO.rfl,bO.rfl,bO.rfl,bO.rfl,bO.rfl,bO.rfl,bO.rfl,bO.rfl,bO.rfl,bO.rfl,bO.rfl,fun M β v hf r=>bO.own sM rfl M β v hf (r.2 rfl),oO⟩⟩,oO⟩ ⟨⟨rfl,bO.rfl⟩,⟨rfl,bO.rfl⟩,⟨rfl,bO.rfl⟩,oO⟩
  ·have k0:(k==0)=false:=g
   refine eX aA ?_
   refine aI (fun g=>?_) (fun g=>?_)
   ·have k1:(k==1)=true:=g
    refine oi (show(0:Int)≤1∧(1:Int)≤(l.length:Int)∧(l.length:Int)≤(l.length:Int) by omega) ?_
    refine aB ((AB (cO k) k (l.drop 1) (by simp;omega)).conv (args':=_) ⟨BS.fac _,aJ.refl _,A9 l 1 _ (by show((l.length:Int) - 1).toNat=_;omega),oO⟩) ?_
    refine aD ?_
    refine aB (oU l 2 hlen dC) ?_
    refine aB (kU _) ?_
    refine aB (oU l 3 hlen dC) ?_
    refine aB (kU _) ?_
    refine aB (oU l 4 hlen dC) ?_
    refine aB (kU _) ?_
    refine aB (oU l 5 hlen dC) ?_
    refine aB (kU _) ?_
    refine aB (oU l 6 hlen dC) ?_
    refine aB (oU l 7 hlen dC) ?_
    refine aB (kU _) ?_
    refine aB (oU l 8 hlen dC) ?_
    refine Or.inl ⟨rfl,{EW (cO k) k (l.drop 1)with month:=oL (l.getD 2 []),seq:=oL (l.getD 3 []),aS:=oL (l.getD 4 []),over:=oL (l.getD 5 []),aN:=bs (l.getD 6 []),cls:=oL (l.getD 7 []),cQ:=bs (l.getD 8 [])},by unfold CC;rw[hk,k0,k1];rfl,kH.w9 (aP.b7 aA [] rfl ⟨bQ,⟨rfl,aQ.cells ⟨aM.rfl,aM.rfl,aM.rfl,aM.rfl,aM.rfl,aM.rfl,aM.rfl,aM.rfl,aM.rfl,aM.rfl,aM.rfl,aM.rfl,pU (yC _ _ _),oO⟩⟩,oO⟩ ⟨qZ,qZ,qZ,oO⟩)⟩
   ·have k1:(k==1)=false:=g
    refine aI (fun g=>?_) (fun g=>?_)
    ·have k2:(k==2)=true:=g
     refine oi (show(0:Int)≤1∧(1:Int)≤(l.length:Int)∧(l.length:Int)≤(l.length:Int) by omega) ?_
     refine aB ((AB (cO k) k (l.drop 1) (by simp;omega)).conv (args':=_) ⟨BS.fac _,aJ.refl _,A9 l 1 _ (by show((l.length:Int) - 1).toNat=_;omega),oO⟩) ?_
     refine aD ?_
     refine aB (oU l 3 hlen dC) ?_
     refine aB (kU _) ?_
     refine Or.inl ⟨rfl,{EW (cO k) k (l.drop 1)with seq:=oL (l.getD 3 [])},by unfold CC;rw[hk,k0,k1,k2];rfl,kH.w9 (aP.b7 aA [] rfl ⟨bQ,⟨rfl,aQ.cells ⟨aM.rfl,aM.rfl,aM.rfl,aM.rfl,aM.rfl,aM.rfl,aM.rfl,aM.rfl,aM.rfl,aM.rfl,aM.rfl,aM.rfl,pU (yC _ _ _),oO⟩⟩,oO⟩ ⟨qZ,qZ,qZ,oO⟩)⟩
    ·have k2:(k==2)=false:=g
     refine aI (fun g=>?_) (fun g=>?_)
     ·have k3:(k==3)=true:=g
      refine aB (oU l 1 hlen dC) ?_
      refine aB (kU _) ?_
      refine aB (oU l 2 hlen dC) ?_
      refine aB (aEO _) ?_
      have hm:mm false 3 (l.length:Int)=((min 3 l.length:Nat):Int):=by unfold mm;simp;omega
      refine oi (show(0:Int)≤mm false 3 (l.length:Int)∧mm false 3 (l.length:Int)≤(l.length:Int)∧(l.length:Int)≤(l.length:Int) by rw[hm];omega) ?_
      rw[hm]
      refine aB ((AB {cO k with seq:=oL (l.getD 1 []),target:=zH (l.getD 2 [])} (zH (l.getD 2 [])) (l.drop (min 3 l.length)) (by simp;omega)).conv (args':=_) ⟨BS.fac {cO k with seq:=oL (l.getD 1 []),target:=zH (l.getD 2 [])},aJ.refl _,A9 l (min 3 l.length) _ (by show((l.length:Int) - ((min 3 l.length:Nat):Int)).toNat=_;omega),oO⟩) ?_
      refine aD ?_
      exact Or.inl ⟨rfl,EW {cO k with seq:=oL (l.getD 1 []),target:=zH (l.getD 2 [])} (zH (l.getD 2 [])) (l.drop (min 3 l.length)),by unfold CC;rw[hk,k0,k1,k2,k3];rfl,kH.w9 (aP.b7 aA [] rfl ⟨bQ,⟨rfl,aQ.cells ⟨aM.rfl,aM.rfl,aM.rfl,aM.rfl,aM.rfl,aM.rfl,aM.rfl,aM.rfl,aM.rfl,aM.rfl,aM.rfl,aM.rfl,pU (yC _ _ _),oO⟩⟩,oO⟩ ⟨qZ,qZ,qZ,oO⟩)⟩
     ·have k3:(k==3)=false:=g
      have hN:CC l=none:=by unfold CC;rw[hk,k0,k1,k2,k3];rfl
      have hE7:E=7:=by rw[hE0,hN]
      rw[hE7,hN]
      exact Or.inr ⟨rfl,aC.t ⟨⟨aJ.refl _,aJ.refl _,aJ.refl _,aJ.refl _,aJ.refl _,aJ.refl _,aJ.refl _,aJ.refl _,aJ.refl _,aJ.refl _,aJ.refl _,aJ.refl _,aJ.nil,oO⟩,aJ.refl _,oO⟩⟩
 ·intro f hf
  have hE1:E=bif rpB s f then 7 else 0:=by rw[hE0,hf]
  have hff:=nK f hf
  rw[hf]
  refine eX aA ?_
  refine aB (DC f hff) ?_
  repeat refine aR ?_
  refine aI (fun h2=>?_) (fun h2=>?_)
  ·have h2:rpB s f=true:=h2
   have hE:E=7:=by rw[hE1,h2];rfl
   rw[hE]
   exact aC.t ⟨⟨aJ.refl _,aJ.refl _,aJ.refl _,aJ.refl _,aJ.refl _,aJ.refl _,aJ.refl _,aJ.refl _,aJ.refl _,aJ.refl _,aJ.refl _,aJ.refl _,aJ.nil,oO⟩,aJ.refl _,oO⟩
  ·have h2:rpB s f=false:=h2
   have hE:E=0:=by rw[hE1,h2];rfl
   rw[hE]
   exact aC.refl _
end Go.Pj
namespace Go.Pj
open Go Go.Ax Go.Ch Go.Proofs Go.Proofs.Tryz
theorem GB(w:bG)(i:Nat):qI w (i+1)=bif i==0&&w.getD i 0==45 then((qI w i).1,true)
  else bif decide ((w.getD i 0).toNat≥48)&&decide ((w.getD i 0).toNat≤57)then(10*(qI w i).1+(((w.getD i 0).toNat:Int) - 48),(qI w i).2)
  else qI w i:=rfl
theorem TQ{w:bG}(h:∀b∈w,48≤b.toNat∧b.toNat≤57):∀i,i≤w.length→∃v:Nat,Lib.decFrom 0 (w.take i)=some v∧qI w i=((v:Int),false)
 |0,_=>⟨0,rfl,rfl⟩
 |i+1,hi=>by
  have bN:i<w.length:=hi
  obtain⟨v,h1,h2⟩:=TQ h i oM
  obtain⟨a,b⟩:=h w[i] (List.getElem_mem bN)
  have hg:w.getD i 0=w[i]:=bA bN
  have hd:Lib.digitVal w[i]=some (w[i].toNat - 48):=by unfold Lib.digitVal;rw[if_pos ⟨a,b⟩]
  refine⟨v*10+(w[i].toNat - 48),?_,?_⟩
  ·rw[List.take_add_one,List.getElem?_eq_getElem bN]
   exact tN _ _ _ _ _ h1 hd
  ·have n45:(w[i]==45)=false:=by
    rw[beq_eq_false_iff_ne];intro e;rw[e]at a;exact absurd a dC
   rw[GB,h2,hg,n45,Bool.and_false,cond_false,decide_eq_true a,decide_eq_true b]
   simp only [Bool.and_self,cond_true,Prod.mk.injEq,and_true]
   omega
theorem TP{u:bG}(h:∀b∈u,48≤b.toNat∧b.toNat≤57):∀i,i≤u.length→qI (45::u) (i+1)=((qI u i).1,true)
 |0,_=>rfl
 |i+1,hi=>by
  have bN:i<u.length:=hi
  have ih:=TP h i oM
  obtain⟨a,b⟩:=h u[i] (List.getElem_mem bN)
  have hg:u.getD i 0=u[i]:=bA bN
  have hg':(45::u).getD (i+1) 0=u[i]:=by rw[List.getD_cons_succ];exact hg
  have n45:(u[i]==45)=false:=by
   rw[beq_eq_false_iff_ne];intro e;rw[e]at a;exact absurd a dC
  rw[GB (45::u) (i+1),ih,hg',n45,Bool.and_false,cond_false,GB u i,hg,n45,Bool.and_false,cond_false,decide_eq_true a,decide_eq_true b]
  rfl
theorem lM{n:Int}(h:okI n):oL (Lib.itoa n)=n:=by
 have h14:=j7 h
 have hd:=r9 _ _ (Nat.le_refl n.natAbs)
 have hv:=MH _ _ (Nat.le_refl n.natAbs)
 obtain⟨v,e1,e2⟩:=TQ hd _ (Nat.le_refl _)
 rw[List.take_length,hv]at e1
 cases e1
 unfold oL
 rw[Nat.min_eq_right h14]
 rcases yL n with⟨h0,e⟩|⟨h0,e⟩ <;> rw[e]
 ·rw[List.length_cons,TP hd _ (Nat.le_refl _),e2]
  simp only [cond_true];omega
 ·rw[e2]
  simp only [cond_false];omega
theorem QX(a b:bG):((bs a).toList==(bs b).toList)=(a==b):=by
 have e:∀x:bG,(bs x).toList=x:=fun x=>by rw[ByteArray.toList_eq];simp[bs]
 rw[e,e]
theorem aC9{n:Int}(h:jD n=false):CK (rD n)=n:=by
 unfold CK
 rw[QX]
 rcases xG h with rfl|⟨h0,h1⟩
 ·rfl
 ·have e:rD n=Lib.itoa n:=by unfold rD;rw[show(n==30000)=false by simpa using h0];rfl
  rw[e,vZ oM,cond_false]
  exact lM (by constructor <;> omega)
theorem JR:∀{l:List Int},l.any jD=false→(l.map rD).map CK=l
 |[],_=>rfl
 |n::l,h=>by
  rw[List.any_cons,Bool.or_eq_false_iff]at h
  simp only [List.map_cons,aC9 h.1,JR h.2]
theorem JY:zH kP=0:=by decide+kernel
theorem TZ:zH rG=1:=by decide+kernel
theorem OR:zH nF=2:=by decide+kernel
theorem OQ:zH bS=3:=by decide+kernel
theorem vQ{n:Int}{a b:Int}(h:within n a b=true)(ha: -1000000000000≤a)(hb:b≤1000000000000):okI n:=by
 have:=within_iff.1 h
 exact⟨oM,oM⟩
theorem EV{k:Int}{f:Fact}(he:bK k f=0)(g:Fact)(r:List bG):
  EW g k ((aY k f).tail++r)= {g with aX:=bif k==0 then f.aX else g.aX,month:=bif k==1 then g.month else f.month,number:=bif k==1 then f.number else g.number,cE:=bif k==0||k==1 then g.cE else f.cE}:=by
 rcases fW he with⟨rfl,h1,h2⟩|⟨rfl,h1⟩|⟨rfl,h1,h2⟩
 ·have e:(aY 0 f).tail++r=Lib.itoa f.aX::Lib.itoa f.month::r:=rfl
  rw[e]
  show({g with aX:=oL (Lib.itoa f.aX),month:=oL (Lib.itoa f.month)}:Fact)= {g with aX:=f.aX,month:=f.month}
  rw[lM (vQ h1 dC dC),lM (vQ h2 dC dC)]
 ·have e:(aY 1 f).tail++r=Lib.itoa f.number::r:=rfl
  rw[e]
  show({g with number:=oL (Lib.itoa f.number)}:Fact)= {g with number:=f.number}
  rw[lM (vQ h1 dC dC)]
 ·have e:(aY 2 f).tail++r=tx f.cE::Lib.itoa f.month::r:=rfl
  rw[e]
  show({g with cE:=bs (tx f.cE),month:=oL (Lib.itoa f.month)}:Fact)= {g with month:=f.month,cE:=f.cE}
  rw[sF,lM (vQ h1 dC dC)]
theorem LW{k:Int}{f:Fact}(he:bK k f=0):∃w,aY k f=w::(aY k f).tail∧zH w=k:=by
 rcases fW he with⟨rfl,_⟩|⟨rfl,_⟩|⟨rfl,_⟩
 ·exact⟨kP,rfl,JY⟩
 ·exact⟨rG,rfl,TZ⟩
 ·exact⟨nF,rfl,OR⟩
theorem aCQ{f:Fact}(he:fA f=0):CC (fL f)=some (bH f):=by
 obtain⟨h1,h2⟩:=nM he
 have hs:=lM (vQ (l6 h2) dC dC)
 cases h3:f.kind !=3 with
 |false=>
  have k3:f.kind=3:=by simpa using h3
  have e1:bK f.target f=0:=by unfold mH at h1;rw[h3]at h1;exact h1
  have e2:kZ f=bS::aY f.target f:=by unfold kZ;rw[h3];rfl
  obtain⟨w,hw,hk⟩:=LW e1
  have e3:fL f=bS::Lib.itoa f.seq::w::((aY f.target f).tail++ []):=by
   unfold fL sW
   rw[k3,e2,List.append_nil,←hw];rfl
  rw[e3]
  have e4:CC (bS::Lib.itoa f.seq::w::((aY f.target f).tail++ []))=some (EW {cO 3 with seq:=oL (Lib.itoa f.seq),target:=zH w} (zH w) ((aY f.target f).tail++ [])):=by
   unfold CC
   simp only [List.getD_cons_zero,List.getD_cons_succ,OQ,List.length_cons,show((3:Int)==0)=false from rfl,show((3:Int)==1)=false from rfl,show((3:Int)==2)=false from rfl,show((3:Int)==3)=true from rfl,cond_true,cond_false]
   rw[Nat.min_eq_left oM]
   rfl
  rw[e4,hk,EV e1,hs]
  unfold bH eK cO
  rw[k3]
  rfl
 |true=>
  have e1:bK f.kind f=0:=by unfold mH at h1;rw[h3]at h1;exact h1
  have e2:kZ f=aY f.kind f:=by unfold kZ;rw[h3];rfl
  rcases fW e1 with⟨k0,_⟩|⟨k1,_⟩|⟨k2,_⟩
  ·obtain⟨a,b⟩:=nG h2 (by rw[k0];rfl)
   have e3:fL f=kP::((aY f.kind f).tail++(Lib.itoa f.seq::f.levels.map rD)):=by
    unfold fL
    rw[e2,k0];simp[aY]
   rw[e3,k0]
   have e4:CC (kP::((aY 0 f).tail++(Lib.itoa f.seq::f.levels.map rD)))=some {EW (cO 0) 0 ((aY 0 f).tail++(Lib.itoa f.seq::f.levels.map rD))with seq:=oL (Lib.itoa f.seq),levels:=(f.levels.map rD).map CK}:=by
    unfold CC
    simp only [List.getD_cons_zero,JY]
    rfl
   rw[e4,EV (k0▸e1),hs,JR a]
   unfold bH eK cO
   rw[k0]
   rfl
  ·obtain⟨⟨a,b,c,d⟩,e,g⟩:=kJ h2 (by rw[k1];rfl)
   have a:=lM (vQ a dC dC)
   have b':=within_iff.1 b
   have c:=within_iff.1 c
   have c:oL (Lib.itoa f.over)=f.over:=lM ⟨oM,oM⟩
   have b:=lM (vQ b dC dC)
   have d:=lM (vQ d dC dC)
   have e3:fL f=rG::((aY f.kind f).tail++ [Lib.itoa f.month,Lib.itoa f.seq,Lib.itoa f.aS,Lib.itoa f.over,tx f.aN,Lib.itoa f.cls,tx f.cQ]):=by
    unfold fL
    rw[e2,k1];rfl
   rw[e3,k1]
   have e4:CC (rG::((aY 1 f).tail++ [Lib.itoa f.month,Lib.itoa f.seq,Lib.itoa f.aS,Lib.itoa f.over,tx f.aN,Lib.itoa f.cls,tx f.cQ]))=some {EW (cO 1) 1 ((aY 1 f).tail++ [Lib.itoa f.month,Lib.itoa f.seq,Lib.itoa f.aS,Lib.itoa f.over,tx f.aN,Lib.itoa f.cls,tx f.cQ])with month:=oL (Lib.itoa f.month),seq:=oL (Lib.itoa f.seq),aS:=oL (Lib.itoa f.aS),over:=oL (Lib.itoa f.over),aN:=bs (tx f.aN),cls:=oL (Lib.itoa f.cls),cQ:=bs (tx f.cQ)}:=by
    unfold CC
    simp only [List.getD_cons_zero,TZ]
    rfl
   rw[e4,EV (k1▸e1),hs,a,b,c,d,sF,sF]
   unfold bH eK cO
   rw[k1]
   rfl
  ·have e3:fL f=nF::((aY f.kind f).tail++ [Lib.itoa f.seq]):=by
    unfold fL
    rw[e2,k2];rfl
   rw[e3,k2]
   have e4:CC (nF::((aY 2 f).tail++ [Lib.itoa f.seq]))=some {EW (cO 2) 2 ((aY 2 f).tail++ [Lib.itoa f.seq])with seq:=oL (Lib.itoa f.seq)}:=by
    unfold CC
    simp only [List.getD_cons_zero,OR]
    rfl
   rw[e4,EV (k2▸e1),hs]
   unfold bH eK cO
   rw[k2]
   rfl
theorem T1:∀(ws:List bG) (w:bG),iH (ws++ [w])=OT 32 ws w
 |[],w=>by simp[OT,mB]
 |a::ws,w=>by
  rw[List.cons_append,yK a sM,T1 ws w]
  simp[OT]
theorem SG{l:List bG}(hn:l≠[])(h:∀w∈l,∀b∈w,b≠32):fB 32 (iH l)=l:=by
 have e:l.dropLast++ [l.getLast hn]=l:=List.dropLast_concat_getLast hn
 have h1:=W9 (s:=32) (ws:=l.dropLast) (w:=l.getLast hn) (fun x hx=>h x (List.dropLast_subset _ hx)) (h _ (List.getLast_mem hn))
 rw[←T1,e]at h1
 exact h1
theorem CE{f:Fact}(he:fA f=0):uM (eI f)=(bH f,([],false))∧CC (fB 32 (eI f))=some (bH f):=by
 obtain⟨h1,h2⟩:=HA he
 have e:eI f=iH (fL f):=by unfold eI;rw[he];rfl
 constructor
 ·unfold uM
  rw[vL,e,y7 h1 h2,JL he]
 ·rw[e,SG h1 h2,aCQ he]
theorem VW{s:bG}(h:qT s=0):s.length≤2000∧(uM s).2.2=false∧fA (uM s).1=0∧eI (uM s).1=s:=by
 unfold qT at h
 cases h1:decide ((s.length:Int)>2000)with
 |true=>rw[h1]at h;exact absurd h (show ¬((8:Int)=0) by decide)
 |false=>
  rw[h1]at h
  cases h2:N6 s with
  |true=>rw[h2]at h;exact absurd h (show ¬((7:Int)=0) by decide)
  |false=>
   unfold N6 at h2
   simp only [Bool.or_eq_false_iff,bne_eq_false_iff_eq]at h2
   have:=of_decide_eq_false h1
   refine⟨oM,h2.1.1,h2.1.2,?_⟩
   have e:=QX (eI (uM s).1) s
   rw[h2.2,beq_self_eq_true]at e
   exact eq_of_beq e.symm
theorem Y1{s:bG}(h:N1 s=0):s.length≤2000∧∃f,CC (fB 32 s)=some f∧fA f=0∧eI f=s:=by
 unfold N1 at h
 cases h1:decide ((s.length:Int)>2000)with
 |true=>rw[h1]at h;exact absurd h (show ¬((8:Int)=0) by decide)
 |false=>
  rw[h1]at h
  have:=of_decide_eq_false h1
  refine⟨oM,?_⟩
  cases hq:CC (fB 32 s)with
  |none=>rw[hq]at h;exact absurd h (show ¬((7:Int)=0) by decide)
  |some f=>
   rw[hq]at h
   refine⟨f,rfl,?_⟩
   cases h2:rpB s f with
   |true=>simp only [h2]at h;exact absurd h (show ¬((7:Int)=0) by decide)
   |false=>
    unfold rpB at h2
    simp only [Bool.or_eq_false_iff,bne_eq_false_iff_eq]at h2
    have e:=QX (eI f) s
    rw[h2.2,beq_self_eq_true]at e
    exact⟨h2.1,eq_of_beq e.symm⟩
theorem C0{f:Fact}{s:bG}(hl:s.length≤2000)(he:fA f=0)(ht:eI f=s)(hc:fA (bH f)=0)(htc:eI (bH f)=s):qT s=0∧xM s=bH f∧N1 s=0∧rpF s=bH f:=by
 obtain⟨a,b⟩:=CE he
 rw[ht]at a b
 have h1:decide ((s.length:Int)>2000)=false:=decide_eq_false oM
 have hp:qT s=0:=by
  unfold qT N6
  rw[h1,a]
  simp[hc,htc]
 have hr:N1 s=0:=by
  unfold N1
  rw[h1,b]
  simp[rpB,hc,htc]
 refine⟨hp,?_,hr,?_⟩
 ·unfold xM;rw[hp,a];rfl
 ·unfold rpF;rw[b,hr];rfl
theorem Q8(s:bG):qT s=N1 s∧xM s=rpF s:=by
 by_cases hp:qT s=0
 ·obtain⟨hl,hb,he,ht⟩:=VW hp
  obtain⟨a,b⟩:=CE he
  rw[ht]at a
  have e:bH (uM s).1=(uM s).1:=(congrArg Prod.fst a).symm
  obtain⟨_,h2,h3,h4⟩:=C0 hl he ht (by rw[e];exact he) (by rw[e];exact ht)
  exact⟨by rw[hp,h3],by rw[h2,h4]⟩
 ·by_cases hr:N1 s=0
  ·obtain⟨hl,f,hf,he,ht⟩:=Y1 hr
   obtain⟨_,b⟩:=CE he
   rw[ht,hf]at b
   have e:bH f=f:=(Option.some.inj b).symm
   exact absurd (C0 hl he ht (by rw[e];exact he) (by rw[e];exact ht)).1 hp
  ·have e:qT s=N1 s:=by
    unfold qT N1 at*
    cases h1:decide ((s.length:Int)>2000)with
    |true=>rfl
    |false=>
     rw[h1]at hp hr
     have e1:N6 s=true:=by
      cases hb:N6 s with
      |true=>rfl
      |false=>rw[hb]at hp;exact absurd rfl hp
     rw[e1]
     cases hq:CC (fB 32 s)with
     |none=>rfl
     |some f=>
      rw[hq]at hr
      cases hb:rpB s f with
      |true=>simp only [hb]
      |false=>simp only [hb]at hr;exact absurd rfl hr
   refine⟨e,?_⟩
   have e1:xM s=cO 0:=by unfold xM;rw[show(qT s==0)=false by simpa using hp];rfl
   have e2:rpF s=cO 0:=by
    unfold rpF
    rw[show(N1 s==0)=false by simpa using hr]
    cases CC (fB 32 s) <;> rfl
   rw[e1,e2]
theorem AN{k:Int}{f g:Fact}(h1:(k==0)=true→f.aX=g.aX)(h2:(k==1)=false→f.month=g.month)(h3:(k==1)=true→f.number=g.number)(h4:(k==0)=false→(k==1)=false→f.cE=g.cE):bK k f=bK k g∧aY k f=aY k g:=by
 unfold bK aY
 cases k0:k==0 with
 |true=>
  have k1:(k==1)=false:=by rw[show k=0 by simpa using k0];rfl
  rw[k1,h1 k0,h2 k1]
  have k2:(k !=2)=true:=by rw[show k=0 by simpa using k0];rfl
  rw[k2]
  exact⟨rfl,rfl⟩
 |false=>
  cases k1:k==1 with
  |true=>
   have k2:(k !=2)=true:=by rw[show k=1 by simpa using k1];rfl
   rw[k2,h3 k1]
   exact⟨rfl,rfl⟩
  |false=>
   rw[h2 k1,h4 k0 k1]
   exact⟨rfl,rfl⟩
theorem aBJ(f:Fact):mH (bH f)=mH f∧kZ (bH f)=kZ f:=by
 have key:∀k,(f.kind==3)=false→f.kind=k→bK k (bH f)=bK k f∧aY k (bH f)=aY k f:=fun k hk e=>by
  have hK:eK f=k:=by unfold eK;rw[hk];exact e
  refine AN (fun h=>?_) (fun h=>?_) (fun h=>?_) (fun h h'=>?_)
  ·unfold bH;simp only [hK,h,cond_true]
  ·unfold bH;simp only [hK,e,h,cond_false]
  ·unfold bH;simp only [hK,h,cond_true]
  ·unfold bH;simp only [hK,h,h',Bool.or_self,cond_false]
 unfold mH kZ
 have hk:(bH f).kind=f.kind:=rfl
 rw[hk]
 cases h3:f.kind !=3 with
 |true=>
  obtain⟨a,b⟩:=key f.kind (by simpa using h3) rfl
  exact⟨a,b⟩
 |false=>
  have k3:(f.kind==3)=true:=by simpa using h3
  have k1:(f.kind==1)=false:=by rw[show f.kind=3 by simpa using k3];rfl
  have ht:(bH f).target=f.target:=by unfold bH;simp only [k3,cond_true]
  have hK:eK f=f.target:=by unfold eK;rw[k3];rfl
  rw[ht]
  obtain⟨a,b⟩:bK f.target (bH f)=bK f.target f∧aY f.target (bH f)=aY f.target f:=by
   refine AN (fun h=>?_) (fun h=>?_) (fun h=>?_) (fun h h'=>?_)
   ·unfold bH;simp only [hK,h,cond_true]
   ·unfold bH;simp only [hK,k1,h,cond_false]
   ·unfold bH;simp only [hK,h,cond_true]
   ·unfold bH;simp only [hK,h,h',Bool.or_self,cond_false]
  exact⟨a,by rw[b];rfl⟩
theorem XH(f:Fact):fA (bH f)=fA f∧fL (bH f)=fL f∧eI (bH f)=eI f:=by
 obtain⟨a,b⟩:=aBJ f
 have hk:(bH f).kind=f.kind:=rfl
 have hs:(bH f).seq=f.seq:=rfl
 have h0:(f.kind==0)=true→(bH f).levels=f.levels:=fun h=>by unfold bH;simp only [h,cond_true]
 have h1:(f.kind==1)=true→(bH f).month=f.month∧(bH f).aS=f.aS∧(bH f).over=f.over∧(bH f).cls=f.cls∧(bH f).aN=f.aN∧(bH f).cQ=f.cQ:=fun h=>by
  unfold bH;simp only [h,cond_true,and_self]
 have e1:iF (bH f)=iF f:=by
  unfold iF
  rw[hk,hs]
  cases k0:f.kind==0 with
  |true=>
   have k1:(f.kind==1)=false:=by rw[show f.kind=0 by simpa using k0];rfl
   rw[h0 k0,k1]
   rfl
  |false=>
   cases k1:f.kind==1 with
   |true=>
    obtain⟨q1,q2,q3,q4,q5,q6⟩:=h1 k1
    have e0:iB (bH f)=iB f:=by unfold iB;rw[q1,q2,q3,q4]
    rw[q5,q6,e0]
    rfl
   |false=>rfl
 have e2:fA (bH f)=fA f:=by unfold fA;rw[a,e1]
 have e3:fL (bH f)=fL f:=by
  unfold fL
  rw[hk,hs,b]
  cases k0:f.kind==0 with
  |true=>rw[h0 k0];rfl
  |false=>
   cases k1:f.kind==1 with
   |true=>
    obtain⟨q1,q2,q3,q4,q5,q6⟩:=h1 k1
    rw[q1,q2,q3,q4,q5,q6];rfl
   |false=>rfl
 exact⟨e2,e3,by unfold eI;rw[e2,e3]⟩
theorem XR{f:Fact}(he:fA f=0):qT (eI f)=0∧xM (eI f)=bH f:=by
 obtain⟨a,_,c⟩:=XH f
 obtain⟨h1,h2,_⟩:=C0 (by have:=A1 f;omega) he rfl (by rw[a];exact he) c
 exact⟨h1,h2⟩
end Go.Pj
namespace Go.Proofs
open Go.Shelf
def Tryz.LQ:Ren where
 f:=fun n=>match n with|6=>218|15=>269|14=>268|28=>305|29=>252|20=>297|21=>298|22=>299|23=>300|24=>301|25=>302|26=>303|27=>304|46=>338|47=>339|48=>340|49=>341|50=>342|57=>360|n=>n
 t:=fun n=>match n with|22=>255|24=>254|25=>304|3=>3|39=>328|0=>0|53=>326|55=>286|4=>4|46=>369|45=>368|50=>215|5=>5|9=>9|66=>398|70=>402|76=>418|77=>415|n=>n
 g:=fun n=>n
theorem Tryz.Z0:SlLaysF0.n6 Tryz.prog Tryz.LQ where
 mixed:=by kernel_rfl
 f6:=⟨ "slices.SortFunc[[]draghead/project.told,draghead/project.told]",of_decide_eq_true (by kernel_rfl),Tryz.func218.trans (congrArg some (by kernel_rfl))⟩
 f14:=⟨ "slices.pdqsortCmpFunc[draghead/project.told]",of_decide_eq_true (by kernel_rfl),Tryz.func268.trans (congrArg some (by kernel_rfl))⟩
 f15:=Tryz.func269.trans (congrArg some (by kernel_rfl))
 f20:=⟨ "slices.insertionSortCmpFunc[draghead/project.told]",of_decide_eq_true (by kernel_rfl),Tryz.func297.trans (congrArg some (by kernel_rfl))⟩
 f21:=⟨ "slices.heapSortCmpFunc[draghead/project.told]",of_decide_eq_true (by kernel_rfl),Tryz.func298.trans (congrArg some (by kernel_rfl))⟩
 f22:=⟨ "slices.breakPatternsCmpFunc[draghead/project.told]",of_decide_eq_true (by kernel_rfl),Tryz.func299.trans (congrArg some (by kernel_rfl))⟩
 f23:=⟨ "slices.choosePivotCmpFunc[draghead/project.told]",of_decide_eq_true (by kernel_rfl),Tryz.func300.trans (congrArg some (by kernel_rfl))⟩
 f24:=⟨ "slices.reverseRangeCmpFunc[draghead/project.told]",of_decide_eq_true (by kernel_rfl),Tryz.func301.trans (congrArg some (by kernel_rfl))⟩
 f25:=⟨ "slices.partialInsertionSortCmpFunc[draghead/project.told]",of_decide_eq_true (by kernel_rfl),Tryz.func302.trans (congrArg some (by kernel_rfl))⟩
 f26:=⟨ "slices.partitionEqualCmpFunc[draghead/project.told]",of_decide_eq_true (by kernel_rfl),Tryz.func303.trans (congrArg some (by kernel_rfl))⟩
 f27:=⟨ "slices.partitionCmpFunc[draghead/project.told]",of_decide_eq_true (by kernel_rfl),Tryz.func304.trans (congrArg some (by kernel_rfl))⟩
 f28:=Tryz.func305.trans (congrArg some (by kernel_rfl))
 f29:=Tryz.func252.trans (congrArg some (by kernel_rfl))
 f46:=⟨ "slices.siftDownCmpFunc[draghead/project.told]",of_decide_eq_true (by kernel_rfl),Tryz.func338.trans (congrArg some (by kernel_rfl))⟩
 f47:=Tryz.func339.trans (congrArg some (by kernel_rfl))
 f48:=Tryz.func340.trans (congrArg some (by kernel_rfl))
 f49:=⟨ "slices.medianAdjacentCmpFunc[draghead/project.told]",of_decide_eq_true (by kernel_rfl),Tryz.func341.trans (congrArg some (by kernel_rfl))⟩
 f50:=⟨ "slices.medianCmpFunc[draghead/project.told]",of_decide_eq_true (by kernel_rfl),Tryz.func342.trans (congrArg some (by kernel_rfl))⟩
 f57:=⟨ "slices.order2CmpFunc[draghead/project.told]",of_decide_eq_true (by kernel_rfl),Tryz.func360.trans (congrArg some (by kernel_rfl))⟩
 t0:=Tryz.underlying0
 a0:=Tryz.isAgg0
 z0:=Tryz.sizeOf0
 v0:=Tryz.zeroValue0
 t3:=Tryz.underlying3
 a3:=Tryz.isAgg3
 z3:=Tryz.sizeOf3
 v3:=Tryz.zeroValue3
 t4:=Tryz.underlying4
 a4:=Tryz.isAgg4
 z4:=Tryz.sizeOf4
 v4:=Tryz.zeroValue4
 t5:=Tryz.underlying5
 a5:=Tryz.isAgg5
 z5:=Tryz.sizeOf5
 v5:=Tryz.zeroValue5
 t9:=Tryz.underlying9
 a9:=Tryz.isAgg9
 z9:=Tryz.sizeOf9
 v9:=Tryz.zeroValue9
 t22:=Tryz.underlying255
 a22:=Tryz.isAgg255
 z22:=Tryz.sizeOf255
 v22:=Tryz.zeroValue255
 t25:=Tryz.underlying304
 a25:=Tryz.isAgg304
 z25:=Tryz.sizeOf304
 v25:=Tryz.zeroValue304
 t39:=Tryz.underlying328
 a39:=Tryz.isAgg328
 z39:=Tryz.sizeOf328
 v39:=Tryz.zeroValue328
 t45:=Tryz.underlying368
 a45:=Tryz.isAgg368
 z45:=Tryz.sizeOf368
 v45:=Tryz.zeroValue368
 t46:=Tryz.underlying369
 a46:=Tryz.isAgg369
 z46:=Tryz.sizeOf369
 v46:=Tryz.zeroValue369
 t50:=Tryz.underlying215
 a50:=Tryz.isAgg215
 z50:=Tryz.sizeOf215
 v50:=Tryz.zeroValue215
 t53:=Tryz.underlying326
 a53:=Tryz.isAgg326
 z53:=Tryz.sizeOf326
 v53:=Tryz.zeroValue326
 t55:=Tryz.underlying286
 a55:=Tryz.isAgg286
 z55:=Tryz.sizeOf286
 v55:=Tryz.zeroValue286
 t66:=Tryz.underlying398
 a66:=Tryz.isAgg398
 z66:=Tryz.sizeOf398
 v66:=Tryz.zeroValue398
 t70:=Tryz.underlying402
 a70:=Tryz.isAgg402
 z70:=Tryz.sizeOf402
 v70:=Tryz.zeroValue402
 t76:=Tryz.underlying418
 a76:=Tryz.isAgg418
 z76:=Tryz.sizeOf418
 v76:=Tryz.zeroValue418
 t77:=Tryz.underlying415
 a77:=Tryz.isAgg415
 z77:=Tryz.sizeOf415
 v77:=Tryz.zeroValue415
def Tryz.AJ:Ren where
 f:=fun n=>match n with|6=>224|15=>269|14=>272|28=>305|29=>252|20=>316|21=>317|22=>318|23=>319|24=>320|25=>321|26=>322|27=>323|46=>347|47=>339|48=>340|49=>348|50=>349|57=>362|n=>n
 t:=fun n=>match n with|22=>77|24=>40|25=>309|3=>3|39=>328|0=>0|53=>326|55=>286|4=>4|46=>369|45=>368|50=>215|5=>5|9=>9|66=>398|70=>402|76=>418|77=>415|n=>n
 g:=fun n=>n
theorem Tryz.Z2:SlLaysF0.n6 Tryz.prog Tryz.AJ where
 mixed:=by kernel_rfl
 f6:=⟨ "slices.SortFunc[[]draghead/api.Fact,draghead/api.Fact]",of_decide_eq_true (by kernel_rfl),Tryz.func224.trans (congrArg some (by kernel_rfl))⟩
 f14:=⟨ "slices.pdqsortCmpFunc[draghead/api.Fact]",of_decide_eq_true (by kernel_rfl),Tryz.func272.trans (congrArg some (by kernel_rfl))⟩
 f15:=Tryz.func269.trans (congrArg some (by kernel_rfl))
 f20:=⟨ "slices.insertionSortCmpFunc[draghead/api.Fact]",of_decide_eq_true (by kernel_rfl),Tryz.func316.trans (congrArg some (by kernel_rfl))⟩
 f21:=⟨ "slices.heapSortCmpFunc[draghead/api.Fact]",of_decide_eq_true (by kernel_rfl),Tryz.func317.trans (congrArg some (by kernel_rfl))⟩
 f22:=⟨ "slices.breakPatternsCmpFunc[draghead/api.Fact]",of_decide_eq_true (by kernel_rfl),Tryz.func318.trans (congrArg some (by kernel_rfl))⟩
 f23:=⟨ "slices.choosePivotCmpFunc[draghead/api.Fact]",of_decide_eq_true (by kernel_rfl),Tryz.func319.trans (congrArg some (by kernel_rfl))⟩
 f24:=⟨ "slices.reverseRangeCmpFunc[draghead/api.Fact]",of_decide_eq_true (by kernel_rfl),Tryz.func320.trans (congrArg some (by kernel_rfl))⟩
 f25:=⟨ "slices.partialInsertionSortCmpFunc[draghead/api.Fact]",of_decide_eq_true (by kernel_rfl),Tryz.func321.trans (congrArg some (by kernel_rfl))⟩
 f26:=⟨ "slices.partitionEqualCmpFunc[draghead/api.Fact]",of_decide_eq_true (by kernel_rfl),Tryz.func322.trans (congrArg some (by kernel_rfl))⟩
 f27:=⟨ "slices.partitionCmpFunc[draghead/api.Fact]",of_decide_eq_true (by kernel_rfl),Tryz.func323.trans (congrArg some (by kernel_rfl))⟩
 f28:=Tryz.func305.trans (congrArg some (by kernel_rfl))
 f29:=Tryz.func252.trans (congrArg some (by kernel_rfl))
 f46:=⟨ "slices.siftDownCmpFunc[draghead/api.Fact]",of_decide_eq_true (by kernel_rfl),Tryz.func347.trans (congrArg some (by kernel_rfl))⟩
 f47:=Tryz.func339.trans (congrArg some (by kernel_rfl))
 f48:=Tryz.func340.trans (congrArg some (by kernel_rfl))
 f49:=⟨ "slices.medianAdjacentCmpFunc[draghead/api.Fact]",of_decide_eq_true (by kernel_rfl),Tryz.func348.trans (congrArg some (by kernel_rfl))⟩
 f50:=⟨ "slices.medianCmpFunc[draghead/api.Fact]",of_decide_eq_true (by kernel_rfl),Tryz.func349.trans (congrArg some (by kernel_rfl))⟩
 f57:=⟨ "slices.order2CmpFunc[draghead/api.Fact]",of_decide_eq_true (by kernel_rfl),Tryz.func362.trans (congrArg some (by kernel_rfl))⟩
 t0:=Tryz.underlying0
 a0:=Tryz.isAgg0
 z0:=Tryz.sizeOf0
 v0:=Tryz.zeroValue0
 t3:=Tryz.underlying3
 a3:=Tryz.isAgg3
 z3:=Tryz.sizeOf3
 v3:=Tryz.zeroValue3
 t4:=Tryz.underlying4
 a4:=Tryz.isAgg4
 z4:=Tryz.sizeOf4
 v4:=Tryz.zeroValue4
 t5:=Tryz.underlying5
 a5:=Tryz.isAgg5
 z5:=Tryz.sizeOf5
 v5:=Tryz.zeroValue5
 t9:=Tryz.underlying9
 a9:=Tryz.isAgg9
 z9:=Tryz.sizeOf9
 v9:=Tryz.zeroValue9
 t22:=Tryz.underlying77
 a22:=Tryz.isAgg77
 z22:=Tryz.sizeOf77
 v22:=Tryz.zeroValue77
 t25:=Tryz.underlying309
 a25:=Tryz.isAgg309
 z25:=Tryz.sizeOf309
 v25:=Tryz.zeroValue309
 t39:=Tryz.underlying328
 a39:=Tryz.isAgg328
 z39:=Tryz.sizeOf328
 v39:=Tryz.zeroValue328
 t45:=Tryz.underlying368
 a45:=Tryz.isAgg368
 z45:=Tryz.sizeOf368
 v45:=Tryz.zeroValue368
 t46:=Tryz.underlying369
 a46:=Tryz.isAgg369
 z46:=Tryz.sizeOf369
 v46:=Tryz.zeroValue369
 t50:=Tryz.underlying215
 a50:=Tryz.isAgg215
 z50:=Tryz.sizeOf215
 v50:=Tryz.zeroValue215
 t53:=Tryz.underlying326
 a53:=Tryz.isAgg326
 z53:=Tryz.sizeOf326
 v53:=Tryz.zeroValue326
 t55:=Tryz.underlying286
 a55:=Tryz.isAgg286
 z55:=Tryz.sizeOf286
 v55:=Tryz.zeroValue286
 t66:=Tryz.underlying398
 a66:=Tryz.isAgg398
 z66:=Tryz.sizeOf398
 v66:=Tryz.zeroValue398
 t70:=Tryz.underlying402
 a70:=Tryz.isAgg402
 z70:=Tryz.sizeOf402
 v70:=Tryz.zeroValue402
 t76:=Tryz.underlying418
 a76:=Tryz.isAgg418
 z76:=Tryz.sizeOf418
 v76:=Tryz.zeroValue418
 t77:=Tryz.underlying415
 a77:=Tryz.isAgg415
 z77:=Tryz.sizeOf415
 v77:=Tryz.zeroValue415
end Go.Proofs
namespace Go.Ch
open Go Go.Ax Go.Sort Go.Shelf Go.Proofs
theorem L2{w:World}{g n:Nat}{os:Array Obj}{cur:Array Value}{e:TypeId}{fr:Nat×Nat}(F:Array Value)(hb:w.heap[g]? =some (.cells cur e fr)):
  (grow (putRow id (Sort.ahead w n) g 0 F) os).heap[g]? =some (.cells (putCells id 0 F cur) e fr):=by
 have hg:g<w.heap.size:=(Array.getElem?_eq_some_iff.1 hb).1
 rw[heap_grow_old _ _ (by simpa using hg)]
 simp[putRow,mapBlock,Sort.ahead,Array.getElem?_modify,hb,onCells]
theorem yQ{w:World}{g n k:Nat}{os:Array Obj}(F:Array Value)(hk:k<w.heap.size)(h:k≠g):
  (grow (putRow id (Sort.ahead w n) g 0 F) os).heap[k]? =w.heap[k]? :=by
 rw[heap_grow_old _ _ (by simpa using hk)]
 simp[putRow,mapBlock,Sort.ahead,Array.getElem?_modify,Ne.symm h]
theorem IG{F cur:Array Value}{t:Nat}(hi:t<F.size)(hc:t<cur.size):(putCells id 0 F cur)[t]? =some F[t]! :=by
 unfold putCells
 rw[Array.getElem?_mapIdx]
 simp[hc,hi]
structure aFF{α:Type}(el:α→Nat→DV)(k:Nat)(x:α)(vs:List Value):Prop where
 len:vs.length=k
 one:∀v∈vs,v.oneCell'=true
 val:∀j u,j<k→el x j=.val u→vs[j]? =some u
abbrev GV{α:Type}(el:α→Nat→DV)(k:Nat):={p:α×List Value // aFF el k p.1 p.2}
theorem aHZ{P:Program}{α:Type} [Inhabited α] {ρ:Ren}(L:SlLaysF0.n6 P ρ){F g e k:Nat}(hF:ρ.f 6=F)(dV:∀vs w,(callFunc F vs).run P w=.ok (.enter F vs) w)(RU:0<k)
  (aE:∀w,(isAgg (ρ.t 24)).run P w=.ok true w) (zE:∀w,(Go.sizeOf (ρ.t 24)).run P w=.ok k w)
  (el:α→Nat→DV) (nZ:∀x j,j<k→(el x j).one=true) [Inhabited (GV el k)]
  (cf:α→α→Int) (hO:SWO (ltOf cf))
  (eg:∀args w,(callFunc g args).run P w=.ok (.enter g args) w) (aMK:∀blk off n w,CmpLays P g #[] (fun p:GV el k=>p.1.2) k (fun p q=>cf p.1.1 q.1.1) blk off n w)
  (l srt:List α) (aI8:∀l':List α,l'.Perm l→l'.Pairwise (fun x y=>ltOf cf y x=false)→l'=srt)
  (f0:Nat→Nat→DV) (UB:∀i j,i<l.length→j<k→aJ (f0 i j) (el (l.getD i default) j)) (hl:l.length≤1000000):
  bM P F [.s (.own 1001),.s (.dQ g [])] [(1001,.row e l.length k f0)] (.t []) [(1001,.row e l.length k fun i=>el (srt.getD i default))]:=by
 subst hF
 refine⟨dV,fun M β w vs hG hr hM qE hβ=>?_⟩
 obtain⟨b,c,cur,hx,g1,h2,h3,h4,h5,h6⟩:=qE.rep 1001 _ (List.mem_singleton.2 rfl)
 match vs,hr with
 |[v,v2],⟨hv,X6,_⟩=>
  obtain⟨b',c',O1,T6,PD⟩:=hv
  rw[hx]at O1
  cases O1
  subst T6
  obtain⟨vs2,X6,WG⟩:=X6
  obtain rfl:vs2=[]:=by cases vs2 with
   |nil=>rfl
   |cons _ _=>exact WG.elim
  subst X6
  let cells:Nat→List Value:=fun i=>(List.range k).map fun j=>(cur[i*k+j]?).getD undef
  have L3:∀i j,i<l.length→j<k→∃u,cur[i*k+j]? =some u∧(el (l.getD i default) j).a7 M u:=by
   intro i j hi hj
   obtain⟨u,e1,e2⟩:=h6 i j hi hj
   exact⟨u,e1,UB i j hi hj M u e2⟩
  have n9:∀i,i<l.length→aFF el k (l.getD i default) (cells i):=by
   intro i hi
   refine⟨by simp[cells],fun v hv=>?_,fun j u hj hu=>?_⟩
   ·obtain⟨j,hj,rfl⟩:=List.mem_map.1 hv
    have hj:=List.mem_range.1 hj
    obtain⟨u,e1,e2⟩:=L3 i j hi hj
    rw[e1]
    exact DV.a7.kD e2 (nZ _ j hj)
   ·obtain⟨u',e1,e2⟩:=L3 i j hi hj
    rw[hu]at e2
    have e2:u'=u:=e2
    simp[cells,List.getElem?_map,List.getElem?_range hj,e1,e2]
  let dl:List (GV el k):=(List.range l.length).map fun i=>if hi:i<l.length then⟨(l.getD i default,cells i),n9 i hi⟩else default
  have xC:dl.length=l.length:=by simp[dl]
  have aMI:∀i,i<l.length→dl[i]! =if hi:i<l.length then(⟨(l.getD i default,cells i),n9 i hi⟩:GV el k)else default:=by
   intro i hi
   rw[getElem!_pos dl i oM]
   simp[dl]
  have aGS:∀i,i<l.length→dl[i]!.1.1=l.getD i default∧dl[i]!.1.2=cells i:=by
   intro i hi
   rw[aMI i hi,dif_pos hi]
   exact⟨rfl,rfl⟩
  have aJM:dl.map (fun p=>p.1.1)=l:=by
   refine List.ext_getElem (by simp[xC]) fun i h1 h2=>?_
   have hi:i<l.length:=h2
   have:=(aGS i hi).1
   rw[getElem!_pos dl i oM]at this
   rw[List.getElem_map,this,bA hi]
  have aMG:∀x:GV el k,(x.1.2).length=k:=fun x=>x.2.len
  have hb:b<w.heap.size:=(Array.getElem?_eq_some_iff.1 g1).1
  have aJL:∀t,t<l.length*k→cur[t]? =some ((flatK (fun p:GV el k=>p.1.2) k dl.toArray)[t]!):=by
   intro t ht
   have hd:t / k<l.length:=by rw[Nat.div_lt_iff_lt_mul RU];exact ht
   have hm:t%k<k:=Nat.mod_lt _ RU
   obtain⟨u,e1,_⟩:=L3 (t / k) (t%k) hd hm
   have e2:cur[t]? =some u:=by rw[←e1,Nat.div_add_mod' t k]
   rw[get_flatK _ _ _ t (by simpa [xC]using ht)]
   have e3:dl.toArray[t / k]! =dl[t / k]! :=sM
   rw[e3,(aGS _ hd).2]
   have e4:(cells (t / k))[t%k]! =u:=by
    rw[getElem!_pos _ _ (by simpa [cells]using hm)]
    simp[cells,e1]
   rw[e4,e2]
  have hH:HoldsK (fun p:GV el k=>p.1.2) k w b 0 dl.toArray:=by
   intro t ht
   have ht:t<l.length*k:=by simpa [xC]using ht
   refine⟨?_,by simp[World.frozen?,g1]⟩
   simp only [World.cell?,g1,Nat.zero_add,Option.isSome_none,Bool.false_eq_true,if_false]
   rw[aJL t ht];rfl
  have hO':SWO (ltOf fun p q:GV el k=>cf p.1.1 q.1.1):=⟨fun x=>hO.irrefl x.1.1,fun x y z=>hO.trans x.1.1 y.1.1 z.1.1,fun x y z=>hO.ntrans x.1.1 y.1.1 z.1.1⟩
  have aJN:=AnyQ.slices_SortFunc L k aE zE (fun p:GV el k=>p.1.2) aMG (fun x=>x.2.one) (fun p q=>cf p.1.1 q.1.1) hO' g #[] b 0 c.1 dl.toArray w eg (aMK b 0 dl.toArray.size w) hH hb (by simp[xC];omega)
  rw[h2]
  have lT:dl.toArray.size=l.length:=by simp[xC]
  rw[lT]at aJN
  refine aJN.mono ?_
  rintro q w' ⟨he,d',n,os,hp,hs,hw⟩
  obtain⟨p1,_,p3⟩:=hp
  have hd':d'.size=l.length:=by rw[p1,lT]
  have e1:d'.extract 0 l.length=d':=by rw[←hd'];exact Array.extract_size
  have e2:dl.toArray.extract 0 l.length=dl.toArray:=by rw[←lT];exact Array.extract_size
  rw[e1,e2]at p3
  have aJE:(d'.toList.map fun p=>p.1.1).Perm l:=by
   have:=p3.map (fun p:GV el k=>p.1.1)
   rw[←aJM]
   simpa using this
  have hpw:(d'.toList.map fun p=>p.1.1).Pairwise (fun x y=>ltOf cf y x=false):=by
   rw[List.pairwise_map,List.pairwise_iff_getElem]
   intro i j hi hj YA
   have xS:j<l.length:=by rw[←hd'];simpa using hj
   have:=hs i j (Nat.zero_le _) YA xS
   rw[getElem!_pos d' i oM,getElem!_pos d' j oM]at this
   simp only [Array.getElem_toList]
   exact this
  have aL3:=aI8 _ aJE hpw
  have oN:=L2 (w:=w) (n:=n) (os:=os) (flatK (fun p:GV el k=>p.1.2) k d') g1
  have aAM:∀j,j<w.heap.size→j≠b→w'.heap[j]? =w.heap[j]? :=fun j hj hV=>by rw[hw];exact yQ _ hj hV
  have T4:w'=grow (putRow id (Sort.ahead w n) b 0 (flatK (fun p:GV el k=>p.1.2) k d')) os:=hw
  rw[←T4]at oN
  have M5:w.heap.size≤w'.heap.size:=by rw[T4];simp[putRow,mapBlock,Sort.ahead]
  have iT:∀x,x∈names [(1001,jM.row e l.length k fun i=>el (srt.getD i default))]→x=1001:=fun x hx=>List.mem_singleton.1 hx
  have aMQ:kF M w':=by
   intro b2 o u hu
   have hV:b2≠b:=fun h=>by
    subst h
    have:=qE.apart 1001 b2 c (List.mem_singleton.2 rfl) hx o
    rw[this]at hu;cases hu
   have hold:=hM b2 o u hu
   have hb2:b2<w.heap.size:=World.block_lt_of_cell? w ⟨b2,o,none⟩ hold
   simp only [World.cell?]at hold ⊢
   rw[aAM b2 hb2 hV]
   exact hold
  have dU:∀i j,i<l.length→j<k→(el (srt.getD i default) j).a7 M ((d'[i]!.1.2)[j]!):=by
   intro i j hi hj
   have j0:d'[i]! ∈dl:=by
    have:d'[i]! ∈d'.toList:=by rw[getElem!_pos d' i oM];simp
    simpa using p3.subset this
   obtain⟨t,ht,et⟩:=List.mem_iff_getElem.1 j0
   have ht':t<l.length:=oM
   have hv:=aGS t ht'
   rw[getElem!_pos dl t ht,et]at hv
   have ex:srt.getD i default=d'[i]!.1.1:=by
    rw[←aL3,getElem!_pos d' i oM]
    simp[List.getD,show i<d'.size by omega]
   rw[ex,hv.1,hv.2]
   obtain⟨u,q1,q2⟩:=L3 t j ht' hj
   have e4:(cells t)[j]! =u:=by
    rw[getElem!_pos _ _ (by simpa [cells]using hj)]
    simp[cells,q1]
   rw[e4];exact q2
  refine⟨.tuple #[],M,β,he,Nm.le_refl β,⟨[],rfl,oO⟩,Grow.refl _ _,aMQ,⟨?_,?_,?_,?_⟩,?_,?_,?_,?_,M5,?_,oO⟩
  ·intro x h
   rw[iT x h];exact⟨b,c,hx⟩
  ·intro x bx h
   obtain⟨rfl,rfl⟩:=Prod.mk.inj (List.mem_singleton.1 h)
   refine⟨b,c,_,hx,oN,h2,by simp[putCells,h3],h4,h5,fun i j hi hj=>?_⟩
   have fR:i*k+j<l.length*k:=by
    have:(i+1)*k≤l.length*k:=Nat.mul_le_mul_right k hi
    rw[Nat.add_mul]at this
    omega
   have hd:(i*k+j) / k=i:=by
    rw[Nat.mul_comm,Nat.mul_add_div RU,Nat.div_eq_of_lt hj,Nat.add_zero]
   have hm:(i*k+j)%k=j:=by
    rw[Nat.mul_comm,Nat.mul_add_mod,Nat.mod_eq_of_lt hj]
   refine⟨(d'[i]!.1.2)[j]!,?_,dU i j hi hj⟩
   have mS:i*k+j<cur.size:=by
    rw[h3]
    have:l.length*k≤c.1*k:=Nat.mul_le_mul_right k oM
    omega
   rw[IG (by simpa [hd']using fR) mS,get_flatK _ _ _ _ (by simpa [hd']using fR),hd,hm]
  ·intro x y b1 c1 c2 hx1 hy1 _ _
   rw[iT x hx1,iT y hy1]
  ·intro x b1 c1 h e o
   rw[iT x h]at e
   rw[hx]at e
   cases e
   exact qE.apart 1001 b c (List.mem_singleton.2 rfl) hx o
  ·intro x b1 c1 h e
   rw[iT x h]at e
   exact .inr ⟨1001,c1,e⟩
  ·rw[T4];rfl
  ·rw[T4];rfl
  ·rw[T4];rfl
  ·exact fun j hj hV=>aAM j hj (fun h=>hV 1001 c (by rw[h];exact hx))
 |[],h=>exact h.elim
 |[_],h=>exact h.2.elim
 |_::_::_::_,h=>exact h.2.2.elim
end Go.Ch
namespace Go.Pj
open Go Go.Ax Go.Ch Go.Proofs Go.Proofs.Tryz Go.Sort Go.Shelf
theorem YM(v0 v1 v2 v3 v4 v5 v6 v7 v8 v9 v10 v11 v12 u0 u1 u2 u3 u4 u5 u6 u7 u8 u9 u10 u11 u12:Value)(s t:ByteArray)(w:World):
  Calls prog 219 #[.agg #[v0,v1,v2,v3,v4,v5,v6,v7,v8,v9,v10,v11,v12,.string s],.agg #[u0,u1,u2,u3,u4,u5,u6,u7,u8,u9,u10,u11,u12,.string t]] w fun e w'=>
   e=.returned (.int .i64 (Lib.compareBytes s.data.toList t.data.toList))∧∃q os',w'=grow (w.drewN q) os':=by
 have hc:=fun w'=>Tryz.strings_Compare s t w'
 go_enter func219,Tryz.ntmps219
 go_wp2_with (first|(go_at_fn 220;refine(hc _).mono ?_;rintro e w' ⟨rfl,rfl⟩))
 refine(hc _).mono ?_
 rintro e w' ⟨rfl,rfl⟩
 go_wp2
 go_ret
 exact⟨rfl,0, #[.cells #[v0,v1,v2,v3,v4,v5,v6,v7,v8,v9,v10,v11,v12,.string s] 254 (0,0),.cells #[u0,u1,u2,u3,u4,u5,u6,u7,u8,u9,u10,u11,u12,.string t] 254 (0,0)],rfl⟩
theorem UT:∀a b:bG,Lib.compareBytes a b<0↔a<b
 |[],[]=>by simp[Lib.compareBytes]
 |[],b::rb=>by simp[Lib.compareBytes]
 |a::ra,[]=>by simp[Lib.compareBytes]
 |a::ra,b::rb=>by
  rw[Lib.compareBytes,List.cons_lt_cons_iff]
  by_cases h1:a<b
  ·simp[h1]
  ·by_cases h2:b<a
   ·have:a≠b:=fun e=>by subst e;exact h1 h2
    simp[h1,h2,this]
   ·have e:a=b:=UInt8.le_antisymm (UInt8.not_lt.1 h2) (UInt8.not_lt.1 h1)
    subst e
    simp[h1,UT ra rb]
theorem ltB(a b:bG):ltOf Lib.compareBytes a b=decide (a<b):=by
 unfold ltOf
 exact decide_eq_decide.2 (UT a b)
theorem aLA:SWO (ltOf Lib.compareBytes) where
 irrefl:=fun x=>by rw[ltB];simp
 trans:=fun x y z h1 h2=>by
  rw[ltB,decide_eq_true_eq]at*
  exact List.lt_trans h1 h2
 ntrans:=fun x y z h1 h2=>by
  rw[ltB,decide_eq_false_iff_not]at*
  rw[List.not_lt]at*
  exact List.le_trans h2 h1
def tT(t:bG):Fact:=(iJ (oI t [32],false)).1
def lH(t:bG)(j:Nat):DV:=if j=13 then dT t else R7 (tT t) j
def dN(l:List bG)(i:Nat)(j:Nat):DV:=lH (l.getD i []) j
theorem aAY(f:Fact):∀j,j<13→(R7 f j).one=true
 |0,_|1,_|2,_|3,_|4,_|5,_|6,_|7,_|8,_|9,_|10,_|11,_|12,_=>rfl
theorem U8(t:bG)(j:Nat)(h:j<14):(lH t j).one=true:=by
 unfold lH
 split
 ·rfl
 ·exact aAY _ _ oM
instance:Inhabited (GV lH 14):=⟨⟨([],[.int .i64 (tT []).kind,.int .i64 (tT []).seq,.int .i64 (tT []).aX,.int .i64 (tT []).month,.int .i64 (tT []).number,.int .i64 (tT []).aS,.int .i64 (tT []).over,.int .i64 (tT []).cls,.int .i64 (tT []).target,.string (tT []).aN,.string (tT []).cQ,.string (tT []).cE,.slice none 0 0,.string (bs [])]),by
 refine⟨rfl,fun v hv=>?_,fun j u hj hu=>?_⟩
 ·simp only [List.mem_cons,List.not_mem_nil,or_false]at hv
  rcases hv with rfl|rfl|rfl|rfl|rfl|rfl|rfl|rfl|rfl|rfl|rfl|rfl|rfl|rfl <;> rfl
 ·match j,hj,hu with
  |0,_,hu|1,_,hu|2,_,hu|3,_,hu|4,_,hu|5,_,hu|6,_,hu|7,_,hu|8,_,hu|9,_,hu|10,_,hu|11,_,hu|13,_,hu=>cases hu;rfl
  |12,_,hu=>cases hu⟩⟩
theorem U7(blk off n:Nat)(w:World):CmpLays prog 219 #[] (fun p:GV lH 14=>p.1.2) 14 (fun p q=>Lib.compareBytes p.1.1 q.1.1) blk off n w:=by
 intro m os dk _ x y
 generalize sortWorldK _ 14 w blk off m dk os=W
 obtain⟨⟨s,vs⟩,hx⟩:=x
 obtain⟨⟨t,us⟩,hy⟩:=y
 have e1:=hx.len
 have e2:=hy.len
 have s13:=hx.val 13 (.string (bs s)) oM rfl
 have t13:=hy.val 13 (.string (bs t)) oM rfl
 match vs,e1,us,e2,s13,t13 with
 |[v0,v1,v2,v3,v4,v5,v6,v7,v8,v9,v10,v11,v12,v13],_,[u0,u1,u2,u3,u4,u5,u6,u7,u8,u9,u10,u11,u12,u13],_,s13,t13=>
  obtain rfl:v13=.string (bs s):=Option.some.inj s13
  obtain rfl:u13=.string (bs t):=Option.some.inj t13
  have h:=YM v0 v1 v2 v3 v4 v5 v6 v7 v8 v9 v10 v11 v12 u0 u1 u2 u3 u4 u5 u6 u7 u8 u9 u10 u11 u12 (bs s) (bs t) W
  rw[BJ,BJ]at h
  exact h
def mG(l:List bG):List bG:=l.mergeSort fun x y=>decide (x≤y)
theorem vH(l:List bG)(l':List bG)(hp:l'.Perm l)(hs:l'.Pairwise (fun x y=>ltOf Lib.compareBytes y x=false)):l'=mG l:=by
 refine List.Perm.eq_of_pairwise (le:=fun x y=>x≤y) ?_ ?_ ?_ (hp.trans (List.mergeSort_perm _ _).symm)
 ·intro a b _ _ h1 h2
  exact List.le_antisymm h1 h2
 ·refine hs.imp fun {x y} h=>?_
  rw[ltB,decide_eq_false_iff_not]at h
  exact List.not_lt.1 h
 ·have:=List.pairwise_mergeSort (le:=fun x y:bG=>decide (x≤y)) (fun a b c h1 h2=>by
   simp only [decide_eq_true_eq]at*;exact List.le_trans h1 h2) (fun a b=>by
   simp only [Bool.or_eq_true,decide_eq_true_eq];exact List.le_total a b) l
  exact this.imp fun {x y} h=>by simpa using h
theorem aB7(l:List bG)(f0:Nat→Nat→DV)(UB:∀i j,i<l.length→j<14→aJ (f0 i j) (dN l i j))(hl:l.length≤1000000):
  bM prog 218 [.s (.own 1001),.s (.dQ 219 [])] [(1001,.row 254 l.length 14 f0)] (.t []) [(1001,.row 254 l.length 14 (dN (mG l)))]:=
 aHZ (α:=bG) (k:=14) Tryz.Z0 rfl call218 dC Tryz.isAgg254 Tryz.sizeOf254 lH (fun t j h=>U8 t j h) Lib.compareBytes aLA
  (enters_of func219 kR rfl) U7 l (mG l) (vH l) f0 UB hl
end Go.Pj
namespace Go.Pj
open Go Go.Ax Go.Ch Go.Proofs Go.Proofs.Tryz
abbrev C7(t:bG):List SV:=[.d (dI (tT t).kind),.d (dI (tT t).seq),.d (dI (tT t).aX),.d (dI (tT t).month),.d (dI (tT t).number),.d (dI (tT t).aS),.d (dI (tT t).over),.d (dI (tT t).cls),.d (dI (tT t).target),.d (dS (tT t).aN),.d (dS (tT t).cQ),.d (dS (tT t).cE),.d (cG (tT t).levels),.d (dT t)]
def W7(last g:Int)(t:bG):Bool:=decide ((tT t).seq<last)||decide ((tT t).seq<g)
abbrev QB(last:Int)(key:bG)(m:List (ByteArray×Int)):eO:=[(1002,.cells [.d (dI last)]),(1003,.cells [.mp 1005]),(1004,.cells [.d (dT key)]),(1005,.smap .int m)]
theorem aKH(t:bG)(last:Int)(key:bG)(m:List (ByteArray×Int)):bM prog 217 [.g (C7 t),.s (.ptr 1002 0),.s (.ptr 1003 0),.s (.ptr 1004 0)] (QB last key m) (vB (W7 last (jB m (bs key)) t)) (QB last key m):=by
 refine fZ (rc:=[]) (N:=20) func217 rfl rfl call217 aK mix rfl rfl rfl rfl (fun cx aA=>?_)
 repeat refine aR ?_
 exact⟨aC.refl _,rfl,rfl,rfl,rfl,oO⟩
def dA(p:bG→Bool):List bG→Nat
 |[]=>0
 |t::l=>bif p t then 0 else dA p l+1
def sZ(p:bG→Bool)(l:List bG):Int:=bif l.any p then(dA p l:Nat)else -1
abbrev Y3(l:List bG):Nat×jM:=(1001,.row 254 l.length 14 (dN l))
abbrev aD4:SV:=.dQ 217 [.ptr 1002 0,.ptr 1003 0,.ptr 1004 0]
theorem aAD{p:bG→Bool}:∀{l:List bG} {i:Nat},i<l.length→(∀k,k<i→p (l.getD k [])=false)→p (l.getD i [])=true→sZ p l=i
 |[],i,h,_,_=>by simp at h
 |t::l,0,_,_,h=>by
  have h:p t=true:=h
  simp[sZ,dA,h]
 |t::l,i+1,hi,hb,h=>by
  have h0:p t=false:=hb 0 oM
  have ih:=aAD (p:=p) (l:=l) (i:=i) (by simpa using hi) (fun k hk=>hb (k+1) oM) h
  unfold sZ at ih ⊢
  rw[List.any_cons,h0,Bool.false_or]
  cases ha:l.any p with
  |false=>rw[ha]at ih;simp at ih
  |true=>
   rw[ha]at ih
   simp only [cond_true,dA,h0,cond_false]at ih ⊢
   omega
theorem aAC{p:bG→Bool}{l:List bG}(h:∀k,k<l.length→p (l.getD k [])=false):sZ p l= -1:=by
 unfold sZ
 have:l.any p=false:=by
  rw[List.any_eq_false]
  intro x hx
  obtain⟨k,hk,e⟩:=List.mem_iff_getElem.1 hx
  have:=h k hk
  rw[bA hk,e]at this
  simpa using this
 rw[this];rfl
theorem X0(l:List bG)(last:Int)(key:bG)(m:List (ByteArray×Int))(hl:l.length≤1000000):
  bM prog 267 [.s (.own 1001),.s aD4] (Y3 l::QB last key m) (vI (sZ (W7 last (jB m (bs key))) l)) (Y3 l::QB last key m):=by
 generalize hp:W7 last (jB m (bs key))=p
 refine fZ (rc:=[217]) (N:=19) func267 rfl rfl call267 aK mix rfl rfl rfl rfl (fun cx aA=>?_)
 refine AW.cZ (fun i:Nat=>⟨[(0,.s (.own 1001)),(1,.s aD4),(7,vI l.length),(8,vI i)],(1001,some (.row 254 l.length 14 (dN l))):: [(1002,some (.cells [.d (dI last)])),(1003,some (.cells [.mp 1005])),(1004,some (.cells [.d (dT key)])),(1005,some (.smap .int m))]⟩)
  (fun i=>i≤l.length∧∀k,k<i→p (l.getD k [])=false) (fun i=>l.length - i) 0 ⟨Nat.zero_le _,fun k hk=>by omega⟩ ?_ ?_
 ·exact aP.of [] (by rw[aA];rfl) rfl ⟨bQ,bQ,bQ,bQ,bQ,oO⟩ ⟨qZ,qZ,qZ,qZ,oO⟩
 ·rintro i ⟨hi,hj⟩
  refine ex.sound (rc:=[217]) aK mix aA _ ?_
  refine aI (fun h=>?_) (fun h=>?_)
  ·have h:(i:Int)<l.length:=cB h
   refine oi ⟨oM,oM⟩ ?_
   refine oi (show i<l.length by omega) ?_
   have hc:=aKH (l.getD i []) last key m
   rw[hp]at hc
   refine⟨[],_,_,_,_,hc,rfl,⟨rfl,rfl,rfl,rfl,oO⟩,rfl,?_⟩
   refine aI (fun g=>?_) (fun g=>?_)
   ·have g:p (l.getD i [])=true:=g
    refine⟨aC.of_eq ?_,rfl,rfl,rfl,rfl,rfl,oO⟩
    rw[aAD oM hj g]
    rfl
   ·have g:p (l.getD i [])=false:=g
    have ew:aU ((i:Int)+1)=((i+1:Nat):Int):=aG oM oM
    refine⟨i+1,⟨oM,fun k hk=>?_⟩,oM,?_⟩
    ·rcases Nat.lt_or_ge k i with h1|h1
     ·exact hj k h1
     ·obtain rfl:k=i:=oM
      exact g
    ·exact aP.of [] (by rw[aA];rfl) rfl ⟨bQ,bQ,bQ,bQ,bQ,oO⟩ ⟨qZ,qZ,qZ,⟨rfl,aM.int ew⟩,oO⟩
  ·have h:¬(i:Int)<l.length:=cD h
   obtain rfl:i=l.length:=oM
   refine⟨aC.of_eq ?_,rfl,rfl,rfl,rfl,rfl,oO⟩
   rw[aAC hj]
   rfl
end Go.Pj
namespace Go.Ax
open Go.RowKit
section
variable{P:Program}{cx:Cx}{N:Nat}{σ:St}
theorem H8(z:Value)(n:Nat):(Builtin.zeroCells z.cells n).toList.length=n*z.cells.size:=by
 simp[Builtin.zeroCells]
theorem AW.gS{b k:Nat}(h:k≠b):∀(vs:List Value) (o:Nat) (w:World),(w.setCells b o vs).heap[k]? =w.heap[k]?
 |[],_,_=>rfl
 |v::r,o,w=>by
  rw[World.setCells,AW.gS h r]
  simp[World.setCell,Array.getElem?_modify,Ne.symm h]
theorem AW.size_setCells{b:Nat}:∀(vs:List Value) (o:Nat) (w:World),(w.setCells b o vs).heap.size=w.heap.size
 |[],_,_=>rfl
 |v::r,o,w=>by
  rw[World.setCells,AW.size_setCells r]
  simp[World.setCell]
theorem AW.jR{b:Nat}:∀(vs:List Value) (o:Nat) (w:World),(w.setCells b o vs).os=w.os∧(w.setCells b o vs).tape=w.tape∧(w.setCells b o vs).output=w.output
 |[],_,_=>⟨rfl,rfl,rfl⟩
 |v::r,o,w=>by
  rw[World.setCells]
  obtain⟨h1,h2,h3⟩:=AW.jR (b:=b) r (o+1) (w.setCell ⟨b,o,none⟩ v)
  exact⟨h1,h2,h3⟩
theorem nE.clear{e s t b n lo:Nat}{z:Value}{f:Nat→Nat→DV}{x:Operand}{o:Oper}{K:St→Hid→Prop}(ho:o.op=.call {callee:=.builtin .clear,args:= #[x],argTypes:= #[t]})(hd:o.dst=none)
  (hx:ev σ x=.s (.jQ b s lo (n - lo))) (CP:lo≤n) (hb:aH σ.box b=some (some (.row e n s f))) (ht:P.underlying t=some (.slice e)) (hv:∀w,(zeroValue e).run P w=.ok z w) (hz:z.cells.size=s) (h1:∀v∈z.cells.toList,v.oneCell'=true)
  (hK:K ⟨σ.env,(b,some (.row e n s fun i j=>if i<lo then f i j else .bC))::σ.box⟩ Hid.none):nE P cx N o σ Hid.none K:=by
 refine⟨fun c hc=>(by rw[ho]at hc;cases hc),fun M β a w i hi Q=>?_⟩
 obtain⟨b',c,cur,hβ,hc1,H7,hc3,hc4,hc5,hc6⟩:=i.box b _ hb
 obtain⟨b2,c2,ov,hβ',ex,hov,hle,uN⟩:(SV.jQ b s lo (n - lo)).a7 M β (a.eval x):=by have:=ev.rep i x;rw[hx]at this;exact this
 rw[hβ]at hβ';cases hβ'
 unfold Oper.wp
 by_cases h0:n - lo=0
 ·have aV:(execOp a.eval o).run P w=.ok (.value (.tuple #[])) w:=by
   rw[h0]at ex
   simp[execOp,ho,ex,resolve,invoke,builtin,Builtin.clear_,run_underlying ht]
  rw[aV,Oper.upon_value,hd]
  have hw:=i.write (bc':=.row e n s fun i j=>if i<lo then f i j else .bC) hb hβ (w':=w) rfl (fun _ _=>rfl) rfl rfl rfl
   ⟨b',c,cur,hβ,hc1,H7,hc3,hc4,hc5,fun k j hk hj=>by
    obtain⟨u,hu,hr⟩:=hc6 k j hk hj
    refine⟨u,hu,?_⟩
    show DV.a7 M (if k<lo then f k j else .bC) u
    rw[if_pos oM];exact hr⟩
  exact⟨_,M,β,_,hK,hw.1,lQ.none,Grow.refl _ _,hw.2⟩
 ·have hov:=hov oM
  let Z:=(Builtin.zeroCells z.cells (n - lo)).toList
  have hZl:Z.length=(n - lo)*s:=by rw[←hz];exact H8 z _
  have hZ1:∀v∈Z,v.oneCell'=true:=by
   intro v T6
   have:v∈z.cells.toList:=by
    simp only [Z,Builtin.zeroCells]at T6
    rw[Array.toList_map,List.mem_map]at T6
    obtain⟨k,hk,rfl⟩:=T6
    have hk:k<(n - lo)*z.cells.size:=by simpa using hk
    have hs:0<z.cells.size:=by
     rcases Nat.eq_zero_or_pos z.cells.size with h|h
     ·rw[h]at hk;simp at hk
     ·exact h
    have hm:k%z.cells.size<z.cells.size:=Nat.mod_lt _ hs
    rw[getElem!_pos z.cells _ hm]
    simp
   exact h1 v this
  have iT:(n - lo)*s+lo*s≤cur.size:=by
   rw[hc3,←Nat.add_mul]
   exact Nat.mul_le_mul_right s oM
  have jE:=run_storeCells_cells (P:=P) b' ov Z 0 w (fun j hj=>by
   simp only [World.cell?,hc1]
   simp
   rw[hov];omega) (fun j hj=>by simp[World.frozen?,hc1]) hZ1
  simp only [Nat.add_zero]at jE
  have aV:(execOp a.eval o).run P w=.ok (.value (.tuple #[])) (w.setCells b' ov Z):=by
   obtain⟨m,hm⟩:∃m,n - lo=m+1:=⟨n - lo - 1,oM⟩
   have aL2:(storeCells ⟨b',ov,none⟩ (Builtin.zeroCells z.cells (m+1)).toList).run P w=.ok () (w.setCells b' ov Z):=by rw[←hm];exact jE
   rw[hm]at ex
   simp[execOp,ho,ex,resolve,invoke,builtin,Builtin.clear_,run_underlying ht,hv,aL2]
  rw[aV,Oper.upon_value,hd]
  have oN:w.rowIs b' e cur.size (fun k=>(cur[k]?).getD undef):=⟨cur,hc1,rfl,fun k hk=>by
   have:=Array.getElem?_eq_getElem (xs:=cur) (i:=k) hk
   simp[this]⟩
  obtain⟨cu,q1,q2,q3⟩:=Go.rowIs_setCells Z ov _ _ oN
  obtain⟨o1,o2,o3⟩:=AW.jR (b:=b') Z ov w
  have hw:=i.write (bc':=.row e n s fun i j=>if i<lo then f i j else .bC) hb hβ (w':=w.setCells b' ov Z) (AW.size_setCells Z ov w) (fun k hk=>AW.gS hk Z ov w) o1 o2 o3
   ⟨b',c,cu,hβ,q1,H7,by rw[q2,hc3],hc4,hc5,fun k j hk hj=>by
    have fR:k*s+j<cur.size:=by
     rw[hc3]
     have:(k+1)*s≤c.1*s:=Nat.mul_le_mul_right s oM
     rw[Nat.add_mul]at this
     omega
    refine⟨_,q3 _ fR,?_⟩
    show DV.a7 M (if k<lo then f k j else .bC) _
    by_cases J8:k<lo
    ·rw[if_pos J8]
     have:k*s+j<lo*s:=by
      have:(k+1)*s≤lo*s:=Nat.mul_le_mul_right s J8
      rw[Nat.add_mul]at this
      omega
     have WJ:¬(ov≤k*s+j∧k*s+j<ov+Z.length):=by rw[hov];omega
     simp only [if_neg WJ]
     obtain⟨u,hu,hr⟩:=hc6 k j hk hj
     rw[hu];exact hr
    ·rw[if_neg J8];trivial⟩
  exact⟨_,M,β,_,hK,hw.1,lQ.none,Grow.refl _ _,hw.2⟩
end
end Go.Ax
--K16
namespace Go.Ax
theorem aP.EY{cx:Cx}{N:Nat}{σ:St}{e n s:Nat}{f:Nat→Nat→DV}(t x:Nat)(ht:eZ σ.env t=.s (.own x))(hb:aH σ.box x=some (some (.row e n s f))):
  aP cx N σ ⟨(t,.s (.jQ x s 0 n))::σ.env,σ.box⟩:=by
 intro M β a w i
 have r:=i.env t
 rw[ht]at r
 obtain⟨b,c,hx,hv,hc⟩:=r
 obtain⟨b',c',cur,O1,h1,h2,h3,h4,h5,h6⟩:=i.box x _ hb
 rw[hx]at O1;cases O1
 refine⟨β,i.defers,i.tmps,i.heap,?_,i.mem,i.keys,i.box,i.inj,i.apart,i.low,i.ref⟩
 intro u
 show(eZ ((t,_)::σ.env) u).a7 M β _
 rw[gG]
 by_cases hu:t=u
 ·subst hu
  rw[if_pos rfl]
  exact⟨b,c,0,hx,by rw[hv,h2];rfl,fun _=>(Nat.zero_mul s).symm,oM,hc⟩
 ·rw[if_neg hu];exact i.env u
theorem pC{x:Nat}{y:Option jM}:∀{l:aO},aH l x=some y→x∈cJ l
 |[],h=>by cases h
 |(k,v)::r,h=>by
  rw[aL]at h
  by_cases hk:k=x
  ·subst hk;simp[cJ]
  ·rw[if_neg hk]at h
   have:=pC h
   simp only [cJ]at this ⊢
   simp[this]
end Go.Ax
namespace Go.Pj
open Go Go.Ax Go.Ch Go.Proofs Go.Proofs.Tryz
set_option maxRecDepth 100000
set_option maxHeartbeats 1000000
def oW(k:List bG)(i j:Nat):DV:=if i<k.length then dN k i j else .bC
def dH(p:bG→Bool)(l:List bG):List bG:=l.filter fun t=> !p t
def lI(p:bG→Bool)(l:List bG)(j:Nat):List bG:=dH p (l.take j)++l.drop (dH p (l.take j)).length
theorem vD{p:bG→Bool}{l:List bG}{j k:Nat}(h:k<(dH p (l.take j)).length):(lI p l j).getD k []=(dH p (l.take j)).getD k []:=by
 unfold lI
 simp only [List.getD_eq_getElem?_getD,List.getElem?_append_left h]
theorem zP{p:bG→Bool}{l:List bG}{j k:Nat}(h:(dH p (l.take j)).length≤k):(lI p l j).getD k []=l.getD k []:=by
 unfold lI
 simp only [List.getD_eq_getElem?_getD,List.getElem?_append_right h,List.getElem?_drop]
 rw[show(dH p (l.take j)).length+(k - (dH p (l.take j)).length)=k by omega]
theorem RF{p:bG→Bool}{l:List bG}{j:Nat}(h:j<l.length):dH p (l.take (j+1))=dH p (l.take j)++(bif p (l.getD j [])then []else [l.getD j []]):=by
 unfold dH
 rw[List.take_add_one,List.getElem?_eq_getElem h,bA h,List.filter_append]
 congr 1
 cases hp:p l[j] <;> simp[hp]
theorem RG{p:bG→Bool}{l:List bG}(h:l.any p=false):dH p l=l:=by
 unfold dH
 rw[List.filter_eq_self]
 intro a ha
 rw[List.any_eq_false]at h
 simpa using h a ha
theorem T3{p:bG→Bool}:∀{l:List bG},l.any p=true→dA p l<l.length∧dH p (l.take (dA p l+1))=l.take (dA p l)
 |[],h=>by cases h
 |t::l,h=>by
  cases h0:p t with
  |true=>simp[dA,h0,dH]
  |false=>
   rw[List.any_cons,h0,Bool.false_or]at h
   obtain⟨h1,h2⟩:=T3 h
   simp only [dA,h0,cond_false,List.length_cons]
   refine⟨oM,?_⟩
   rw[List.take_succ_cons,List.take_succ_cons,←h2]
   simp[dH,h0]
theorem C9(f:Nat→Nat→DV)(i:Nat)(t:bG):∀c,c<14→fK f i 0 (C7 t) i c=lH t c
 |0,_|1,_|2,_|3,_|4,_|5,_|6,_|7,_|8,_|9,_|10,_|11,_|12,_|13,_=>if_pos rfl
theorem S6(l:List bG)(last:Int)(key:bG)(m:List (ByteArray×Int))(hl:l.length≤1000000)(p:bG→Bool)(hp:W7 last (jB m (bs key))=p):
  bM prog 216 [.s (.own 1001),.s aD4] (Y3 l::QB last key m) (.s (.jQ 1001 14 0 (dH p l).length)) ((1001,.row 254 l.length 14 (oW (dH p l)))::QB last key m):=by
 have aAQ:=X0 l last key m hl
 rw[hp]at aAQ
 cases ha:l.any p with
 |false=>
  have e1:sZ p l= -1:=by unfold sZ;rw[ha];rfl
  have e2:=RG ha
  rw[e1]at aAQ
  rw[e2]
  refine bM.le (b1:=Y3 l::QB last key m) ?_ aM.rfl ⟨rfl,aQ.row rfl fun i j hi hj=>aJ.of_eq (by unfold oW;rw[if_pos hi]),rfl,aQ.rfl,rfl,aQ.rfl,rfl,aQ.rfl,rfl,aQ.rfl,oO⟩
  refine gT func216 rfl rfl call216 aK rfl rfl rfl rfl (fun cx aA=>?_)
  refine sX aA ?_
  refine AW.seq (ex.sound (rc:=[267]) aK mix aA _ ?_)
  refine⟨[],_,_,_,_,aAQ,rfl,⟨rfl,rfl,rfl,rfl,rfl,oO⟩,rfl,?_⟩
  refine AW.seq (sX aA ?_)
  refine AW.cond ?_
  refine aI (fun _=>?_) (fun g=>absurd g dC)
  refine sX aA ?_
  refine AW.fU (aP.EY (e:=254) (n:=l.length) (s:=14) (f:=dN l) 4 1001 rfl rfl) ?_
  refine eX aA ?_
  exact⟨aM.rfl,rfl,rfl,rfl,rfl,rfl,oO⟩
 |true=>
  have e1:sZ p l=(dA p l:Nat):=by unfold sZ;rw[ha];rfl
  obtain⟨RV,RU⟩:=T3 ha
  rw[e1]at aAQ
  refine bM.le (b1:=(1001,.row 254 l.length 14 (fun i j=>if i<(dH p l).length then dN (lI p l l.length) i j else .bC))::QB last key m) ?_ aM.rfl ⟨rfl,aQ.row rfl fun i j hi hj=>aJ.of_eq ?_,rfl,aQ.rfl,rfl,aQ.rfl,rfl,aQ.rfl,rfl,aQ.rfl,oO⟩
  rotate_left
  ·show(if i<(dH p l).length then lH ((lI p l l.length).getD i []) j else .bC)=if i<(dH p l).length then lH ((dH p l).getD i []) j else .bC
   split
   ·rename_i h
    rw[vD (by rw[List.take_length];exact h),List.take_length]
   ·rfl
  refine gT func216 rfl rfl call216 aK rfl rfl rfl rfl (fun cx aA=>?_)
  refine sX aA ?_
  refine AW.seq (ex.sound (rc:=[267]) aK mix aA _ ?_)
  refine⟨[],_,_,_,_,aAQ,rfl,⟨rfl,rfl,rfl,rfl,rfl,oO⟩,rfl,?_⟩
  refine AW.seq (sX aA ?_)
  refine AW.cond ?_
  refine aI (fun g=>?_) (fun _=>?_)
  ·have g:(((dA p l:Nat):Int)== -1)=true:=g
   simp at g
  refine eX aA ?_
  refine AW.seq (sX aA ?_)
  refine AW.block ?_
  refine AW.cZ (fun j:Nat=>⟨[(0,.s (.own 1001)),(1,.s aD4),(5,vI ((dH p (l.take j)).length:Nat)),(6,vI j)],(1001,some (.row 254 l.length 14 (dN (lI p l j)))):: [(1002,some (.cells [.d (dI last)])),(1003,some (.cells [.mp 1005])),(1004,some (.cells [.d (dT key)])),(1005,some (.smap .int m))]⟩)
   (fun j=>j≤l.length∧(dH p (l.take j)).length<j) (fun j=>l.length - j) (dA p l+1) ⟨oM,by rw[RU,List.length_take];omega⟩ ?_ ?_
  ·refine aP.of [] (by rw[aA];rfl) rfl ⟨⟨rfl,aQ.row rfl fun i j hi hj=>aJ.of_eq ?_⟩,bQ,bQ,bQ,bQ,oO⟩ ⟨qZ,qZ,⟨rfl,aM.int ?_⟩,⟨rfl,aM.int ?_⟩,oO⟩
   ·show lH (l.getD i []) j=lH ((lI p l (dA p l+1)).getD i []) j
    by_cases h1:i<dA p l
    ·rw[vD (by rw[RU,List.length_take];omega),RU]
     simp only [List.getD_eq_getElem?_getD,List.getElem?_take_of_lt h1]
    ·rw[zP (by rw[RU,List.length_take];omega)]
   ·rw[RU,List.length_take];congr 1;omega
   ·exact aG oM oM
  ·rintro j ⟨hj,fR⟩
   refine sX aA ?_
   refine aI (fun h=>?_) (fun h=>?_)
   ·have h:(j:Int)<l.length:=cB h
    have xS:j<l.length:=oM
    have fD:=RF (p:=p) xS
    have hLj:(lI p l j).getD j []=l.getD j []:=zP oM
    have ew:aU ((j:Int)+1)=((j+1:Nat):Int):=aG oM oM
    have hc:=aKH ((lI p l j).getD j []) last key m
    rw[hp,hLj]at hc
    refine ex.sound (rc:=[217]) aK mix aA _ ?_
    refine oi ⟨oM,oM⟩ ?_
    refine oi (show j<l.length by omega) ?_
    refine⟨[],_,_,_,_,hc,by rw[←hLj];rfl,⟨rfl,rfl,rfl,rfl,oO⟩,rfl,?_⟩
    refine aI (fun g=>?_) (fun g=>?_)
    ·have g:(!p (l.getD j []))=true:=g
     have g:p (l.getD j [])=false:=by simpa using g
     rw[g]at fD
     have hlen:(dH p (l.take (j+1))).length=(dH p (l.take j)).length+1:=by rw[fD];simp
     refine oi (show(0:Int)≤((dH p (l.take j)).length:Nat)∧(((dH p (l.take j)).length:Nat):Int)<l.length by omega) ?_
     refine ob (show(((dH p (l.take j)).length:Nat):Int).toNat<l.length by omega) ?_
     refine⟨j+1,⟨oM,oM⟩,oM,?_⟩
     refine aP.of [] (by rw[aA];rfl) rfl ⟨⟨rfl,aQ.row rfl fun k c hk o7=>aJ.of_eq ?_⟩,bQ,bQ,bQ,bQ,oO⟩ ⟨qZ,qZ,⟨rfl,aM.int ?_⟩,⟨rfl,aM.int ew⟩,oO⟩
     ·show fK (dN (lI p l j)) (((dH p (l.take j)).length:Nat):Int).toNat 0 (C7 ((lI p l j).getD j [])) k c=lH ((lI p l (j+1)).getD k []) c
      rw[hLj,Int.toNat_natCast]
      by_cases M6:k=(dH p (l.take j)).length
      ·subst M6
       rw[C9 _ _ _ _ o7,vD oM,fD]
       congr 1
       simp
      ·rw[show fK (dN (lI p l j)) (dH p (l.take j)).length 0 (C7 (l.getD j [])) k c=dN (lI p l j) k c from if_neg M6]
       show lH ((lI p l j).getD k []) c=_
       congr 1
       by_cases X9:k<(dH p (l.take j)).length
       ·rw[vD X9,vD oM,fD]
        simp only [cond_false,List.getD_eq_getElem?_getD,List.getElem?_append_left X9]
       ·rw[zP oM,zP oM]
     ·rw[hlen]
      exact aG oM oM
    ·have g:(!p (l.getD j []))=false:=g
     have g:p (l.getD j [])=true:=by simpa using g
     rw[g]at fD
     have fD:dH p (l.take (j+1))=dH p (l.take j):=by rw[fD];simp
     refine⟨j+1,⟨oM,by rw[fD];omega⟩,oM,?_⟩
     have e9:lI p l (j+1)=lI p l j:=by unfold lI;rw[fD]
     rw[e9,fD]
     exact aP.of [] (by rw[aA];rfl) rfl ⟨bQ,bQ,bQ,bQ,bQ,oO⟩ ⟨qZ,qZ,qZ,⟨rfl,aM.int ew⟩,oO⟩
   ·have h:¬(j:Int)<l.length:=cD h
    obtain rfl:j=l.length:=oM
    rw[List.take_length]at fR ⊢
    have hk9:(dH p l).length≤l.length:=oM
    refine AW.fU (σ':=⟨[(0,.s (.own 1001)),(5,vI ((dH p l).length:Nat))],[(1001,some (.row 254 l.length 14 (dN (lI p l l.length)))),(1002,some (.cells [.d (dI last)])),(1003,some (.cells [.mp 1005])),(1004,some (.cells [.d (dT key)])),(1005,some (.smap .int m))]⟩) ?_ ?_
    ·exact aP.of [] (by rw[aA];rfl) rfl ⟨bQ,bQ,bQ,bQ,bQ,oO⟩ ⟨qZ,qZ,oO⟩
    refine AW.seq (AW.CI (bI.region (bD.ops (T:=tab) (rc:=[]) (ks:=[1001,1002,1003,1004,1005]) aK 3 ?_ (fun x bc h=>pC h) (fun x h=>by rw[aA]at h;exact h) ?_)))
    ·intro x hx
     simp only [List.mem_cons,List.not_mem_nil,or_false]at hx
     rcases hx with rfl|rfl|rfl|rfl|rfl <;> exact⟨_,rfl,rfl⟩
    refine oi (show(0:Int)≤((dH p l).length:Nat)∧(((dH p l).length:Nat):Int)≤l.length∧(l.length:Int)≤l.length by omega) ?_
    refine bD.op rfl (nE.clear (e:=254) (s:=14) (b:=1001) (f:=dN (lI p l l.length)) (n:=l.length) (lo:=(dH p l).length) rfl rfl ?_ hk9 rfl underlying255 zeroValue254 rfl (fun v hv=>List.all_eq_true.1 (show _=true by rfl) v hv) (bD.nil ?_))
    ·show AV.s (.jQ 1001 14 (((dH p l).length:Nat):Int).toNat ((l.length:Int).toNat - (((dH p l).length:Nat):Int).toNat))=_
     rw[Int.toNat_natCast,Int.toNat_natCast]
    refine eX aA ?_
    refine oi (show(0:Int)≤0∧(0:Int)≤((dH p l).length:Nat)∧(((dH p l).length:Nat):Int)≤l.length by omega) ?_
    refine⟨aM.of_eq ?_,rfl,rfl,rfl,rfl,rfl,oO⟩
    show AV.s (.jQ 1001 14 (0:Int).toNat ((((dH p l).length:Nat):Int).toNat - (0:Int).toNat))=_
    rw[Int.toNat_natCast]
    rfl
end Go.Pj
namespace Go.Pj
open Go Go.Ax Go.Ch Go.Proofs Go.Proofs.Tryz
theorem eqC(t u:bG):aF prog 222 [.g (C7 t),.g (C7 u)] (vB (t==u)):=by
 refine eP func222 rfl rfl call222 rfl rfl fun cx aA=>?_
 refine aC.of_eq (congrArg vB ?_)
 show((bs t).toList==(bs u).toList)=(t==u)
 rw[mE,mE]
def qd(l:List bG)(i:Nat):Bool:=i==0|| !(l.getD i []==l.getD (i - 1) [])
def y5(l:List bG)(n:Nat):List bG:=(List.range n).filterMap fun i=>bif qd l i then some (l.getD i [])else none
theorem wO(l:List bG)(n:Nat):y5 l (n+1)=y5 l n++(bif qd l n then [l.getD n []]else []):=by
 unfold y5
 rw[cR]
 cases qd l n <;> rfl
theorem aDZ(l:List bG)(n:Nat):(y5 l n).length≤n:=by
 unfold y5
 exact Nat.le_trans (List.length_filterMap_le _ _) sM
theorem E7{l:List bG}:∀{n:Nat},n≤l.length→(∀k,k<n→qd l k=true)→y5 l n=l.take n
 |0,_,_=>rfl
 |n+1,h,hq=>by
  rw[wO,E7 (n:=n) oM (fun k hk=>hq k oM),hq n oM,List.take_add_one,List.getElem?_eq_getElem oM,bA (show n<l.length by omega)]
  rfl
def jP(l:List bG)(j:Nat):List bG:=y5 l j++l.drop (y5 l j).length
theorem vE{l:List bG}{j k:Nat}(h:k<(y5 l j).length):(jP l j).getD k []=(y5 l j).getD k []:=by
 unfold jP
 simp only [List.getD_eq_getElem?_getD,List.getElem?_append_left h]
theorem vF{l:List bG}{j k:Nat}(h:(y5 l j).length≤k):(jP l j).getD k []=l.getD k []:=by
 unfold jP
 simp only [List.getD_eq_getElem?_getD,List.getElem?_append_right h,List.getElem?_drop]
 rw[show(y5 l j).length+(k - (y5 l j).length)=k by omega]
def uY(l:List bG):List bG:=y5 l l.length
theorem QL(l:List bG)(hl:l.length≤1000000):
  bM prog 221 [.s (.own 1001),.s (.dQ 222 [])] [Y3 l] (.s (.jQ 1001 14 0 (uY l).length)) [(1001,.row 254 l.length 14 (oW (uY l)))]:=by
 refine gT func221 rfl rfl call221 aK rfl rfl rfl rfl (fun cx aA=>?_)
 refine sX aA ?_
 refine AW.seq (sX aA ?_)
 refine AW.cond ?_
 refine aI (fun g=>?_) (fun g=>?_)
 ·have g:((l.length:Nat):Int)<2:=cB g
  have e:uY l=l:=by
   unfold uY
   rw[E7 (Nat.le_refl _) (fun k hk=>?_),List.take_length]
   obtain rfl:k=0:=oM
   rfl
  refine sX aA ?_
  refine AW.fU (σ':=⟨[(4,.s (.own 1001))],[(1001,some (.row 254 l.length 14 (oW (uY l))))]⟩) (aP.of [] (by rw[aA];rfl) rfl ⟨⟨rfl,aQ.row rfl fun i j hi hj=>aJ.of_eq (by unfold oW;rw[e,if_pos hi])⟩,oO⟩ ⟨qZ,oO⟩) ?_
  refine AW.fU (aP.EY (e:=254) (n:=l.length) (s:=14) (f:=oW (uY l)) 4 1001 rfl rfl) ?_
  refine eX aA ?_
  exact⟨aM.of_eq (by rw[e];rfl),rfl,oO⟩
 have g:¬((l.length:Nat):Int)<2:=cD g
 have n2:2≤l.length:=oM
 refine eX aA ?_
 refine AW.seq (sX aA ?_)
 refine AW.block ?_
 refine AW.cZ (fun i:Nat=>⟨[(0,.s (.own 1001)),(1,.s (.dQ 222 [])),(5,vI i)],[(1001,some (.row 254 l.length 14 (dN l)))]⟩)
  (fun i=>(1≤i∧i≤l.length)∧∀k,k<i→qd l k=true) (fun i=>l.length - i) 1 ⟨⟨Nat.le_refl _,oM⟩,fun k hk=>by
   obtain rfl:k=0:=oM
   rfl⟩ ?_ ?_
 ·exact aP.of [] (by rw[aA];rfl) rfl ⟨bQ,oO⟩ ⟨qZ,qZ,qZ,oO⟩
 ·rintro i ⟨⟨M7,hi⟩,hq⟩
  refine sX aA ?_
  refine aI (fun h=>?_) (fun h=>?_)
  ·have h:(i:Int)<l.length:=cB h
   have bN:i<l.length:=oM
   have ew:aU ((i:Int) - 1)=((i - 1:Nat):Int):=by
    rw[aG oM oM];omega
   have ew2:(aU ((i:Int) - 1)).toNat=i - 1:=by rw[ew];omega
   refine AW.seq (AW.block (sX aA ?_))
   refine oi ⟨oM,oM⟩ ?_
   refine oi (show i<l.length by omega) ?_
   refine oi (show 0≤aU ((i:Int) - 1)∧aU ((i:Int) - 1)<l.length by rw[ew];omega) ?_
   refine oi (show(aU ((i:Int) - 1)).toNat<l.length by rw[ew2];omega) ?_
   refine aB (eqC (l.getD i []) (l.getD (aU ((i:Int) - 1)).toNat [])) ?_
   refine aD ?_
   refine AW.cond ?_
   refine aI (fun g2=>?_) (fun g2=>?_)
   ·have g2:(l.getD i []==l.getD (aU ((i:Int) - 1)).toNat [])=true:=g2
    rw[ew2]at g2
    have hqi:qd l i=false:=by
     unfold qd
     rw[g2,show(i==0)=false by simp;omega];rfl
    have hd0:y5 l i=l.take i:=E7 hi hq
    have hd1:y5 l (i+1)=l.take i:=by rw[wO,hqi,hd0];simp
    refine sX aA ?_
    refine oi (show(0:Int)≤i∧(i:Int)≤l.length∧(l.length:Int)≤l.length by omega) ?_
    refine AW.seq (sX aA ?_)
    refine AW.block ?_
    refine AW.cZ (fun q:Nat=>⟨[(0,.s (.own 1001)),(1,.s (.dQ 222 [])),(5,vI ((y5 l (i+q)).length:Nat)),(6,.s (.jQ 1001 14 i (l.length - i))),(7,vI q)],[(1001,some (.row 254 l.length 14 (dN (jP l (i+q)))))]⟩)
     (fun q=>1≤q∧i+q≤l.length∧(y5 l (i+q)).length<i+q) (fun q=>l.length - q) 1 ⟨Nat.le_refl _,oM,by rw[hd1,List.length_take];omega⟩ ?_ ?_
    ·refine aP.of [] (by rw[aA];rfl) rfl ⟨⟨rfl,aQ.row rfl fun k c hk hc=>aJ.of_eq ?_⟩,oO⟩ ⟨qZ,qZ,⟨rfl,aM.int ?_⟩,qZ,qZ,oO⟩
     ·show lH (l.getD k []) c=lH ((jP l (i+1)).getD k []) c
      by_cases h1:k<i
      ·rw[vE (by rw[hd1,List.length_take];omega),hd1]
       simp only [List.getD_eq_getElem?_getD,List.getElem?_take_of_lt h1]
      ·rw[vF (by rw[hd1,List.length_take];omega)]
     ·rw[hd1,List.length_take];omega
    ·rintro q ⟨hq1,hq2,hq3⟩
     refine sX aA ?_
     refine aI (fun h3=>?_) (fun h3=>?_)
     ·have h3:(q:Int)<((l.length - i:Nat):Int):=cB h3
      have hj:i+q<l.length:=oM
      have eq1:aU ((q:Int) - 1)=((q - 1:Nat):Int):=by
       rw[aG oM oM];omega
      have eq2:i+(aU ((q:Int) - 1)).toNat=i+q - 1:=by rw[eq1];omega
      have ew3:aU ((q:Int)+1)=((q+1:Nat):Int):=aG oM oM
      have a1:(jP l (i+q)).getD (i+q) []=l.getD (i+q) []:=vF oM
      have a2:(jP l (i+q)).getD (i+q - 1) []=l.getD (i+q - 1) []:=vF oM
      have hs:=wO l (i+q)
      refine AW.seq (AW.block (sX aA ?_))
      refine oi ⟨oM,oM⟩ ?_
      refine oi (show i+(q:Int).toNat<l.length by omega) ?_
      refine oi (show 0≤aU ((q:Int) - 1)∧aU ((q:Int) - 1)<((l.length - i:Nat):Int) by rw[eq1];omega) ?_
      refine oi (show i+(aU ((q:Int) - 1)).toNat<l.length by omega) ?_
      refine aB (eqC ((jP l (i+q)).getD (i+(q:Int).toNat) []) ((jP l (i+q)).getD (i+(aU ((q:Int) - 1)).toNat) [])) ?_
      refine aD ?_
      refine AW.cond ?_
      refine aI (fun g4=>?_) (fun g4=>?_)
      ·have g4:(!((jP l (i+q)).getD (i+(q:Int).toNat) []==(jP l (i+q)).getD (i+(aU ((q:Int) - 1)).toNat) []))=true:=g4
       rw[Int.toNat_natCast,eq2,a1,a2]at g4
       have hq0:qd l (i+q)=true:=by
        unfold qd
        rw[g4,Bool.or_true]
       rw[hq0]at hs
       have hlen:(y5 l (i+q+1)).length=(y5 l (i+q)).length+1:=by rw[hs];simp
       refine eX aA ?_
       refine oi ⟨oM,oM⟩ ?_
       refine oi (show i+(q:Int).toNat<l.length by omega) ?_
       refine oi (show(0:Int)≤((y5 l (i+q)).length:Nat)∧(((y5 l (i+q)).length:Nat):Int)<l.length by omega) ?_
       refine ob (show(((y5 l (i+q)).length:Nat):Int).toNat<l.length by omega) ?_
       refine eX aA ?_
       refine⟨q+1,⟨oM,oM,by rw[←Nat.add_assoc];omega⟩,oM,?_⟩
       refine aP.of [] (by rw[aA];rfl) rfl ⟨⟨rfl,aQ.row rfl fun k c hk o7=>aJ.of_eq ?_⟩,oO⟩ ⟨qZ,qZ,⟨rfl,aM.int ?_⟩,qZ,⟨rfl,aM.int ew3⟩,oO⟩
       ·show fK (dN (jP l (i+q))) (((y5 l (i+q)).length:Nat):Int).toNat 0 (C7 ((jP l (i+q)).getD (i+(q:Int).toNat) [])) k c=lH ((jP l (i+q+1)).getD k []) c
        rw[Int.toNat_natCast,Int.toNat_natCast,a1]
        by_cases M6:k=(y5 l (i+q)).length
        ·subst M6
         rw[C9 _ _ _ _ o7,vE oM,hs]
         congr 1
         simp
        ·rw[show fK (dN (jP l (i+q))) (y5 l (i+q)).length 0 (C7 (l.getD (i+q) [])) k c=dN (jP l (i+q)) k c from if_neg M6]
         show lH ((jP l (i+q)).getD k []) c=_
         congr 1
         by_cases X9:k<(y5 l (i+q)).length
         ·rw[vE X9,vE oM,hs]
          simp only [cond_true,List.getD_eq_getElem?_getD,List.getElem?_append_left X9]
         ·rw[vF oM,vF oM]
       ·show aU _=(((y5 l (i+q+1)).length:Nat):Int)
        rw[hlen]
        exact aG oM oM
      ·have g4:(!((jP l (i+q)).getD (i+(q:Int).toNat) []==(jP l (i+q)).getD (i+(aU ((q:Int) - 1)).toNat) []))=false:=g4
       rw[Int.toNat_natCast,eq2,a1,a2]at g4
       have hq0:qd l (i+q)=false:=by
        unfold qd
        rw[g4,show(i+q==0)=false by simp;omega];rfl
       rw[hq0]at hs
       have hs:y5 l (i+q+1)=y5 l (i+q):=by rw[hs];simp
       have e9:jP l (i+q+1)=jP l (i+q):=by unfold jP;rw[hs]
       refine eX aA ?_
       refine eX aA ?_
       refine⟨q+1,⟨oM,oM,by rw[←Nat.add_assoc,hs];omega⟩,oM,?_⟩
       refine aP.of [] (by rw[aA];rfl) rfl ⟨⟨rfl,aQ.of_eq (by rw[←Nat.add_assoc,e9];rfl)⟩,oO⟩ ⟨qZ,qZ,⟨rfl,aM.of_eq (by rw[←Nat.add_assoc,hs];rfl)⟩,qZ,⟨rfl,aM.int ew3⟩,oO⟩
     ·have h3:¬(q:Int)<((l.length - i:Nat):Int):=cD h3
      have hj:i+q=l.length:=oM
      rw[hj]at hq3 ⊢
      have hk9:(uY l).length≤l.length:=by unfold uY;omega
      refine AW.fU (σ':=⟨[(0,.s (.own 1001)),(5,vI ((uY l).length:Nat))],[(1001,some (.row 254 l.length 14 (dN (jP l l.length))))]⟩) ?_ ?_
      ·exact aP.of [] (by rw[aA];rfl) rfl ⟨bQ,oO⟩ ⟨qZ,qZ,oO⟩
      refine AW.seq (AW.CI (bI.region (bD.ops (T:=tab) (rc:=[]) (ks:=[1001]) aK 3 ?_ (fun x bc h=>pC h) (fun x h=>by rw[aA]at h;exact h) ?_)))
      ·intro x hx
       simp only [List.mem_cons,List.not_mem_nil,or_false]at hx
       subst hx
       exact⟨_,rfl,rfl⟩
      refine oi (show(0:Int)≤((uY l).length:Nat)∧(((uY l).length:Nat):Int)≤l.length∧(l.length:Int)≤l.length by omega) ?_
      refine bD.op rfl (nE.clear (e:=254) (s:=14) (b:=1001) (f:=dN (jP l l.length)) (n:=l.length) (lo:=(uY l).length) rfl rfl ?_ hk9 rfl underlying255 zeroValue254 rfl (fun v hv=>List.all_eq_true.1 (show _=true by rfl) v hv) (bD.nil ?_))
      ·show AV.s (.jQ 1001 14 (((uY l).length:Nat):Int).toNat ((l.length:Int).toNat - (((uY l).length:Nat):Int).toNat))=_
       rw[Int.toNat_natCast,Int.toNat_natCast]
      refine sX aA ?_
      refine oi (show(0:Int)≤0∧(0:Int)≤((uY l).length:Nat)∧(((uY l).length:Nat):Int)≤l.length by omega) ?_
      refine AW.fU (σ':=⟨[(4,.s (.jQ 1001 14 0 (uY l).length))],[(1001,some (.row 254 l.length 14 (oW (uY l))))]⟩) ?_ ?_
      ·refine aP.of [] (by rw[aA];rfl) rfl ⟨⟨rfl,aQ.row rfl fun k c hk o7=>aJ.of_eq ?_⟩,oO⟩ ⟨⟨rfl,aM.of_eq ?_⟩,oO⟩
       ·show(if k<(uY l).length then lH ((jP l l.length).getD k []) c else .bC)=if k<(uY l).length then lH ((uY l).getD k []) c else .bC
        split
        ·rename_i h
         rw[vE h];rfl
        ·rfl
       ·show AV.s (.jQ 1001 14 (0:Int).toNat ((((uY l).length:Nat):Int).toNat - (0:Int).toNat))=_
        rw[Int.toNat_natCast]
        rfl
      refine eX aA ?_
      exact⟨aM.rfl,rfl,oO⟩
   ·have g2:(l.getD i []==l.getD (aU ((i:Int) - 1)).toNat [])=false:=g2
    rw[ew2]at g2
    have hqi:qd l i=true:=by
     unfold qd
     rw[g2];simp
    refine eX aA ?_
    refine eX aA ?_
    have ew3:aU ((i:Int)+1)=((i+1:Nat):Int):=aG oM oM
    refine⟨i+1,⟨⟨oM,oM⟩,fun k hk=>?_⟩,oM,?_⟩
    ·rcases Nat.lt_or_ge k i with h1|h1
     ·exact hq k h1
     ·obtain rfl:k=i:=oM
      exact hqi
    ·exact aP.of [] (by rw[aA];rfl) rfl ⟨bQ,oO⟩ ⟨qZ,qZ,⟨rfl,aM.int ew3⟩,oO⟩
  ·have h:¬(i:Int)<l.length:=cD h
   obtain rfl:i=l.length:=oM
   have e:uY l=l:=by
    unfold uY
    rw[E7 (Nat.le_refl _) hq,List.take_length]
   refine sX aA ?_
   refine AW.fU (σ':=⟨[(4,.s (.own 1001))],[(1001,some (.row 254 l.length 14 (oW (uY l))))]⟩) (aP.of [] (by rw[aA];rfl) rfl ⟨⟨rfl,aQ.row rfl fun i j hi hj=>aJ.of_eq (by unfold oW;rw[e,if_pos hi])⟩,oO⟩ ⟨qZ,oO⟩) ?_
   refine AW.fU (aP.EY (e:=254) (n:=l.length) (s:=14) (f:=oW (uY l)) 4 1001 rfl rfl) ?_
   refine eX aA ?_
   exact⟨aM.of_eq (by rw[e];rfl),rfl,oO⟩
abbrev gM:=bG×List bG×Nat
theorem aHV{a b:bG}(h:bs a=bs b):a=b:=by
 have:=congrArg (fun x:ByteArray=>x.data.toList) h
 simpa [bs]using this
theorem tP(a b:bG):(bs a==bs b)=(a==b):=by
 rw[Bool.eq_iff_iff,beq_iff_eq,beq_iff_eq]
 exact⟨aHV,fun h=>by rw[h]⟩
structure uF(r:l0)(ts:List bG):Prop where
 lo:r.lo=0
 n:r.n=ts.length
 f:∀i j,i<ts.length→j<14→aJ (r.f i j) (dN ts i j)
structure EOK(q:bF)(e:gM):Prop where
 key:q.key=bs e.1
 born:q.born=e.2.2
 ne:e.2.1≠[]
 row:∃r,q.row=some r∧uF r e.2.1
def dX:List bF→List gM→Prop
 |[],[]=>True
 |q::r,e::s=>EOK q e∧dX r s
 |_,_=>False
theorem dX.len:∀{l:List bF} {E:List gM},dX l E→l.length=E.length
 |[],[],_=>rfl
 |_::r,_::s,h=>congrArg (· +1) (dX.len h.2)
 |[],_::_,h=>h.elim
 |_::_,[],h=>h.elim
theorem dX.get:∀{l:List bF} {E:List gM} {i:Nat} {q:bF},dX l E→l[i]? =some q→∃e,E[i]? =some e∧EOK q e
 |q::r,e::s,0,q',h,hq=>⟨e,rfl,by
  have:q=q':=by simpa using hq
  exact this▸h.1⟩
 |_::r,_::s,i+1,q',h,hq=>by
  have:=dX.get (i:=i) h.2 (by simpa using hq)
  simpa using this
 |[],[],_,_,_,hq=>by simp at hq
 |[],_::_,_,_,h,_=>h.elim
 |_::_,[],_,_,h,_=>h.elim
theorem dX.append:∀{l m:List bF} {E F:List gM},dX l E→dX m F→dX (l++m) (E++F)
 |[],_,[],_,_,h=>h
 |_::_,_,_::_,_,h,k=>⟨h.1,dX.append h.2 k⟩
 |[],_,_::_,_,h,_=>h.elim
 |_::_,_,[],_,h,_=>h.elim
theorem dX.modify:∀{l:List bF} {E:List gM} {i:Nat} {g:bF→bF} {g':gM→gM},dX l E→(∀q e,l[i]? =some q→E[i]? =some e→EOK q e→EOK (g q) (g' e))→dX (l.modify i g) (E.modify i g')
 |[],[],_,_,_,_,_=>by simp[dX]
 |q::r,e::s,0,g,g',h,k=>by
  simp only [List.modify_zero_cons]
  exact⟨k q e rfl rfl h.1,h.2⟩
 |q::r,e::s,i+1,g,g',h,k=>by
  simp only [List.modify_succ_cons]
  exact⟨h.1,dX.modify h.2 fun q e hq he=>k q e (by simpa using hq) (by simpa using he)⟩
 |[],_::_,_,_,_,h,_=>h.elim
 |_::_,[],_,_,_,h,_=>h.elim
theorem dX.erase:∀{l:List bF} {E:List gM} {i:Nat},dX l E→dX (l.eraseIdx i) (E.eraseIdx i)
 |[],[],_,_=>by simp[dX]
 |q::r,e::s,0,h=>h.2
 |q::r,e::s,i+1,h=>⟨h.1,dX.erase h.2⟩
 |[],_::_,_,h=>h.elim
 |_::_,[],_,h=>h.elim
def fE:List gM→bG→Nat→Option (Nat×gM)
 |[],_,_=>none
 |e::r,k,i=>bif k==e.1 then some (i,e)else fE r k (i+1)
theorem rX:∀{l:List bF} {E:List gM} {k:bG} {i:Nat},dX l E→fE E k i=none→cT l (bs k) i=none
 |[],[],_,_,_,_=>rfl
 |q::r,e::s,k,i,h,hf=>by
  rw[fE]at hf
  rw[cT,h.1.key,tP]
  cases hk:k==e.1 with
  |true=>rw[hk]at hf;cases hf
  |false=>rw[hk]at hf;exact rX h.2 hf
 |[],_::_,_,_,h,_=>h.elim
 |_::_,[],_,_,h,_=>h.elim
theorem pD:∀{l:List bF} {E:List gM} {k:bG} {i:Nat} {p:Nat×gM},dX l E→fE E k i=some p→∃q,cT l (bs k) i=some (p.1,q)∧EOK q p.2
 |[],[],_,_,_,_,hf=>by cases hf
 |q::r,e::s,k,i,p,h,hf=>by
  rw[fE]at hf
  rw[cT,h.1.key,tP]
  cases hk:k==e.1 with
  |true=>
   rw[hk]at hf
   obtain rfl:(i,e)=p:=Option.some.inj hf
   exact⟨q,rfl,h.1⟩
  |false=>rw[hk]at hf;exact pD h.2 hf
 |[],_::_,_,_,_,h,_=>h.elim
 |_::_,[],_,_,_,h,_=>h.elim
theorem yX:∀{E:List gM} {k:bG} {i:Nat} {p:Nat×gM},fE E k i=some p→i≤p.1∧E[p.1 - i]? =some p.2∧p.2.1=k
 |[],_,_,_,h=>by cases h
 |e::r,k,i,p,h=>by
  rw[fE]at h
  cases hk:k==e.1 with
  |true=>
   rw[hk]at h
   obtain rfl:(i,e)=p:=Option.some.inj h
   exact⟨Nat.le_refl _,sM,(by simpa using hk:k=e.1).symm⟩
  |false=>
   rw[hk]at h
   obtain⟨h1,h2,h3⟩:=yX (i:=i+1) h
   refine⟨oM,?_,h3⟩
   rw[show p.1 - i=(p.1 - (i+1))+1 by omega,List.getElem?_cons_succ]
   exact h2
def oR(E:List gM)(k t:bG):List gM:=match fE E k 0 with
 |some (i,_)=>E.modify i fun e=>(e.1,e.2.1++ [t],e.2.2)
 |none=>E++ [(k,[t],E.length)]
theorem rW(l:List bF)(k:ByteArray)(j:Nat):∀i,(cT (cL l j) k i).map (·.1)=(cT l k i).map (·.1):=by
 intro i
 unfold cL
 induction l generalizing i j with
 |nil=>simp[cT]
 |cons q r ih=>
  cases j with
  |zero=>
   simp only [List.modify_zero_cons,cT]
   cases k==q.key <;> rfl
  |succ j=>
   simp only [List.modify_succ_cons,cT]
   cases k==q.key with
   |true=>rfl
   |false=>exact ih j (i+1)
theorem w5{h:HM}{E:List gM}{k:bG}{j:Nat}{q:bF}{v:Value}{r:l0}{ts:List bG}(ha:dX h.l E)(hf:cT h.l (bs k) 0=some (j,q))(hr:uF r ts)(hV:ts≠[]):
  dX (eH {h with l:=cL h.l j} (bs k) v (some r)).l (E.modify j fun e=>(e.1,ts,e.2.2))∧(eH {h with l:=cL h.l j} (bs k) v (some r)).bm=h.bm∧(eH {h with l:=cL h.l j} (bs k) v (some r)).clock=h.clock∧(eH {h with l:=cL h.l j} (bs k) v (some r)).it=h.it:=by
 have h1:=rW h.l (bs k) j 0
 rw[hf]at h1
 unfold eH
 simp only
 cases hq:cT (cL h.l j) (bs k) 0 with
 |none=>rw[hq]at h1;cases h1
 |some p=>
  obtain⟨i,q'⟩:=p
  rw[hq]at h1
  obtain rfl:i=j:=by simpa using h1
  refine⟨?_,rfl,rfl,rfl⟩
  show dX ((cL h.l i).modify i _) _
  unfold cL
  rw[List.modify_modify_eq]
  exact ha.modify fun q e _ _ ho=>⟨ho.key,ho.born,hV,r,rfl,hr⟩
theorem K8{h:HM}{E:List gM}{k:bG}{v:Value}{r:l0}{ts:List bG}(ha:dX h.l E)(hc:h.clock=E.length)(hf:cT h.l (bs k) 0=none)(hr:uF r ts)(hV:ts≠[]):
  dX (eH h (bs k) v (some r)).l (E++ [(k,ts,E.length)])∧(eH h (bs k) v (some r)).bm=h.bm∧(eH h (bs k) v (some r)).clock=E.length+1∧(eH h (bs k) v (some r)).it=h.it:=by
 unfold eH
 rw[hf]
 refine⟨?_,rfl,by simp only;omega,rfl⟩
 refine ha.append ⟨⟨rfl,by simp only;exact hc,hV,r,rfl,hr⟩,oO⟩
end Go.Pj
--K19
namespace Go.Ax
def p8(box:aO)(x:Nat):Bool:=match aH box x with
 |some (some b)=>b.real
 |_=>false
theorem p8.spec{box:aO}{x:Nat}(h:p8 box x=true):∃bc,aH box x=some (some bc)∧bc.real=true:=by
 unfold p8 at h
 split at h
 ·rename_i b hb;exact⟨b,hb,h⟩
 ·cases h
section
variable{P:Program}{cx:Cx}{N:Nat}{σ:St}{H:Hid}{K:Exit→St→Hid→Prop}
theorem bI.alone{c:Code}(aA:cx.ref=[])(ks:List Nat)(h1:(ks.all fun x=>p8 σ.box x)=true)(h2:((cJ σ.box).all fun x=>ks.contains x)=true)
  (h:∀MJ:Cx,MJ.ref=ks→AW P MJ N c σ (fun e σ'=>K e σ' H)):bI P cx N c σ H K:=
 bI.part (ks:=ks) (fun x hx=>p8.spec (by rw[List.all_eq_true]at h1;exact h1 x hx)) (fun x bc hx=>by
  have:=pC hx
  rw[List.all_eq_true]at h2
  simpa using h2 x this) (fun x hx=>by rw[aA]at hx;cases hx) h
theorem bD.some{T:List (Nat×bJ)}{all l:List Oper}{K:St→Hid→Prop}{rc:List Nat}(hT:b5 P T)(n:Nat)(aA:cx.ref=[])(ks:List Nat)(h1:(ks.all fun x=>p8 σ.box x)=true)(h2:((cJ σ.box).all fun x=>ks.contains x)=true)
  (h:lA P T N ks rc all (l.take n) σ fun σ'=>bD P cx N all (l.drop n) σ' H K):bD P cx N all l σ H K:=
 bD.ops (ks:=ks) hT n (fun x hx=>p8.spec (by rw[List.all_eq_true]at h1;exact h1 x hx)) (fun x bc hx=>by
  have:=pC hx
  rw[List.all_eq_true]at h2
  simpa using h2 x this) (fun x hx=>by rw[aA]at hx;cases hx) h
end
end Go.Ax
namespace Go.Pj
open Go Go.Ax Go.Ch Go.Proofs Go.Proofs.Tryz
set_option maxRecDepth 100000
set_option maxHeartbeats 1000000
def wdB:bG:=[119,105,116,104,100,114,97,119,32]
def OV(f:Fact):Bool:=Lib.hasPrefix (dR f) wdB
def stepG(G:List (ByteArray×Int))(f:Fact):List (ByteArray×Int):=
 bif OV f then jG G (bs (Lib.trimPrefix (dR f) wdB)) (mm true (jB G (bs (Lib.trimPrefix (dR f) wdB))) (aU (f.seq+1)))else G
def C8(E:List gM)(f:Fact):List gM:=bif OV f then E else oR E (dR f) (eI f)
def o8(l:List Fact)(i:Nat):List (ByteArray×Int):=(l.take i).foldl stepG []
def gP(l:List Fact)(i:Nat):List gM:=(l.take i).foldl C8 []
theorem WQ{l:List Fact}{i:Nat}(h:i<l.length):o8 l (i+1)=stepG (o8 l i) (l.getD i default):=by
 unfold o8
 rw[List.take_add_one,List.getElem?_eq_getElem h,bA h,List.foldl_append];rfl
theorem r8{l:List Fact}{i:Nat}(h:i<l.length):gP l (i+1)=C8 (gP l i) (l.getD i default):=by
 unfold gP
 rw[List.take_add_one,List.getElem?_eq_getElem h,bA h,List.foldl_append];rfl
theorem toldRow(f:Fact):∀c,c<14→aJ (VN 14 [.d (dI (eG f).kind),.d (dI (eG f).seq),.d (dI (eG f).aX),.d (dI (eG f).month),.d (dI (eG f).number),.d (dI (eG f).aS),.d (dI (eG f).over),.d (dI (eG f).cls),.d (dI (eG f).target),.d (dS (eG f).aN),.d (dS (eG f).cQ),.d (dS (eG f).cE),.d (cG (eG f).levels),.d (dT (eI f))] 0 c) (lH (eI f) c)
 |0,_|1,_|2,_|3,_|4,_|5,_|6,_|7,_|8,_|9,_|10,_|11,_|12,_|13,_=>aJ.refl _
theorem UW{n a c:Nat}{F G:Nat→Nat→DV}(h:a<n):kM n F G a c=F a c:=if_pos h
theorem UX{n c:Nat}{F G:Nat→Nat→DV}:kM n F G n c=G 0 c:=by
 unfold kM
 rw[if_neg (Nat.lt_irrefl n),Nat.sub_self]
theorem aCF(f:Fact):∀c,c<14→(VN 14 [.d (dI (eG f).kind),.d (dI (eG f).seq),.d (dI (eG f).aX),.d (dI (eG f).month),.d (dI (eG f).number),.d (dI (eG f).aS),.d (dI (eG f).over),.d (dI (eG f).cls),.d (dI (eG f).target),.d (dS (eG f).aN),.d (dS (eG f).cQ),.d (dS (eG f).cE),.d (cG (eG f).levels),.d (dT (eI f))] 0 c).fit=true
 |0,_|1,_|2,_|3,_|4,_|5,_|6,_|7,_|8,_|9,_|10,_|11,_|12,_|13,_=>rfl
theorem zD{E:List gM}{k t:bG}{m:Nat}(h:∀e∈E,e.2.1.length≤m):∀e∈oR E k t,e.2.1.length≤m+1:=by
 intro e he
 unfold oR at he
 split at he
 ·rename_i i p hp
  obtain⟨j,hj⟩:=List.getElem?_of_mem he
  rw[List.getElem?_modify]at hj
  cases hE:E[j]? with
  |none=>rw[hE]at hj;cases hj
  |some y=>
   rw[hE]at hj
   have hy:=h y (List.mem_of_getElem? hE)
   have hj:(if i=j then(y.1,y.2.1++ [t],y.2.2)else y)=e:=by simpa using hj
   split at hj
   ·subst hj;simp;omega
   ·subst hj;omega
 ·rcases List.mem_append.1 he with he|he
  ·have:=h e he;omega
  ·rw[List.mem_singleton.1 he];simp
theorem nP{l:List Fact}:∀{i:Nat},∀{e:gM},e∈gP l i→e.2.1.length≤i
 |0,e,he=>by simp[gP]at he
 |i+1,e,he=>by
  by_cases h:i<l.length
  ·rw[r8 h]at he
   unfold C8 at he
   cases hw:OV (l.getD i default)with
   |true=>
    rw[hw]at he
    have:=nP (i:=i) he
    omega
   |false=>
    rw[hw]at he
    exact zD (fun e he=>nP (i:=i) he) e he
  ·have e1:gP l (i+1)=gP l i:=by
    unfold gP
    rw[List.take_of_length_le oM,List.take_of_length_le oM]
   rw[e1]at he
   have:=nP (i:=i) he
   omega
abbrev dG(b:Nat):AV:=.s (.d (.val (.map (some b))))
def J1(l:List Fact)(s:Nat×HM):Prop:=s.1≤l.length∧dX s.2.l (gP l s.1)∧s.2.clock=(gP l s.1).length∧s.2.it=none
end Go.Pj
namespace Go.Pj
open Go Go.Ax Go.Ch Go.Proofs Go.Proofs.Tryz
theorem eA{cx:Cx}{N:Nat}{c:Code}{σ:St}{H:Hid}{K:Exit→St→Hid→Prop}(aA:cx.ref=[])(ks:List Nat)(h:∀MJ:Cx,MJ.ref=ks→ex Tryz.prog tab N ks [] MJ c σ fun e s=>K e s H)(h1:(ks.all fun x=>p8 σ.box x)=true:=by rfl)(h2:((cJ σ.box).all fun x=>ks.contains x)=true:=by rfl):bI Tryz.prog cx N c σ H K:=bI.alone aA ks h1 h2 fun MJ h'=>ex.sound (rc:=[]) aK mix h' _ (h MJ h')
theorem eB{cx:Cx}{N:Nat}{c:Code}{σ:St}{H:Hid}{K:Exit→St→Hid→Prop}(rc:List Nat)(aA:cx.ref=[])(ks:List Nat)(h:∀MJ:Cx,MJ.ref=ks→ex Tryz.prog tab N ks rc MJ c σ fun e s=>K e s H)(h1:(ks.all fun x=>p8 σ.box x)=true:=by rfl)(h2:((cJ σ.box).all fun x=>ks.contains x)=true:=by rfl):bI Tryz.prog cx N c σ H K:=bI.alone aA ks h1 h2 fun MJ h'=>ex.sound (rc:=rc) aK mix h' _ (h MJ h')
theorem sA{cx:Cx}{N:Nat}{x y:Code}{σ:St}{H:Hid}{K:Exit→St→Hid→Prop}(aA:cx.ref=[])(ks:List Nat)(h:∀MJ:Cx,MJ.ref=ks→ex Tryz.prog tab N ks [] MJ x σ fun e s=>qG (fun s H=>bI Tryz.prog cx N y s H K) K e s H)(h1:(ks.all fun x=>p8 σ.box x)=true:=by rfl)(h2:((cJ σ.box).all fun x=>ks.contains x)=true:=by rfl):bI Tryz.prog cx N (.seq x y) σ H K:=bI.seq (eA aA ks h h1 h2)
end Go.Pj
namespace Go.Pj
open Go Go.Ax Go.Ch Go.Proofs Go.Proofs.Tryz
def KB(G:List (ByteArray×Int))(k:bG):Int:=jB G (bs k)
def TY(G:List (ByteArray×Int))(k:bG)(ts:List bG):Int:=ts.foldl (fun a t=>mm true a (tT t).seq) (aU (KB G k - 1))
def gE(G:List (ByteArray×Int))(k:bG)(ts:List bG):List bG:=dH (W7 (TY G k ts) (KB G k)) ts
def tV(G:List (ByteArray×Int))(k:bG)(ts:List bG):List bG:=uY (mG (gE G k ts))
def zK(G:List (ByteArray×Int))(e:gM):Option gM:=bif (gE G e.1 e.2.1).isEmpty then none else some (e.1,tV G e.1 e.2.1,e.2.2)
def rO(G:List (ByteArray×Int))(sn:List Nat)(e:gM):Option gM:=bif sn.contains e.2.2 then zK G e else some e
def fF(G:List (ByteArray×Int))(E:List gM)(sn:List Nat):List gM:=E.filterMap (rO G sn)
theorem CH{G:List (ByteArray×Int)}{sn:List Nat}{b:Nat}{e:gM}(h:e.2.2≠b):rO G (b::sn) e=rO G sn e:=by
 unfold rO
 rw[show(b::sn).contains e.2.2=sn.contains e.2.2 by simp[h]]
theorem rN{G:List (ByteArray×Int)}{sn:List Nat}{e x:gM}(h:rO G sn e=some x):x.1=e.1∧x.2.2=e.2.2:=by
 unfold rO zK at h
 cases hc:sn.contains e.2.2 with
 |false=>rw[hc]at h;cases h;exact⟨rfl,rfl⟩
 |true=>
  rw[hc,cond_true]at h
  cases hk:(gE G e.1 e.2.1).isEmpty with
  |true=>rw[hk]at h;cases h
  |false=>rw[hk]at h;cases h;exact⟨rfl,rfl⟩
theorem nO{G:List (ByteArray×Int)}{E:List gM}{sn:List Nat}{x:gM}(h:x∈fF G E sn):∃e∈E,x.1=e.1∧x.2.2=e.2.2:=by
 obtain⟨e,he,hx⟩:=List.mem_filterMap.1 h
 exact⟨e,he,rN hx⟩
theorem HF{G:List (ByteArray×Int)}{b:Nat}{sn:List Nat}:∀{E:List gM},(∀e∈E,e.2.2≠b)→fF G E (b::sn)=fF G E sn
 |[],_=>rfl
 |e::r,h=>by
  unfold fF
  rw[List.filterMap_cons,List.filterMap_cons,CH (h e (List.mem_cons_self ..))]
  have:=HF (E:=r) (G:=G) (b:=b) (sn:=sn) (fun x hx=>h x (List.mem_cons_of_mem _ hx))
  unfold fF at this
  rw[this]
theorem tJ{G:List (ByteArray×Int)}{sn:List Nat}:∀{E:List gM} {j:Nat} {e:gM},(E.map (·.2.2)).Nodup→(fF G E sn)[j]? =some e→sn.contains e.2.2=false→
  fF G E (e.2.2::sn)=match zK G e with
   |none=>(fF G E sn).eraseIdx j
   |some x=>(fF G E sn).modify j fun _=>x
 |[],j,e,_,h,_=>by simp[fF]at h
 |d::r,j,e,hn,h,hs=>by
  have hn':=List.nodup_cons.1 (show(d.2.2::r.map (·.2.2)).Nodup from hn)
  have hr:=hn'.2
  unfold fF at h ⊢
  rw[List.filterMap_cons]at h ⊢
  cases hd:rO G sn d with
  |none=>
   rw[hd]at h
   have hb:=nO (List.mem_of_getElem? h)
   obtain⟨e',IP,_,hb⟩:=hb
   have hV:d.2.2≠e.2.2:=fun hc=>hn'.1 (by rw[hc,hb];exact List.mem_map.2 ⟨e',IP,rfl⟩)
   have:=tJ hr h hs
   unfold fF at this
   rw[CH hV,List.filterMap_cons,hd]
   exact this
  |some x=>
   rw[hd]at h
   have hx:=rN hd
   cases j with
   |zero=>
    obtain rfl:x=e:=by simpa using h
    have hde:d=x:=by
     unfold rO at hd
     rw[←hx.2,hs]at hd
     exact Option.some.inj hd
    subst hde
    have e1:rO G (d.2.2::sn) d=zK G d:=by
     unfold rO
     rw[show(d.2.2::sn).contains d.2.2=true by simp];rfl
    have e2:r.filterMap (rO G (d.2.2::sn))=r.filterMap (rO G sn):=HF fun e he hc=>hn'.1 (by rw[←hc];exact List.mem_map.2 ⟨e,he,rfl⟩)
    rw[e1,List.filterMap_cons,hd,e2]
    cases zK G d <;> rfl
   |succ j=>
    have h':(r.filterMap (rO G sn))[j]? =some e:=by simpa using h
    obtain⟨e',IP,_,hb⟩:=nO (List.mem_of_getElem? h')
    have hV:d.2.2≠e.2.2:=fun hc=>hn'.1 (by rw[hc,hb];exact List.mem_map.2 ⟨e',IP,rfl⟩)
    have:=tJ hr h' hs
    unfold fF at this
    rw[CH hV,hd,List.filterMap_cons,hd]
    simp only
    rw[this]
    cases zK G e with
    |none=>rfl
    |some y=>simp
theorem aAZ:∀{E:List gM} {j i:Nat} {e:gM},(E.map (·.1)).Nodup→E[j]? =some e→fE E e.1 i=some (i+j,e)
 |[],j,_,_,_,h=>by simp at h
 |d::r,0,i,e,_,h=>by
  obtain rfl:d=e:=by simpa using h
  rw[fE,beq_self_eq_true];rfl
 |d::r,j+1,i,e,hn,h=>by
  have hn':=List.nodup_cons.1 (show(d.1::r.map (·.1)).Nodup from hn)
  have h':r[j]? =some e:=by simpa using h
  have hV:(e.1==d.1)=false:=by
   rw[beq_eq_false_iff_ne]
   exact fun hc=>hn'.1 (by rw[←hc];exact List.mem_map.2 ⟨e,List.mem_of_getElem? h',rfl⟩)
  rw[fE,hV,cond_false,aAZ hn'.2 h']
  congr 2;omega
structure BU(E:List gM):Prop where
 keys:(E.map (·.1)).Nodup
 born:∀(i:Nat) (e:gM),E[i]? =some e→e.2.2=i
theorem BU.nodup{E:List gM}(h:BU E):(E.map (·.2.2)).Nodup:=by
 refine List.pairwise_iff_getElem.2 fun i j hi hj YA=>?_
 have hi:i<E.length:=by simpa using hi
 have hj:j<E.length:=by simpa using hj
 rw[List.getElem_map,List.getElem_map,h.born i _ (List.getElem?_eq_getElem hi),h.born j _ (List.getElem?_eq_getElem hj)]
 omega
theorem UH:∀{E:List gM} {k:bG} {i:Nat},fE E k i=none→k∉E.map (·.1)
 |[],_,_,_=>by simp
 |d::r,k,i,h=>by
  rw[fE]at h
  cases hk:k==d.1 with
  |true=>rw[hk]at h;cases h
  |false=>
   rw[hk]at h
   have:=UH (i:=i+1) h
   have hV:k≠d.1:=by simpa using hk
   simp only [List.map_cons,List.mem_cons,not_or]
   exact⟨hV,this⟩
theorem BU.add{E:List gM}(h:BU E)(k t:bG):BU (oR E k t):=by
 unfold oR
 cases hf:fE E k 0 with
 |some p=>
  obtain⟨i,e⟩:=p
  refine⟨?_,fun j x hx=>?_⟩
  ·have:(E.modify i fun e=>(e.1,e.2.1++ [t],e.2.2)).map (·.1)=E.map (·.1):=by
    apply List.ext_getElem?
    intro j
    rw[List.getElem?_map,List.getElem?_modify,List.getElem?_map]
    cases E[j]? with
    |none=>rfl
    |some y=>by_cases YA:i=j <;> simp[YA]
   simp only
   rw[this]
   exact h.keys
  ·simp only at hx
   rw[List.getElem?_modify]at hx
   cases hE:E[j]? with
   |none=>rw[hE]at hx;cases hx
   |some y=>
    rw[hE]at hx
    have hb:=h.born j y hE
    have hx:(if i=j then(y.1,y.2.1++ [t],y.2.2)else y)=x:=by simpa using hx
    split at hx <;> subst hx <;> exact hb
 |none=>
  have hk:=UH hf
  refine⟨?_,fun j x hx=>?_⟩
  ·simp only [List.map_append,List.map_cons,List.map_nil]
   rw[List.nodup_append]
   refine⟨h.keys,sM,fun a ha b hb IQ=>?_⟩
   rw[List.mem_singleton.1 hb]at IQ
   exact hk (IQ▸ha)
  ·simp only at hx
   rcases Nat.lt_or_ge j E.length with hj|hj
   ·rw[List.getElem?_append_left hj]at hx;exact h.born j x hx
   ·rw[List.getElem?_append_right hj]at hx
    obtain⟨h0,h1⟩:j - E.length=0∧(k,[t],E.length)=x:=by
     cases hq:j - E.length with
     |zero=>rw[hq]at hx;exact⟨rfl,by simpa using hx⟩
     |succ n=>rw[hq]at hx;simp at hx
    subst h1
    show E.length=j
    omega
theorem tK(l:List Fact):∀i,BU (gP l i)
 |0=>⟨by simp[gP],fun i e h=>by simp[gP]at h⟩
 |i+1=>by
  by_cases h:i<l.length
  ·rw[r8 h]
   unfold C8
   cases OV (l.getD i default)with
   |true=>exact tK l i
   |false=>exact(tK l i).add _ _
  ·have e1:gP l (i+1)=gP l i:=by
    unfold gP
    rw[List.take_of_length_le oM,List.take_of_length_le oM]
   rw[e1];exact tK l i
theorem yZ{G:List (ByteArray×Int)}{sn:List Nat}:∀{E:List gM},(E.map (·.1)).Nodup→((fF G E sn).map (·.1)).Nodup
 |[],_=>by simp[fF]
 |d::r,h=>by
  have h':=List.nodup_cons.1 (show(d.1::r.map (·.1)).Nodup from h)
  have ih:=yZ (G:=G) (sn:=sn) h'.2
  unfold fF at ih ⊢
  rw[List.filterMap_cons]
  cases hd:rO G sn d with
  |none=>exact ih
  |some x=>
   simp only [List.map_cons]
   refine List.nodup_cons.2 ⟨fun hm=>?_,ih⟩
   obtain⟨y,hy,he⟩:=List.mem_map.1 hm
   obtain⟨e',IP,h1,_⟩:=nO hy
   exact h'.1 (by rw[←(rN hd).1,←he,h1];exact List.mem_map.2 ⟨e',IP,rfl⟩)
theorem wM{G:List (ByteArray×Int)}{sn:List Nat}:∀{E:List gM},(E.map (·.2.2)).Nodup→((fF G E sn).map (·.2.2)).Nodup
 |[],_=>by simp[fF]
 |d::r,h=>by
  have h':=List.nodup_cons.1 (show(d.2.2::r.map (·.2.2)).Nodup from h)
  have ih:=wM (G:=G) (sn:=sn) h'.2
  unfold fF at ih ⊢
  rw[List.filterMap_cons]
  cases hd:rO G sn d with
  |none=>exact ih
  |some x=>
   simp only [List.map_cons]
   refine List.nodup_cons.2 ⟨fun hm=>?_,ih⟩
   obtain⟨y,hy,he⟩:=List.mem_map.1 hm
   obtain⟨e',IP,_,h1⟩:=nO hy
   exact h'.1 (by rw[←(rN hd).2,←he,h1];exact List.mem_map.2 ⟨e',IP,rfl⟩)
theorem W0(G:List (ByteArray×Int))(E:List gM):fF G E []=E:=by
 unfold fF
 rw[show rO G []=some from funext fun e=>rfl]
 exact List.filterMap_some
def PK(G:List (ByteArray×Int))(E:List gM):List gM:=E.filterMap (zK G)
theorem yU{α β:Type}{f g:α→Option β}:∀{l:List α},(∀x∈l,f x=g x)→l.filterMap f=l.filterMap g
 |[],_=>rfl
 |x::r,h=>by
  rw[List.filterMap_cons,List.filterMap_cons,h x (List.mem_cons_self ..),yU fun y hy=>h y (List.mem_cons_of_mem _ hy)]
theorem KK{G:List (ByteArray×Int)}{E:List gM}{sn:List Nat}(h:∀e∈fF G E sn,sn.contains e.2.2=true):fF G E sn=PK G E:=by
 unfold fF PK at*
 refine yU fun e he=>?_
 unfold rO
 cases hs:sn.contains e.2.2 with
 |true=>rfl
 |false=>
  have hm:e∈E.filterMap (rO G sn):=List.mem_filterMap.2 ⟨e,he,by unfold rO;rw[hs];rfl⟩
  have:=h e hm
  rw[hs]at this;cases this
end Go.Pj
