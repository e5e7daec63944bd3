/- Part 8: lemmas that the proofs of this seat share; by itself it claims nothing. -/
import Derived.Shelf.Strings.Builder1
import Derived.Shelf.Strings.Builder2
import Derived.Shelf.Strings.OnBuilder
import Derived.Shelf.Small.Bits
import Derived.Shelf.Small.Strs
import Derived.Shelf.Small.Wraps
import Derived.Shelf.Strings.BuilderF
import Derived.Shelf.Strings.BuilderK
import Derived.Shelf.Utf8.RuneCount
import Derived.Shelf.Strings.Builder2Cap
import Derived.Shelf.Strconv.Atoi
import Derived.Shelf.Strconv.Itoa0
import Derived.Shelf.Strconv.Itoa1
import Derived.Shelf.LaysM
import Derived.Shelf.Strconv.Itoa2
import Derived.Shelf.Strconv.Itoa3
import Derived.Shelf.Strconv.AtoiErrFast
import Derived.Shelf.Strconv.ParseIntEmpty
import Derived.Shelf.Strconv.AtoiFail
import Derived.Shelf.Strconv.Clone
import Derived.Shelf.Strconv.SyntaxError
import Derived.Shelf.LaysC
import Derived.Shelf.Strconv.ToError
import Derived.Shelf.Strconv.AtoiErr
import Derived.Shelf.Strconv.Lower
import Derived.Shelf.Strconv.ParseUint10
import Derived.Shelf.Strconv.ParseUint10Empty
import Derived.Shelf.Strconv.ParseUint10Any
import Derived.Shelf.Strconv.ParseInt10
import Derived.Shelf.Strconv.AtoiLong
import Derived.Shelf.Strconv.AtoiInnerAll
import Derived.Shelf.Strconv.RangeError
import Derived.Shelf.Strconv.ToErrorRange
import Derived.Shelf.Strconv.AtoiAll
import Derived.Shelf.Strconv.ParseUintEmpty
import Derived.Shelf.Strconv.ParseUint10b64
import Derived.Shelf.Strconv.ParseUint10b32
import Derived.Shelf.Strconv.ParseUint10b16
import Derived.Shelf.Strconv.ParseUint10b8
import Derived.Shelf.Strconv.ParseUint10At
import Derived.Shelf.Strconv.ParseInt10At64
import Derived.Shelf.Strconv.ParseInt10At32
import Derived.Shelf.Strconv.ParseInt10At16
import Derived.Shelf.Strconv.ParseInt10At8
import Derived.Shelf.Strings.Search1
import Derived.Shelf.Strings.Search2
import Derived.Shelf.Strings.Search3
import Derived.Shelf.Strings.Cut
import Derived.Shelf.Strings.Count
import Derived.Shelf.Strings.Shaped
import Derived.Shelf.Sort.Plain
import Derived.Shelf.Strings.Prefix
import Derived.Shelf.Strings.Split
import Derived.Shelf.Strings.SplitShaped
import Derived.Shelf.Unicode.Decode
import Derived.Shelf.Strings.RuneCount
import Derived.Shelf.Strings.Explode
import Derived.Shelf.Bits.Mul64
import Derived.Shelf.Unicode.DecodeSlow
import Derived.Shelf.Unicode.DecodeAny
import Derived.Shelf.Strings.BuilderCap
import Derived.Shelf.Slices.Turned
import Derived.Ground.Names2Prog
import Derived.Shelf.Slices.ReverseS
import Derived.Shelf.Slices.Clone
import Derived.Shelf.Slices.SearchI
import Derived.Shelf.Slices.Cells
import Derived.Shelf.Slices.In.SortNone
import Derived.Ground.SlgnProg
import Derived.Shelf.SlicesE.Reverse
import Derived.Shelf.SlicesE.Clone
import Derived.Test.YtaalojbkjiplcaaGreatDoorProg
import Derived.Shelf.Spec.SlicesInsertGrow
import Derived.Lib.LazyBuf
import Derived.Lib.SplitLaws
import Derived.Lib.AtoiTie
import Derived.Shelf.Strings.FieldsAny
import Derived.WalkKit
import Derived.Lib.Walk
import Derived.Test.YtaalojbkjiplcaaGreatDoorPt7
set_option maxRecDepth 100000
set_option maxHeartbeats 2000000
namespace Go.Proofs
open Go.Shelf
def Tryz.LK:Go.Shelf.Ren:=⟨fun|171=>47|243=>108|246=>168|283=>203|284=>204|285=>205|286=>206|129=>252|317=>251|318=>253|319=>254|320=>255|337=>289|338=>290|n=>n,fun|3=>3|9=>9|2=>2|4=>4|171=>285|0=>0|53=>286|37=>146|5=>5|173=>289|212=>325|51=>326|20=>20|213=>327|46=>328|232=>392|233=>393|n=>n,fun|17=>1|18=>6|19=>7|n=>n⟩
theorem Tryz.ZI:Go.Proofs.LaysM.n171 Tryz.prog Tryz.LK:={
 mixed:=by kernel_rfl
 f129:=Tryz.func252.trans (congrArg some (by kernel_rfl))
 f171:=Tryz.func47.trans (congrArg some (by kernel_rfl))
 f243:=Tryz.func108.trans (congrArg some (by kernel_rfl))
 f246:=Tryz.func168.trans (congrArg some (by kernel_rfl))
 f283:=Tryz.func203.trans (congrArg some (by kernel_rfl))
 f284:=Tryz.func204.trans (congrArg some (by kernel_rfl))
 f285:=Tryz.func205.trans (congrArg some (by kernel_rfl))
 f286:=Tryz.func206.trans (congrArg some (by kernel_rfl))
 f317:=Tryz.func251.trans (congrArg some (by kernel_rfl))
 f318:=Tryz.func253.trans (congrArg some (by kernel_rfl))
 f319:=Tryz.func254.trans (congrArg some (by kernel_rfl))
 f320:=Tryz.func255.trans (congrArg some (by kernel_rfl))
 f337:=Tryz.func289.trans (congrArg some (by kernel_rfl))
 f338:=Tryz.func290.trans (congrArg some (by kernel_rfl))
 t0:=Tryz.underlying0
 a0:=Tryz.isAgg0
 z0:=Tryz.sizeOf0
 v0:=Tryz.zeroValue0
 t2:=Tryz.underlying2
 a2:=Tryz.isAgg2
 z2:=Tryz.sizeOf2
 v2:=Tryz.zeroValue2
 t3:=Tryz.underlying3
 a3:=Tryz.isAgg3
 z3:=Tryz.sizeOf3
 v3:=Tryz.zeroValue3
 t4:=Tryz.underlying4
 a4:=Tryz.isAgg4
 z4:=Tryz.sizeOf4
 v4:=Tryz.zeroValue4
 t5:=Tryz.underlying5
 a5:=Tryz.isAgg5
 z5:=Tryz.sizeOf5
 v5:=Tryz.zeroValue5
 t9:=Tryz.underlying9
 a9:=Tryz.isAgg9
 z9:=Tryz.sizeOf9
 v9:=Tryz.zeroValue9
 t20:=Tryz.underlying20
 a20:=Tryz.isAgg20
 z20:=Tryz.sizeOf20
 v20:=Tryz.zeroValue20
 t37:=Tryz.underlying146
 a37:=Tryz.isAgg146
 z37:=Tryz.sizeOf146
 v37:=Tryz.zeroValue146
 t46:=Tryz.underlying328
 a46:=Tryz.isAgg328
 z46:=Tryz.sizeOf328
 v46:=Tryz.zeroValue328
 t51:=Tryz.underlying326
 a51:=Tryz.isAgg326
 z51:=Tryz.sizeOf326
 v51:=Tryz.zeroValue326
 t53:=Tryz.underlying286
 a53:=Tryz.isAgg286
 z53:=Tryz.sizeOf286
 v53:=Tryz.zeroValue286
 t171:=Tryz.underlying285
 a171:=Tryz.isAgg285
 z171:=Tryz.sizeOf285
 v171:=Tryz.zeroValue285
 t173:=Tryz.underlying289
 a173:=Tryz.isAgg289
 z173:=Tryz.sizeOf289
 v173:=Tryz.zeroValue289
 t212:=Tryz.underlying325
 a212:=Tryz.isAgg325
 z212:=Tryz.sizeOf325
 v212:=Tryz.zeroValue325
 t213:=Tryz.underlying327
 a213:=Tryz.isAgg327
 z213:=Tryz.sizeOf327
 t232:=Tryz.underlying392
 a232:=Tryz.isAgg392
 z232:=Tryz.sizeOf392
 v232:=Tryz.zeroValue392
 t233:=Tryz.underlying393
 a233:=Tryz.isAgg393
 z233:=Tryz.sizeOf393
 v233:=Tryz.zeroValue393
 g17:=by kernel_rfl
 g18:=by kernel_rfl
 g19:=by kernel_rfl
 i0:=by kernel_rfl
 i2:=by kernel_rfl
 i3:=by kernel_rfl
 i4:=by kernel_rfl
 i5:=by kernel_rfl
 i9:=by kernel_rfl
 i20:=by kernel_rfl
 i37:=by kernel_rfl
 i46:=by kernel_rfl
 i51:=by kernel_rfl
 i53:=by kernel_rfl
 i171:=by kernel_rfl
 i173:=by kernel_rfl
 i212:=by kernel_rfl
 i232:=by kernel_rfl
 i233:=by kernel_rfl
 m17:=by kernel_rfl
 m18:=by kernel_rfl
 m19:=by kernel_rfl}
open Go.RowKit Go.Sort Go.Lib in
theorem Tryz.strconv_Itoa(n:Int)(h0: -9223372036854775808≤n)(h1:n≤9223372036854775807)(w:World)(aML:Lib.TabIs Tryz.prog w "internal/strconv.uint64pow10" .u64 Lib.pow10Tab):
  Calls Tryz.prog 47 #[.int .i64 n] w fun e w'=>e=.returned (.string ⟨(Lib.itoa n).toArray⟩)∧∃k os,w'=grow (w.drewN k) os:=Any.strconv_Itoa Tryz.ZI n h0 h1 w aML
def Tryz.LL:Go.Shelf.Ren:=⟨fun|172=>175|244=>212|245=>213|247=>261|279=>262|280=>263|281=>264|282=>265|287=>293|316=>294|171=>47|205=>295|321=>336|322=>337|243=>108|246=>168|283=>203|284=>204|285=>205|286=>206|129=>252|317=>251|318=>253|319=>254|320=>255|337=>289|338=>290|n=>n,fun|9=>9|3=>3|75=>188|76=>189|4=>4|5=>5|167=>330|37=>146|0=>0|85=>331|2=>2|168=>333|53=>286|175=>360|46=>328|210=>364|127=>245|145=>397|143=>395|21=>21|171=>285|173=>289|212=>325|51=>326|20=>20|213=>327|232=>392|233=>393|80=>191|n=>n,fun|15=>4|16=>5|17=>1|18=>6|19=>7|n=>n⟩
theorem Tryz.F6:Go.Proofs.LaysC.n172 Tryz.prog Tryz.LL:={
 mixed:=by kernel_rfl
 f129:=Tryz.func252.trans (congrArg some (by kernel_rfl))
 f171:=Tryz.func47.trans (congrArg some (by kernel_rfl))
 f172:=Tryz.func175.trans (congrArg some (by kernel_rfl))
 f205:=Tryz.func295.trans (congrArg some (by kernel_rfl))
 f243:=Tryz.func108.trans (congrArg some (by kernel_rfl))
 f244:=Tryz.func212.trans (congrArg some (by kernel_rfl))
 f245:=Tryz.func213.trans (congrArg some (by kernel_rfl))
 f246:=Tryz.func168.trans (congrArg some (by kernel_rfl))
 f247:=Tryz.func261.trans (congrArg some (by kernel_rfl))
 f279:=Tryz.func262.trans (congrArg some (by kernel_rfl))
 f280:=Tryz.func263.trans (congrArg some (by kernel_rfl))
 f281:=Tryz.func264.trans (congrArg some (by kernel_rfl))
 f282:=Tryz.func265.trans (congrArg some (by kernel_rfl))
 f283:=Tryz.func203.trans (congrArg some (by kernel_rfl))
 f284:=Tryz.func204.trans (congrArg some (by kernel_rfl))
 f285:=Tryz.func205.trans (congrArg some (by kernel_rfl))
 f286:=Tryz.func206.trans (congrArg some (by kernel_rfl))
 f287:=Tryz.func293.trans (congrArg some (by kernel_rfl))
 f316:=Tryz.func294.trans (congrArg some (by kernel_rfl))
 f317:=Tryz.func251.trans (congrArg some (by kernel_rfl))
 f318:=Tryz.func253.trans (congrArg some (by kernel_rfl))
 f319:=Tryz.func254.trans (congrArg some (by kernel_rfl))
 f320:=Tryz.func255.trans (congrArg some (by kernel_rfl))
 f321:=Tryz.func336.trans (congrArg some (by kernel_rfl))
 f322:=Tryz.func337.trans (congrArg some (by kernel_rfl))
 f337:=Tryz.func289.trans (congrArg some (by kernel_rfl))
 f338:=Tryz.func290.trans (congrArg some (by kernel_rfl))
 t0:=Tryz.underlying0
 a0:=Tryz.isAgg0
 z0:=Tryz.sizeOf0
 v0:=Tryz.zeroValue0
 t2:=Tryz.underlying2
 a2:=Tryz.isAgg2
 z2:=Tryz.sizeOf2
 v2:=Tryz.zeroValue2
 t3:=Tryz.underlying3
 a3:=Tryz.isAgg3
 z3:=Tryz.sizeOf3
 v3:=Tryz.zeroValue3
 t4:=Tryz.underlying4
 a4:=Tryz.isAgg4
 z4:=Tryz.sizeOf4
 v4:=Tryz.zeroValue4
 t5:=Tryz.underlying5
 a5:=Tryz.isAgg5
 z5:=Tryz.sizeOf5
 v5:=Tryz.zeroValue5
 t9:=Tryz.underlying9
 a9:=Tryz.isAgg9
 z9:=Tryz.sizeOf9
 v9:=Tryz.zeroValue9
 t20:=Tryz.underlying20
 a20:=Tryz.isAgg20
 z20:=Tryz.sizeOf20
 v20:=Tryz.zeroValue20
 t21:=Tryz.underlying21
 a21:=Tryz.isAgg21
 z21:=Tryz.sizeOf21
 v21:=Tryz.zeroValue21
 t37:=Tryz.underlying146
 a37:=Tryz.isAgg146
 z37:=Tryz.sizeOf146
 v37:=Tryz.zeroValue146
 t46:=Tryz.underlying328
 a46:=Tryz.isAgg328
 z46:=Tryz.sizeOf328
 v46:=Tryz.zeroValue328
 t51:=Tryz.underlying326
 a51:=Tryz.isAgg326
 z51:=Tryz.sizeOf326
 v51:=Tryz.zeroValue326
 t53:=Tryz.underlying286
 a53:=Tryz.isAgg286
 z53:=Tryz.sizeOf286
 v53:=Tryz.zeroValue286
 t75:=Tryz.underlying188
 a75:=Tryz.isAgg188
 z75:=Tryz.sizeOf188
 v75:=Tryz.zeroValue188
 t76:=Tryz.underlying189
 a76:=Tryz.isAgg189
 z76:=Tryz.sizeOf189
 v76:=Tryz.zeroValue189
 t85:=Tryz.underlying331
 a85:=Tryz.isAgg331
 z85:=Tryz.sizeOf331
 v85:=Tryz.zeroValue331
 t127:=Tryz.underlying245
 a127:=Tryz.isAgg245
 z127:=Tryz.sizeOf245
 v127:=Tryz.zeroValue245
 t143:=Tryz.underlying395
 a143:=Tryz.isAgg395
 z143:=Tryz.sizeOf395
 v143:=Tryz.zeroValue395
 t145:=Tryz.underlying397
 a145:=Tryz.isAgg397
 z145:=Tryz.sizeOf397
 v145:=Tryz.zeroValue397
 t167:=Tryz.underlying330
 a167:=Tryz.isAgg330
 z167:=Tryz.sizeOf330
 v167:=Tryz.zeroValue330
 t168:=Tryz.underlying333
 a168:=Tryz.isAgg333
 z168:=Tryz.sizeOf333
 v168:=Tryz.zeroValue333
 t171:=Tryz.underlying285
 a171:=Tryz.isAgg285
 z171:=Tryz.sizeOf285
 v171:=Tryz.zeroValue285
 t173:=Tryz.underlying289
 a173:=Tryz.isAgg289
 z173:=Tryz.sizeOf289
 v173:=Tryz.zeroValue289
 t175:=Tryz.underlying360
 a175:=Tryz.isAgg360
 z175:=Tryz.sizeOf360
 v175:=Tryz.zeroValue360
 t210:=Tryz.underlying364
 a210:=Tryz.isAgg364
 z210:=Tryz.sizeOf364
 v210:=Tryz.zeroValue364
 t212:=Tryz.underlying325
 a212:=Tryz.isAgg325
 z212:=Tryz.sizeOf325
 v212:=Tryz.zeroValue325
 t213:=Tryz.underlying327
 a213:=Tryz.isAgg327
 z213:=Tryz.sizeOf327
 t232:=Tryz.underlying392
 a232:=Tryz.isAgg392
 z232:=Tryz.sizeOf392
 v232:=Tryz.zeroValue392
 t233:=Tryz.underlying393
 a233:=Tryz.isAgg393
 z233:=Tryz.sizeOf393
 v233:=Tryz.zeroValue393
 g15:=by kernel_rfl
 g16:=by kernel_rfl
 g17:=by kernel_rfl
 g18:=by kernel_rfl
 g19:=by kernel_rfl
 t80:=Tryz.underlying191
 a80:=Tryz.isAgg191
 z80:=Tryz.sizeOf191
 v80:=Tryz.zeroValue191
 i0:=by kernel_rfl
 i2:=by kernel_rfl
 i3:=by kernel_rfl
 i4:=by kernel_rfl
 i5:=by kernel_rfl
 i9:=by kernel_rfl
 i20:=by kernel_rfl
 i21:=by kernel_rfl
 i37:=by kernel_rfl
 i46:=by kernel_rfl
 i51:=by kernel_rfl
 i53:=by kernel_rfl
 i75:=by kernel_rfl
 i76:=by kernel_rfl
 i80:=by kernel_rfl
 i85:=by kernel_rfl
 i127:=by kernel_rfl
 i143:=by kernel_rfl
 i145:=by kernel_rfl
 i167:=by kernel_rfl
 i168:=by kernel_rfl
 i171:=by kernel_rfl
 i173:=by kernel_rfl
 i175:=by kernel_rfl
 i210:=by kernel_rfl
 i212:=by kernel_rfl
 i232:=by kernel_rfl
 i233:=by kernel_rfl
 m15:=by kernel_rfl
 m16:=by kernel_rfl
 m17:=by kernel_rfl
 m18:=by kernel_rfl
 m19:=by kernel_rfl
 c0:=by kernel_rfl
 c2:=by kernel_rfl
 c3:=by kernel_rfl
 c4:=by kernel_rfl
 c5:=by kernel_rfl
 c9:=by kernel_rfl
 c20:=by kernel_rfl
 c21:=by kernel_rfl
 c37:=by kernel_rfl
 c46:=by kernel_rfl
 c51:=by kernel_rfl
 c53:=by kernel_rfl
 c75:=by kernel_rfl
 c76:=by kernel_rfl
 c80:=by kernel_rfl
 c85:=by kernel_rfl
 c127:=by kernel_rfl
 c143:=by kernel_rfl
 c145:=by kernel_rfl
 c167:=by kernel_rfl
 c168:=by kernel_rfl
 c171:=by kernel_rfl
 c173:=by kernel_rfl
 c175:=by kernel_rfl
 c210:=by kernel_rfl
 c212:=by kernel_rfl
 c213:=by kernel_rfl
 c232:=by kernel_rfl
 c233:=by kernel_rfl}
open Go.RowKit in
theorem Tryz.strconv_Atoi_ok(s:ByteArray)(aGG:s.size≤9223372036854775806)(v:Int)(h:Lib.atoiAll s.data.toList=.ok v)(w:World):
  Calls Tryz.prog 175 #[.string s] w fun e w'=>e=.returned (.tuple #[.int .i64 v,.nilIface])∧(w'=w∨∃t,w'=Lib.bytesWorld w 5 t):=Any.strconv_Atoi_ok Tryz.F6 s aGG v h w
def Y7:Lib.NumEnd Int→Bool
 |.ok _=>false
 |.range=>false
 |_=>true
open Go.RowKit in
theorem Tryz.B3(s:ByteArray)(aGI:s.size≤281474976710656)(h:Y7 (Lib.atoiAll s.data.toList)=true)(ev:Value)(w:World)(hv:w.cell? ⟨4,0,none⟩=some ev)(hev:ev=.nilIface∨∃te pe,ev=.iface te pe):
  Calls Tryz.prog 175 #[.string s] w fun e w'=>∃N,e=.returned (.tuple #[.int .i64 (0),.iface 333 (.pointer (some ⟨N,0,none⟩))])∧w.heap.size≤N∧w'.heap[N]? =some (.cells #[.string ⟨#[65,116,111,105]⟩,.string s,ev] 364 (0,0))∧Below w.heap.size w w':=Any.strconv_Atoi_syntax Tryz.F6 s aGI (by revert h;cases Lib.atoiAll s.data.toList <;> intro h <;> first|rfl|cases h) ev w hv hev
open Go.RowKit in
theorem Tryz.strconv_Atoi_range(s:ByteArray)(aGI:s.size≤281474976710656)(h:Lib.atoiAll s.data.toList=.range)(ev:Value)(w:World)(hv:w.cell? ⟨5,0,none⟩=some ev)(hev:ev=.nilIface∨∃te pe,ev=.iface te pe):
  Calls Tryz.prog 175 #[.string s] w fun e w'=>∃N,e=.returned (.tuple #[.int .i64 (Lib.atoiSat s.data.toList),.iface 333 (.pointer (some ⟨N,0,none⟩))])∧w.heap.size≤N∧w'.heap[N]? =some (.cells #[.string ⟨#[65,116,111,105]⟩,.string s,ev] 364 (0,0))∧Below w.heap.size w w':=Any.strconv_Atoi_range Tryz.F6 s aGI h ev w hv hev
def Tryz.DE:Go.Shelf.Ren:=⟨fun|156=>43|165=>104|166=>105|169=>106|240=>166|241=>167|276=>201|277=>202|n=>n,fun|31=>97|9=>9|3=>3|4=>4|0=>0|20=>20|72=>185|76=>189|70=>183|37=>146|75=>188|127=>245|164=>282|5=>5|80=>191|n=>n,fun|n=>n⟩
theorem Tryz.TP:Go.Proofs.Lays.n156 Tryz.prog Tryz.DE:={
 mixed:=by kernel_rfl
 f156:=Tryz.func43.trans (congrArg some (by kernel_rfl))
 f165:=Tryz.func104.trans (congrArg some (by kernel_rfl))
 f166:=Tryz.func105.trans (congrArg some (by kernel_rfl))
 f169:=Tryz.func106.trans (congrArg some (by kernel_rfl))
 f240:=Tryz.func166.trans (congrArg some (by kernel_rfl))
 f241:=Tryz.func167.trans (congrArg some (by kernel_rfl))
 f276:=Tryz.func201.trans (congrArg some (by kernel_rfl))
 f277:=Tryz.func202.trans (congrArg some (by kernel_rfl))
 t0:=Tryz.underlying0
 a0:=Tryz.isAgg0
 z0:=Tryz.sizeOf0
 v0:=Tryz.zeroValue0
 t3:=Tryz.underlying3
 a3:=Tryz.isAgg3
 z3:=Tryz.sizeOf3
 v3:=Tryz.zeroValue3
 t4:=Tryz.underlying4
 a4:=Tryz.isAgg4
 z4:=Tryz.sizeOf4
 v4:=Tryz.zeroValue4
 t9:=Tryz.underlying9
 a9:=Tryz.isAgg9
 z9:=Tryz.sizeOf9
 v9:=Tryz.zeroValue9
 t20:=Tryz.underlying20
 a20:=Tryz.isAgg20
 z20:=Tryz.sizeOf20
 v20:=Tryz.zeroValue20
 t31:=Tryz.underlying97
 a31:=Tryz.isAgg97
 z31:=Tryz.sizeOf97
 v31:=Tryz.zeroValue97
 t37:=Tryz.underlying146
 a37:=Tryz.isAgg146
 z37:=Tryz.sizeOf146
 v37:=Tryz.zeroValue146
 t70:=Tryz.underlying183
 a70:=Tryz.isAgg183
 z70:=Tryz.sizeOf183
 v70:=Tryz.zeroValue183
 t72:=Tryz.underlying185
 a72:=Tryz.isAgg185
 z72:=Tryz.sizeOf185
 v72:=Tryz.zeroValue185
 t75:=Tryz.underlying188
 a75:=Tryz.isAgg188
 z75:=Tryz.sizeOf188
 v75:=Tryz.zeroValue188
 t76:=Tryz.underlying189
 a76:=Tryz.isAgg189
 z76:=Tryz.sizeOf189
 v76:=Tryz.zeroValue189
 t127:=Tryz.underlying245
 a127:=Tryz.isAgg245
 z127:=Tryz.sizeOf245
 v127:=Tryz.zeroValue245
 t164:=Tryz.underlying282
 a164:=Tryz.isAgg282
 z164:=Tryz.sizeOf282
 v164:=Tryz.zeroValue282}
theorem Tryz.rA:Builder.Extra Tryz.prog Tryz.DE:={
 sizeBuilder:=by kernel_rfl
 liesBuilder:=by kernel_rfl
 t5:=Tryz.underlying5
 a5:=Tryz.isAgg5
 z5:=Tryz.sizeOf5
 v5:=Tryz.zeroValue5
 infoByte:=by kernel_rfl
 cellsByte:=by kernel_rfl
 sizeByte:=by kernel_rfl
 neB5:=by decide}
open Go.RowKit in
theorem Tryz.strings_Join(bk o c:Nat)(xs:List ByteArray)(sep:ByteArray)(w:World)(jO:∀(j:Nat) x,xs[j]? =some x→w.cell? ⟨bk,o+j,none⟩=some (.string x))(hbk:bk<w.heap.size)(hN:xs.length≤140737488355328)(vG:xs.length≤c)(hlen:(Lib.join (xs.map (·.data.toList)) sep.data.toList).length≤140737488355328):
  Calls Tryz.prog 43 #[.slice (some ⟨bk,o,none⟩) xs.length c,.string sep] w fun e w'=>e=.returned (.string ⟨(Lib.join (xs.map (·.data.toList)) sep.data.toList).toArray⟩)∧Below w.heap.size w w':=Any.strings_Join Tryz.TP Tryz.rA bk o c xs sep w jO hbk hN vG hlen
open Go.RowKit in
theorem Tryz.strings_Join_none(a:Option Addr)(c:Nat)(sep:ByteArray)(w:World):
  Calls Tryz.prog 43 #[.slice a 0 c,.string sep] w fun e w'=>e=.returned (.string ⟨#[]⟩)∧w'=w:=Any.strings_Join_none Tryz.TP Tryz.rA a c sep w
def Tryz.OB:Go.Shelf.Ren:=⟨fun|103=>214|210=>266|206=>296|n=>n,fun|9=>9|4=>4|24=>297|3=>3|n=>n,fun|n=>n⟩
theorem Tryz.aC0:Go.Proofs.Lays.n103 Tryz.prog Tryz.OB:={
 mixed:=by kernel_rfl
 f103:=Tryz.func214.trans (congrArg some (by kernel_rfl))
 f206:=Tryz.func296.trans (congrArg some (by kernel_rfl))
 f210:=Tryz.func266.trans (congrArg some (by kernel_rfl))
 t3:=Tryz.underlying3
 a3:=Tryz.isAgg3
 z3:=Tryz.sizeOf3
 v3:=Tryz.zeroValue3
 t4:=Tryz.underlying4
 a4:=Tryz.isAgg4
 z4:=Tryz.sizeOf4
 v4:=Tryz.zeroValue4
 t9:=Tryz.underlying9
 a9:=Tryz.isAgg9
 z9:=Tryz.sizeOf9
 v9:=Tryz.zeroValue9
 t24:=Tryz.underlying297
 a24:=Tryz.isAgg297
 z24:=Tryz.sizeOf297
 v24:=Tryz.zeroValue297}
open Go.RowKit in
theorem Tryz.strings_CutPrefix(s p:ByteArray)(w:World):
  Calls Tryz.prog 214 #[.string s,.string p] w fun e w'=>e=.returned (.tuple #[.string ⟨(Lib.trimPrefix s.data.toList p.data.toList).toArray⟩,.bool (Lib.hasPrefix s.data.toList p.data.toList)])∧w'=w:=Any.strings_CutPrefix Tryz.aC0 s p w
def Tryz.OA:Go.Shelf.Ren:=⟨fun|106=>220|213=>270|265=>306|n=>n,fun|9=>9|3=>3|n=>n,fun|n=>n⟩
theorem Tryz.aCZ:Go.Proofs.Lays.n106 Tryz.prog Tryz.OA:={
 mixed:=by kernel_rfl
 f106:=Tryz.func220.trans (congrArg some (by kernel_rfl))
 f213:=Tryz.func270.trans (congrArg some (by kernel_rfl))
 f265:=Tryz.func306.trans (congrArg some (by kernel_rfl))
 t3:=Tryz.underlying3
 a3:=Tryz.isAgg3
 z3:=Tryz.sizeOf3
 v3:=Tryz.zeroValue3
 t9:=Tryz.underlying9
 a9:=Tryz.isAgg9
 z9:=Tryz.sizeOf9
 v9:=Tryz.zeroValue9}
open Go.RowKit in
theorem Tryz.strings_Compare(a b:ByteArray)(w:World):
  Calls Tryz.prog 220 #[.string a,.string b] w fun e w'=>e=.returned (.int .i64 (Lib.compareBytes a.data.toList b.data.toList))∧w'=w:=Any.strings_Compare Tryz.aCZ a b w
def Tryz.N7:Go.Shelf.Ren:=⟨fun|190=>223|125=>269|258=>271|128=>305|129=>252|302=>307|303=>308|304=>309|305=>310|306=>311|307=>312|308=>313|309=>314|310=>315|333=>343|329=>339|330=>340|334=>344|335=>345|336=>346|344=>361|n=>n,fun|31=>97|9=>9|3=>3|46=>328|0=>0|51=>326|53=>286|4=>4|183=>369|182=>368|131=>215|5=>5|218=>398|222=>402|228=>418|229=>415|n=>n,fun|n=>n⟩
theorem Tryz.TO:Go.Proofs.Lays.n190 Tryz.prog Tryz.N7:={
 mixed:=by kernel_rfl
 f125:=Tryz.func269.trans (congrArg some (by kernel_rfl))
 f128:=Tryz.func305.trans (congrArg some (by kernel_rfl))
 f129:=Tryz.func252.trans (congrArg some (by kernel_rfl))
 f190:=Tryz.func223.trans (congrArg some (by kernel_rfl))
 f258:=Tryz.func271.trans (congrArg some (by kernel_rfl))
 f302:=Tryz.func307.trans (congrArg some (by kernel_rfl))
 f303:=Tryz.func308.trans (congrArg some (by kernel_rfl))
 f304:=Tryz.func309.trans (congrArg some (by kernel_rfl))
 f305:=Tryz.func310.trans (congrArg some (by kernel_rfl))
 f306:=Tryz.func311.trans (congrArg some (by kernel_rfl))
 f307:=Tryz.func312.trans (congrArg some (by kernel_rfl))
 f308:=Tryz.func313.trans (congrArg some (by kernel_rfl))
 f309:=Tryz.func314.trans (congrArg some (by kernel_rfl))
 f310:=Tryz.func315.trans (congrArg some (by kernel_rfl))
 f329:=Tryz.func339.trans (congrArg some (by kernel_rfl))
 f330:=Tryz.func340.trans (congrArg some (by kernel_rfl))
 f333:=Tryz.func343.trans (congrArg some (by kernel_rfl))
 f334:=Tryz.func344.trans (congrArg some (by kernel_rfl))
 f335:=Tryz.func345.trans (congrArg some (by kernel_rfl))
 f336:=Tryz.func346.trans (congrArg some (by kernel_rfl))
 f344:=Tryz.func361.trans (congrArg some (by kernel_rfl))
 t0:=Tryz.underlying0
 a0:=Tryz.isAgg0
 z0:=Tryz.sizeOf0
 v0:=Tryz.zeroValue0
 t3:=Tryz.underlying3
 a3:=Tryz.isAgg3
 z3:=Tryz.sizeOf3
 v3:=Tryz.zeroValue3
 t4:=Tryz.underlying4
 a4:=Tryz.isAgg4
 z4:=Tryz.sizeOf4
 v4:=Tryz.zeroValue4
 t5:=Tryz.underlying5
 a5:=Tryz.isAgg5
 z5:=Tryz.sizeOf5
 v5:=Tryz.zeroValue5
 t9:=Tryz.underlying9
 a9:=Tryz.isAgg9
 z9:=Tryz.sizeOf9
 v9:=Tryz.zeroValue9
 t31:=Tryz.underlying97
 a31:=Tryz.isAgg97
 z31:=Tryz.sizeOf97
 v31:=Tryz.zeroValue97
 t46:=Tryz.underlying328
 a46:=Tryz.isAgg328
 z46:=Tryz.sizeOf328
 v46:=Tryz.zeroValue328
 t51:=Tryz.underlying326
 a51:=Tryz.isAgg326
 z51:=Tryz.sizeOf326
 v51:=Tryz.zeroValue326
 t53:=Tryz.underlying286
 a53:=Tryz.isAgg286
 z53:=Tryz.sizeOf286
 v53:=Tryz.zeroValue286
 t131:=Tryz.underlying215
 a131:=Tryz.isAgg215
 z131:=Tryz.sizeOf215
 v131:=Tryz.zeroValue215
 t182:=Tryz.underlying368
 a182:=Tryz.isAgg368
 z182:=Tryz.sizeOf368
 v182:=Tryz.zeroValue368
 t183:=Tryz.underlying369
 a183:=Tryz.isAgg369
 z183:=Tryz.sizeOf369
 v183:=Tryz.zeroValue369
 t218:=Tryz.underlying398
 a218:=Tryz.isAgg398
 z218:=Tryz.sizeOf398
 v218:=Tryz.zeroValue398
 t222:=Tryz.underlying402
 a222:=Tryz.isAgg402
 z222:=Tryz.sizeOf402
 v222:=Tryz.zeroValue402
 t228:=Tryz.underlying418
 a228:=Tryz.isAgg418
 z228:=Tryz.sizeOf418
 v228:=Tryz.zeroValue418
 t229:=Tryz.underlying415
 a229:=Tryz.isAgg415
 z229:=Tryz.sizeOf415
 v229:=Tryz.zeroValue415}
open Go.Sort Go.RowKit in
theorem Tryz.slices_Sort_string(blk off cap:Nat)(ss:List (List UInt8))(w:World)(hH:Holds encStr w blk off ss.toArray)(hblk:blk<w.heap.size)(l5:ss.length<4611686018427387904):
  Calls Tryz.prog 223 #[.slice (some ⟨blk,off,none⟩) ss.length cap] w fun e w'=>
   e=.returned (.tuple #[])∧∃n os,w'=grow (putRow encStr (Sort.ahead w n) blk off (ss.mergeSort fun x y=>decide (x≤y)).toArray) os:=Any.slices_Sort_string Tryz.TO blk off cap ss w hH hblk l5
open Go.RowKit Go.Sort in
theorem Tryz.slices_Sort_string_none(p:Option Addr)(cap:Nat)(w:World):
  Calls Tryz.prog 223 #[.slice p 0 cap] w fun e w'=>e=.returned (.tuple #[])∧w'=w:=Any.slices_Sort_string_none Tryz.TO p cap w
def Tryz.N8:Go.Shelf.Ren:=⟨fun|146=>51|221=>112|268=>171|138=>172|143=>173|195=>208|197=>209|218=>210|219=>211|260=>256|217=>257|225=>258|224=>259|267=>260|266=>291|314=>292|n=>n,fun|9=>9|31=>97|3=>3|4=>4|0=>0|105=>292|21=>21|5=>5|46=>328|119=>354|139=>357|138=>356|146=>358|51=>326|n=>n,fun|1=>0|3=>2|4=>3|n=>n⟩
theorem Tryz.aCY:Go.Proofs.Lays.n146 Tryz.prog Tryz.N8:={
 mixed:=by kernel_rfl
 f138:=Tryz.func172.trans (congrArg some (by kernel_rfl))
 f143:=Tryz.func173.trans (congrArg some (by kernel_rfl))
 f146:=Tryz.func51.trans (congrArg some (by kernel_rfl))
 f195:=Tryz.func208.trans (congrArg some (by kernel_rfl))
 f197:=Tryz.func209.trans (congrArg some (by kernel_rfl))
 f217:=Tryz.func257.trans (congrArg some (by kernel_rfl))
 f218:=Tryz.func210.trans (congrArg some (by kernel_rfl))
 f219:=Tryz.func211.trans (congrArg some (by kernel_rfl))
 f221:=Tryz.func112.trans (congrArg some (by kernel_rfl))
 f224:=Tryz.func259.trans (congrArg some (by kernel_rfl))
 f225:=Tryz.func258.trans (congrArg some (by kernel_rfl))
 f260:=Tryz.func256.trans (congrArg some (by kernel_rfl))
 f266:=Tryz.func291.trans (congrArg some (by kernel_rfl))
 f267:=Tryz.func260.trans (congrArg some (by kernel_rfl))
 f268:=Tryz.func171.trans (congrArg some (by kernel_rfl))
 f314:=Tryz.func292.trans (congrArg some (by kernel_rfl))
 t0:=Tryz.underlying0
 a0:=Tryz.isAgg0
 z0:=Tryz.sizeOf0
 v0:=Tryz.zeroValue0
 t3:=Tryz.underlying3
 a3:=Tryz.isAgg3
 z3:=Tryz.sizeOf3
 v3:=Tryz.zeroValue3
 t4:=Tryz.underlying4
 a4:=Tryz.isAgg4
 z4:=Tryz.sizeOf4
 v4:=Tryz.zeroValue4
 t5:=Tryz.underlying5
 a5:=Tryz.isAgg5
 z5:=Tryz.sizeOf5
 v5:=Tryz.zeroValue5
 t9:=Tryz.underlying9
 a9:=Tryz.isAgg9
 z9:=Tryz.sizeOf9
 v9:=Tryz.zeroValue9
 t21:=Tryz.underlying21
 a21:=Tryz.isAgg21
 z21:=Tryz.sizeOf21
 v21:=Tryz.zeroValue21
 t31:=Tryz.underlying97
 a31:=Tryz.isAgg97
 z31:=Tryz.sizeOf97
 v31:=Tryz.zeroValue97
 t46:=Tryz.underlying328
 a46:=Tryz.isAgg328
 z46:=Tryz.sizeOf328
 v46:=Tryz.zeroValue328
 t51:=Tryz.underlying326
 a51:=Tryz.isAgg326
 z51:=Tryz.sizeOf326
 v51:=Tryz.zeroValue326
 t105:=Tryz.underlying292
 a105:=Tryz.isAgg292
 z105:=Tryz.sizeOf292
 v105:=Tryz.zeroValue292
 t119:=Tryz.underlying354
 a119:=Tryz.isAgg354
 z119:=Tryz.sizeOf354
 t138:=Tryz.underlying356
 a138:=Tryz.isAgg356
 z138:=Tryz.sizeOf356
 v138:=Tryz.zeroValue356
 t139:=Tryz.underlying357
 a139:=Tryz.isAgg357
 z139:=Tryz.sizeOf357
 v139:=Tryz.zeroValue357
 t146:=Tryz.underlying358
 a146:=Tryz.isAgg358
 z146:=Tryz.sizeOf358
 v146:=Tryz.zeroValue358
 g1:=by kernel_rfl
 g3:=by kernel_rfl
 g4:=by kernel_rfl}
open Go.RowKit Go.Lib in
theorem Tryz.strings_Split(s sep:ByteArray)(m:Int)(w:World)(hs:s.size<4294967281)(hm:w.cell? ⟨0,0,none⟩=some (.int .i64 m))(h1:1≤sep.size):
  Calls Tryz.prog 51 #[.string s,.string sep] w fun e w'=>
   e=.returned (.slice (some ⟨w.heap.size,0,none⟩) (Lib.countB s sep+1) (Lib.countB s sep+1))∧w'=w.alloc (.cells ((Lib.splitB sep 0 (Lib.countB s sep) s).map Value.string).toArray 9):=Any.strings_Split Tryz.aCY (by kernel_rfl) s sep m w hs hm h1
def Tryz.N9:Go.Shelf.Ren:=⟨fun|109=>174|n=>n,fun|31=>97|9=>9|3=>3|0=>0|4=>4|n=>n,fun|n=>n⟩
theorem Tryz.TQ:Go.Proofs.Lays.n109 Tryz.prog Tryz.N9:={
 mixed:=by kernel_rfl
 f109:=Tryz.func174.trans (congrArg some (by kernel_rfl))
 t0:=Tryz.underlying0
 a0:=Tryz.isAgg0
 z0:=Tryz.sizeOf0
 v0:=Tryz.zeroValue0
 t3:=Tryz.underlying3
 a3:=Tryz.isAgg3
 z3:=Tryz.sizeOf3
 v3:=Tryz.zeroValue3
 t4:=Tryz.underlying4
 a4:=Tryz.isAgg4
 z4:=Tryz.sizeOf4
 v4:=Tryz.zeroValue4
 t9:=Tryz.underlying9
 a9:=Tryz.isAgg9
 z9:=Tryz.sizeOf9
 v9:=Tryz.zeroValue9
 t31:=Tryz.underlying97
 a31:=Tryz.isAgg97
 z31:=Tryz.sizeOf97
 v31:=Tryz.zeroValue97}
open Go.Lib in
theorem Tryz.slices_Index_string(b off n c:Nat)(zs:List ByteArray)(x:ByteArray)(w:World)(hz:n≤zs.length)(aM5:n≤9223372036854775807)(hc:∀j,j<zs.length→w.cell? ⟨b,off+j,none⟩=some (.string (zs.getD j ByteArray.empty))):
  Calls Tryz.prog 174 #[.slice (some ⟨b,off,none⟩) n c,.string x] w fun e w'=>e=.returned (.int .i64 (Lib.idxOfS (zs.take n) x))∧w'=w:=Any.slices_Index_string Tryz.TQ b off n c zs x w hz aM5 hc
open Go.Lib in
theorem Tryz.slices_Index_string_empty(a:Option Addr)(c:Nat)(x:ByteArray)(w:World):
  Calls Tryz.prog 174 #[.slice a 0 c,.string x] w fun e w'=>e=.returned (.int .i64 (Lib.idxOfS [] x))∧w'=w:=Any.slices_Index_string_empty Tryz.TQ a c x w
end Go.Proofs
namespace Go.Ch
open Go Go.Ax Go.Proofs Go.Proofs.Tryz Go.RowKit
theorem mE{M:Mem}{w w':World}(h:kF M w)(hb:Below w.heap.size w w'):kF M w':=by
 intro b o u e
 have hc:=h b o u e
 have fR:b<w.heap.size:=by
  rcases Nat.lt_or_ge b w.heap.size with h'|h'
  ·exact h'
  ·simp[World.cell?,Array.getElem?_eq_none h']at hc
 have:w'.heap[b]? =w.heap[b]? :=hb.block b fR
 simp only [World.cell?,this]at hc ⊢
 exact hc
def wN(M:Mem)(w w':World):Mem:=fun b o=>if w.heap.size≤b then w'.cell? ⟨b,o,none⟩else M b o
theorem N3{M:Mem}{w w':World}(h:kF M w):Grow w.heap.size M (wN M w w'):=by
 refine⟨fun b o u e=>?_,fun b o u e=>?_⟩
 ·have hc:=h b o u e
  have fR:¬w.heap.size≤b:=fun h'=>by simp[World.cell?,Array.getElem?_eq_none h']at hc
  simp only [wN,if_neg fR];exact e
 ·simp only [wN]at e
  split at e
  ·rename_i h';exact .inr h'
  ·exact .inl e
theorem VR{M:Mem}{w w':World}(h:kF M w)(hb:Below w.heap.size w w'):kF (wN M w w') w':=by
 intro b o u e
 simp only [wN]at e
 split at e
 ·exact e
 ·exact mE h hb b o u e
theorem B2{x:aBS}{w:World}(h:BU x w){g:Nat}{t:Array Value}(m:(g,t)∈qU x)(o:Nat):w.cell? ⟨g,o,none⟩=t[o]? :=by
 obtain⟨e,fr,c⟩:=h g t m
 simp[World.cell?,c]
theorem aE6{x:aBS}{w:World}(h:BU x w){g:Nat}{name:String}{k:IntKind}{zs:List Int}(hn:prog.globalNamed name=some g)(m:(g,(zs.map fun z=>Value.int k z).toArray)∈qU x):Lib.TabIs prog w name k zs:=by
 obtain⟨e,fr,c⟩:=h g _ m
 simp[Lib.TabIs,World.var?,hn,c]
theorem C1(n:Int)(h0: -9223372036854775808≤n)(h1:n≤9223372036854775807):aF prog 47 [vI n] (vT (Lib.itoa n)):=by
 refine⟨call47,fun M w vs hg hr hM=>?_⟩
 match vs,hr with
 |[v],⟨h,_⟩=>
  obtain rfl:v=.int .i64 n:=h
  obtain⟨x,hx⟩:=hg
  refine(Tryz.strconv_Itoa n h0 h1 w (aE6 hx (g:=1) kR (by simp[qU,Y3]))).mono ?_
  rintro e w' ⟨rfl,k,os,rfl⟩
  have hb:Below w.heap.size w (Sort.grow (w.drewN k) os):=⟨rfl,rfl,rfl,by show w.heap.size≤(w.heap++os).size;rw[Array.size_append];omega,fun _ hj=>Sort.heap_grow_old (w.drewN k) os hj⟩
  exact⟨_,M,rfl,rfl,Grow.refl _ _,mE hM hb,⟨hb,oO⟩⟩
def atN(l:List UInt8):Int:=match Lib.atoiAll l with|.ok v=>v|.range=>Lib.atoiSat l|_=>0
def SR(l:List UInt8):Bool:=match Lib.atoiAll l with|.ok _=>false|_=>true
theorem Atoi(l:List UInt8)(hl:l.length≤281474976710656):aF prog 175 [vT l] (.t [.s (.d (.val (.int .i64 (atN l)))),.s (.d (.err (SR l)))]):=by
 refine⟨call175,fun M w vs hg hr hM=>?_⟩
 match vs,hr with
 |[v],⟨h,_⟩=>
  obtain rfl:v=.string (bs l):=h
  obtain⟨x,hx⟩:=hg
  have hs:(bs l).size≤281474976710656:=by rw[fH];exact hl
  cases ha:Lib.atoiAll l with
  |ok n=>
   refine(Tryz.strconv_Atoi_ok (bs l) oM n ha w).mono ?_
   rintro e w' ⟨rfl,hw⟩
   have hb:Below w.heap.size w w':=by
    rcases hw with rfl|⟨t,rfl⟩
    ·exact Below.refl _ _
    ·exact Lib.bytesWorld_below _ _ _
   refine⟨_,M,rfl,?_,Grow.refl _ _,mE hM hb,⟨hb,oO⟩⟩
   simp only [atN,SR,ha]
   exact⟨[_,_],rfl,rfl,.inl ⟨rfl,rfl⟩,oO⟩
  |range=>
   refine(Tryz.strconv_Atoi_range (bs l) hs ha (.iface x.t3 x.p3) w (by rw[B2 hx (t:= #[.iface x.t3 x.p3]) (by simp[qU])];rfl) (.inr ⟨_,_,rfl⟩)).mono ?_
   rintro e w' ⟨N,rfl,_,_,hb⟩
   refine⟨_,M,rfl,?_,Grow.refl _ _,mE hM hb,⟨hb,oO⟩⟩
   simp only [atN,SR,ha]
   exact⟨[_,_],rfl,rfl,.inr ⟨rfl,_,_,rfl⟩,oO⟩
  |_=>
   refine(Tryz.B3 (bs l) hs (by show Y7 (Lib.atoiAll l)=true;rw[ha];rfl) (.iface x.t2 x.p2) w (by rw[B2 hx (t:= #[.iface x.t2 x.p2]) (by simp[qU])];rfl) (.inr ⟨_,_,rfl⟩)).mono ?_
   rintro e w' ⟨N,rfl,_,_,hb⟩
   refine⟨_,M,rfl,?_,Grow.refl _ _,mE hM hb,⟨hb,oO⟩⟩
   simp only [atN,SR,ha]
   exact⟨[_,_],rfl,rfl,.inr ⟨rfl,_,_,rfl⟩,oO⟩
def XZ(ls:List (List UInt8)):DV:=.fW ls.length 1 fun i _=>dT (ls.getD i [])
end Go.Ch
namespace Go.Pj
open Go Go.Ax Go.Ch Go.Proofs Go.Proofs.Tryz
abbrev b9:=List UInt8
def tx(b:ByteArray):b9:=b.data.toList
theorem D9(b:ByteArray):bs (tx b)=b:=by
 apply ByteArray.ext;simp[bs,tx]
theorem aA3(b:ByteArray):dS b=dT (tx b):=by rw[dT,D9]
def qS:b9:=[115,117,114,118,101,121]
def C3:b9:=[108,111,97,100]
def vW:b9:=[119,97,105,118,101]
def jY:b9:=[119,105,116,104,100,114,97,119]
def cM(kind:Int)(f:Fact):Int:=
 bif (kind==0&&within f.bM 0 2)&&within f.month 0 24 then 0
 else bif kind==1&&within f.number 1 1000000 then 0
 else bif kind !=2|| !within f.month 1 24 then 2
 else bif !isName f.eO then 4 else 0
def cS(kind:Int)(f:Fact):List b9:=
 bif kind==0 then [qS,Lib.itoa f.bM,Lib.itoa f.month]else bif kind==1 then [C3,Lib.itoa f.number]else [vW,tx f.eO,Lib.itoa f.month]
def tG(l:List b9)(k:Nat)(_:Nat):DV:=dT (l.getD k [])
theorem JP(kind:Int)(f:Fact)(hf:f.fits)(he:cM kind f≠0):aF prog 103 [vI kind,p8 f] (.t [.s (.d (.val (.slice none 0 0))),.s (.d (dI (cM kind f)))]):=by
 have no1:(kind==0)=true→(kind==1)=true→False:=fun a b=>by
  have:kind=0:=by simpa using a
  subst this;cases b
 have no2:(kind==0)=true→(kind !=2)=false→False:=fun a b=>by
  have:kind=0:=by simpa using a
  subst this;cases b
 have no3:(kind==1)=true→(kind !=2)=false→False:=fun a b=>by
  have:kind=1:=by simpa using a
  subst this;cases b
 have e0:(kind==0)=true→cM kind f=2:=fun a=>by
  have:kind=0:=by simpa using a
  subst this
  unfold cM at he ⊢
  revert he
  cases h:(((0:Int)==0&&within f.bM 0 2)&&within f.month 0 24)with
  |true=>intro he;exact absurd rfl he
  |false=>intro _;rfl
 refine eP func103 rfl rfl call103 rfl rfl fun cx aA=>?_
 repeat refine aR ?_
 refine aI (fun h1=>?_) (fun h1=>?_)
 ·refine ob (by rw[h1];rfl) ?_
  refine aB (lQ 0 2 f.bM rfl) ?_
  repeat refine aR ?_
  refine aI (fun h2=>?_) (fun h2=>?_)
  ·refine ob (by rw[h2];rfl) ?_
   refine aB (lQ 0 24 f.month rfl) ?_
   repeat refine aR ?_
   refine aI (fun h3=>?_) (fun h3=>?_)
   ·exact absurd (by unfold cM;rw[h1,h2,h3];rfl) he
   ·repeat refine aR ?_
    refine aI (fun h4=>?_) (fun h4=>?_)
    ·exact(no1 h1 h4).elim
    repeat refine aR ?_
    refine aI (fun h5=>?_) (fun h5=>?_)
    ·exact(no2 h1 h5).elim
    ·exact aC.of_eq (by rw[e0 h1];rfl)
  ·have h2:within f.bM 0 2=false:=h2
   repeat refine aR ?_
   refine aI (fun h4=>?_) (fun h4=>?_)
   ·exact(no1 h1 h4).elim
   repeat refine aR ?_
   refine aI (fun h5=>?_) (fun h5=>?_)
   ·exact(no2 h1 h5).elim
   ·exact aC.of_eq (by rw[e0 h1];rfl)
 ·have h1:(kind==0)=false:=h1
  repeat refine aR ?_
  refine aI (fun h4=>?_) (fun h4=>?_)
  ·refine ob (by rw[h4];rfl) ?_
   refine aB (lQ 1 1000000 f.number rfl) ?_
   repeat refine aR ?_
   refine aI (fun h5=>?_) (fun h5=>?_)
   ·have h4:(kind==1)=true:=h4
    exact absurd (by unfold cM;rw[h1,h4,h5];rfl) he
   ·have h5:within f.number 1 1000000=false:=h5
    repeat refine aR ?_
    refine aI (fun h6=>?_) (fun h6=>?_)
    ·exact(no3 h4 h6).elim
    ·have h6:(kind !=2)=true:=h6
     exact aC.of_eq (by unfold cM;rw[h1,h4,h5,h6];rfl)
  ·have h4:(kind==1)=false:=h4
   repeat refine aR ?_
   refine aI (fun h6=>?_) (fun h6=>?_)
   ·have h6:(kind !=2)=false:=h6
    refine ob (by rw[h6];rfl) ?_
    refine aB (lQ 1 24 f.month rfl) ?_
    repeat refine aR ?_
    refine aI (fun h7=>?_) (fun h7=>?_)
    ·have h7:(!within f.month 1 24)=true:=h7
     exact aC.of_eq (by unfold cM;rw[h1,h4,h6,h7];rfl)
    ·have h7:(!within f.month 1 24)=false:=h7
     refine aB (AI f.eO hf.eO) ?_
     repeat refine aR ?_
     refine aI (fun h8=>?_) (fun h8=>?_)
     ·have h8:(!isName f.eO)=true:=h8
      exact aC.of_eq (by unfold cM;rw[h1,h4,h6,h7,h8];rfl)
     ·have h8:(!isName f.eO)=false:=h8
      exact absurd (by unfold cM;rw[h1,h4,h6,h7,h8];rfl) he
   ·have h6:(kind !=2)=true:=h6
    exact aC.of_eq (by unfold cM;rw[h1,h4,h6];rfl)
theorem wd2{a b:b9}{f:Nat→Nat→DV}(h0:f 0 0=dT a)(h1:f 1 0=dT b):∀i j,i<2→j<1→aL (f i j) (tG [a,b] i j):=fun i j hi hj=>by
 obtain rfl:j=0:=oM
 match i,hi with
 |0,_=>exact aL.of_eq h0
 |1,_=>exact aL.of_eq h1
theorem wd3{a b c:b9}{f:Nat→Nat→DV}(h0:f 0 0=dT a)(h1:f 1 0=dT b)(h2:f 2 0=dT c):∀i j,i<3→j<1→aL (f i j) (tG [a,b,c] i j):=fun i j hi hj=>by
 obtain rfl:j=0:=oM
 match i,hi with
 |0,_=>exact aL.of_eq h0
 |1,_=>exact aL.of_eq h1
 |2,_=>exact aL.of_eq h2
theorem OF(kind:Int)(f:Fact)(hf:f.fits)(he:cM kind f=0):bT prog 103 [vI kind,p8 f] [] (.t [.s (.own 9),.s (.d (dI 0))]) [(9,.row 9 (cS kind f).length 1 (tG (cS kind f)))]:=by
 have no1:(kind==0)=true→(kind==1)=true→False:=fun a b=>by
  have:kind=0:=by simpa using a
  subst this;cases b
 have no2:(kind==0)=true→(kind !=2)=false→False:=fun a b=>by
  have:kind=0:=by simpa using a
  subst this;cases b
 have no3:(kind==1)=true→(kind !=2)=false→False:=fun a b=>by
  have:kind=1:=by simpa using a
  subst this;cases b
 cases h1:kind==0 with
 |true=>
  have hW:cS kind f=[qS,Lib.itoa f.bM,Lib.itoa f.month]:=by unfold cS;rw[h1];rfl
  have hc:within f.bM 0 2=true∧within f.month 0 24=true:=by
   have:kind=0:=by simpa using h1
   subst this
   unfold cM at he
   revert he
   cases within f.bM 0 2 <;> cases within f.month 0 24 <;> simp
  obtain⟨h2,h3⟩:=hc
  have h2':=within_iff.1 h2
  have DT:=within_iff.1 h3
  rw[hW]
  apply bT.LF (a:=27) (n:=3) 9 rfl
  case h=>
   refine fC (rc:=[]) (N:=62) func103 rfl rfl call103 aJ mix rfl rfl rfl rfl (fun cx aA=>?_)
   repeat refine aR ?_
   refine aI (fun k1=>?_) (fun k1=>(Bool.noConfusion (h1.symm.trans k1)))
   refine ob (by rw[h1];rfl) ?_
   refine aB (lQ 0 2 f.bM rfl) ?_
   repeat refine aR ?_
   refine aI (fun k1=>?_) (fun k1=>(Bool.noConfusion (h2.symm.trans k1)))
   refine ob (by rw[h2];rfl) ?_
   refine aB (lQ 0 24 f.month rfl) ?_
   repeat refine aR ?_
   refine aI (fun k1=>?_) (fun k1=>(Bool.noConfusion (h3.symm.trans k1)))
   refine aB (C1 f.bM oM oM) ?_
   refine aB (C1 f.month oM oM) ?_
   refine aD ?_
   exact⟨aU.rfl,rfl,oO⟩
  case hg=>exact wd3 rfl rfl rfl
 |false=>
  cases h4:kind==1 with
  |true=>
   have hW:cS kind f=[C3,Lib.itoa f.number]:=by unfold cS;rw[h1,h4];rfl
   have h5:within f.number 1 1000000=true:=by
    have:kind=1:=by simpa using h4
    subst this
    unfold cM at he
    revert he
    cases within f.number 1 1000000 <;> simp
   have h5':=within_iff.1 h5
   rw[hW]
   apply bT.LF (a:=40) (n:=2) 9 rfl
   case h=>
    refine fC (rc:=[]) (N:=62) func103 rfl rfl call103 aJ mix rfl rfl rfl rfl (fun cx aA=>?_)
    repeat refine aR ?_
    refine aI (fun k1=>(Bool.noConfusion (h1.symm.trans k1))) (fun k1=>?_)
    repeat refine aR ?_
    refine aI (fun k1=>?_) (fun k1=>(Bool.noConfusion (h4.symm.trans k1)))
    refine ob (by rw[h4];rfl) ?_
    refine aB (lQ 1 1000000 f.number rfl) ?_
    repeat refine aR ?_
    refine aI (fun k1=>?_) (fun k1=>(Bool.noConfusion (h5.symm.trans k1)))
    refine aB (C1 f.number oM oM) ?_
    exact⟨aU.rfl,rfl,oO⟩
   case hg=>exact wd2 rfl rfl
  |false=>
   have hW:cS kind f=[vW,tx f.eO,Lib.itoa f.month]:=by unfold cS;rw[h1,h4];rfl
   have hc:(kind !=2)=false∧(!within f.month 1 24)=false∧(!isName f.eO)=false:=by
    unfold cM at he
    rw[h1,h4]at he
    revert he
    cases kind !=2 <;> cases within f.month 1 24 <;> cases isName f.eO <;> simp
   obtain⟨h6,h7,h8⟩:=hc
   have h7':=within_iff.1 (show within f.month 1 24=true by revert h7;cases within f.month 1 24 <;> simp)
   rw[hW]
   apply bT.LF (a:=61) (n:=3) 9 rfl
   case h=>
    refine fC (rc:=[]) (N:=62) func103 rfl rfl call103 aJ mix rfl rfl rfl rfl (fun cx aA=>?_)
    repeat refine aR ?_
    refine aI (fun k1=>(Bool.noConfusion (h1.symm.trans k1))) (fun k1=>?_)
    repeat refine aR ?_
    refine aI (fun k1=>(Bool.noConfusion (h4.symm.trans k1))) (fun k1=>?_)
    repeat refine aR ?_
    refine aI (fun k1=>?_) (fun k1=>(Bool.noConfusion (h6.symm.trans k1)))
    refine ob (by rw[h6];rfl) ?_
    refine aB (lQ 1 24 f.month rfl) ?_
    repeat refine aR ?_
    refine aI (fun k1=>(Bool.noConfusion (h7.symm.trans k1))) (fun k1=>?_)
    refine aB (AI f.eO hf.eO) ?_
    repeat refine aR ?_
    refine aI (fun k1=>(Bool.noConfusion (h8.symm.trans k1))) (fun k1=>?_)
    refine aB (C1 f.month oM oM) ?_
    refine aD ?_
    exact⟨aU.rfl,rfl,oO⟩
   case hg=>exact wd3 rfl (aA3 f.eO) rfl
end Go.Pj
--K2
namespace Go.Proofs
open Go Go.Lib
def Tryz.DD:Go.Shelf.Ren:=⟨fun|22=>48|17=>207|29=>109|30=>110|36=>169|n=>n,fun|24=>97|9=>9|3=>3|4=>4|0=>0|n=>n,fun|n=>n⟩
theorem Tryz.TN:Go.Proofs.Lays2.n22 prog Tryz.DD:={
 mixed:=kR
 f17:=func207.trans (congrArg some kR)
 f22:=func48.trans (congrArg some kR)
 f29:=func109.trans (congrArg some kR)
 f30:=func110.trans (congrArg some kR)
 f36:=func169.trans (congrArg some kR)
 t0:=underlying0
 a0:=Tryz.isAgg0
 z0:=Tryz.sizeOf0
 v0:=zeroValue0
 t3:=underlying3
 a3:=Tryz.isAgg3
 z3:=Tryz.sizeOf3
 v3:=zeroValue3
 t4:=underlying4
 a4:=Tryz.isAgg4
 z4:=Tryz.sizeOf4
 v4:=zeroValue4
 t9:=underlying9
 a9:=Tryz.isAgg9
 z9:=Tryz.sizeOf9
 v9:=zeroValue9
 t24:=underlying97
 a24:=Tryz.isAgg97
 z24:=Tryz.sizeOf97
 v24:=zeroValue97
 i9:=by kernel_rfl}
end Go.Proofs
namespace Go.Pj
open Go Go.Ax Go.Ch Go.Proofs Go.Proofs.Tryz
set_option maxRecDepth 100000
set_option maxHeartbeats 1000000
theorem gK{b k:Nat}(h:k≠b):∀(vs:List Value) (o:Nat) (w:World),(w.setCells b o vs).heap[k]? =w.heap[k]?
 |[],_,_=>rfl
 |v::r,o,w=>by
  rw[World.setCells,gK h r]
  simp[World.setCell,Array.getElem?_modify,Ne.symm h]
theorem size_setCells{b:Nat}:∀(vs:List Value) (o:Nat) (w:World),(w.setCells b o vs).heap.size=w.heap.size
 |[],_,_=>rfl
 |v::r,o,w=>by
  rw[World.setCells,size_setCells r]
  simp[World.setCell]
theorem jI{b:Nat}:∀(vs:List Value) (o:Nat) (w:World),(w.setCells b o vs).os=w.os∧(w.setCells b o vs).tape=w.tape∧(w.setCells b o vs).output=w.output
 |[],_,_=>⟨rfl,rfl,rfl⟩
 |v::r,o,w=>by
  rw[World.setCells]
  obtain⟨h1,h2,h3⟩:=jI (b:=b) r (o+1) (w.setCell ⟨b,o,none⟩ v)
  exact⟨h1,h2,h3⟩
def wW(l:List b9)(i:Nat)(x:b9):List b9:=l.take i++x::l.drop i
theorem UT(l:List b9)(i:Nat)(x:b9)(hi:i<l.length)(hl:l.length≤100000){f g:Nat→Nat→DV}(hf:∀k,k<l.length→aL (f k 0) (dT (l.getD k [])))(hg:aL (g 0 0) (dT x)):
  bT prog 48 [.s (.own 1),vI i,.s (.own 2)] [(1,.row 9 l.length 1 f),(2,.row 9 1 1 g)] (.s (.own 9)) [(9,.row 9 (l.length+1) 1 (tG (wW l i x)))]:=by
 refine⟨call48,fun M β w vs hG hr hM qP hβ=>?_⟩
 obtain⟨b,c,cur,hb1,hb2,hb3,hb4,hb5,hb6,hb7⟩:=qP.rep 1 _ (List.mem_cons_self ..)
 obtain⟨d,e,aG3,hd1,hd2,hd3,hd4,hd5,hd6,hd7⟩:=qP.rep 2 _ (List.mem_cons_of_mem _ (List.mem_cons_self ..))
 match vs,hr with
 |[v1,v2,v3],⟨h1,h2,h3,_⟩=>
  obtain⟨b',c',OP,rfl,O1⟩:=h1
  rw[hb1]at OP;cases OP
  obtain rfl:v2=.int .i64 i:=h2
  obtain⟨d',e',OP,rfl,CM⟩:=h3
  rw[hd1]at OP;cases OP
  have RW:b≠d:=fun h=>by
   subst h
   have:=qP.inj 1 2 b c e (by simp[names]) (by simp[names]) hb1 hd1
   cases this
  have lM:∀(j:Nat) v,(l.map fun t=>Value.string (bs t))[j]? =some v→cur[j]? =some v:=by
   intro j v hj
   have pX:j<l.length:=by have:=(List.getElem?_eq_some_iff.1 hj).1;simpa using this
   obtain⟨u,hu,hr⟩:=hb7 j 0 pX oM
   rw[show j*1+0=j by omega]at hu
   have hr:u=.string (bs (l.getD j [])):=hf j pX M u hr
   rw[hu,hr]
   simp only [List.getElem?_map,List.getElem?_eq_getElem pX,Option.map_some]at hj
   rw[a7 pX,←Option.some.inj hj]
  have V5:aG3[0]? =some (.string (bs x)):=by
   obtain⟨u,hu,hr⟩:=hd7 0 0 oM oM
   have hr:u=.string (bs x):=hg M u hr
   rw[←hr];exact hu
  have hvs:∀(j:Nat) v,[Value.string (bs x)][j]? =some v→aG3[j]? =some v:=by
   intro j v hj
   match j,hj with
   |0,hj=>rw[V5];exact hj
  have aGG:c.1≤9223372036854775807:=hb6
  have bw:b<w.heap.size:=(Array.getElem?_eq_some_iff.1 hb2).1
  have dw:d<w.heap.size:=(Array.getElem?_eq_some_iff.1 hd2).1
  have fin:∀(w':World) (b2 cap:Nat) (F:Nat→Value),w'.rowIs b2 9 cap F→l.length+1≤cap→cap≤maxLen→(∀j,j<l.length+1→F j=.string (bs ((wW l i x).getD j [])))→(b2=b∨w.heap.size≤b2)→
    (∀k,k<w.heap.size→k≠b→w'.heap[k]? =w.heap[k]?)→w.heap.size≤w'.heap.size→w'.os=w.os∧w'.tape=w.tape∧w'.output=w.output→
    ∃v M' β',Ending.returned (.slice (some ⟨b2,0,none⟩) (l.length+1) cap)=.returned v∧Nm.le β β'∧(AV.s (.own 9)).bD M' β' v∧Grow w.heap.size M M'∧kF M' w'∧rB M' β' w' [(9,.row 9 (l.length+1) 1 (tG (wW l i x)))]∧
     (∀z b c,z∈names [(9,jE.row 9 (l.length+1) 1 (tG (wW l i x)))]→β' z=some (b,c)→w.heap.size≤b∨∃y c',β y=some (b,c'))∧
     w'.os=w.os∧w'.tape=w.tape∧w'.output=w.output∧w.heap.size≤w'.heap.size∧(∀k,k<w.heap.size→(∀y c,β y≠some (k,c))→w'.heap[k]? =w.heap[k]?)∧Dr w w':=by
   intro w' b2 cap F hF hn vG GM Z1 hold hs ⟨ho1,ho2,ho3⟩
   obtain⟨cu,hc1,HY,hc3⟩:=hF
   have only:∀y,y∈names [(9,jE.row 9 (l.length+1) 1 (tG (wW l i x)))]→y=9:=fun y hy=>List.mem_singleton.1 hy
   have h9:β 9=none:=by
    cases h:β 9 with
    |none=>rfl
    |some p=>have:=hβ 9 p h;simp[names]at this
   let β':Nm:=fun y=>if y=9 then some (b2,(cap,l.length+1))else β y
   have e9:β' 9=some (b2,(cap,l.length+1)):=if_pos rfl
   have noM:∀o,M b2 o=none:=fun o=>by
    rcases Z1 with rfl|h
    ·exact qP.apart 1 b2 c (by simp[names]) hb1 o
    ·cases hm:M b2 o with
     |none=>rfl
     |some u=>
      have:=World.block_lt_of_cell? w ⟨b2,o,none⟩ (hM b2 o u hm)
      exact absurd this (by simp only;omega)
   refine⟨_,M,β',rfl,?_,⟨b2,_,e9,rfl,hn⟩,Grow.refl _ _,?_,⟨?_,?_,?_,?_⟩,?_,ho1,ho2,ho3,hs,?_,oO⟩
   ·intro y p hy
    show(if y=9 then _ else β y)=_
    rw[if_neg (fun h=>by rw[h,h9]at hy;cases hy)];exact hy
   ·intro b3 o u hu
    have hw:=hM b3 o u hu
    have fR:=World.block_lt_of_cell? w ⟨b3,o,none⟩ hw
    have gI:b3≠b:=fun h=>by
     subst h
     rw[qP.apart 1 b3 c (by simp[names]) hb1 o]at hu;cases hu
    simp only [World.cell?]at hw ⊢
    rw[hold b3 fR gI];exact hw
   ·intro y hy
    obtain rfl:=only y hy
    exact⟨_,_,e9⟩
   ·intro y bb hy
    have hy:=List.mem_singleton.1 hy
    cases hy
    refine⟨b2,_,cu,e9,hc1,rfl,by rw[HY];simp,hn,vG,fun k j hk hj=>?_⟩
    obtain rfl:j=0:=oM
    refine⟨F k,by rw[Nat.mul_one,Nat.add_zero];exact hc3 k oM,GM k hk⟩
   ·intro y z _ _ _ hy hz _ _
    rw[only y hy,only z hz]
   ·intro y b3 c3 hy hb o
    obtain rfl:=only y hy
    rw[e9]at hb;cases hb
    exact noM o
   ·intro y b3 c3 hy hb
    obtain rfl:=only y hy
    rw[e9]at hb;cases hb
    rcases Z1 with rfl|h
    ·exact .inr ⟨1,c,hb1⟩
    ·exact .inl h
   ·intro k hk V9
    exact hold k hk (fun h=>V9 1 c (by rw[h];exact hb1))
  have AZ:∀j,j<l.length+1→(wW l i x).getD j []=if j<i then l.getD j []else if j=i then x else l.getD (j - 1) []:=by
   intro j hj
   unfold wW
   simp only [List.getD_eq_getElem?_getD]
   by_cases h1:j<i
   ·rw[List.getElem?_append_left (by simp;omega),List.getElem?_take_of_lt h1,if_pos h1]
   ·rw[List.getElem?_append_right (by simp;omega),if_neg h1]
    have hlen:(l.take i).length=i:=by simp;omega
    rw[hlen]
    by_cases h2:j=i
    ·subst h2;simp
    ·rw[if_neg h2,show j - i=(j - 1 - i)+1 by omega,List.getElem?_cons_succ,List.getElem?_drop,show i+(j - 1 - i)=j - 1 by omega]
  have O0:∀(j k:Nat),i+k=j→j<l.length→(((l.map fun t=>Value.string (bs t)).drop i)[k]?).getD default=.string (bs (l.getD j [])):=by
   intro j k e hj
   rw[List.getElem?_drop,e,List.getElem?_map,List.getElem?_eq_getElem hj,a7 hj];rfl
  have oN:w.rowIs b 9 c.1 (fun j=>(cur[j]?).getD default):=⟨cur,hb2,oM,fun j hj=>by
   have:=Array.getElem?_eq_getElem (xs:=cur) (i:=j) oM
   simp[this]⟩
  have aAH:∀j,j<l.length→(cur[j]?).getD default=.string (bs (l.getD j [])):=fun j hj=>by
   rw[lM j (.string (bs (l.getD j []))) (by rw[List.getElem?_map,List.getElem?_eq_getElem hj,a7 hj];rfl)];rfl
  rw[hb3,hd3]
  by_cases q6:l.length+1≤c.1
  ·refine(Any2.slices_Insert_string_shift Tryz.TN b 0 l.length c.1 i d 0 1 e.1 (l.map fun t=>Value.string (bs t)) [.string (bs x)] w hi oM q6 aGG (Ne.symm RW) sM rfl
    (fun j v hj=>by simp only [World.cell?,hb2];simpa using lM j v hj) (fun j hj=>by
     simp only [World.cell?,hb2]
     simp
     omega) (fun j hj=>by simp[World.frozen?,hb2])
    (fun j v hj=>by simp only [World.cell?,hd2];simpa using hvs j v hj) (fun v hv=>by
     obtain⟨t,_,rfl⟩:=List.mem_map.1 hv;rfl) (fun v hv=>by rw[List.mem_singleton.1 hv];rfl)
    9 9 aG3.size cur.size (by simp[World.shape?,hd2]) (by simp[World.shape?,hb2]) oM (by simp[World.frozen?,hd2]) (by simp[World.frozen?,hd2])).mono ?_
   rintro q w' ⟨rfl,rfl⟩
   have r1:w.drew.rowIs b 9 c.1 _:=oN.of_block rfl
   have r2:=Go.rowIs_setCells [Value.string (bs x)] (0+i) _ _ (Go.rowIs_setCells ((l.map fun t=>Value.string (bs t)).drop i) (0+(i+1)) _ _ r1)
   refine fin _ b c.1 _ r2 q6 hb6 (fun j hj=>?_) (.inl rfl) (fun k hk gI=>?_) ?_ ?_
   ·rw[AZ j hj]
    simp only [List.length_cons,List.length_nil,List.length_drop,List.length_map,Nat.zero_add]
    by_cases h1:j<i
    ·rw[if_neg oM,if_neg oM,if_pos h1]
     exact aAH j oM
    ·by_cases h2:j=i
     ·subst h2
      rw[if_pos oM,if_neg oM,if_pos rfl,Nat.sub_self];rfl
     ·rw[if_neg oM,if_pos oM,if_neg h1,if_neg h2]
      exact O0 (j - 1) (j - (i+1)) oM oM
   ·rw[gK gI,gK gI];rfl
   ·rw[size_setCells,size_setCells];exact Nat.le_refl _
   ·obtain⟨a1,a2,a3⟩:=jI (b:=b) [Value.string (bs x)] (0+i) (w.drew.setCells b (0+(i+1)) ((l.map fun t=>Value.string (bs t)).drop i))
    obtain⟨b1,b2,b3⟩:=jI (b:=b) ((l.map fun t=>Value.string (bs t)).drop i) (0+(i+1)) w.drew
    exact⟨a1.trans b1,a2.trans b2,a3.trans b3⟩
  ·have vG:=grownCap_ge w (l.length+1) c.1 9
   have aEJ:=grownCap_le_maxLen w (l.length+1) c.1 9 (by unfold maxLen;omega)
   refine(Any2.slices_Insert_string_grow Tryz.TN b 0 l.length c.1 i d 0 1 e.1 (l.map fun t=>Value.string (bs t)) [.string (bs x)] w hi oM hb5 oM oM sM rfl
    (fun j v hj=>by simp only [World.cell?,hb2];simpa using lM j v hj)
    (fun j v hj=>by simp only [World.cell?,hd2];simpa using hvs j v hj) (fun v hv=>by
     obtain⟨t,_,rfl⟩:=List.mem_map.1 hv;rfl) (fun v hv=>by rw[List.mem_singleton.1 hv];rfl)).mono ?_
   rintro q w' ⟨rfl,rfl⟩
   have hG:grownCap w (l.length+1) c.1 (Tryz.DD.t 9)=grownCap w (l.length+1) c.1 9:=rfl
   rw[hG]
   generalize grownCap w (l.length+1) c.1 9=G at vG aEJ
   generalize aJ6:(((l.map fun t=>Value.string (bs t)).take i).toArray++Builtin.zeroCells (Value.string ⟨#[]⟩).cells (l.length+1 - i)++Builtin.zeroCells (Value.string ⟨#[]⟩).cells (G - (l.length+1)))=XH
   have hRl:XH.size=G:=by
    rw[←aJ6]
    simp[Builtin.zeroCells,Value.cells]
    omega
   have hRt:∀j,j<i→XH[j]? =some (.string (bs (l.getD j []))):=by
    intro j hj
    rw[←aJ6,Array.append_assoc,Array.getElem?_append_left (by simp;omega)]
    simp only [List.getElem?_toArray,List.getElem?_take_of_lt hj,List.getElem?_map,List.getElem?_eq_getElem (show j<l.length by omega),a7 (show j<l.length by omega)]
    rfl
   have r1:((w.alloc (.cells XH 9)).drew).rowIs w.heap.size 9 G (fun j=>(XH[j]?).getD default):=⟨XH,heap_alloc_new w _,hRl,fun j hj=>by
    have:=Array.getElem?_eq_getElem (xs:=XH) (i:=j) oM
    simp[this]⟩
   have r2:=Go.rowIs_setCells [Value.string (bs x)] i _ _ r1
   have r3:=Go.rowIs_setCells ((l.map fun t=>Value.string (bs t)).drop i) (i+1) _ _ (World.rowIs.of_block (w':=(((w.alloc (.cells XH 9)).drew).setCells w.heap.size i [Value.string (bs x)]).drew) r2 rfl)
   have l5:(w.alloc (.cells XH 9)).heap.size=w.heap.size+1:=by show(w.heap.push _).size=_;simp
   refine fin _ w.heap.size G _ r3 vG aEJ (fun j hj=>?_) (.inr (Nat.le_refl _)) (fun k hk gI=>?_) ?_ ?_
   ·rw[AZ j hj]
    simp only [List.length_cons,List.length_nil,List.length_drop,List.length_map,Nat.zero_add]
    by_cases h1:j<i
    ·rw[if_neg oM,if_neg oM,if_pos h1,hRt j h1];rfl
    ·by_cases h2:j=i
     ·subst h2
      rw[if_neg oM,if_pos oM,if_neg h1,if_pos rfl,Nat.sub_self];rfl
     ·rw[if_pos oM,if_neg h1,if_neg h2]
      exact O0 (j - 1) (j - (i+1)) oM oM
   ·rw[gK oM]
    show((((w.alloc (.cells XH 9)).drew).setCells w.heap.size i [Value.string (bs x)])).heap[k]? =_
    rw[gK oM]
    exact heap_alloc_old w _ hk
   ·rw[size_setCells]
    show w.heap.size≤((((w.alloc (.cells XH 9)).drew).setCells w.heap.size i [Value.string (bs x)])).heap.size
    rw[size_setCells]
    show w.heap.size≤(w.alloc (.cells XH 9)).heap.size
    omega
   ·obtain⟨a1,a2,a3⟩:=jI (b:=w.heap.size) ((l.map fun t=>Value.string (bs t)).drop i) (i+1) ((((w.alloc (.cells XH 9)).drew).setCells w.heap.size i [Value.string (bs x)]).drew)
    obtain⟨b1,b2,b3⟩:=jI (b:=w.heap.size) [Value.string (bs x)] i ((w.alloc (.cells XH 9)).drew)
    exact⟨a1.trans b1,a2.trans b2,a3.trans b3⟩
end Go.Pj
namespace Go.Ch
open Go Go.Ax Go.Proofs Go.Proofs.Tryz Go.RowKit
theorem aHY(ls:List (List UInt8))(sep:List UInt8)(hN:ls.length≤140737488355328)(hl:(Lib.join ls sep).length≤140737488355328):
  aF prog 43 [.s (.d (XZ ls)),vT sep] (vT (Lib.join ls sep)):=by
 refine⟨call43,fun M w vs hg hr hM=>?_⟩
 match vs,hr with
 |[v,s],⟨h,h2,_⟩=>
  obtain rfl:s=.string (bs sep):=h2
  obtain⟨a,cap,rfl,hc,cR⟩:=h
  have WB:(ls.map bs).map (·.data.toList)=ls:=by
   rw[List.map_map]
   exact(List.map_congr_left fun x _=>by simp[bs]).trans (List.map_id _)
  have aJJ:(bs sep).data.toList=sep:=by simp[bs]
  rcases cR with h0|⟨b,o,rfl,cR⟩
  ·have:ls=[]:=List.eq_nil_of_length_eq_zero h0
   subst this
   refine(Tryz.strings_Join_none a cap (bs sep) w).mono ?_
   rintro e w' ⟨rfl,rfl⟩
   exact⟨_,M,rfl,rfl,Grow.refl _ _,hM,⟨Below.refl _ _,oO⟩⟩
  ·by_cases h0:ls.length=0
   ·have:ls=[]:=List.eq_nil_of_length_eq_zero h0
    subst this
    refine(Tryz.strings_Join_none _ cap (bs sep) w).mono ?_
    rintro e w' ⟨rfl,rfl⟩
    exact⟨_,M,rfl,rfl,Grow.refl _ _,hM,⟨Below.refl _ _,oO⟩⟩
   have cells:∀(j:Nat) x,(ls.map bs)[j]? =some x→w.cell? ⟨b,o+j,none⟩=some (.string x):=by
    intro j x hx
    have hj:j<ls.length:=by have:=(List.getElem?_eq_some_iff.1 hx).1;simpa using this
    obtain⟨u,hu,hr⟩:=cR j 0 hj oM
    rw[show o+j*1+0=o+j by omega]at hu
    rw[hM _ _ _ hu]
    have hr:u=.string (bs (ls.getD j [])):=hr
    rw[hr]
    simp[List.getElem?_eq_getElem hj]at hx
    rw[a7 hj,hx]
   have hb:b<w.heap.size:=by
    have:=cells 0 (bs ls[0]) (by simp[List.getElem?_eq_getElem (show 0<ls.length by omega)])
    exact World.block_lt_of_cell? w ⟨b,o+0,none⟩ this
   have hsh:=Tryz.strings_Join b o cap (ls.map bs) (bs sep) w cells hb (by simpa using hN) (by simpa using hc) (by rw[WB,aJJ];exact hl)
   rw[WB,aJJ,List.length_map]at hsh
   refine hsh.mono ?_
   rintro e w' ⟨rfl,qL⟩
   exact⟨_,M,rfl,rfl,Grow.refl _ _,mE hM qL,⟨qL,oO⟩⟩
end Go.Ch
namespace Go.Pj
open Go Go.Ax Go.Ch Go.Proofs Go.Proofs.Tryz
def oL(f:Fact):Int:=bif f.kind !=3 then cM f.kind f else cM f.target f
def nV(f:Fact):List b9:=bif f.kind !=3 then cS f.kind f else jY::cS f.target f
theorem nJ(k:Int)(f:Fact):1≤(cS k f).length∧(cS k f).length≤3:=by
 unfold cS
 cases k==0 <;> cases k==1 <;> simp
theorem AQ(f:Fact):1≤(nV f).length∧(nV f).length≤4:=by
 unfold nV
 have:=nJ f.kind f
 have:=nJ f.target f
 cases f.kind !=3 <;> simp <;> omega
theorem ZN(f:Fact)(hf:f.fits)(he:oL f≠0):aF prog 42 [p8 f] (.t [.s (.d (.val (.slice none 0 0))),.s (.d (dI (oL f)))]):=by
 cases h1:f.kind !=3 with
 |true=>
  have e:oL f=cM f.kind f:=by unfold oL;rw[h1];rfl
  rw[e]at he ⊢
  refine eP func42 rfl rfl call42 rfl rfl fun cx aA=>?_
  refine aI (fun k1=>?_) (fun k1=>(Bool.noConfusion (h1.symm.trans k1)))
  refine aB (JP f.kind f hf he) ?_
  exact aC.refl _
 |false=>
  have e:oL f=cM f.target f:=by unfold oL;rw[h1];rfl
  rw[e]at he ⊢
  refine eP func42 rfl rfl call42 rfl rfl fun cx aA=>?_
  refine aI (fun k1=>(Bool.noConfusion (h1.symm.trans k1))) (fun k1=>?_)
  refine aB (JP f.target f hf he) ?_
  refine aI (fun k2=>?_) (fun k2=>?_)
  ·exact aC.refl _
  ·have k2:(cM f.target f !=0)=false:=k2
   exact absurd (by simpa using k2) he
theorem JL(f:Fact)(hf:f.fits)(he:oL f=0):bT prog 42 [p8 f] [] (.t [.s (.own 9),.s (.d (dI 0))]) [(9,.row 9 (nV f).length 1 (tG (nV f)))]:=by
 cases h1:f.kind !=3 with
 |true=>
  have e:oL f=cM f.kind f:=by unfold oL;rw[h1];rfl
  have e2:nV f=cS f.kind f:=by unfold nV;rw[h1];rfl
  rw[e]at he
  rw[e2]
  refine fC (rc:=[103]) (N:=28) func42 rfl rfl call42 aJ mix rfl rfl rfl rfl (fun cx aA=>?_)
  refine aI (fun k1=>?_) (fun k1=>(Bool.noConfusion (h1.symm.trans k1)))
  refine⟨[(9,9)],_,_,_,_,OF f.kind f hf he,rfl,trivial,rfl,?_⟩
  exact⟨aU.rfl,rfl,oO⟩
 |false=>
  have e:oL f=cM f.target f:=by unfold oL;rw[h1];rfl
  have e2:nV f=jY::cS f.target f:=by unfold nV;rw[h1];rfl
  have hlen:=nJ f.target f
  rw[e]at he
  rw[e2]
  refine bT.LF (a:=27) 9 rfl (fun i j _ _=>aL.refl _) ?_
  refine fC (rc:=[103,48]) (N:=28) func42 rfl rfl call42 aJ mix rfl rfl rfl rfl (fun cx aA=>?_)
  refine aI (fun k1=>(Bool.noConfusion (h1.symm.trans k1))) (fun k1=>?_)
  refine⟨[(9,9)],_,_,_,_,OF f.target f hf he,rfl,trivial,rfl,?_⟩
  refine aI (fun k2=>absurd k2 dC) (fun _=>?_)
  refine⟨[(1,9),(2,26),(9,27)],_,_,_,_,UT (cS f.target f) 0 jY hlen.1 oM (fun k hk=>aL.refl _) (aL.refl _),rfl,⟨rfl,rfl,oO⟩,rfl,?_⟩
  exact⟨aU.rfl,rfl,oO⟩
def nC(l:List b9):b9:=Lib.join l [32]
def lI(f:Fact):b9:=bif oL f==0 then nC (nV f)else []
theorem sJ(a:b9):nC [a]=a:=by simp[nC,Lib.join]
theorem jJ(a b:b9)(l:List b9):nC (a::b::l)=a++ [32]++nC (b::l):=by simp[nC,Lib.join,List.intercalate_cons_cons]
theorem RB(a:b9){l:List b9}(h:l≠[]):nC (a::l)=a++ [32]++nC l:=by
 cases l with
 |nil=>exact absurd rfl h
 |cons b l=>exact jJ a b l
theorem sK{c:Nat}:∀{l:List b9},(∀x∈l,x.length≤c)→(nC l).length≤l.length*(c+1)
 |[],_=>Nat.zero_le _
 |[a],h=>by rw[sJ];have:=h a (List.mem_singleton.2 rfl);simp;omega
 |a::b::l,h=>by
  rw[jJ]
  have h1:=h a (List.mem_cons_self ..)
  have h2:=sK (l:=b::l) (fun x hx=>h x (List.mem_cons_of_mem _ hx))
  simp only [List.length_append,List.length_cons,List.length_nil,Nat.add_mul]at h2 ⊢
  omega
theorem mS(n:Int):(Lib.itoa n).length≤n.natAbs / 10+3:=by
 have h:=nI n.natAbs n.natAbs (Nat.le_refl _)
 rw[←Lib.decDigits_length]at h
 unfold Lib.itoa
 split
 ·simp only [List.length_cons];omega
 ·rename_i h0
  have:n.toNat=n.natAbs:=oM
  rw[this];omega
theorem kL{s:ByteArray}(h:isName s=true):1≤s.size∧s.size≤12:=by
 rw[tQ,Bool.and_eq_true]at h
 have:=within_iff.1 h.1
 omega
theorem vY(s:ByteArray):(tx s).length=s.size:=by
 show s.data.toList.length=s.data.size
 exact Array.length_toList
theorem kK{k:Int}{f:Fact}(h:cM k f=0):(k=0∧within f.bM 0 2=true∧within f.month 0 24=true)∨(k=1∧within f.number 1 1000000=true)∨(k=2∧within f.month 1 24=true∧isName f.eO=true):=by
 unfold cM at h
 cases h0:(k==0&&within f.bM 0 2)&&within f.month 0 24 with
 |true=>
  simp only [Bool.and_eq_true,beq_iff_eq]at h0
  exact .inl ⟨h0.1.1,h0.1.2,h0.2⟩
 |false=>
  rw[h0]at h
  cases h1:k==1&&within f.number 1 1000000 with
  |true=>
   simp only [Bool.and_eq_true,beq_iff_eq]at h1
   exact .inr (.inl h1)
  |false=>
   rw[h1]at h
   cases h2:k !=2|| !within f.month 1 24 with
   |true=>rw[h2]at h;exact absurd h (show ¬((2:Int)=0) by decide)
   |false=>
    rw[h2]at h
    cases h3:isName f.eO with
    |false=>rw[h3]at h;exact absurd h (show ¬((4:Int)=0) by decide)
    |true=>
     simp at h2
     exact .inr (.inr ⟨h2.1,h2.2,rfl⟩)
theorem AR{k:Int}{f:Fact}(h:cM k f=0):∀x∈cS k f,x.length≤200000:=by
 intro x hx
 have hp:=mS f.bM
 have hm:=mS f.month
 have hn:=mS f.number
 rcases kK h with⟨rfl,h1,h2⟩|⟨rfl,h1⟩|⟨rfl,h1,h2⟩
 ·have h1:=within_iff.1 h1
  have h2:=within_iff.1 h2
  simp only [cS,List.mem_cons,List.not_mem_nil,or_false,show((0:Int)==0)=true from rfl,cond_true]at hx
  rcases hx with rfl|rfl|rfl
  ·decide
  ·omega
  ·omega
 ·have h1:=within_iff.1 h1
  simp only [cS,List.mem_cons,List.not_mem_nil,or_false,show((1:Int)==0)=false from rfl,show((1:Int)==1)=true from rfl,cond_true,cond_false]at hx
  rcases hx with rfl|rfl
  ·decide
  ·omega
 ·have h1:=within_iff.1 h1
  have h2:=kL h2
  simp only [cS,List.mem_cons,List.not_mem_nil,or_false,show((2:Int)==0)=false from rfl,show((2:Int)==1)=false from rfl,cond_false]at hx
  rcases hx with rfl|rfl|rfl
  ·decide
  ·rw[vY];omega
  ·omega
theorem JM{f:Fact}(h:oL f=0):∀x∈nV f,x.length≤200000:=by
 intro x hx
 unfold oL at h
 unfold nV at hx
 cases h1:f.kind !=3 with
 |true=>rw[h1]at h hx;exact AR h x hx
 |false=>
  rw[h1]at h hx
  rcases List.mem_cons.1 hx with rfl|hx
  ·decide
  ·exact AR h x hx
theorem Key(f:Fact)(hf:f.fits):aF prog 12 [p8 f] (.t [.s (.d (dT (lI f))),.s (.d (dI (oL f)))]):=by
 by_cases he:oL f=0
 ·have hk:lI f=nC (nV f):=by unfold lI;rw[he];rfl
  have hl:=AQ f
  have hj:=sK (JM he)
  rw[hk,he]
  refine fU (rc:=[42,2000043]) (N:=14) func12 rfl rfl call12 aJ mix rfl rfl (fun cx aA=>?_)
  refine⟨[(9,9)],_,_,_,_,JL f hf he,rfl,trivial,rfl,?_⟩
  refine⟨[9],_,(aHY (nV f) [32] oM (by have:(Lib.join (nV f) [32]).length≤(nV f).length*(200000+1):=hj;omega)).conv (args':=_) ⟨aL.refl _,aL.refl _,oO⟩,?_⟩
  exact aC.refl _
 ·have hk:lI f=[]:=by unfold lI;rw[show(oL f==0)=false by simpa using he];rfl
  rw[hk]
  refine eP func12 rfl rfl call12 rfl rfl fun cx aA=>?_
  refine aB (ZN f hf he) ?_
  refine aB ((aHY [] [32] dC dC).conv (args':=_) ⟨aL.nil,aL.refl _,oO⟩) ?_
  exact aC.refl _
def JJ(n:Int):b9:=bif n==30000 then [45]else Lib.itoa n
def j6(f:Fact):Int:=bif oL f !=0 then oL f else iZ f
def kN(f:Fact):List b9:=
 bif f.kind==0 then nV f++ [Lib.itoa f.seq]++f.levels.map JJ
 else bif f.kind==1 then nV f++ [Lib.itoa f.month,Lib.itoa f.seq,Lib.itoa f.aW,Lib.itoa f.over,tx f.aO,Lib.itoa f.cls,tx f.dO]
 else bif f.kind==2 then nV f++ [Lib.itoa f.seq]
 else wW (nV f) 1 (Lib.itoa f.seq)
def kO(f:Fact):b9:=bif j6 f==0 then nC (kN f)else []
theorem pE{f:Fact}(h:iZ f=0):within f.seq 0 1000000=true:=by
 unfold iZ at h
 cases h1:within f.seq 0 1000000 with
 |true=>rfl
 |false=>rw[h1]at h;exact absurd h (show ¬((2:Int)=0) by decide)
theorem sB{f:Fact}(h:iZ f=0)(k:(f.kind==0)=true):f.levels.any iR=false∧f.levels.length≤100:=by
 have h1:=pE h
 unfold iZ at h
 rw[h1,k]at h
 cases h2:f.levels.any iR with
 |true=>rw[h2]at h;exact absurd h (show ¬((2:Int)=0) by decide)
 |false=>
  rw[h2]at h
  cases h3:decide ((f.levels.length:Int)>100)with
  |true=>rw[h3]at h;exact absurd h (show ¬((8:Int)=0) by decide)
  |false=>
   have:=bG h3
   exact⟨rfl,oM⟩
theorem nG{f:Fact}(h:iZ f=0)(k:(f.kind==1)=true):(within f.month 1 24=true∧within f.aW 1 1000000000000=true∧within f.over 0 f.aW=true∧within f.cls 0 9=true)∧isName f.aO=true∧isName f.dO=true:=by
 have h1:=pE h
 have k0:(f.kind==0)=false:=by
  have:f.kind=1:=by simpa using k
  rw[this];rfl
 unfold iZ at h
 rw[h1,k0,k]at h
 cases h2:jN f with
 |true=>rw[h2]at h;exact absurd h (show ¬((2:Int)=0) by decide)
 |false=>
  rw[h2]at h
  have hb:=DC f
  rw[h2]at hb
  simp only [Bool.not_false,Bool.and_eq_true]at hb
  cases h3: !isName f.aO|| !isName f.dO with
  |true=>rw[h3]at h;exact absurd h (show ¬((4:Int)=0) by decide)
  |false=>
   simp only [Bool.or_eq_false_iff,Bool.not_eq_false']at h3
   exact⟨⟨hb.1.1.1,hb.1.1.2,hb.1.2,hb.2⟩,h3.1,h3.2⟩
theorem aCT{n:Int}(h:iR n=false):(JJ n).length≤3000:=by
 unfold JJ
 cases h1:n==30000 with
 |true=>simp
 |false=>
  have hn:n≠30000:=by simpa using h1
  have h2:within n (-20000) 20000=true:=by
   unfold iR at h
   simpa [hn]using h
  have:=within_iff.1 h2
  have:=mS n
  simp only [cond_false]
  omega
theorem sP{f:Fact}(h:j6 f=0):oL f=0∧iZ f=0:=by
 unfold j6 at h
 cases h1:oL f !=0 with
 |true=>rw[h1]at h;exact absurd h (by simpa using h1)
 |false=>rw[h1]at h;exact⟨by simpa using h1,h⟩
theorem R3{f:Fact}(h:j6 f=0):(kN f).length≤110∧∀x∈kN f,x.length≤100000000010:=by
 obtain⟨h1,h2⟩:=sP h
 have hk:=JM h1
 have hl:=AQ f
 have hs:=within_iff.1 (pE h2)
 have i1:=mS f.seq
 have yZ:∀x∈nV f,x.length≤100000000010:=fun x hx=>Nat.le_trans (hk x hx) dC
 unfold kN
 cases k0:f.kind==0 with
 |true=>
  obtain⟨a,b⟩:=sB h2 k0
  refine⟨by simp;omega,fun x hx=>?_⟩
  simp only [cond_true,List.mem_append,List.mem_singleton,List.mem_map]at hx
  rcases hx with(hx|rfl)|⟨n,hn,rfl⟩
  ·exact yZ x hx
  ·omega
  ·have:iR n=false:=by
    rw[List.any_eq_false]at a
    simpa using a n hn
   exact Nat.le_trans (aCT this) dC
 |false=>
  cases k1:f.kind==1 with
  |true=>
   obtain⟨⟨a,b,c,d⟩,e,g⟩:=nG h2 k1
   have a:=within_iff.1 a
   have b:=within_iff.1 b
   have c:=within_iff.1 c
   have d:=within_iff.1 d
   have e:=kL e
   have g:=kL g
   have j1:=mS f.month
   have j2:=mS f.aW
   have j3:=mS f.over
   have j4:=mS f.cls
   refine⟨by simp;omega,fun x hx=>?_⟩
   simp only [cond_true,cond_false,List.mem_append,List.mem_cons,List.not_mem_nil,or_false]at hx
   rcases hx with hx|rfl|rfl|rfl|rfl|rfl|rfl|rfl
   ·exact yZ x hx
   ·omega
   ·omega
   ·omega
   ·omega
   ·rw[vY];omega
   ·omega
   ·rw[vY];omega
  |false=>
   cases k2:f.kind==2 with
   |true=>
    refine⟨by simp;omega,fun x hx=>?_⟩
    simp only [cond_true,cond_false,List.mem_append,List.mem_singleton]at hx
    rcases hx with hx|rfl
    ·exact yZ x hx
    ·omega
   |false=>
    refine⟨by simp[wW];omega,fun x hx=>?_⟩
    simp only [cond_false,wW,List.mem_append,List.mem_cons]at hx
    rcases hx with hx|rfl|hx
    ·exact yZ x (List.mem_of_mem_take hx)
    ·omega
    ·exact yZ x (List.mem_of_mem_drop hx)
theorem ET{f:Fact}(he:j6 f=0):aF prog 43 [.s (.d (XZ (kN f))),vT [32]] (vT (kO f)):=by
 have hl:=R3 he
 have hj:=sK hl.2
 have hk:kO f=Lib.join (kN f) [32]:=by unfold kO;rw[he];rfl
 rw[hk]
 refine aHY (kN f) [32] oM ?_
 have h1:(Lib.join (kN f) [32]).length≤(kN f).length*(100000000010+1):=hj
 have h2:=Nat.mul_le_mul_right (100000000010+1) hl.1
 omega
theorem KP(l:List b9):gT 1 l.length (tG l) (fun t _=>dT t) l:=⟨rfl,fun _ _ _ _=>rfl⟩
theorem X5{n:Nat}{f g:Nat→Nat→DV}{l:List b9}{x:b9}{e:TypeId}(h:gT 1 n f (fun t _=>dT t) l)(hg:g 0 0=dT x):aZ (.row e (n+1) 1 (k7 n f g)) (.row e (l++ [x]).length 1 (tG (l++ [x]))):=
 gT.row (el:=fun t _=>dT t) (gT.snoc h (AN hg))
def zM(f:Fact)(i:Nat):List b9:=nV f++ [Lib.itoa f.seq]++(f.levels.take i).map JJ
theorem XE(f:Fact):zM f 0=nV f++ [Lib.itoa f.seq]:=by simp[zM]
theorem KO(f:Fact){i:Nat}(h:i<f.levels.length):zM f (i+1)=zM f i++ [JJ (f.levels.getD i 0)]:=by
 simp only [zM,List.take_add_one,List.getElem?_eq_getElem h,a7 h,Option.toList_some,List.map_append,List.map_cons,List.map_nil,List.append_assoc]
theorem zO(f:Fact)(hf:f.fits):aF prog 14 [p8 f] (.t [.s (.d (dT (kO f))),.s (.d (dI (j6 f)))]):=by
 by_cases h1:oL f=0
 ·have e1:j6 f=iZ f:=by unfold j6;rw[h1];rfl
  by_cases h2:iZ f=0
  ·have he:j6 f=0:=by rw[e1,h2]
   have hl:=AQ f
   have hs:=within_iff.1 (pE h2)
   cases k0:f.kind==0 with
   |true=>
    have hw:kN f=nV f++ [Lib.itoa f.seq]++f.levels.map JJ:=by unfold kN;rw[k0];rfl
    obtain⟨a,b⟩:=sB h2 k0
    rw[he]
    refine fU (rc:=[42,2000043]) (N:=86) func14 rfl rfl call14 aJ mix rfl rfl (fun cx aA=>?_)
    refine⟨[(9,9)],_,_,_,_,JL f hf h1,rfl,trivial,rfl,?_⟩
    refine aI (fun k2=>absurd k2 dC) (fun _=>?_)
    refine aB (tA f hf) ?_
    rw[h2]
    refine aI (fun k2=>absurd k2 dC) (fun _=>?_)
    refine aB (C1 f.seq oM oM) ?_
    refine aI (fun k2=>?_) (fun k2=>(Bool.noConfusion (k0.symm.trans k2)))
    refine ob (show((nV f).length+1)*16≤_ by omega) ?_
    refine ob (nZ (AN rfl)) ?_
    refine AW.cV (fun i:Nat=>⟨[(1,.s (.ptr 1 0)),(4,.s (.own 100)),(39,pK f.levels),(40,vI f.levels.length),(41,vI i)],[(1,some (.cells (IM f))),(100,some (.row 9 (zM f i).length 1 (tG (zM f i))))]⟩)
     (fun i=>i≤f.levels.length) (fun i=>f.levels.length - i) 0 (Nat.zero_le _) ?_ ?_
    ·refine aS.bO aA [(100,37)] rfl ⟨bQ,⟨rfl,?_⟩,oO⟩ ⟨qZ,qZ,qZ,qZ,qZ,oO⟩
     rw[XE]
     exact X5 (KP (nV f)) rfl
    ·intro i hi
     refine ex.sound (rc:=[2000043]) aJ mix aA _ ?_
     refine aI (fun h=>?_) (fun h=>?_)
     ·have h:(i:Int)<f.levels.length:=bL h
      have bK:i<f.levels.length:=oM
      have hN:(zM f i).length≤110:=by simp[zM];omega
      have RX:iR (f.levels.getD i 0)=false:=by
       rw[List.any_eq_false]at a
       rw[a7 bK]
       simpa using a _ (List.getElem_mem bK)
      have ew:aV ((i:Int)+1)=((i+1:Nat):Int):=aG oM oM
      refine oi ⟨oM,oM⟩ ?_
      refine aI (fun g=>?_) (fun g=>?_)
      ·have g:(f.levels.getD i 0==30000)=true:=g
       refine ob (show((zM f i).length+1)*16≤_ by omega) ?_
       refine ob (nZ (AN rfl)) ?_
       refine⟨i+1,oM,oM,?_⟩
       refine aS.bO aA [(100,49)] rfl ⟨bQ,⟨rfl,?_⟩,oO⟩ ⟨qZ,qZ,qZ,qZ,⟨rfl,aU.int ew⟩,oO⟩
       rw[KO f bK]
       exact X5 (KP (zM f i)) (by unfold JJ;rw[g];rfl)
      ·have g:(f.levels.getD i 0==30000)=false:=g
       have TX:within (f.levels.getD i 0) (-20000) 20000=true:=by
        unfold iR at RX
        rw[show(f.levels.getD i 0 !=30000)=true by simpa using g]at RX
        simpa using RX
       have hw3:=within_iff.1 TX
       refine aB (C1 (f.levels.getD i 0) oM oM) ?_
       refine ob (show((zM f i).length+1)*16≤_ by omega) ?_
       refine ob (nZ (AN rfl)) ?_
       refine⟨i+1,oM,oM,?_⟩
       refine aS.bO aA [(100,54)] rfl ⟨bQ,⟨rfl,?_⟩,oO⟩ ⟨qZ,qZ,qZ,qZ,⟨rfl,aU.int ew⟩,oO⟩
       rw[KO f bK]
       exact X5 (KP (zM f i)) (by unfold JJ;rw[g];rfl)
     ·have h:¬(i:Int)<f.levels.length:=bG h
      obtain rfl:i=f.levels.length:=oM
      have ew:zM f f.levels.length=kN f:=by rw[hw];simp[zM]
      refine⟨[100],_,(ET he).conv (args':=_) ⟨aL.of_eq (by rw[←ew];rfl),aL.refl _,oO⟩,?_⟩
      exact aC.refl _
   |false=>
    cases k1:f.kind==1 with
    |true=>
     have hw:kN f=nV f++ [Lib.itoa f.month,Lib.itoa f.seq,Lib.itoa f.aW,Lib.itoa f.over,tx f.aO,Lib.itoa f.cls,tx f.dO]:=by unfold kN;rw[k0,k1];rfl
     obtain⟨⟨a,b,c,d⟩,e,g⟩:=nG h2 k1
     have a:=within_iff.1 a
     have b:=within_iff.1 b
     have c:=within_iff.1 c
     have d:=within_iff.1 d
     rw[he]
     refine fU (rc:=[42,2000043]) (N:=86) func14 rfl rfl call14 aJ mix rfl rfl (fun cx aA=>?_)
     refine⟨[(9,9)],_,_,_,_,JL f hf h1,rfl,trivial,rfl,?_⟩
     refine aI (fun k2=>absurd k2 dC) (fun _=>?_)
     refine aB (tA f hf) ?_
     rw[h2]
     refine aI (fun k2=>absurd k2 dC) (fun _=>?_)
     refine aB (C1 f.seq oM oM) ?_
     refine aI (fun k2=>(Bool.noConfusion (k0.symm.trans k2))) (fun k2=>?_)
     refine aI (fun k2=>?_) (fun k2=>(Bool.noConfusion (k1.symm.trans k2)))
     refine aB (C1 f.month oM oM) ?_
     refine aB (C1 f.aW oM oM) ?_
     refine aB (C1 f.over oM oM) ?_
     refine aB (C1 f.cls oM oM) ?_
     refine ob (show((nV f).length+7)*16≤_ by omega) ?_
     refine ob (fun k j hk hj=>by
      obtain rfl:j=0:=by have:j<1:=hj;omega
      match k,hk with
      |0,_=>rfl
      |1,_=>rfl
      |2,_=>rfl
      |3,_=>rfl
      |4,_=>rfl
      |5,_=>rfl
      |6,_=>rfl) ?_
     refine aD ?_
     refine⟨[77],_,(ET he).conv (args':=_) ⟨aL.zZ (by rw[hw,List.length_append];rfl) fun i j hi hj=>aL.of_eq ?_,aL.refl _,oO⟩,?_⟩
     ·obtain rfl:j=0:=by have:j<1:=hj;omega
      have hi:i<(nV f).length+7:=hi
      rw[hw]
      by_cases hik:i<(nV f).length
      ·refine(show k7 _ _ _ i 0=_ from if_pos hik).trans ?_
       show dT ((nV f).getD i [])=dT _
       simp only [List.getD_eq_getElem?_getD,List.getElem?_append_left hik]
      ·refine(show k7 _ _ _ i 0=_ from if_neg hik).trans ?_
       obtain⟨k,rfl⟩:∃k,i=(nV f).length+k:=⟨i - (nV f).length,oM⟩
       simp only [List.getD_eq_getElem?_getD,List.getElem?_append_right (Nat.le_add_right _ _),Nat.add_sub_cancel_left]
       have hk:k<7:=oM
       match k,hk with
       |0,_=>rfl
       |1,_=>rfl
       |2,_=>rfl
       |3,_=>rfl
       |4,_=>exact aA3 _
       |5,_=>rfl
       |6,_=>exact aA3 _
     exact aC.refl _
    |false=>
     cases k2:f.kind==2 with
     |true=>
      have hw:kN f=nV f++ [Lib.itoa f.seq]:=by unfold kN;rw[k0,k1,k2];rfl
      rw[he]
      refine fU (rc:=[42,2000043]) (N:=86) func14 rfl rfl call14 aJ mix rfl rfl (fun cx aA=>?_)
      refine⟨[(9,9)],_,_,_,_,JL f hf h1,rfl,trivial,rfl,?_⟩
      refine aI (fun k2=>absurd k2 dC) (fun _=>?_)
      refine aB (tA f hf) ?_
      rw[h2]
      refine aI (fun k2=>absurd k2 dC) (fun _=>?_)
      refine aB (C1 f.seq oM oM) ?_
      refine aI (fun k3=>(Bool.noConfusion (k0.symm.trans k3))) (fun k3=>?_)
      refine aI (fun k3=>(Bool.noConfusion (k1.symm.trans k3))) (fun k3=>?_)
      refine aI (fun k3=>?_) (fun k3=>(Bool.noConfusion (k2.symm.trans k3)))
      refine ob (show((nV f).length+1)*16≤_ by omega) ?_
      refine ob (nZ (AN rfl)) ?_
      refine⟨[83],_,(ET he).conv (args':=_) ⟨?_,aL.refl _,oO⟩,?_⟩
      ·rw[hw]
       exact gT.fW (gT.snoc (KP (nV f)) (AN rfl))
      exact aC.refl _
     |false=>
      have hw:kN f=wW (nV f) 1 (Lib.itoa f.seq):=by unfold kN;rw[k0,k1,k2];rfl
      have hl2:1<(nV f).length:=by
       unfold nV
       cases h3:f.kind !=3 with
       |false=>have:=nJ f.target f;simp;omega
       |true=>
        have e3:oL f=cM f.kind f:=by unfold oL;rw[h3];rfl
        rw[e3]at h1
        rcases kK h1 with⟨q,_⟩|⟨q,_⟩|⟨q,_⟩
        ·rw[q]at k0;cases k0
        ·rw[q]at k1;cases k1
        ·rw[q]at k2;cases k2
      rw[he]
      refine fU (rc:=[42,48,2000043]) (N:=86) func14 rfl rfl call14 aJ mix rfl rfl (fun cx aA=>?_)
      refine⟨[(9,9)],_,_,_,_,JL f hf h1,rfl,trivial,rfl,?_⟩
      refine aI (fun k2=>absurd k2 dC) (fun _=>?_)
      refine aB (tA f hf) ?_
      rw[h2]
      refine aI (fun k2=>absurd k2 dC) (fun _=>?_)
      refine aB (C1 f.seq oM oM) ?_
      refine aI (fun k3=>(Bool.noConfusion (k0.symm.trans k3))) (fun k3=>?_)
      refine aI (fun k3=>(Bool.noConfusion (k1.symm.trans k3))) (fun k3=>?_)
      refine aI (fun k3=>(Bool.noConfusion (k2.symm.trans k3))) (fun k3=>?_)
      refine⟨[(1,9),(2,30),(9,31)],_,_,_,_,UT (nV f) 1 (Lib.itoa f.seq) hl2 oM (fun k hk=>aL.refl _) (aL.refl _),rfl,⟨rfl,rfl,oO⟩,rfl,?_⟩
      have hw3:(nV f).length+1=(kN f).length:=by rw[hw];simp[wW];omega
      refine⟨[31],_,(ET he).conv (args':=_) ⟨aL.zZ hw3 fun i j _ _=>aL.of_eq (by rw[hw];rfl),aL.refl _,oO⟩,?_⟩
      exact aC.refl _
  ·have he:kO f=[]:=by unfold kO;rw[e1,show(iZ f==0)=false by simpa using h2];rfl
   rw[he,e1]
   refine fU (rc:=[42]) (N:=86) func14 rfl rfl call14 aJ mix rfl rfl (fun cx aA=>?_)
   refine⟨[(9,9)],_,_,_,_,JL f hf h1,rfl,trivial,rfl,?_⟩
   refine aI (fun k2=>absurd k2 dC) (fun _=>?_)
   refine aB (tA f hf) ?_
   refine aI (fun k2=>?_) (fun k2=>?_)
   ·exact aC.refl _
   ·have k2:(iZ f !=0)=false:=k2
    exact absurd (by simpa using k2) h2
 ·have e1:j6 f=oL f:=by unfold j6;rw[show(oL f !=0)=true by simpa using h1];rfl
  have he:kO f=[]:=by unfold kO;rw[e1,show(oL f==0)=false by simpa using h1];rfl
  rw[he,e1]
  refine eP func14 rfl rfl call14 rfl rfl fun cx aA=>?_
  refine aB (ZN f hf h1) ?_
  refine aI (fun k2=>?_) (fun k2=>?_)
  ·exact aC.refl _
  ·have k2:(oL f !=0)=false:=k2
   exact absurd (by simpa using k2) h1
def tU{α:Type}(f:α→Int):List α→Int
 |[]=>0
 |x::r=>bif f x !=0 then f x else tU f r
theorem DZ{α:Type}(f:α→Int)(x:α)(r:List α):tU f (x::r)=bif f x !=0 then f x else tU f r:=rfl
def tJ(p:Proj)(f:Fact):Bool:=f.kind==0&&(f.levels.length:Int) !=p.aW.levels.length
def MX(p:Proj)(f:Fact):Int:=bif j6 f !=0 then j6 f else bif tJ p f then 10 else 0
theorem KJ(p:Proj)(f:Fact)(hf:f.fits):aF prog 40 [vE p,p8 f] (vI (MX p f)):=by
 refine eP func40 rfl rfl call40 rfl rfl fun cx aA=>?_
 refine aB (zO f hf) ?_
 refine aI (fun h1=>?_) (fun h1=>?_)
 ·have h1:(j6 f !=0)=true:=h1
  exact aC.of_eq (by unfold MX;rw[h1];rfl)
 have h1:(j6 f !=0)=false:=h1
 repeat refine aR ?_
 refine aI (fun h2=>?_) (fun h2=>?_)
 ·have h2:tJ p f=true:=h2
  exact aC.of_eq (by unfold MX;rw[h1,h2];rfl)
 ·have h2:tJ p f=false:=h2
  exact aC.of_eq (by unfold MX;rw[h1,h2];rfl)
def D1(p:Proj)(f:Fact):Int:=bif fJ p !=0 then fJ p else MX p f
theorem XO(p:Proj)(f:Fact)(hp:p.fits)(hf:f.fits):aF prog 10 [vE p,p8 f] (vI (D1 p f)):=by
 refine eP func10 rfl rfl call10 rfl rfl fun cx aA=>?_
 refine aB (uF p hp) ?_
 refine aI (fun h1=>?_) (fun h1=>?_)
 ·have h1:(fJ p !=0)=true:=h1
  exact aC.of_eq (by unfold D1;rw[h1];rfl)
 have h1:(fJ p !=0)=false:=h1
 refine aB (KJ p f hf) ?_
 exact aC.of_eq (by unfold D1;rw[h1];rfl)
def mU(p:Proj)(l:List Fact):Int:=bif fJ p !=0 then fJ p else bif decide ((l.length:Int)>200)then 8 else tU (MX p) l
theorem SH(p:Proj)(l:List Fact)(hp:p.fits)(hf:∀f∈l,f.fits)(hl:l.length≤9223372036854775807):aF prog 117 [vE p,iX l] (vI (mU p l)):=by
 refine eP func117 rfl rfl call117 rfl rfl fun cx aA=>?_
 refine aB (uF p hp) ?_
 refine aI (fun h1=>?_) (fun h1=>?_)
 ·have h1:(fJ p !=0)=true:=h1
  exact aC.of_eq (by unfold mU;rw[h1];rfl)
 have h1:(fJ p !=0)=false:=h1
 refine aI (fun h2=>?_) (fun h2=>?_)
 ·have h2:decide ((l.length:Int)>200)=true:=h2
  exact aC.of_eq (by unfold mU;rw[h1,h2];rfl)
 have h2:decide ((l.length:Int)>200)=false:=h2
 have he:mU p l=tU (MX p) l:=by unfold mU;rw[h1,h2];rfl
 refine AW.loop (fun i:Nat=>⟨[(2,.s (.ptr 2 0)),(17,iX l),(18,vI l.length),(19,vI i)],[(2,some (.cells (vF p)))]⟩) (fun i=>i≤l.length∧tU (MX p) l=tU (MX p) (l.drop i)) (fun i=>l.length - i) 0 ⟨Nat.zero_le _,rfl⟩ ?_ ?_
 ·refine Sub.bO aA ⟨rQ,oO⟩ ⟨rQ,rQ,rQ,rQ,oO⟩
 ·rintro i ⟨hi,hj⟩
  refine eX aA ?_
  refine aI (fun h=>?_) (fun h=>?_)
  ·have h:(i:Int)<l.length:=bL h
   have bK:i<l.length:=oM
   have hd:l.drop i=l[i]::l.drop (i+1):=List.drop_eq_getElem_cons bK
   have hg:l.getD i default=l[i]:=a7 bK
   rw[hd]at hj
   refine oi ⟨oM,oM⟩ ?_
   repeat refine aR ?_
   refine aB (KJ p (l.getD i default) (by rw[hg];exact hf _ (List.getElem_mem bK))) ?_
   refine aI (fun h3=>?_) (fun h3=>?_)
   ·have h3:(MX p (l.getD i default) !=0)=true:=h3
    exact aC.of_eq (by rw[he,hj,←hg];unfold tU;rw[h3];rfl)
   ·have h3:(MX p (l.getD i default) !=0)=false:=h3
    refine⟨i+1,⟨oM,by rw[hj,←hg,DZ,h3];rfl⟩,oM,?_⟩
    refine Sub.bO aA ⟨rQ,oO⟩ ⟨rQ,rQ,rQ,⟨rfl,?_⟩,oO⟩
    exact congrArg vI (aG oM oM)
  ·have h:¬(i:Int)<l.length:=bG h
   obtain rfl:i=l.length:=oM
   exact aC.of_eq (by rw[he,hj,List.drop_length];rfl)
end Go.Pj
namespace Go.Ch
open Go Go.Ax Go.Proofs Go.Proofs.Tryz Go.RowKit
theorem BL(l:List UInt8):(bs l).data.toList=l:=by simp[bs]
theorem XM(s p:List UInt8):aF prog 214 [vT s,vT p] (.t [.s (.d (dT (Lib.trimPrefix s p))),.s (.d (.val (.bool (Lib.hasPrefix s p))))]):=by
 refine⟨call214,fun M w vs hg hr hM=>?_⟩
 match vs,hr with
 |[a,b],⟨h,h2,_⟩=>
  obtain rfl:a=.string (bs s):=h
  obtain rfl:b=.string (bs p):=h2
  refine(Tryz.strings_CutPrefix (bs s) (bs p) w).mono ?_
  rintro e w' ⟨rfl,rfl⟩
  rw[BL,BL]
  exact⟨_,M,rfl,⟨[_,_],rfl,rfl,rfl,oO⟩,Grow.refl _ _,hM,⟨Below.refl _ _,oO⟩⟩
theorem aLN{M:Mem}{w:World}{ls:List (List UInt8)}{n:Nat}(hn:ls.length=n):(XZ ls).bD (wN M w (w.alloc (.cells (ls.map fun l=>Value.string (bs l)).toArray 9))) (.slice (some ⟨w.heap.size,0,none⟩) n n):=by
 subst hn
 refine⟨_,_,rfl,Nat.le_refl _,.inr ⟨w.heap.size,0,rfl,fun i j hi hj=>?_⟩⟩
 obtain rfl:j=0:=oM
 refine⟨.string (bs (ls.getD i [])),?_,rfl⟩
 simp only [wN,Nat.le_refl,if_true,Nat.zero_add,Nat.mul_one,Nat.add_zero]
 have h:=heap_alloc_new w (.cells (ls.map fun l=>Value.string (bs l)).toArray 9)
 simp only [World.cell?,h]
 simp[List.getD,List.getElem?_eq_getElem hi]
def rD(s sep:List UInt8):List (List UInt8):=(Lib.splitB (bs sep) 0 (Lib.countB (bs s) (bs sep)) (bs s)).map fun b=>b.data.toList
theorem Split(s sep:List UInt8)(hs:s.length<4294967281)(h1:1≤sep.length):aF prog 51 [vT s,vT sep] (.s (.d (XZ (rD s sep)))):=by
 refine⟨call51,fun M w vs hg hr hM=>?_⟩
 match vs,hr with
 |[v,u],⟨h,h2,_⟩=>
  obtain rfl:v=.string (bs s):=h
  obtain rfl:u=.string (bs sep):=h2
  obtain⟨x,hx⟩:=hg
  refine(Tryz.strings_Split (bs s) (bs sep) x.m w (by rw[fH];exact hs) (by rw[B2 hx (g:=0) (t:= #[.int .i64 x.m]) (by simp[qU])];rfl) (by rw[fH];exact h1)).mono ?_
  rintro e w' ⟨rfl,rfl⟩
  have hb:Below w.heap.size w (w.alloc (.cells ((Lib.splitB (bs sep) 0 (Lib.countB (bs s) (bs sep)) (bs s)).map Value.string).toArray 9)):=(Below.refl _ w).alloc (Nat.le_refl _) _
  refine⟨_,wN M w _,rfl,?_,N3 hM,VR hM hb,⟨hb,oO⟩⟩
  have e1:(Lib.splitB (bs sep) 0 (Lib.countB (bs s) (bs sep)) (bs s)).map Value.string=(rD s sep).map fun l=>Value.string (bs l):=by
   simp only [rD,List.map_map]
   exact List.map_congr_left fun b _=>rfl
  rw[e1]
  exact aLN (by simp only [rD,List.length_map];exact Lib.splitB_all (bs sep) (by rw[fH];exact h1) 0 _ (bs s) rfl)
theorem aHZ(ls:List (List UInt8))(x:List UInt8)(hN:ls.length≤9223372036854775807):aF prog 174 [.s (.d (XZ ls)),vT x] (vI (Lib.idxOfS (ls.map bs) (bs x))):=by
 refine⟨call174,fun M w vs hg hr hM=>?_⟩
 match vs,hr with
 |[v,s],⟨h,h2,_⟩=>
  obtain rfl:s=.string (bs x):=h2
  obtain⟨a,cap,rfl,hc,cR⟩:=h
  by_cases h0:ls.length=0
  ·have:ls=[]:=List.eq_nil_of_length_eq_zero h0
   subst this
   refine(Tryz.slices_Index_string_empty a cap (bs x) w).mono ?_
   rintro e w' ⟨rfl,rfl⟩
   exact⟨_,M,rfl,rfl,Grow.refl _ _,hM,⟨Below.refl _ _,oO⟩⟩
  rcases cR with h1|⟨b,o,rfl,cR⟩
  ·exact absurd h1 h0
  have cells:∀j,j<(ls.map bs).length→w.cell? ⟨b,o+j,none⟩=some (.string ((ls.map bs).getD j ByteArray.empty)):=by
   intro j hj
   have hj:j<ls.length:=by simpa using hj
   obtain⟨u,hu,hr⟩:=cR j 0 hj oM
   rw[show o+j*1+0=o+j by omega]at hu
   rw[hM _ _ _ hu]
   have hr:u=.string (bs (ls.getD j [])):=hr
   rw[hr,a7 hj]
   simp[List.getD,List.getElem?_eq_getElem hj]
  have hsh:=Tryz.slices_Index_string b o ls.length cap (ls.map bs) (bs x) w sM hN cells
  rw[List.take_of_length_le sM]at hsh
  refine hsh.mono ?_
  rintro e w' ⟨rfl,rfl⟩
  exact⟨_,M,rfl,rfl,Grow.refl _ _,hM,⟨Below.refl _ _,oO⟩⟩
end Go.Ch
--K6
namespace Go.Ax
def ED:eJ→eJ→Prop
 |[],[]=>True
 |(x,b)::r,(y,c)::s=>x=y∧aZ b c∧ED r s
 |_,_=>False
theorem ED.names:∀{a b:eJ},ED a b→names a=names b
 |[],[],_=>rfl
 |(x,b)::r,(y,c)::s,⟨h,_,k⟩=>by
  subst h
  have:=ED.names k
  simp only [Ax.names]at this ⊢
  rw[this]
 |[],_::_,h=>h.elim
 |_::_,[],h=>h.elim
theorem ED.get{M:Mem}{β:Nm}{w:World}:∀{a b:eJ},ED a b→(∀x c,(x,c)∈a→cH M β w x c)→∀x c,(x,c)∈b→cH M β w x c
 |[],[],_,_,x,c,hc=>by cases hc
 |(x,b)::r,(y,c)::s,⟨h,h2,k⟩,hr,z,d,hd=>by
  subst h
  cases hd with
  |head=>exact h2 M β w x (hr x b (List.mem_cons_self ..))
  |tail _ hd=>exact ED.get k (fun x c hc=>hr x c (List.mem_cons_of_mem _ hc)) z d hd
 |[],_::_,h,_,_,_,_=>h.elim
 |_::_,[],h,_,_,_,_=>h.elim
theorem bT.le{P:Program}{f:FuncId}{args:List AV}{bx:eJ}{r r':AV}{b1 b2:eJ}(h:bT P f args bx r b1)(hr:aU r r')(hb:ED b1 b2):bT P f args bx r' b2:=by
 refine⟨h.1,fun M β w vs hG hA hM qP hβ=>(h.2 M β w vs hG hA hM qP hβ).mono ?_⟩
 rintro q w' ⟨v,M',β',he,hle,dU,QM,aGD,fG,EJ,rest⟩
 have hn:=hb.names
 exact⟨v,M',β',he,hle,hr _ _ _ dU,QM,aGD,⟨fun x hx=>fG.has x (hn▸hx),hb.get fG.rep,fun x y b c c' hx hy=>fG.inj x y b c c' (hn▸hx) (hn▸hy),fun x b c hx=>fG.apart x b c (hn▸hx)⟩,fun x b c hx=>EJ x b c (hn▸hx),rest⟩
end Go.Ax
namespace Go.Pj
open Go Go.Ax Go.Ch Go.Proofs Go.Proofs.Tryz
set_option maxRecDepth 100000
set_option maxHeartbeats 1000000
abbrev RS:=List b9×Bool
abbrev CB(s:RS):List SV:=[.d (XZ s.1),.d (.lit s.2)]
def dF(s:RS):b9×RS:=(s.1.headD [],(s.1.tail,s.2||s.1.isEmpty))
def rdNum(s:RS):Int×RS:=(atN (s.1.headD []),(s.1.tail,(s.2||s.1.isEmpty)||SR (s.1.headD [])))
theorem word(s:RS)(hl:s.1.length≤9223372036854775807):bT prog 114 [.s (.ptr 1 0)] [(1,.cells (CB s))] (vT (dF s).1) [(1,.cells (CB (dF s).2))]:=by
 obtain⟨l,b⟩:=s
 cases l with
 |nil=>
  refine bT.le (b1:=[(1,.cells [.d (XZ []),.d (.lit true)])]) (r:=vT []) ?_ aU.rfl ⟨rfl,aZ.cells ⟨aU.rfl,aU.of_eq (by cases b <;> rfl),oO⟩,oO⟩
  refine fT (rc:=[]) (N:=28) func114 rfl rfl call114 aJ mix rfl rfl rfl rfl (fun cx aA=>?_)
  refine aI (fun h=>?_) (fun h=>Bool.noConfusion (show true=false from h))
  exact⟨aC.refl _,rfl,oO⟩
 |cons a l=>
  apply bT.le (b1:=[(1,.cells [_,_])]) (r:=vT a)
  case h=>
   refine fT (rc:=[]) (N:=28) func114 rfl rfl call114 aJ mix rfl rfl rfl rfl (fun cx aA=>?_)
   refine aI (fun h=>?_) (fun h=>?_)
   ·have h:(((a::l).length:Int)==0)=true:=h
    simp at h
    omega
   refine oi (show(0:Int)≤0∧(0:Int)<((a::l).length:Int) by simp only [List.length_cons];omega) ?_
   refine oi (show(0:Int)≤1∧(1:Int)≤((a::l).length:Int)∧((a::l).length:Int)≤((a::l).length:Int) by simp only [List.length_cons];omega) ?_
   exact⟨aC.refl _,rfl,oO⟩
  case hr=>exact aU.rfl
  case hb=>
   refine⟨rfl,aZ.cells ⟨aU.d (aL.zZ ?_ fun i j hi hj=>aL.of_eq ?_),?_,oO⟩,oO⟩
   ·show(((a::l).length:Int) - 1).toNat=l.length
    simp only [List.length_cons];omega
   ·show dT ((a::l).getD (1+i) [])=dT (l.getD i [])
    rw[Nat.add_comm];rfl
   ·exact aU.of_eq (by simp[dF])
theorem aU.val{b c:Bool}(h:b=c):aU (.s (.d (.val (.bool b)))) (.s (.d (.lit c))):=by subst h;exact fun _ _ _ r=>r
theorem number(s:RS)(hl:s.1.length≤9223372036854775807)(hw:(s.1.headD []).length≤281474976710656):bT prog 116 [.s (.ptr 1 0)] [(1,.cells (CB s))] (vI (rdNum s).1) [(1,.cells (CB (rdNum s).2))]:=by
 obtain⟨l,b⟩:=s
 cases hb:b||l.isEmpty with
 |true=>
  have e1:(dF (l,b)).2=(l.tail,true):=by simp[dF,hb]
  have e2:(rdNum (l,b)).2=(l.tail,true):=by simp[rdNum,hb]
  rw[e2]
  have OQ:=word (l,b) hl
  rw[e1]at OQ
  refine bT.le (b1:=[(1,.cells [.d (XZ l.tail),.d (.lit true)])]) (r:=vI (rdNum (l,b)).1) ?_ aU.rfl ⟨rfl,aZ.rfl,oO⟩
  refine fT (rc:=[114]) (N:=23) func116 rfl rfl call116 aJ mix rfl rfl rfl rfl (fun cx aA=>?_)
  refine⟨[(1,1)],_,_,_,_,OQ,rfl,⟨rfl,oO⟩,rfl,?_⟩
  refine aB (Atoi (l.headD []) hw) ?_
  repeat refine aR ?_
  exact⟨aC.refl _,rfl,oO⟩
 |false=>
  have e1:(dF (l,b)).2=(l.tail,false):=by simp[dF,hb]
  have e2:(rdNum (l,b)).2=(l.tail,SR (l.headD [])):=by simp[rdNum,hb]
  rw[e2]
  have OQ:=word (l,b) hl
  rw[e1]at OQ
  refine bT.le (b1:=[(1,.cells [.d (XZ l.tail),.d (.val (.bool (SR (l.headD []))))])]) (r:=vI (rdNum (l,b)).1) ?_ aU.rfl ⟨rfl,aZ.cells ⟨aU.rfl,aU.val rfl,oO⟩,oO⟩
  refine fT (rc:=[114]) (N:=23) func116 rfl rfl call116 aJ mix rfl rfl rfl rfl (fun cx aA=>?_)
  refine⟨[(1,1)],_,_,_,_,OQ,rfl,⟨rfl,oO⟩,rfl,?_⟩
  refine aB (Atoi (l.headD []) hw) ?_
  repeat refine aR ?_
  intro c hc
  obtain rfl:c=SR (l.headD []):=by
   revert hc
   cases c <;> cases SR (l.headD []) <;> simp
  repeat refine aR ?_
  exact⟨aC.refl _,rfl,oO⟩
end Go.Pj
namespace Go.Pj
open Go Go.Ax Go.Ch Go.Proofs Go.Proofs.Tryz
def rG(s:RS):Prop:=s.1.length≤4294967296∧∀w∈s.1,w.length≤4294967296
theorem rG.tail{l:List b9}{b c:Bool}(h:rG (l,b)):rG (l.tail,c):=
 ⟨Nat.le_trans sM h.1,fun w hw=>h.2 w (List.mem_of_mem_tail hw)⟩
theorem rG.head{s:RS}(h:rG s):(s.1.headD []).length≤281474976710656:=by
 obtain⟨l,b⟩:=s
 cases l with
 |nil=>simp
 |cons a l=>exact Nat.le_trans (h.2 a (List.mem_cons_self ..)) dC
theorem rG.num{s:RS}(h:rG s):rG (rdNum s).2:=rG.tail (b:=s.2) h
theorem rG.word{s:RS}(h:rG s):rG (dF s).2:=rG.tail (b:=s.2) h
theorem num{s:RS}(h:rG s):bT prog 116 [.s (.ptr 1 0)] [(1,.cells (CB s))] (vI (rdNum s).1) [(1,.cells (CB (rdNum s).2))]:=number s (Nat.le_trans h.1 dC) h.head
theorem wrd{s:RS}(h:rG s):bT prog 114 [.s (.ptr 1 0)] [(1,.cells (CB s))] (vT (dF s).1) [(1,.cells (CB (dF s).2))]:=word s (Nat.le_trans h.1 dC)
def wR(x:b9):Int:=Lib.idxOfS ([qS,C3,vW,jY].map bs) (bs x)
theorem kindOf(x:b9):aF prog 113 [vT x] (vI (wR x)):=by
 refine eP func113 rfl rfl call113 rfl rfl fun cx aA=>?_
 refine aB ((aHZ [qS,C3,vW,jY] x dC).conv (args':=_) ⟨aL.zZ rfl fun i j hi hj=>?_,aL.refl _,oO⟩) ?_
 ·obtain rfl:j=0:=by have:j<1:=hj;omega
  have hi:i<4:=hi
  match i,hi with
  |0,_=>exact aL.refl _
  |1,_=>exact aL.refl _
  |2,_=>exact aL.refl _
  |3,_=>exact aL.refl _
 ·exact aC.refl _
def iL(k:Int)(f:Fact)(s:RS):Fact×RS:=
 bif k==0 then({f with bM:=(rdNum s).1,month:=(rdNum (rdNum s).2).1},(rdNum (rdNum s).2).2)
 else bif k==1 then({f with number:=(rdNum s).1},(rdNum s).2)
 else bif k==2 then({f with eO:=bs (dF s).1,month:=(rdNum (dF s).2).1},(rdNum (dF s).2).2)
 else(f,(s.1,true))
theorem rG.key{k:Int}{f:Fact}{s:RS}(h:rG s):rG (iL k f s).2:=by
 unfold iL
 cases k==0 <;> cases k==1 <;> cases k==2
 all_goals first|exact h.num.num|exact h.num|exact h.word.num|exact h
abbrev tX(f:Fact)(x:SV):List SV:=[.d (dI f.kind),.d (dI f.seq),.d (dI f.bM),.d (dI f.month),.d (dI f.number),.d (dI f.aW),.d (dI f.over),.d (dI f.cls),.d (dI f.target),.d (dS f.aO),.d (dS f.dO),.d (dS f.eO),x]
theorem aJB(k:Int)(f:Fact)(x:DV){s:RS}(h:rG s):bT prog 115 [.s (.ptr 1 0),.s (.ptr 2 0),vI k] [(1,.cells (CB s)),(2,.cells (tX f (.d x)))] (.t []) [(1,.cells (CB (iL k f s).2)),(2,.cells (tX (iL k f s).1 (.d x)))]:=by
 cases k0:k==0 with
 |true=>
  have e:iL k f s=({f with bM:=(rdNum s).1,month:=(rdNum (rdNum s).2).1},(rdNum (rdNum s).2).2):=by unfold iL;rw[k0];rfl
  rw[e]
  refine q8 (rc:=[116]) (N:=41) func115 rfl rfl call115 aJ mix rfl rfl rfl (fun cx aA=>?_)
  refine aI (fun g=>?_) (fun g=>(Bool.noConfusion (k0.symm.trans g)))
  refine⟨[(1,1)],_,_,_,_,num h,rfl,⟨rfl,oO⟩,rfl,?_⟩
  refine⟨[(1,1)],_,_,_,_,num h.num,rfl,⟨rfl,oO⟩,rfl,?_⟩
  exact⟨rfl,rfl,oO⟩
 |false=>
  cases k1:k==1 with
  |true=>
   have e:iL k f s=({f with number:=(rdNum s).1},(rdNum s).2):=by unfold iL;rw[k0,k1];rfl
   rw[e]
   refine q8 (rc:=[116]) (N:=41) func115 rfl rfl call115 aJ mix rfl rfl rfl (fun cx aA=>?_)
   refine aI (fun g=>(Bool.noConfusion (k0.symm.trans g))) (fun g=>?_)
   refine aI (fun g=>?_) (fun g=>(Bool.noConfusion (k1.symm.trans g)))
   refine⟨[(1,1)],_,_,_,_,num h,rfl,⟨rfl,oO⟩,rfl,?_⟩
   exact⟨rfl,rfl,oO⟩
  |false=>
   cases k2:k==2 with
   |true=>
    have e:iL k f s=({f with eO:=bs (dF s).1,month:=(rdNum (dF s).2).1},(rdNum (dF s).2).2):=by unfold iL;rw[k0,k1,k2];rfl
    rw[e]
    refine q8 (rc:=[116,114]) (N:=41) func115 rfl rfl call115 aJ mix rfl rfl rfl (fun cx aA=>?_)
    refine aI (fun g=>(Bool.noConfusion (k0.symm.trans g))) (fun g=>?_)
    refine aI (fun g=>(Bool.noConfusion (k1.symm.trans g))) (fun g=>?_)
    refine aI (fun g=>?_) (fun g=>(Bool.noConfusion (k2.symm.trans g)))
    refine⟨[(1,1)],_,_,_,_,wrd h,rfl,⟨rfl,oO⟩,rfl,?_⟩
    refine⟨[(1,1)],_,_,_,_,num h.word,rfl,⟨rfl,oO⟩,rfl,?_⟩
    exact⟨rfl,rfl,oO⟩
   |false=>
    have e:iL k f s=(f,(s.1,true)):=by unfold iL;rw[k0,k1,k2];rfl
    rw[e]
    refine q8 (rc:=[]) (N:=41) func115 rfl rfl call115 aJ mix rfl rfl rfl (fun cx aA=>?_)
    refine aI (fun g=>(Bool.noConfusion (k0.symm.trans g))) (fun g=>?_)
    refine aI (fun g=>(Bool.noConfusion (k1.symm.trans g))) (fun g=>?_)
    refine aI (fun g=>(Bool.noConfusion (k2.symm.trans g))) (fun g=>?_)
    exact⟨rfl,rfl,oO⟩
theorem aU.gl{l m:List SV}(h:XJ l m):aU (.g l) (.g m):=by
 rintro M β v ⟨vs,e,r⟩
 refine⟨vs,e,?_⟩
 clear e
 induction l generalizing m vs with
 |nil=>cases m with
  |nil=>exact r
  |cons _ _=>exact h.elim
 |cons a l ih=>
  cases m with
  |nil=>exact h.elim
  |cons b m=>
   match vs,r with
   |u::us,⟨r1,r2⟩=>exact⟨h.1 M β u r1,ih h.2 us r2⟩
theorem EV(f:Fact){x y:SV}(h:aU (.s x) (.s y)):aU (.g (tX f x)) (.g (tX f y)):=
 aU.gl ⟨aU.rfl,aU.rfl,aU.rfl,aU.rfl,aU.rfl,aU.rfl,aU.rfl,aU.rfl,aU.rfl,aU.rfl,aU.rfl,aU.rfl,h,oO⟩
def lB(k:Int):Fact:={(default:Fact)with kind:=k,seq:=0,bM:=0,month:=0,number:=0,aW:=0,over:=0,cls:=0,target:=0,aO:=bs [],dO:=bs [],eO:=bs [],levels:=[]}
def EG(w:b9):Int:=bif w== [45]then 30000 else atN w
def JK(w:b9):Bool:=bif w== [45]then false else SR w
def QX(f:Fact)(s:RS):Fact×RS:=
 let s1:=(rdNum s).2
 let s2:=(rdNum s1).2
 let s3:=(rdNum s2).2
 let s4:=(rdNum s3).2
 let s5:=(dF s4).2
 let s6:=(rdNum s5).2
 ({f with month:=(rdNum s).1,seq:=(rdNum s1).1,aW:=(rdNum s2).1,over:=(rdNum s3).1,aO:=bs (dF s4).1,cls:=(rdNum s5).1,dO:=bs (dF s6).1},(dF s6).2)
def j0(s:RS):Fact×RS:=
 let k:=wR (dF s).1
 let s1:=(dF s).2
 bif k==0 then
  let r:=iL k (lB k) s1
  let s3:=(rdNum r.2).2
  ({r.1 with seq:=(rdNum r.2).1,levels:=s3.1.map EG},([],s3.2||s3.1.any JK))
 else bif k==1 then QX (iL k (lB k) s1).1 (iL k (lB k) s1).2
 else bif k==3 then
  let s2:=(rdNum s1).2
  let s3:=(dF s2).2
  iL (wR (dF s2).1) {lB k with seq:=(rdNum s1).1,target:=wR (dF s2).1} s3
 else
  let r:=iL k (lB k) s1
  ({r.1 with seq:=(rdNum r.2).1},(rdNum r.2).2)
theorem AH(k:Int)(f:Fact)(s:RS):(iL k f s).1.levels=f.levels:=by
 unfold iL
 cases k==0 <;> cases k==1 <;> cases k==2 <;> rfl
abbrev eK:DV:=.val (.slice none 0 0)
theorem G1{l:List Int}(h:l=[]):aU (.s (.d eK)) (.s (.d (cE l))):=by
 subst h
 exact aU.d aL.nil
theorem aKH{s:RS}(h:rG s):bT prog 52 [.s (.ptr 1 0)] [(1,.cells (CB s))] (p8 (j0 s).1) [(1,.cells (CB (j0 s).2))]:=by
 have h1:=h.word
 generalize hk:wR (dF s).1=k
 generalize JW:(dF s).2=s1 at h1
 have hr:=h1.key (k:=k) (f:=lB k)
 have hl:=AH k (lB k) s1
 have sL:=aJB k (lB k) eK h1
 cases k0:k==0 with
 |true=>
  generalize QF:iL k (lB k) s1=r at hl sL hr
  obtain⟨f1,s2⟩:=r
  have c1:=num (s:=s2) hr
  have DT:=rG.num (s:=s2) hr
  generalize e1:rdNum s2=r1 at c1 DT
  obtain⟨n1,l,b⟩:=r1
  have h3:rG (l,b):=DT
  have e:j0 s=({f1 with seq:=n1,levels:=l.map EG},([],b||l.any JK)):=by
   unfold j0
   simp only [hk,JW,k0,cond_true,QF,e1]
  rw[e]
  have O0:∀i c,rG (l.drop i,c):=fun i c=>⟨Nat.le_trans sM h3.1,fun w hw=>h3.2 w (List.mem_of_mem_drop hw)⟩
  have hn:=h3.1
  have hn:l.length≤4294967296:=hn
  refine bT.le (b1:=[(1,.cells (CB ([],b||l.any JK)))]) (r:=.g (tX {f1 with seq:=n1} (.d (.fW (bif (l.map EG).isEmpty then 0 else(l.map EG).length) 1 (eH (l.map EG)))))) ?_ (EV {f1 with seq:=n1} (aU.of_eq (by rw[eL];rfl))) ⟨rfl,aZ.rfl,oO⟩
  refine kP func52 rfl rfl call52 aJ rfl rfl rfl rfl (fun cx aA=>?_)
  refine sX aA ?_
  refine AW.seq (ex.sound (rc:=[114]) aJ mix aA _ ?_)
  refine⟨[(1,1)],_,_,_,_,wrd h,rfl,⟨rfl,oO⟩,rfl,?_⟩
  refine aB (kindOf (dF s).1) ?_
  rw[hk,JW]
  refine AW.gG (σ':=⟨[(0,.s (.ptr 1 0)),(2,.s (.ptr 2 0)),(3,.s (.ptr 3 0))],[(1,some (.cells (CB s1))),(2,some (.cells (iS ty40.zero))),(3,some (.cells (tX (lB k) (.d eK))))]⟩) (aS.of [] (by rw[aA];rfl) rfl ⟨bQ,bQ,bQ,oO⟩ ⟨qZ,qZ,qZ,oO⟩) ?_
  refine AW.seq (sX aA ?_)
  refine AW.block (sX aA ?_)
  refine AW.cond ?_
  refine aI (fun g=>?_) (fun g=>(Bool.noConfusion (k0.symm.trans g)))
  refine AW.seq (ex.sound (rc:=[115]) aJ mix aA _ ?_)
  refine⟨[(1,1),(2,3)],_,_,_,_,sL,rfl,⟨rfl,rfl,oO⟩,rfl,?_⟩
  refine AW.gG (σ':=⟨[(0,.s (.ptr 1 0)),(2,.s (.ptr 2 0)),(3,.s (.ptr 3 0))],[(1,some (.cells (CB s2))),(2,some (.cells (iS ty40.zero))),(3,some (.cells (tX (f1) (.d eK))))]⟩) (aS.of [] (by rw[aA];rfl) rfl ⟨bQ,bQ,bQ,oO⟩ ⟨qZ,qZ,qZ,oO⟩) ?_
  refine AW.seq (ex.sound (rc:=[116]) aJ mix aA _ ?_)
  refine⟨[(1,1)],_,_,_,_,c1,rfl,⟨rfl,oO⟩,rfl,?_⟩
  refine AW.block ?_
  refine AW.cV (fun i:Nat=>⟨[(0,.s (.ptr 1 0)),(2,.s (.ptr 2 0)),(3,.s (.ptr 3 0))],[(1,some (.cells (CB (l.drop i,b||(l.take i).any JK)))),(2,some (.cells (iS ty40.zero))),(3,some (.cells (tX {f1 with seq:=n1} (.mo ((l.take i).map EG).isEmpty 100)))),(100,some (.cA 3 ((l.take i).map EG).length 1 (eH ((l.take i).map EG))))]⟩)
   (fun i=>i≤l.length) (fun i=>l.length - i) 0 (Nat.zero_le _) ?_ ?_
  ·exact aS.of [(100,1000)] (by rw[aA];rfl) rfl ⟨⟨rfl,aZ.cells ⟨aU.rfl,aU.of_eq (show AV.s (.d (.lit b))=AV.s (.d (.lit (b||false))) by rw[Bool.or_false]),oO⟩⟩,bQ,⟨rfl,aZ.cells ⟨aU.rfl,aU.rfl,aU.rfl,aU.rfl,aU.rfl,aU.rfl,aU.rfl,aU.rfl,aU.rfl,aU.rfl,aU.rfl,aU.rfl,aU.nil rfl,oO⟩⟩,⟨rfl,rfl⟩,oO⟩ ⟨qZ,qZ,qZ,oO⟩
  ·intro i hi
   refine ex.sound (rc:=[114,1500116]) aJ mix aA _ ?_
   refine aI (fun g=>?_) (fun g=>?_)
   ·have g:((l.drop i).length:Int)>0:=bL g
    rw[List.length_drop]at g
    have bK:i<l.length:=oM
    have hd:l.drop i=l.getD i []::l.drop (i+1):=by rw[a7 bK];exact List.drop_eq_getElem_cons bK
    refine oi (show(0:Int)≤0∧(0:Int)<((l.drop i).length:Int) by rw[List.length_drop];omega) ?_
    have hlen:((l.take i).map EG).length=i:=by simp;omega
    have tk1:l.take (i+1)=l.take i++ [l.getD i []]:=by rw[List.take_add_one,List.getElem?_eq_getElem bK,a7 bK];rfl
    have tkE:(l.take (i+1)).any JK=((l.take i).any JK||JK (l.getD i [])):=by rw[tk1,List.any_append];simp
    have tkN:(l.take (i+1)).map EG=(l.take i).map EG++ [EG (l.getD i [])]:=by rw[tk1,List.map_append];rfl
    have hg0:(l.drop i).getD 0 []=l.getD i []:=by rw[hd];rfl
    refine aI (fun g2=>?_) (fun g2=>?_)
    ·have g2:((bs ((l.drop i).getD 0 [])).toList==(bs [45]).toList)=true:=g2
     rw[hg0,mH,mH]at g2
     have eN:EG (l.getD i [])=30000:=by unfold EG;rw[g2];rfl
     have eE:JK (l.getD i [])=false:=by unfold JK;rw[g2];rfl
     refine ob dC ?_
     refine ob (by rw[eL];show(((l.take i).map EG).length+1)*8≤_;rw[hlen];omega) ?_
     refine ob (nZ (AN rfl)) ?_
     refine⟨[(1,1)],_,_,_,_,wrd (O0 i _),rfl,⟨rfl,oO⟩,rfl,?_⟩
     refine⟨i+1,oM,oM,?_⟩
     refine aS.of [(100,42)] (by rw[aA];rfl) rfl ⟨⟨rfl,aZ.cells ⟨aU.of_eq (by rw[hd];rfl),aU.of_eq ?_,oO⟩⟩,bQ,⟨rfl,aZ.cells ⟨aU.rfl,aU.rfl,aU.rfl,aU.rfl,aU.rfl,aU.rfl,aU.rfl,aU.rfl,aU.rfl,aU.rfl,aU.rfl,aU.rfl,aU.mo ?_,oO⟩⟩,⟨rfl,?_⟩,oO⟩ ⟨qZ,qZ,qZ,oO⟩
     ·show AV.s (.d (.lit ((b||(l.take i).any JK)||(l.drop i).isEmpty)))=AV.s (.d (.lit (b||(l.take (i+1)).any JK)))
      rw[tkE,hd,eE];simp
     ·rw[tkN];exact cG _ _
     ·show aZ _ (.cA 3 ((l.take (i+1)).map EG).length 1 (eH ((l.take (i+1)).map EG)))
      rw[tkN,eN]
      exact aZ.snoc (el:=fun n _=>dI n) (x:=30000) (AN rfl)
    ·have g2:((bs ((l.drop i).getD 0 [])).toList==(bs [45]).toList)=false:=g2
     rw[hg0,mH,mH]at g2
     have eN:EG (l.getD i [])=(rdNum (l.drop i,b||(l.take i).any JK)).1:=by unfold EG rdNum;rw[g2,hd];rfl
     have eE:JK (l.getD i [])=SR (l.getD i []):=by unfold JK;rw[g2];rfl
     refine⟨[(1,1)],_,_,_,_,num (O0 i _),rfl,⟨rfl,oO⟩,rfl,?_⟩
     refine ob dC ?_
     refine ob (by rw[eL];show(((l.take i).map EG).length+1)*8≤_;rw[hlen];omega) ?_
     refine ob (nZ (AN rfl)) ?_
     refine aD ?_
     refine⟨i+1,oM,oM,?_⟩
     refine aS.of [(100,51)] (by rw[aA];rfl) rfl ⟨⟨rfl,aZ.cells ⟨aU.of_eq (by rw[hd];rfl),aU.of_eq ?_,oO⟩⟩,bQ,⟨rfl,aZ.cells ⟨aU.rfl,aU.rfl,aU.rfl,aU.rfl,aU.rfl,aU.rfl,aU.rfl,aU.rfl,aU.rfl,aU.rfl,aU.rfl,aU.rfl,aU.mo ?_,oO⟩⟩,⟨rfl,?_⟩,oO⟩ ⟨qZ,qZ,qZ,oO⟩
     ·show AV.s (.d (.lit (((b||(l.take i).any JK)||(l.drop i).isEmpty)||SR ((l.drop i).headD []))))=AV.s (.d (.lit (b||(l.take (i+1)).any JK)))
      rw[tkE,hd,eE];simp[Bool.or_assoc]
     ·rw[tkN];exact cG _ _
     ·show aZ _ (.cA 3 ((l.take (i+1)).map EG).length 1 (eH ((l.take (i+1)).map EG)))
      rw[tkN,eN]
      exact aZ.snoc (el:=fun n _=>dI n) (x:=(rdNum (l.drop i,b||(l.take i).any JK)).1) (AN rfl)
   ·have g:¬((l.drop i).length:Int)>0:=bG g
    rw[List.length_drop]at g
    obtain rfl:i=l.length:=oM
    rw[List.drop_length,List.take_length]
    refine eX aA ?_
    exact⟨aC.refl _,rfl,oO⟩
 |false=>
  cases k1:k==1 with
  |true=>
   generalize QF:iL k (lB k) s1=r at hl sL hr
   obtain⟨f1,s2⟩:=r
   have aJ4:rG s2:=hr
   have c1:=num (s:=s2) aJ4
   have aER:=rG.num aJ4
   generalize e1:rdNum s2=r1 at c1 aER
   obtain⟨n1,s3⟩:=r1
   have aJ3:rG s3:=aER
   have c2:=num (s:=s3) aJ3
   have aEQ:=rG.num aJ3
   generalize e2:rdNum s3=r2 at c2 aEQ
   obtain⟨n2,s4⟩:=r2
   have aJ2:rG s4:=aEQ
   have c3:=num (s:=s4) aJ2
   have aEP:=rG.num aJ2
   generalize e3:rdNum s4=r3 at c3 aEP
   obtain⟨n3,s5⟩:=r3
   have aJ1:rG s5:=aEP
   have c4:=num (s:=s5) aJ1
   have aEO:=rG.num aJ1
   generalize e4:rdNum s5=r4 at c4 aEO
   obtain⟨n4,s6⟩:=r4
   have aJ0:rG s6:=aEO
   have c5:=wrd (s:=s6) aJ0
   have aEN:=rG.word aJ0
   generalize e5:dF s6=r5 at c5 aEN
   obtain⟨w1,s7⟩:=r5
   have aJZ:rG s7:=aEN
   have c6:=num (s:=s7) aJZ
   have aEM:=rG.num aJZ
   generalize e6:rdNum s7=r6 at c6 aEM
   obtain⟨n5,s8⟩:=r6
   have aJY:rG s8:=aEM
   have c7:=wrd (s:=s8) aJY
   have aEL:=rG.word aJY
   generalize e7:dF s8=r7 at c7 aEL
   obtain⟨w2,s9⟩:=r7
   have aNY:rG s9:=aEL
   have e:j0 s=({f1 with month:=n1,seq:=n2,aW:=n3,over:=n4,aO:=bs w1,cls:=n5,dO:=bs w2},s9):=by
    unfold j0
    simp only [hk,JW,k0,k1,cond_false,cond_true,QF,QX,e1,e2,e3,e4,e5,e6,e7]
   rw[e]
   refine bT.le (b1:=[(1,.cells (CB s9))]) (r:=.g (tX {f1 with month:=n1,seq:=n2,aW:=n3,over:=n4,aO:=bs w1,cls:=n5,dO:=bs w2} (.d eK))) ?_ (EV _ (G1 hl)) ⟨rfl,aZ.rfl,oO⟩
   refine kP func52 rfl rfl call52 aJ rfl rfl rfl rfl (fun cx aA=>?_)
   refine sX aA ?_
   refine AW.seq (ex.sound (rc:=[114]) aJ mix aA _ ?_)
   refine⟨[(1,1)],_,_,_,_,wrd h,rfl,⟨rfl,oO⟩,rfl,?_⟩
   refine aB (kindOf (dF s).1) ?_
   rw[hk,JW]
   refine AW.gG (σ':=⟨[(0,.s (.ptr 1 0)),(2,.s (.ptr 2 0)),(3,.s (.ptr 3 0))],[(1,some (.cells (CB s1))),(2,some (.cells (iS ty40.zero))),(3,some (.cells (tX (lB k) (.d eK))))]⟩) (aS.of [] (by rw[aA];rfl) rfl ⟨bQ,bQ,bQ,oO⟩ ⟨qZ,qZ,qZ,oO⟩) ?_
   refine AW.seq (sX aA ?_)
   refine AW.block (sX aA ?_)
   refine AW.cond ?_
   refine aI (fun g=>(Bool.noConfusion (k0.symm.trans g))) (fun g=>?_)
   refine sX aA ?_
   refine AW.cond ?_
   refine aI (fun g=>?_) (fun g=>(Bool.noConfusion (k1.symm.trans g)))
   refine AW.gG (σ':=⟨[(0,.s (.ptr 1 0)),(2,.s (.ptr 2 0)),(3,.s (.ptr 3 0))],[(1,some (.cells (CB s1))),(2,some (.cells (iS ty40.zero))),(3,some (.cells (tX (lB k) (.d eK))))]⟩) (aS.of [] (by rw[aA];rfl) rfl ⟨bQ,bQ,bQ,oO⟩ ⟨qZ,qZ,qZ,oO⟩) ?_
   refine AW.seq (ex.sound (rc:=[115]) aJ mix aA _ ?_)
   refine⟨[(1,1),(2,3)],_,_,_,_,sL,rfl,⟨rfl,rfl,oO⟩,rfl,?_⟩
   refine AW.gG (σ':=⟨[(0,.s (.ptr 1 0)),(2,.s (.ptr 2 0)),(3,.s (.ptr 3 0))],[(1,some (.cells (CB s2))),(2,some (.cells (iS ty40.zero))),(3,some (.cells (tX (f1) (.d eK))))]⟩) (aS.of [] (by rw[aA];rfl) rfl ⟨bQ,bQ,bQ,oO⟩ ⟨qZ,qZ,qZ,oO⟩) ?_
   refine AW.seq (ex.sound (rc:=[116]) aJ mix aA _ ?_)
   refine⟨[(1,1)],_,_,_,_,c1,rfl,⟨rfl,oO⟩,rfl,?_⟩
   refine⟨[(1,1)],_,_,_,_,c2,rfl,⟨rfl,oO⟩,rfl,?_⟩
   refine AW.gG (σ':=⟨[(0,.s (.ptr 1 0)),(2,.s (.ptr 2 0)),(3,.s (.ptr 3 0))],[(1,some (.cells (CB s4))),(2,some (.cells (iS ty40.zero))),(3,some (.cells (tX ({f1 with month:=n1,seq:=n2}) (.d eK))))]⟩) (aS.of [] (by rw[aA];rfl) rfl ⟨bQ,bQ,bQ,oO⟩ ⟨qZ,qZ,qZ,oO⟩) ?_
   refine AW.seq (ex.sound (rc:=[116]) aJ mix aA _ ?_)
   refine⟨[(1,1)],_,_,_,_,c3,rfl,⟨rfl,oO⟩,rfl,?_⟩
   refine⟨[(1,1)],_,_,_,_,c4,rfl,⟨rfl,oO⟩,rfl,?_⟩
   refine AW.gG (σ':=⟨[(0,.s (.ptr 1 0)),(2,.s (.ptr 2 0)),(3,.s (.ptr 3 0))],[(1,some (.cells (CB s6))),(2,some (.cells (iS ty40.zero))),(3,some (.cells (tX ({f1 with month:=n1,seq:=n2,aW:=n3,over:=n4}) (.d eK))))]⟩) (aS.of [] (by rw[aA];rfl) rfl ⟨bQ,bQ,bQ,oO⟩ ⟨qZ,qZ,qZ,oO⟩) ?_
   refine AW.seq (ex.sound (rc:=[114]) aJ mix aA _ ?_)
   refine⟨[(1,1)],_,_,_,_,c5,rfl,⟨rfl,oO⟩,rfl,?_⟩
   refine AW.gG (σ':=⟨[(0,.s (.ptr 1 0)),(2,.s (.ptr 2 0)),(3,.s (.ptr 3 0))],[(1,some (.cells (CB s7))),(2,some (.cells (iS ty40.zero))),(3,some (.cells (tX ({f1 with month:=n1,seq:=n2,aW:=n3,over:=n4,aO:=bs w1}) (.d eK))))]⟩) (aS.of [] (by rw[aA];rfl) rfl ⟨bQ,bQ,bQ,oO⟩ ⟨qZ,qZ,qZ,oO⟩) ?_
   refine AW.seq (ex.sound (rc:=[116]) aJ mix aA _ ?_)
   refine⟨[(1,1)],_,_,_,_,c6,rfl,⟨rfl,oO⟩,rfl,?_⟩
   refine AW.gG (σ':=⟨[(0,.s (.ptr 1 0)),(2,.s (.ptr 2 0)),(3,.s (.ptr 3 0))],[(1,some (.cells (CB s8))),(2,some (.cells (iS ty40.zero))),(3,some (.cells (tX ({f1 with month:=n1,seq:=n2,aW:=n3,over:=n4,aO:=bs w1,cls:=n5}) (.d eK))))]⟩) (aS.of [] (by rw[aA];rfl) rfl ⟨bQ,bQ,bQ,oO⟩ ⟨qZ,qZ,qZ,oO⟩) ?_
   refine ex.sound (rc:=[114]) aJ mix aA _ ?_
   refine⟨[(1,1)],_,_,_,_,c7,rfl,⟨rfl,oO⟩,rfl,?_⟩
   refine AW.gG (σ':=⟨[(0,.s (.ptr 1 0)),(2,.s (.ptr 2 0)),(3,.s (.ptr 3 0))],[(1,some (.cells (CB s9))),(2,some (.cells (iS ty40.zero))),(3,some (.cells (tX ({f1 with month:=n1,seq:=n2,aW:=n3,over:=n4,aO:=bs w1,cls:=n5,dO:=bs w2}) (.d eK))))]⟩) (aS.of [] (by rw[aA];rfl) rfl ⟨bQ,bQ,bQ,oO⟩ ⟨qZ,qZ,qZ,oO⟩) ?_
   refine eX aA ?_
   exact⟨aC.refl _,rfl,oO⟩
  |false=>
   cases k3:k==3 with
   |true=>
    have c1:=num (s:=s1) h1
    have h2':=rG.num h1
    generalize e1:rdNum s1=r1 at c1 h2'
    obtain⟨n1,s2⟩:=r1
    have h2:rG s2:=h2'
    have c2:=wrd (s:=s2) h2
    have DT:=rG.word h2
    generalize e2:dF s2=r2 at c2 DT
    obtain⟨w1,s3⟩:=r2
    have h3:rG s3:=DT
    generalize hT:wR w1=tg
    have c3:=aJB tg {lB k with seq:=n1,target:=tg} eK h3
    have hl2:=AH tg {lB k with seq:=n1,target:=tg} s3
    have e:j0 s=iL tg {lB k with seq:=n1,target:=tg} s3:=by
     unfold j0
     simp only [hk,JW,k0,k1,k3,cond_false,cond_true,hT,e1,e2]
    rw[e]
    generalize iL tg {lB k with seq:=n1,target:=tg} s3=r3 at c3 hl2
    obtain⟨f3,s4⟩:=r3
    refine bT.le (b1:=[(1,.cells (CB s4))]) (r:=.g (tX f3 (.d eK))) ?_ (EV _ (G1 hl2)) ⟨rfl,aZ.rfl,oO⟩
    refine fT (rc:=[114,115,116]) (N:=94) func52 rfl rfl call52 aJ mix rfl rfl rfl rfl (fun cx aA=>?_)
    refine⟨[(1,1)],_,_,_,_,wrd h,rfl,⟨rfl,oO⟩,rfl,?_⟩
    refine aB (kindOf (dF s).1) ?_
    rw[hk,JW]
    refine aI (fun g=>(Bool.noConfusion (k0.symm.trans g))) (fun g=>?_)
    refine aI (fun g=>(Bool.noConfusion (k1.symm.trans g))) (fun g=>?_)
    refine aI (fun g=>?_) (fun g=>(Bool.noConfusion (k3.symm.trans g)))
    refine⟨[(1,1)],_,_,_,_,c1,rfl,⟨rfl,oO⟩,rfl,?_⟩
    refine⟨[(1,1)],_,_,_,_,c2,rfl,⟨rfl,oO⟩,rfl,?_⟩
    refine aB (kindOf w1) ?_
    rw[hT]
    refine⟨[(1,1),(2,3)],_,_,_,_,c3,rfl,⟨rfl,rfl,oO⟩,rfl,?_⟩
    exact⟨aC.refl _,rfl,oO⟩
   |false=>
    generalize QF:iL k (lB k) s1=r at hl sL hr
    obtain⟨f1,s2⟩:=r
    have e:j0 s=({f1 with seq:=(rdNum s2).1},(rdNum s2).2):=by
     unfold j0
     simp only [hk,JW,k0,k1,k3,cond_false,QF]
    rw[e]
    refine bT.le (b1:=[(1,.cells (CB (rdNum s2).2))]) (r:=.g (tX {f1 with seq:=(rdNum s2).1} (.d eK))) ?_ (EV _ (G1 hl)) ⟨rfl,aZ.rfl,oO⟩
    refine fT (rc:=[114,115,116]) (N:=94) func52 rfl rfl call52 aJ mix rfl rfl rfl rfl (fun cx aA=>?_)
    refine⟨[(1,1)],_,_,_,_,wrd h,rfl,⟨rfl,oO⟩,rfl,?_⟩
    refine aB (kindOf (dF s).1) ?_
    rw[hk,JW]
    refine aI (fun g=>(Bool.noConfusion (k0.symm.trans g))) (fun g=>?_)
    refine aI (fun g=>(Bool.noConfusion (k1.symm.trans g))) (fun g=>?_)
    refine aI (fun g=>(Bool.noConfusion (k3.symm.trans g))) (fun g=>?_)
    refine⟨[(1,1),(2,3)],_,_,_,_,sL,rfl,⟨rfl,rfl,oO⟩,rfl,?_⟩
    refine⟨[(1,1)],_,_,_,_,num (s:=s2) hr,rfl,⟨rfl,oO⟩,rfl,?_⟩
    exact⟨aC.refl _,rfl,oO⟩
open Go.Lib in
theorem aI0:∀(k u:Nat),u<10^(k+1)→nDigits u≤k+1
 |0,u,h=>by rw[nDigits_small (by simpa using h)];exact Nat.le_refl _
 |k+1,u,h=>by
  by_cases hu:u<10
  ·rw[nDigits_small hu];omega
  ·rw[nDigits_big hu]
   have:=aI0 k (u / 10) (by rw[Nat.div_lt_iff_lt_mul dC,←Nat.pow_succ];exact h)
   omega
theorem l4{n:Int}(h: -1000000000000≤n∧n≤1000000000000):(Lib.itoa n).length≤14:=by
 have h1:=aI0 12 n.natAbs (by show n.natAbs<10000000000000;omega)
 rw[←Lib.decDigits_length]at h1
 unfold Lib.itoa
 split
 ·simp only [List.length_cons];omega
 ·rename_i h0
  have:n.toNat=n.natAbs:=oM
  rw[this];omega
theorem GA{k:Int}{f:Fact}(h:cM k f=0):∀x∈cS k f,x.length≤14:=by
 intro x hx
 rcases kK h with⟨rfl,h1,h2⟩|⟨rfl,h1⟩|⟨rfl,h1,h2⟩
 ·have h1:=within_iff.1 h1
  have h2:=within_iff.1 h2
  simp only [cS,List.mem_cons,List.not_mem_nil,or_false,show((0:Int)==0)=true from rfl,cond_true]at hx
  rcases hx with rfl|rfl|rfl
  ·decide
  ·exact l4 oM
  ·exact l4 oM
 ·have h1:=within_iff.1 h1
  simp only [cS,List.mem_cons,List.not_mem_nil,or_false,show((1:Int)==0)=false from rfl,show((1:Int)==1)=true from rfl,cond_true,cond_false]at hx
  rcases hx with rfl|rfl
  ·decide
  ·exact l4 oM
 ·have h1:=within_iff.1 h1
  have h2:=kL h2
  simp only [cS,List.mem_cons,List.not_mem_nil,or_false,show((2:Int)==0)=false from rfl,show((2:Int)==1)=false from rfl,cond_false]at hx
  rcases hx with rfl|rfl|rfl
  ·decide
  ·rw[vY];omega
  ·exact l4 oM
theorem aJA{f:Fact}(h:oL f=0):∀x∈nV f,x.length≤14:=by
 intro x hx
 unfold oL at h
 unfold nV at hx
 cases h1:f.kind !=3 with
 |true=>rw[h1]at h hx;exact GA h x hx
 |false=>
  rw[h1]at h hx
  rcases List.mem_cons.1 hx with rfl|hx
  ·decide
  ·exact GA h x hx
theorem aI2{n:Int}(h:iR n=false):(JJ n).length≤14:=by
 unfold JJ
 cases h1:n==30000 with
 |true=>simp
 |false=>
  have hn:n≠30000:=by simpa using h1
  have h2:within n (-20000) 20000=true:=by
   unfold iR at h
   simpa [hn]using h
  have:=within_iff.1 h2
  simp only [cond_false]
  exact l4 oM
theorem aGR{f:Fact}(h:j6 f=0):(kN f).length≤110∧∀x∈kN f,x.length≤14:=by
 obtain⟨h1,h2⟩:=sP h
 have hk:=aJA h1
 have hl:=AQ f
 have hs:=within_iff.1 (pE h2)
 have i1:(Lib.itoa f.seq).length≤14:=l4 oM
 have yZ:∀x∈nV f,x.length≤14:=fun x hx=>Nat.le_trans (hk x hx) dC
 unfold kN
 cases k0:f.kind==0 with
 |true=>
  obtain⟨a,b⟩:=sB h2 k0
  refine⟨by simp;omega,fun x hx=>?_⟩
  simp only [cond_true,List.mem_append,List.mem_singleton,List.mem_map]at hx
  rcases hx with(hx|rfl)|⟨n,hn,rfl⟩
  ·exact yZ x hx
  ·omega
  ·have:iR n=false:=by
    rw[List.any_eq_false]at a
    simpa using a n hn
   exact Nat.le_trans (aI2 this) dC
 |false=>
  cases k1:f.kind==1 with
  |true=>
   obtain⟨⟨a,b,c,d⟩,e,g⟩:=nG h2 k1
   have a:=within_iff.1 a
   have b:=within_iff.1 b
   have c:=within_iff.1 c
   have d:=within_iff.1 d
   have e:=kL e
   have g:=kL g
   have j1:(Lib.itoa f.month).length≤14:=l4 oM
   have j2:(Lib.itoa f.aW).length≤14:=l4 oM
   have j3:(Lib.itoa f.over).length≤14:=l4 oM
   have j4:(Lib.itoa f.cls).length≤14:=l4 oM
   refine⟨by simp;omega,fun x hx=>?_⟩
   simp only [cond_true,cond_false,List.mem_append,List.mem_cons,List.not_mem_nil,or_false]at hx
   rcases hx with hx|rfl|rfl|rfl|rfl|rfl|rfl|rfl
   ·exact yZ x hx
   ·omega
   ·omega
   ·omega
   ·omega
   ·rw[vY];omega
   ·omega
   ·rw[vY];omega
  |false=>
   cases k2:f.kind==2 with
   |true=>
    refine⟨by simp;omega,fun x hx=>?_⟩
    simp only [cond_true,cond_false,List.mem_append,List.mem_singleton]at hx
    rcases hx with hx|rfl
    ·exact yZ x hx
    ·omega
   |false=>
    refine⟨by simp[wW];omega,fun x hx=>?_⟩
    simp only [cond_false,wW,List.mem_append,List.mem_cons]at hx
    rcases hx with hx|rfl|hx
    ·exact yZ x (List.mem_of_mem_take hx)
    ·omega
    ·exact yZ x (List.mem_of_mem_drop hx)
theorem aAL(f:Fact):(kO f).length≤1650:=by
 unfold kO
 cases he:j6 f==0 with
 |false=>simp
 |true=>
  have he:j6 f=0:=by simpa using he
  obtain⟨h1,h2⟩:=aGR he
  have:=sK h2
  have h3:=Nat.mul_le_mul_right (14+1) h1
  simp only [cond_true]
  omega
def eF(f:Fact):Fact:=(j0 (rD (kO f) [32],false)).1
end Go.Pj
namespace Go.Ch
open Go Go.Ax Go.Proofs Go.Proofs.Tryz
open Go.Lib (decDigits itoa decFrom digitVal nDigits)
theorem CS{d:Nat}(h:d<10):(o0 d).toNat=48+d:=by
 have:∀k:Fin 10,(o0 k.val).toNat=48+k.val:=by decide+kernel
 exact this ⟨d,h⟩
theorem xW:∀(n u:Nat),u≤n→∀b∈decDigits u,48≤b.toNat∧b.toNat≤57
 |n,u,h,b,hb=>by
  by_cases hu:u<10
  ·rw[BF hu]at hb
   simp only [List.mem_cons,List.not_mem_nil,or_false]at hb
   subst hb
   rw[CS hu];omega
  ·rw[w8 hu]at hb
   simp only [List.mem_append,List.mem_cons,List.not_mem_nil,or_false]at hb
   rcases hb with hb|hb
   ·match n with
    |0=>omega
    |n+1=>exact xW n (u / 10) oM b hb
   ·subst hb
    rw[CS oM];omega
theorem BG:∀(l:List UInt8) (acc n:Nat) (b:UInt8) (d:Nat),decFrom acc l=some n→digitVal b=some d→decFrom acc (l++ [b])=some (n*10+d)
 |[],acc,n,b,d,h,hb=>by
  simp only [decFrom,Option.some.injEq]at h
  subst h
  simp[decFrom,hb]
 |a::t,acc,n,b,d,h,hb=>by
  simp only [decFrom,List.cons_append]at h ⊢
  cases ha:digitVal a with
  |none=>rw[ha]at h;cases h
  |some e=>
   rw[ha]at h
   exact BG t _ n b d h hb
theorem BE{d:Nat}(h:d<10):digitVal (o0 d)=some d:=by
 unfold digitVal
 rw[CS h,if_pos oM]
 congr 1;omega
theorem UE:∀(n u:Nat),u≤n→decFrom 0 (decDigits u)=some u
 |n,u,h=>by
  by_cases hu:u<10
  ·rw[BF hu]
   simp[decFrom,BE hu]
  ·rw[w8 hu]
   match n with
   |0=>omega
   |n+1=>
    rw[BG _ _ _ _ _ (UE n (u / 10) oM) (BE oM)]
    congr 1;omega
theorem GD(n:Int):(n<0∧itoa n=45::decDigits n.natAbs)∨(0≤n∧itoa n=decDigits n.natAbs):=by
 unfold itoa
 by_cases h:n<0
 ·left;exact⟨h,by rw[if_pos h]⟩
 ·right;exact⟨oM,by rw[if_neg h,show n.toNat=n.natAbs by omega]⟩
theorem VX(n:Int):∀b∈itoa n,b.toNat=45∨(48≤b.toNat∧b.toNat≤57):=by
 intro b hb
 rcases GD n with⟨_,e⟩|⟨_,e⟩ <;> rw[e]at hb
 ·rcases List.mem_cons.1 hb with rfl|hb
  ·exact .inl rfl
  ·exact .inr (xW _ _ (Nat.le_refl _) b hb)
 ·exact .inr (xW _ _ (Nat.le_refl _) b hb)
end Go.Ch
namespace Go.Ch
open Go Go.Ax Go.Proofs Go.Proofs.Tryz
open Go.Lib (itoa)

end Go.Ch
namespace Go.Ch
open Go Go.Ax Go.Proofs Go.Proofs.Tryz

end Go.Ch
namespace Go.Pj
open Go Go.Ax Go.Ch Go.Proofs Go.Proofs.Tryz
theorem aBG{n:Int}(h: -1000000000000≤n∧n≤1000000000000):Lib.atoiAll (Lib.itoa n)=.ok n:=by
 rw[Lib.atoiAll_short _ (by have:=l4 h;omega)]
 have hv:=UE _ _ (Nat.le_refl n.natAbs)
 have hn:Lib.decNat (Lib.decDigits n.natAbs)=some n.natAbs:=by
  unfold Lib.decNat
  rw[hv]
  cases hq:Lib.decDigits n.natAbs with
  |nil=>exact absurd hq (aAZ _)
  |cons _ _=>rfl
 have ho:Lib.atoi (Lib.itoa n)=some n:=by
  rcases GD n with⟨h0,e⟩|⟨h0,e⟩ <;> rw[e]
  ·unfold Lib.atoi
   simp only [beq_self_eq_true,if_true,hn,Option.map]
   congr 1;omega
  ·cases hq:Lib.decDigits n.natAbs with
   |nil=>exact absurd hq (aAZ _)
   |cons b r=>
    have hb:=xW _ _ (Nat.le_refl n.natAbs) b (by rw[hq];exact List.mem_cons_self)
    unfold Lib.atoi
    have h1:(b==45)=false:=by
     rw[beq_eq_false_iff_ne];rintro rfl;simp at hb
    have h2:(b==43)=false:=by
     rw[beq_eq_false_iff_ne];rintro rfl;simp at hb
    simp only [h1,h2,Bool.false_eq_true,if_false]
    rw[←hq,hn]
    simp only [Option.map]
    congr 1;omega
 rw[ho];rfl
theorem aEZ{n:Int}(h: -1000000000000≤n∧n≤1000000000000):atN (Lib.itoa n)=n:=by
 unfold atN;rw[aBG h]
theorem aBI{n:Int}(h: -1000000000000≤n∧n≤1000000000000):SR (Lib.itoa n)=false:=by
 unfold SR;rw[aBG h]
def oR(c:UInt8):b9→List b9
 |[]=>[[]]
 |b::l=>bif b==c then []::oR c l else match oR c l with|h::t=>(b::h)::t|[]=>[[b]]
theorem MB(c:UInt8):∀l,oR c l≠[]
 |[]=>by simp[oR]
 |b::l=>by
  rw[oR]
  cases b==c with
  |true=>simp
  |false=>
   cases h:oR c l with
   |nil=>exact absurd h (MB c l)
   |cons _ _=>simp
open Go.Lib in
theorem wF(c:UInt8):∀(s:b9) (k:Nat),count s [c]=k→splitK [c] 0 k s=oR c s
 |[],k,h=>by
  have h0:count ([]:b9) [c]=0:=by rw[count_one];rfl
  rw[h0]at h
  subst h
  rfl
 |b::l,k,h=>by
  rw[oR]
  by_cases hb:b=c
  ·subst hb
   rw[count_cons_eq]at h
   obtain⟨k,rfl⟩:∃j,k=j+1:=⟨k - 1,oM⟩
   have hix:index (b::l) [b]=0:=by rw[index];simp[List.isPrefixOf]
   rw[splitK,hix,beq_self_eq_true]
   simp only [show((0:Int)== -1)=false from rfl,Bool.false_eq_true,if_false,cond_true]
   have:=wF b l k oM
   simp only [Int.toNat_zero,Nat.zero_add,List.take_zero,List.length_cons,List.length_nil,List.drop_succ_cons,List.drop_zero,this]
  ·have hbf:(b==c)=false:=by simpa using hb
   rw[count_cons_ne b c l hb]at h
   have ih:=wF c l k h
   have hp:([c]:List UInt8).isPrefixOf (b::l)=false:=by simp[List.isPrefixOf,Ne.symm hb]
   have hix:index (b::l) [c]=if index l [c]== -1 then -1 else index l [c]+1:=by rw[index,hp];simp
   rw[hbf,cond_false,←ih]
   cases k with
   |zero=>rfl
   |succ k=>
    rw[splitK,splitK,hix]
    by_cases hm:index l [c]= -1
    ·rw[hm];rfl
    ·have EK:=index_ge l [c]
     have h1:(index l [c]== -1)=false:=by simpa using hm
     have h2:((index l [c]+1)== -1)=false:=by
      simp only [beq_eq_false_iff_ne];omega
     rw[h1]
     simp only [Bool.false_eq_true,if_false,h2]
     have e:(index l [c]+1).toNat=(index l [c]).toNat+1:=oM
     rw[e]
     simp only [Nat.add_zero,List.take_succ_cons,List.length_cons,List.length_nil,Nat.zero_add,List.drop_succ_cons]
open Go.Lib in
theorem C7(s:b9)(c:UInt8):rD s [c]=oR c s:=by
 unfold rD
 rw[splitB_data]
 have e:countB (bs s) (bs [c])=count s [c]:=by simp[countB,bs]
 rw[e]
 have e2:(bs [c]).data.toList=[c]:=by simp[bs]
 have e3:(bs s).data.toList=s:=by simp[bs]
 rw[e2,e3]
 exact wF c s _ rfl
theorem PK(c:UInt8):∀l,(oR c l).length≤l.length+1
 |[]=>Nat.le_refl _
 |b::l=>by
  have:=PK c l
  rw[oR]
  cases b==c with
  |true=>simp only [cond_true,List.length_cons];omega
  |false=>
   cases h:oR c l with
   |nil=>exact absurd h (MB c l)
   |cons x r=>rw[h]at this;simp only [cond_false,List.length_cons]at this ⊢;omega
theorem KG(c:UInt8):∀l,∀w∈oR c l,w.length≤l.length
 |[],w,hw=>by simp[oR]at hw;subst hw;exact Nat.le_refl _
 |b::l,w,hw=>by
  have ih:=KG c l
  rw[oR]at hw
  cases hb:b==c with
  |true=>
   rw[hb]at hw
   rcases List.mem_cons.1 hw with rfl|hw
   ·exact Nat.zero_le _
   ·exact Nat.le_trans (ih w hw) sM
  |false=>
   rw[hb]at hw
   cases h:oR c l with
   |nil=>exact absurd h (MB c l)
   |cons x r=>
    rw[h]at hw ih
    rcases List.mem_cons.1 hw with rfl|hw
    ·have:=ih x (List.mem_cons_self ..);simp only [List.length_cons];omega
    ·exact Nat.le_trans (ih w (List.mem_cons_of_mem _ hw)) sM
theorem U8{s:b9}(h:s.length<4294967281)(b:Bool):rG (rD s [32],b):=by
 rw[C7]
 exact⟨Nat.le_trans (PK 32 s) oM,fun w hw=>Nat.le_trans (KG 32 s w hw) oM⟩
theorem KF{c:UInt8}:∀{w:b9},(∀b∈w,b≠c)→oR c w=[w]
 |[],_=>rfl
 |b::w,h=>by
  have hb:(b==c)=false:=by simpa using h b (List.mem_cons_self ..)
  rw[oR,hb,cond_false,KF (fun x hx=>h x (List.mem_cons_of_mem _ hx))]
theorem PL{c:UInt8}:∀{w:b9} (l:b9),(∀b∈w,b≠c)→oR c (w++ [c]++l)=w::oR c l
 |[],l,_=>by
  show oR c (c::l)=_
  rw[oR,beq_self_eq_true];rfl
 |b::w,l,h=>by
  have hb:(b==c)=false:=by simpa using h b (List.mem_cons_self ..)
  show oR c (b::(w++ [c]++l))=_
  rw[oR,hb,cond_false,PL l (fun x hx=>h x (List.mem_cons_of_mem _ hx))]
theorem HC:∀{ws:List b9},ws≠[]→(∀w∈ws,∀b∈w,b≠32)→oR 32 (nC ws)=ws
 |[],h,_=>absurd rfl h
 |[w],_,h=>by rw[sJ];exact KF (h w (List.mem_singleton.2 rfl))
 |w::v::ws,_,h=>by
  rw[jJ,PL _ (h w (List.mem_cons_self ..)),HC (ws:=v::ws) sM (fun x hx=>h x (List.mem_cons_of_mem _ hx))]
theorem aDQ(f:Fact)(hf:f.fits):aF prog 215 [p8 f] (.t [.g (IM (eF f)),.s (.d (dT (kO f)))]):=by
 have hl:=aAL f
 have fG:=U8 (s:=kO f) oM false
 have hR:=aKH fG
 generalize hc:j0 (rD (kO f) [32],false)=r at hR
 have hcf:eF f=r.1:=by unfold eF;rw[hc]
 rw[hcf]
 refine fU (rc:=[52]) (N:=19) func215 rfl rfl call215 aJ mix rfl rfl (fun cx aA=>?_)
 refine aB (zO f hf) ?_
 refine aB (Split (kO f) [32] oM dC) ?_
 refine⟨[(1,15)],_,_,_,_,hR,rfl,⟨rfl,oO⟩,rfl,?_⟩
 exact aC.refl _
theorem EA(s:ByteArray):∀(n i:Nat),fI s n i=false→∀k,i≤k→k<i+n→vM k (u8 s k)=false
 |0,i,_,k,h1,h2=>by omega
 |n+1,i,h,k,h1,h2=>by
  rw[fI,Bool.or_eq_false_iff]at h
  rcases Nat.eq_or_lt_of_le h1 with e|h1
  ·subst e;exact h.1
  ·exact EA s n (i+1) h.2 k h1 oM
theorem aDX(i:Int):vM i 32=true:=by
 unfold vM letter
 cases i==0 <;> decide
theorem wU{s:ByteArray}(h:isName s=true):∀b∈tx s,b≠32:=by
 intro b hb
 rintro rfl
 unfold isName at h
 rw[Bool.and_eq_true]at h
 obtain⟨k,hk,e⟩:=List.mem_iff_getElem.1 hb
 have yZ:k<s.size:=by rw[vY]at hk;exact hk
 have h2:=EA s s.size 0 (by simpa using h.2) k (Nat.zero_le _) oM
 have e2:u8 s k=32:=by
  unfold u8
  rw[getElem!_pos s k yZ]
  have:s[k]=32:=by
   rw[←e];simp[tx];rfl
  rw[this];rfl
 rw[e2,aDX]at h2
 cases h2
theorem gO(n:Int):∀b∈Lib.itoa n,b≠32:=by
 intro b hb
 rintro rfl
 have:=VX n _ hb
 simp at this
theorem aBH:SR [45]=true:=dC
theorem DG{n:Int}(h: -1000000000000≤n∧n≤1000000000000):(Lib.itoa n== [45])=false:=by
 have:=aBI h
 cases hq:Lib.itoa n== [45]with
 |false=>rfl
 |true=>
  have e:Lib.itoa n=[45]:=by simpa using hq
  rw[e,aBH]at this
  cases this
theorem gB{n:Int}(h: -1000000000000≤n∧n≤1000000000000)(r:List b9)(b:Bool):rdNum (Lib.itoa n::r,b)=(n,(r,b)):=by
 have h1:=aEZ h
 have h2:=aBI h
 simp[rdNum,h1,h2]
theorem mD(w:b9)(r:List b9)(b:Bool):dF (w::r,b)=(w,(r,b)):=by simp[dF]
theorem KL{n:Int}(h:iR n=false):n=30000∨(n≠30000∧ -20000≤n∧n≤20000):=by
 by_cases e:n=30000
 ·exact .inl e
 ·right
  unfold iR at h
  rw[show(n !=30000)=true by simpa using e]at h
  have:within n (-20000) 20000=true:=by simpa using h
  exact⟨e,within_iff.1 this⟩
theorem aCU{n:Int}(h:iR n=false):EG (JJ n)=n:=by
 rcases KL h with rfl|⟨h0,h1⟩
 ·rfl
 ·have e:JJ n=Lib.itoa n:=by unfold JJ;rw[show(n==30000)=false by simpa using h0];rfl
  unfold EG
  rw[e,DG oM,cond_false]
  exact aEZ oM
theorem aCV{n:Int}(h:iR n=false):JK (JJ n)=false:=by
 rcases KL h with rfl|⟨h0,h1⟩
 ·rfl
 ·have e:JJ n=Lib.itoa n:=by unfold JJ;rw[show(n==30000)=false by simpa using h0];rfl
  unfold JK
  rw[e,DG oM,cond_false]
  exact aBI oM
theorem N4:∀{l:List Int},l.any iR=false→(l.map JJ).map EG=l∧(l.map JJ).any JK=false
 |[],_=>⟨rfl,rfl⟩
 |n::l,h=>by
  rw[List.any_cons,Bool.or_eq_false_iff]at h
  obtain⟨h1,h2⟩:=N4 h.2
  simp only [List.map_cons,List.any_cons,aCU h.1,aCV h.1,h1,h2,Bool.or_self,and_self]
theorem OC:wR qS=0:=by decide+kernel
theorem VW:wR C3=1:=by decide+kernel
theorem Q8:wR vW=2:=by decide+kernel
theorem IE:wR jY=3:=by decide+kernel
def nB(f:Fact):Int:=bif f.kind==3 then f.target else f.kind
def uE(f:Fact):Fact:=
 {kind:=f.kind,seq:=f.seq
  target:=bif f.kind==3 then f.target else 0
  bM:=bif nB f==0 then f.bM else 0
  month:=bif f.kind==1 then f.month else bif nB f==1 then 0 else f.month
  number:=bif nB f==1 then f.number else 0
  eO:=bif nB f==0||nB f==1 then bs []else f.eO
  aW:=bif f.kind==1 then f.aW else 0
  over:=bif f.kind==1 then f.over else 0
  cls:=bif f.kind==1 then f.cls else 0
  aO:=bif f.kind==1 then f.aO else bs []
  dO:=bif f.kind==1 then f.dO else bs []
  levels:=bif f.kind==0 then f.levels else []}
theorem R2{f:Fact}(he:j6 f=0):kN f≠[]∧∀w∈kN f,∀b∈w,b≠32:=by
 obtain⟨h1,h2⟩:=sP he
 have hl:=AQ f
 have keyed:∀k,cM k f=0→∀w∈cS k f,∀b∈w,b≠32:=by
  intro k hk w hw
  rcases kK hk with⟨rfl,_⟩|⟨rfl,_⟩|⟨rfl,_,hn⟩
  ·simp only [cS,List.mem_cons,List.not_mem_nil,or_false,show((0:Int)==0)=true from rfl,cond_true]at hw
   rcases hw with rfl|rfl|rfl
   ·decide
   ·exact gO _
   ·exact gO _
  ·simp only [cS,List.mem_cons,List.not_mem_nil,or_false,show((1:Int)==0)=false from rfl,show((1:Int)==1)=true from rfl,cond_true,cond_false]at hw
   rcases hw with rfl|rfl
   ·decide
   ·exact gO _
  ·simp only [cS,List.mem_cons,List.not_mem_nil,or_false,show((2:Int)==0)=false from rfl,show((2:Int)==1)=false from rfl,cond_false]at hw
   rcases hw with rfl|rfl|rfl
   ·decide
   ·exact wU hn
   ·exact gO _
 have kw:∀w∈nV f,∀b∈w,b≠32:=by
  intro w hw
  unfold oL at h1
  unfold nV at hw
  cases h3:f.kind !=3 with
  |true=>rw[h3]at h1 hw;exact keyed _ h1 w hw
  |false=>
   rw[h3]at h1 hw
   rcases List.mem_cons.1 hw with rfl|hw
   ·decide
   ·exact keyed _ h1 w hw
 have ne:nV f≠[]:=List.length_pos_iff.1 hl.1
 unfold kN
 cases k0:f.kind==0 with
 |true=>
  obtain⟨a,b⟩:=sB h2 k0
  refine⟨sM,fun w hw=>?_⟩
  simp only [cond_true,List.mem_append,List.mem_singleton,List.mem_map]at hw
  rcases hw with(hw|rfl)|⟨n,hn,rfl⟩
  ·exact kw w hw
  ·exact gO _
  ·unfold JJ
   cases n==30000 with
   |true=>exact(by decide:∀b∈([45]:b9),b≠32)
   |false=>exact gO _
 |false=>
  cases k1:f.kind==1 with
  |true=>
   obtain⟨_,e,g⟩:=nG h2 k1
   refine⟨sM,fun w hw=>?_⟩
   simp only [cond_true,cond_false,List.mem_append,List.mem_cons,List.not_mem_nil,or_false]at hw
   rcases hw with hw|rfl|rfl|rfl|rfl|rfl|rfl|rfl
   ·exact kw w hw
   ·exact gO _
   ·exact gO _
   ·exact gO _
   ·exact gO _
   ·exact wU e
   ·exact gO _
   ·exact wU g
  |false=>
   cases k2:f.kind==2 with
   |true=>
    refine⟨sM,fun w hw=>?_⟩
    simp only [cond_true,cond_false,List.mem_append,List.mem_singleton]at hw
    rcases hw with hw|rfl
    ·exact kw w hw
    ·exact gO _
   |false=>
    refine⟨by simp[wW],fun w hw=>?_⟩
    simp only [cond_false,wW,List.mem_append,List.mem_cons]at hw
    rcases hw with hw|rfl|hw
    ·exact kw w (List.mem_of_mem_take hw)
    ·exact gO _
    ·exact kw w (List.mem_of_mem_drop hw)
theorem tO{k:Int}{f:Fact}(he:cM k f=0)(g:Fact)(r:List b9)(b:Bool):
  iL k g ((cS k f).tail++r,b)=({g with bM:=bif k==0 then f.bM else g.bM,month:=bif k==1 then g.month else f.month,number:=bif k==1 then f.number else g.number,eO:=bif k==0||k==1 then g.eO else f.eO},(r,b)):=by
 rcases kK he with⟨rfl,h1,h2⟩|⟨rfl,h1⟩|⟨rfl,h1,h2⟩
 ·have h1:=within_iff.1 h1
  have h2:=within_iff.1 h2
  simp only [cS,iL,show((0:Int)==0)=true from rfl,show((0:Int)==1)=false from rfl,cond_true,cond_false,Bool.true_or,List.tail_cons,List.cons_append,List.nil_append,gB (show -1000000000000≤f.bM∧f.bM≤1000000000000 by omega),gB (show -1000000000000≤f.month∧f.month≤1000000000000 by omega)]
 ·have h1:=within_iff.1 h1
  simp only [cS,iL,show((1:Int)==0)=false from rfl,show((1:Int)==1)=true from rfl,cond_true,cond_false,Bool.or_true,List.tail_cons,List.cons_append,List.nil_append,gB (show -1000000000000≤f.number∧f.number≤1000000000000 by omega)]
 ·have h1:=within_iff.1 h1
  simp only [cS,iL,show((2:Int)==0)=false from rfl,show((2:Int)==1)=false from rfl,show((2:Int)==2)=true from rfl,cond_true,cond_false,Bool.or_self,List.tail_cons,List.cons_append,List.nil_append,mD,D9,gB (show -1000000000000≤f.month∧f.month≤1000000000000 by omega)]
theorem DF{k:Int}{f:Fact}(he:cM k f=0):∃w,cS k f=w::(cS k f).tail∧wR w=k:=by
 rcases kK he with⟨rfl,_⟩|⟨rfl,_⟩|⟨rfl,_⟩
 ·exact⟨qS,rfl,OC⟩
 ·exact⟨C3,rfl,VW⟩
 ·exact⟨vW,rfl,Q8⟩
theorem VI{f:Fact}(he:j6 f=0):j0 (kN f,false)=(uE f,([],false)):=by
 obtain⟨h1,h2⟩:=sP he
 have hs:=within_iff.1 (pE h2)
 have QG: -1000000000000≤f.seq∧f.seq≤1000000000000:=oM
 cases h3:f.kind !=3 with
 |false=>
  have k3:f.kind=3:=by simpa using h3
  have e1:cM f.target f=0:=by unfold oL at h1;rw[h3]at h1;exact h1
  have e2:nV f=jY::cS f.target f:=by unfold nV;rw[h3];rfl
  obtain⟨w,hw,hk⟩:=DF e1
  have e3:kN f=jY::Lib.itoa f.seq::w::((cS f.target f).tail++ []):=by
   unfold kN wW
   rw[k3,e2,List.append_nil,←hw];rfl
  rw[e3]
  unfold j0
  simp only [mD,IE,show((3:Int)==0)=false from rfl,show((3:Int)==1)=false from rfl,show((3:Int)==3)=true from rfl,cond_true,cond_false,gB QG,hk,tO e1]
  unfold uE nB lB
  rw[k3]
  simp only [show((3:Int)==0)=false from rfl,show((3:Int)==1)=false from rfl,show((3:Int)==3)=true from rfl,cond_true,cond_false]
 |true=>
  have e1:cM f.kind f=0:=by unfold oL at h1;rw[h3]at h1;exact h1
  have e2:nV f=cS f.kind f:=by unfold nV;rw[h3];rfl
  obtain⟨w,hw,hk⟩:=DF e1
  rcases kK e1 with⟨k0,_⟩|⟨k1,_⟩|⟨k2,_⟩
  ·obtain⟨a,b⟩:=sB h2 (by rw[k0];rfl)
   obtain⟨l1,l2⟩:=N4 a
   have e3:kN f=w::((cS f.kind f).tail++(Lib.itoa f.seq::f.levels.map JJ)):=by
    unfold kN
    rw[e2,←List.cons_append,←hw,k0];simp
   rw[e3]
   unfold j0
   simp only [mD,hk]
   rw[tO e1]
   simp only [k0,show((0:Int)==0)=true from rfl,cond_true,gB QG,l1,l2]
   unfold uE nB lB
   rw[k0]
   simp[show((0:Int)==1)=false from rfl,show((0:Int)==3)=false from rfl]
  ·obtain⟨⟨a,b,c,d⟩,e,g⟩:=nG h2 (by rw[k1];rfl)
   have a:=within_iff.1 a
   have b:=within_iff.1 b
   have c:=within_iff.1 c
   have d:=within_iff.1 d
   have e3:kN f=w::((cS f.kind f).tail++ [Lib.itoa f.month,Lib.itoa f.seq,Lib.itoa f.aW,Lib.itoa f.over,tx f.aO,Lib.itoa f.cls,tx f.dO]):=by
    unfold kN
    rw[e2,←List.cons_append,←hw,k1];rfl
   rw[e3]
   unfold j0
   simp only [mD,hk]
   rw[tO e1]
   simp only [k1,QX,show((1:Int)==0)=false from rfl,show((1:Int)==1)=true from rfl,cond_true,cond_false,gB QG,mD,D9,gB (show -1000000000000≤f.month∧f.month≤1000000000000 by omega),gB (show -1000000000000≤f.aW∧f.aW≤1000000000000 by omega),gB (show -1000000000000≤f.over∧f.over≤1000000000000 by omega),gB (show -1000000000000≤f.cls∧f.cls≤1000000000000 by omega)]
   unfold uE nB lB
   rw[k1]
   simp[show((1:Int)==0)=false from rfl,show((1:Int)==3)=false from rfl]
  ·have e3:kN f=w::((cS f.kind f).tail++ [Lib.itoa f.seq]):=by
    unfold kN
    rw[e2,←List.cons_append,←hw,k2];rfl
   rw[e3]
   unfold j0
   simp only [mD,hk]
   rw[tO e1]
   simp only [k2,show((2:Int)==0)=false from rfl,show((2:Int)==1)=false from rfl,show((2:Int)==3)=false from rfl,cond_false,gB QG]
   unfold uE nB lB
   rw[k2]
   simp[show((2:Int)==0)=false from rfl,show((2:Int)==1)=false from rfl,show((2:Int)==3)=false from rfl]
theorem W6{f:Fact}(he:j6 f=0):eF f=uE f:=by
 unfold eF
 obtain⟨h1,h2⟩:=R2 he
 have e:kO f=nC (kN f):=by unfold kO;rw[he];rfl
 rw[C7,e,HC h1 h2,VI he]
end Go.Pj
namespace Go.Pj
open Go Go.Ax Go.Ch Go.Proofs Go.Proofs.Tryz Go.Sort Go.Shelf
theorem X9(v0 v1 v2 v3 v4 v5 v6 v7 v8 v9 v10 v11 v12 u0 u1 u2 u3 u4 u5 u6 u7 u8 u9 u10 u11 u12:Value)(s t:ByteArray)(w:World):
  Calls prog 219 #[.agg #[v0,v1,v2,v3,v4,v5,v6,v7,v8,v9,v10,v11,v12,.string s],.agg #[u0,u1,u2,u3,u4,u5,u6,u7,u8,u9,u10,u11,u12,.string t]] w fun e w'=>
   e=.returned (.int .i64 (Lib.compareBytes s.data.toList t.data.toList))∧∃q os',w'=grow (w.drewN q) os':=by
 have hc:=fun w'=>Tryz.strings_Compare s t w'
 go_enter func219,Tryz.ntmps219
 go_wp2_with (first|(go_at_fn 220;refine(hc _).mono ?_;rintro e w' ⟨rfl,rfl⟩))
 refine(hc _).mono ?_
 rintro e w' ⟨rfl,rfl⟩
 go_wp2
 go_ret
 exact⟨rfl,0, #[.cells #[v0,v1,v2,v3,v4,v5,v6,v7,v8,v9,v10,v11,v12,.string s] 254 (0,0),.cells #[u0,u1,u2,u3,u4,u5,u6,u7,u8,u9,u10,u11,u12,.string t] 254 (0,0)],rfl⟩
theorem UJ:∀a b:b9,Lib.compareBytes a b<0↔a<b
 |[],[]=>by simp[Lib.compareBytes]
 |[],b::rb=>by simp[Lib.compareBytes]
 |a::ra,[]=>by simp[Lib.compareBytes]
 |a::ra,b::rb=>by
  rw[Lib.compareBytes,List.cons_lt_cons_iff]
  by_cases h1:a<b
  ·simp[h1]
  ·by_cases h2:b<a
   ·have:a≠b:=fun e=>by subst e;exact h1 h2
    simp[h1,h2,this]
   ·have e:a=b:=UInt8.le_antisymm (UInt8.not_lt.1 h2) (UInt8.not_lt.1 h1)
    subst e
    simp[h1,UJ ra rb]
theorem ltB(a b:b9):ltOf Lib.compareBytes a b=decide (a<b):=by
 unfold ltOf
 exact decide_eq_decide.2 (UJ a b)
theorem aLM:SWO (ltOf Lib.compareBytes) where
 irrefl:=fun x=>by rw[ltB];simp
 trans:=fun x y z h1 h2=>by
  rw[ltB,decide_eq_true_eq]at*
  exact List.lt_trans h1 h2
 ntrans:=fun x y z h1 h2=>by
  rw[ltB,decide_eq_false_iff_not]at*
  rw[List.not_lt]at*
  exact List.le_trans h2 h1
def uN(t:b9):Fact:=(j0 (rD t [32],false)).1
def lN(t:b9)(j:Nat):DV:=if j=13 then dT t else R4 (uN t) j
def dN(l:List b9)(i:Nat)(j:Nat):DV:=lN (l.getD i []) j
theorem aAM(f:Fact):∀j,j<13→(R4 f j).one=true
 |0,_|1,_|2,_|3,_|4,_|5,_|6,_|7,_|8,_|9,_|10,_|11,_|12,_=>rfl
theorem UZ(t:b9)(j:Nat)(h:j<14):(lN t j).one=true:=by
 unfold lN
 split
 ·rfl
 ·exact aAM _ _ oM
instance:Inhabited (GV lN 14):=⟨⟨([],[.int .i64 (uN []).kind,.int .i64 (uN []).seq,.int .i64 (uN []).bM,.int .i64 (uN []).month,.int .i64 (uN []).number,.int .i64 (uN []).aW,.int .i64 (uN []).over,.int .i64 (uN []).cls,.int .i64 (uN []).target,.string (uN []).aO,.string (uN []).dO,.string (uN []).eO,.slice none 0 0,.string (bs [])]),by
 refine⟨rfl,fun v hv=>?_,fun j u hj hu=>?_⟩
 ·simp only [List.mem_cons,List.not_mem_nil,or_false]at hv
  rcases hv with rfl|rfl|rfl|rfl|rfl|rfl|rfl|rfl|rfl|rfl|rfl|rfl|rfl|rfl <;> rfl
 ·match j,hj,hu with
  |0,_,hu|1,_,hu|2,_,hu|3,_,hu|4,_,hu|5,_,hu|6,_,hu|7,_,hu|8,_,hu|9,_,hu|10,_,hu|11,_,hu|13,_,hu=>cases hu;rfl
  |12,_,hu=>cases hu⟩⟩
theorem UY(blk off n:Nat)(w:World):CmpLays prog 219 #[] (fun p:GV lN 14=>p.1.2) 14 (fun p q=>Lib.compareBytes p.1.1 q.1.1) blk off n w:=by
 intro m os dk _ x y
 generalize sortWorldK _ 14 w blk off m dk os=W
 obtain⟨⟨s,vs⟩,hx⟩:=x
 obtain⟨⟨t,us⟩,hy⟩:=y
 have e1:=hx.len
 have e2:=hy.len
 have s13:=hx.val 13 (.string (bs s)) oM rfl
 have t13:=hy.val 13 (.string (bs t)) oM rfl
 match vs,e1,us,e2,s13,t13 with
 |[v0,v1,v2,v3,v4,v5,v6,v7,v8,v9,v10,v11,v12,v13],_,[u0,u1,u2,u3,u4,u5,u6,u7,u8,u9,u10,u11,u12,u13],_,s13,t13=>
  obtain rfl:v13=.string (bs s):=Option.some.inj s13
  obtain rfl:u13=.string (bs t):=Option.some.inj t13
  have h:=X9 v0 v1 v2 v3 v4 v5 v6 v7 v8 v9 v10 v11 v12 u0 u1 u2 u3 u4 u5 u6 u7 u8 u9 u10 u11 u12 (bs s) (bs t) W
  rw[BL,BL]at h
  exact h
def mI(l:List b9):List b9:=l.mergeSort fun x y=>decide (x≤y)
theorem wD(l:List b9)(l':List b9)(hp:l'.Perm l)(hs:l'.Pairwise (fun x y=>ltOf Lib.compareBytes y x=false)):l'=mI l:=by
 refine List.Perm.eq_of_pairwise (le:=fun x y=>x≤y) ?_ ?_ ?_ (hp.trans (List.mergeSort_perm _ _).symm)
 ·intro a b _ _ h1 h2
  exact List.le_antisymm h1 h2
 ·refine hs.imp fun {x y} h=>?_
  rw[ltB,decide_eq_false_iff_not]at h
  exact List.not_lt.1 h
 ·have:=List.pairwise_mergeSort (le:=fun x y:b9=>decide (x≤y)) (fun a b c h1 h2=>by
   simp only [decide_eq_true_eq]at*;exact List.le_trans h1 h2) (fun a b=>by
   simp only [Bool.or_eq_true,decide_eq_true_eq];exact List.le_total a b) l
  exact this.imp fun {x y} h=>by simpa using h
theorem aBT(l:List b9)(f0:Nat→Nat→DV)(T2:∀i j,i<l.length→j<14→aL (f0 i j) (dN l i j))(hl:l.length≤1000000):
  bT prog 218 [.s (.own 1001),.s (.dR 219 [])] [(1001,.row 254 l.length 14 f0)] (.t []) [(1001,.row 254 l.length 14 (dN (mI l)))]:=
 aHU (α:=b9) (k:=14) Tryz.ZH rfl call218 dC Tryz.isAgg254 Tryz.sizeOf254 lN (fun t j h=>UZ t j h) Lib.compareBytes aLM
  (enters_of func219 kR rfl) UY l (mI l) (wD l) f0 T2 hl
end Go.Pj
namespace Go.Pj
open Go Go.Ax Go.Ch Go.Proofs Go.Proofs.Tryz
abbrev C5(t:b9):List SV:=[.d (dI (uN t).kind),.d (dI (uN t).seq),.d (dI (uN t).bM),.d (dI (uN t).month),.d (dI (uN t).number),.d (dI (uN t).aW),.d (dI (uN t).over),.d (dI (uN t).cls),.d (dI (uN t).target),.d (dS (uN t).aO),.d (dS (uN t).dO),.d (dS (uN t).eO),.d (cE (uN t).levels),.d (dT t)]
def WX(last g:Int)(t:b9):Bool:=decide ((uN t).seq<last)||decide ((uN t).seq<g)
abbrev PY(last:Int)(key:b9)(m:List (ByteArray×Int)):eJ:=[(1002,.cells [.d (dI last)]),(1003,.cells [.mp 1005]),(1004,.cells [.d (dT key)]),(1005,.smap .int m)]
theorem aKR(t:b9)(last:Int)(key:b9)(m:List (ByteArray×Int)):bT prog 217 [.g (C5 t),.s (.ptr 1002 0),.s (.ptr 1003 0),.s (.ptr 1004 0)] (PY last key m) (vB (WX last (iO m (bs key)) t)) (PY last key m):=by
 refine fT (rc:=[]) (N:=20) func217 rfl rfl call217 aJ mix rfl rfl rfl rfl (fun cx aA=>?_)
 repeat refine aR ?_
 exact⟨aC.refl _,rfl,rfl,rfl,rfl,oO⟩
def cJ(p:b9→Bool):List b9→Nat
 |[]=>0
 |t::l=>bif p t then 0 else cJ p l+1
def tS(p:b9→Bool)(l:List b9):Int:=bif l.any p then(cJ p l:Nat)else -1
abbrev YP(l:List b9):Nat×jE:=(1001,.row 254 l.length 14 (dN l))
abbrev aDP:SV:=.dR 217 [.ptr 1002 0,.ptr 1003 0,.ptr 1004 0]
theorem ZU{p:b9→Bool}:∀{l:List b9} {i:Nat},i<l.length→(∀k,k<i→p (l.getD k [])=false)→p (l.getD i [])=true→tS p l=i
 |[],i,h,_,_=>by simp at h
 |t::l,0,_,_,h=>by
  have h:p t=true:=h
  simp[tS,cJ,h]
 |t::l,i+1,hi,hb,h=>by
  have h0:p t=false:=hb 0 oM
  have ih:=ZU (p:=p) (l:=l) (i:=i) (by simpa using hi) (fun k hk=>hb (k+1) oM) h
  unfold tS at ih ⊢
  rw[List.any_cons,h0,Bool.false_or]
  cases ha:l.any p with
  |false=>rw[ha]at ih;simp at ih
  |true=>
   rw[ha]at ih
   simp only [cond_true,cJ,h0,cond_false]at ih ⊢
   omega
theorem ZT{p:b9→Bool}{l:List b9}(h:∀k,k<l.length→p (l.getD k [])=false):tS p l= -1:=by
 unfold tS
 have:l.any p=false:=by
  rw[List.any_eq_false]
  intro x hx
  obtain⟨k,hk,e⟩:=List.mem_iff_getElem.1 hx
  have:=h k hk
  rw[a7 hk,e]at this
  simpa using this
 rw[this];rfl
theorem XK(l:List b9)(last:Int)(key:b9)(m:List (ByteArray×Int))(hl:l.length≤1000000):
  bT prog 267 [.s (.own 1001),.s aDP] (YP l::PY last key m) (vI (tS (WX last (iO m (bs key))) l)) (YP l::PY last key m):=by
 generalize hp:WX last (iO m (bs key))=p
 refine fT (rc:=[217]) (N:=19) func267 rfl rfl call267 aJ mix rfl rfl rfl rfl (fun cx aA=>?_)
 refine AW.cV (fun i:Nat=>⟨[(0,.s (.own 1001)),(1,.s aDP),(7,vI l.length),(8,vI i)],(1001,some (.row 254 l.length 14 (dN l))):: [(1002,some (.cells [.d (dI last)])),(1003,some (.cells [.mp 1005])),(1004,some (.cells [.d (dT key)])),(1005,some (.smap .int m))]⟩)
  (fun i=>i≤l.length∧∀k,k<i→p (l.getD k [])=false) (fun i=>l.length - i) 0 ⟨Nat.zero_le _,fun k hk=>by omega⟩ ?_ ?_
 ·exact aS.of [] (by rw[aA];rfl) rfl ⟨bQ,bQ,bQ,bQ,bQ,oO⟩ ⟨qZ,qZ,qZ,qZ,oO⟩
 ·rintro i ⟨hi,hj⟩
  refine ex.sound (rc:=[217]) aJ mix aA _ ?_
  refine aI (fun h=>?_) (fun h=>?_)
  ·have h:(i:Int)<l.length:=bL h
   refine oi ⟨oM,oM⟩ ?_
   refine oi (show i<l.length by omega) ?_
   have hc:=aKR (l.getD i []) last key m
   rw[hp]at hc
   refine⟨[],_,_,_,_,hc,rfl,⟨rfl,rfl,rfl,rfl,oO⟩,rfl,?_⟩
   refine aI (fun g=>?_) (fun g=>?_)
   ·have g:p (l.getD i [])=true:=g
    refine⟨aC.of_eq ?_,rfl,rfl,rfl,rfl,rfl,oO⟩
    rw[ZU oM hj g]
    rfl
   ·have g:p (l.getD i [])=false:=g
    have ew:aV ((i:Int)+1)=((i+1:Nat):Int):=aG oM oM
    refine⟨i+1,⟨oM,fun k hk=>?_⟩,oM,?_⟩
    ·rcases Nat.lt_or_ge k i with h1|h1
     ·exact hj k h1
     ·obtain rfl:k=i:=oM
      exact g
    ·exact aS.of [] (by rw[aA];rfl) rfl ⟨bQ,bQ,bQ,bQ,bQ,oO⟩ ⟨qZ,qZ,qZ,⟨rfl,aU.int ew⟩,oO⟩
  ·have h:¬(i:Int)<l.length:=bG h
   obtain rfl:i=l.length:=oM
   refine⟨aC.of_eq ?_,rfl,rfl,rfl,rfl,rfl,oO⟩
   rw[ZT hj]
   rfl
end Go.Pj
namespace Go.Ax
open Go.RowKit
section
variable{P:Program}{cx:Cx}{N:Nat}{σ:St}
theorem HZ(z:Value)(n:Nat):(Builtin.zeroCells z.cells n).toList.length=n*z.cells.size:=by
 simp[Builtin.zeroCells]
theorem AW.gK{b k:Nat}(h:k≠b):∀(vs:List Value) (o:Nat) (w:World),(w.setCells b o vs).heap[k]? =w.heap[k]?
 |[],_,_=>rfl
 |v::r,o,w=>by
  rw[World.setCells,AW.gK h r]
  simp[World.setCell,Array.getElem?_modify,Ne.symm h]
theorem AW.size_setCells{b:Nat}:∀(vs:List Value) (o:Nat) (w:World),(w.setCells b o vs).heap.size=w.heap.size
 |[],_,_=>rfl
 |v::r,o,w=>by
  rw[World.setCells,AW.size_setCells r]
  simp[World.setCell]
theorem AW.jI{b:Nat}:∀(vs:List Value) (o:Nat) (w:World),(w.setCells b o vs).os=w.os∧(w.setCells b o vs).tape=w.tape∧(w.setCells b o vs).output=w.output
 |[],_,_=>⟨rfl,rfl,rfl⟩
 |v::r,o,w=>by
  rw[World.setCells]
  obtain⟨h1,h2,h3⟩:=AW.jI (b:=b) r (o+1) (w.setCell ⟨b,o,none⟩ v)
  exact⟨h1,h2,h3⟩
theorem nE.clear{e s t b n lo:Nat}{z:Value}{f:Nat→Nat→DV}{x:Operand}{o:Oper}{K:St→Hid→Prop}(ho:o.op=.call {callee:=.builtin .clear,args:= #[x],argTypes:= #[t]})(hd:o.dst=none)
  (hx:ev σ x=.s (.jH b s lo (n - lo))) (CL:lo≤n) (hb:aH σ.box b=some (some (.row e n s f))) (ht:P.underlying t=some (.slice e)) (hv:∀w,(zeroValue e).run P w=.ok z w) (hz:z.cells.size=s) (h1:∀v∈z.cells.toList,v.oneCell'=true)
  (hK:K ⟨σ.env,(b,some (.row e n s fun i j=>if i<lo then f i j else .bF))::σ.box⟩ Hid.none):nE P cx N o σ Hid.none K:=by
 refine⟨fun c hc=>(by rw[ho]at hc;cases hc),fun M β a w i hi Q=>?_⟩
 obtain⟨b',c,cur,hβ,hc1,HY,hc3,hc4,hc5,hc6⟩:=i.box b _ hb
 obtain⟨b2,c2,ov,hβ',ex,hov,hle,vG⟩:(SV.jH b s lo (n - lo)).bD M β (a.eval x):=by have:=ev.rep i x;rw[hx]at this;exact this
 rw[hβ]at hβ';cases hβ'
 unfold Oper.wp
 by_cases h0:n - lo=0
 ·have a6:(execOp a.eval o).run P w=.ok (.value (.tuple #[])) w:=by
   rw[h0]at ex
   simp[execOp,ho,ex,resolve,invoke,builtin,Builtin.clear_,run_underlying ht]
  rw[a6,Oper.upon_value,hd]
  have hw:=i.write (bc':=.row e n s fun i j=>if i<lo then f i j else .bF) hb hβ (w':=w) rfl (fun _ _=>rfl) rfl rfl rfl
   ⟨b',c,cur,hβ,hc1,HY,hc3,hc4,hc5,fun k j hk hj=>by
    obtain⟨u,hu,hr⟩:=hc6 k j hk hj
    refine⟨u,hu,?_⟩
    show DV.bD M (if k<lo then f k j else .bF) u
    rw[if_pos oM];exact hr⟩
  exact⟨_,M,β,_,hK,hw.1,lU.none,Grow.refl _ _,hw.2⟩
 ·have hov:=hov oM
  let Z:=(Builtin.zeroCells z.cells (n - lo)).toList
  have hZl:Z.length=(n - lo)*s:=by rw[←hz];exact HZ z _
  have hZ1:∀v∈Z,v.oneCell'=true:=by
   intro v TZ
   have:v∈z.cells.toList:=by
    simp only [Z,Builtin.zeroCells]at TZ
    rw[Array.toList_map,List.mem_map]at TZ
    obtain⟨k,hk,rfl⟩:=TZ
    have hk:k<(n - lo)*z.cells.size:=by simpa using hk
    have hs:0<z.cells.size:=by
     rcases Nat.eq_zero_or_pos z.cells.size with h|h
     ·rw[h]at hk;simp at hk
     ·exact h
    have hm:k%z.cells.size<z.cells.size:=Nat.mod_lt _ hs
    rw[getElem!_pos z.cells _ hm]
    simp
   exact h1 v this
  have iF:(n - lo)*s+lo*s≤cur.size:=by
   rw[hc3,←Nat.add_mul]
   exact Nat.mul_le_mul_right s oM
  have iU:=run_storeCells_cells (P:=P) b' ov Z 0 w (fun j hj=>by
   simp only [World.cell?,hc1]
   simp
   rw[hov];omega) (fun j hj=>by simp[World.frozen?,hc1]) hZ1
  simp only [Nat.add_zero]at iU
  have a6:(execOp a.eval o).run P w=.ok (.value (.tuple #[])) (w.setCells b' ov Z):=by
   obtain⟨m,hm⟩:∃m,n - lo=m+1:=⟨n - lo - 1,oM⟩
   have aMM:(storeCells ⟨b',ov,none⟩ (Builtin.zeroCells z.cells (m+1)).toList).run P w=.ok () (w.setCells b' ov Z):=by rw[←hm];exact iU
   rw[hm]at ex
   simp[execOp,ho,ex,resolve,invoke,builtin,Builtin.clear_,run_underlying ht,hv,aMM]
  rw[a6,Oper.upon_value,hd]
  have oN:w.rowIs b' e cur.size (fun k=>(cur[k]?).getD undef):=⟨cur,hc1,rfl,fun k hk=>by
   have:=Array.getElem?_eq_getElem (xs:=cur) (i:=k) hk
   simp[this]⟩
  obtain⟨cu,q1,q2,q3⟩:=Go.rowIs_setCells Z ov _ _ oN
  obtain⟨o1,o2,o3⟩:=AW.jI (b:=b') Z ov w
  have hw:=i.write (bc':=.row e n s fun i j=>if i<lo then f i j else .bF) hb hβ (w':=w.setCells b' ov Z) (AW.size_setCells Z ov w) (fun k hk=>AW.gK hk Z ov w) o1 o2 o3
   ⟨b',c,cu,hβ,q1,HY,by rw[q2,hc3],hc4,hc5,fun k j hk hj=>by
    have fR:k*s+j<cur.size:=by
     rw[hc3]
     have:(k+1)*s≤c.1*s:=Nat.mul_le_mul_right s oM
     rw[Nat.add_mul]at this
     omega
    refine⟨_,q3 _ fR,?_⟩
    show DV.bD M (if k<lo then f k j else .bF) _
    by_cases QI:k<lo
    ·rw[if_pos QI]
     have:k*s+j<lo*s:=by
      have:(k+1)*s≤lo*s:=Nat.mul_le_mul_right s QI
      rw[Nat.add_mul]at this
      omega
     have V9:¬(ov≤k*s+j∧k*s+j<ov+Z.length):=by rw[hov];omega
     simp only [if_neg V9]
     obtain⟨u,hu,hr⟩:=hc6 k j hk hj
     rw[hu];exact hr
    ·rw[if_neg QI];trivial⟩
  exact⟨_,M,β,_,hK,hw.1,lU.none,Grow.refl _ _,hw.2⟩
end
end Go.Ax
--K16
namespace Go.Ax
theorem aS.ES{cx:Cx}{N:Nat}{σ:St}{e n s:Nat}{f:Nat→Nat→DV}(t x:Nat)(ht:eY σ.env t=.s (.own x))(hb:aH σ.box x=some (some (.row e n s f))):
  aS cx N σ ⟨(t,.s (.jH x s 0 n))::σ.env,σ.box⟩:=by
 intro M β a w i
 have r:=i.env t
 rw[ht]at r
 obtain⟨b,c,hx,hv,hc⟩:=r
 obtain⟨b',c',cur,OP,h1,h2,h3,h4,h5,h6⟩:=i.box x _ hb
 rw[hx]at OP;cases OP
 refine⟨β,i.defers,i.tmps,i.heap,?_,i.mem,i.keys,i.box,i.inj,i.apart,i.low,i.ref⟩
 intro u
 show(eY ((t,_)::σ.env) u).bD M β _
 rw[gA]
 by_cases hu:t=u
 ·subst hu
  rw[if_pos rfl]
  exact⟨b,c,0,hx,by rw[hv,h2];rfl,fun _=>(Nat.zero_mul s).symm,oM,hc⟩
 ·rw[if_neg hu];exact i.env u
theorem pG{x:Nat}{y:Option jE}:∀{l:aN},aH l x=some y→x∈cL l
 |[],h=>by cases h
 |(k,v)::r,h=>by
  rw[aK]at h
  by_cases hk:k=x
  ·subst hk;simp[cL]
  ·rw[if_neg hk]at h
   have:=pG h
   simp only [cL]at this ⊢
   simp[this]
end Go.Ax
namespace Go.Pj
open Go Go.Ax Go.Ch Go.Proofs Go.Proofs.Tryz
set_option maxRecDepth 100000
set_option maxHeartbeats 1000000
def oV(k:List b9)(i j:Nat):DV:=if i<k.length then dN k i j else .bF
def dJ(p:b9→Bool)(l:List b9):List b9:=l.filter fun t=> !p t
def lO(p:b9→Bool)(l:List b9)(j:Nat):List b9:=dJ p (l.take j)++l.drop (dJ p (l.take j)).length
theorem vZ{p:b9→Bool}{l:List b9}{j k:Nat}(h:k<(dJ p (l.take j)).length):(lO p l j).getD k []=(dJ p (l.take j)).getD k []:=by
 unfold lO
 simp only [List.getD_eq_getElem?_getD,List.getElem?_append_left h]
theorem zV{p:b9→Bool}{l:List b9}{j k:Nat}(h:(dJ p (l.take j)).length≤k):(lO p l j).getD k []=l.getD k []:=by
 unfold lO
 simp only [List.getD_eq_getElem?_getD,List.getElem?_append_right h,List.getElem?_drop]
 rw[show(dJ p (l.take j)).length+(k - (dJ p (l.take j)).length)=k by omega]
theorem Q9{p:b9→Bool}{l:List b9}{j:Nat}(h:j<l.length):dJ p (l.take (j+1))=dJ p (l.take j)++(bif p (l.getD j [])then []else [l.getD j []]):=by
 unfold dJ
 rw[List.take_add_one,List.getElem?_eq_getElem h,a7 h,List.filter_append]
 congr 1
 cases hp:p l[j] <;> simp[hp]
theorem RA{p:b9→Bool}{l:List b9}(h:l.any p=false):dJ p l=l:=by
 unfold dJ
 rw[List.filter_eq_self]
 intro a ha
 rw[List.any_eq_false]at h
 simpa using h a ha
theorem TW{p:b9→Bool}:∀{l:List b9},l.any p=true→cJ p l<l.length∧dJ p (l.take (cJ p l+1))=l.take (cJ p l)
 |[],h=>by cases h
 |t::l,h=>by
  cases h0:p t with
  |true=>simp[cJ,h0,dJ]
  |false=>
   rw[List.any_cons,h0,Bool.false_or]at h
   obtain⟨h1,h2⟩:=TW h
   simp only [cJ,h0,cond_false,List.length_cons]
   refine⟨oM,?_⟩
   rw[List.take_succ_cons,List.take_succ_cons,←h2]
   simp[dJ,h0]
theorem C8(f:Nat→Nat→DV)(i:Nat)(t:b9):∀c,c<14→fL f i 0 (C5 t) i c=lN t c
 |0,_|1,_|2,_|3,_|4,_|5,_|6,_|7,_|8,_|9,_|10,_|11,_|12,_|13,_=>if_pos rfl
theorem S1(l:List b9)(last:Int)(key:b9)(m:List (ByteArray×Int))(hl:l.length≤1000000)(p:b9→Bool)(hp:WX last (iO m (bs key))=p):
  bT prog 216 [.s (.own 1001),.s aDP] (YP l::PY last key m) (.s (.jH 1001 14 0 (dJ p l).length)) ((1001,.row 254 l.length 14 (oV (dJ p l)))::PY last key m):=by
 have aAD:=XK l last key m hl
 rw[hp]at aAD
 cases ha:l.any p with
 |false=>
  have e1:tS p l= -1:=by unfold tS;rw[ha];rfl
  have e2:=RA ha
  rw[e1]at aAD
  rw[e2]
  refine bT.le (b1:=YP l::PY last key m) ?_ aU.rfl ⟨rfl,aZ.row rfl fun i j hi hj=>aL.of_eq (by unfold oV;rw[if_pos hi]),rfl,aZ.rfl,rfl,aZ.rfl,rfl,aZ.rfl,rfl,aZ.rfl,oO⟩
  refine gL func216 rfl rfl call216 aJ rfl rfl rfl rfl (fun cx aA=>?_)
  refine sX aA ?_
  refine AW.seq (ex.sound (rc:=[267]) aJ mix aA _ ?_)
  refine⟨[],_,_,_,_,aAD,rfl,⟨rfl,rfl,rfl,rfl,rfl,oO⟩,rfl,?_⟩
  refine AW.seq (sX aA ?_)
  refine AW.cond ?_
  refine aI (fun _=>?_) (fun g=>absurd g dC)
  refine sX aA ?_
  refine AW.gG (aS.ES (e:=254) (n:=l.length) (s:=14) (f:=dN l) 4 1001 rfl rfl) ?_
  refine eX aA ?_
  exact⟨aU.rfl,rfl,rfl,rfl,rfl,rfl,oO⟩
 |true=>
  have e1:tS p l=(cJ p l:Nat):=by unfold tS;rw[ha];rfl
  obtain⟨RP,RO⟩:=TW ha
  rw[e1]at aAD
  refine bT.le (b1:=(1001,.row 254 l.length 14 (fun i j=>if i<(dJ p l).length then dN (lO p l l.length) i j else .bF))::PY last key m) ?_ aU.rfl ⟨rfl,aZ.row rfl fun i j hi hj=>aL.of_eq ?_,rfl,aZ.rfl,rfl,aZ.rfl,rfl,aZ.rfl,rfl,aZ.rfl,oO⟩
  rotate_left
  ·show(if i<(dJ p l).length then lN ((lO p l l.length).getD i []) j else .bF)=if i<(dJ p l).length then lN ((dJ p l).getD i []) j else .bF
   split
   ·rename_i h
    rw[vZ (by rw[List.take_length];exact h),List.take_length]
   ·rfl
  refine gL func216 rfl rfl call216 aJ rfl rfl rfl rfl (fun cx aA=>?_)
  refine sX aA ?_
  refine AW.seq (ex.sound (rc:=[267]) aJ mix aA _ ?_)
  refine⟨[],_,_,_,_,aAD,rfl,⟨rfl,rfl,rfl,rfl,rfl,oO⟩,rfl,?_⟩
  refine AW.seq (sX aA ?_)
  refine AW.cond ?_
  refine aI (fun g=>?_) (fun _=>?_)
  ·have g:(((cJ p l:Nat):Int)== -1)=true:=g
   simp at g
  refine eX aA ?_
  refine AW.seq (sX aA ?_)
  refine AW.block ?_
  refine AW.cV (fun j:Nat=>⟨[(0,.s (.own 1001)),(1,.s aDP),(5,vI ((dJ p (l.take j)).length:Nat)),(6,vI j)],(1001,some (.row 254 l.length 14 (dN (lO p l j)))):: [(1002,some (.cells [.d (dI last)])),(1003,some (.cells [.mp 1005])),(1004,some (.cells [.d (dT key)])),(1005,some (.smap .int m))]⟩)
   (fun j=>j≤l.length∧(dJ p (l.take j)).length<j) (fun j=>l.length - j) (cJ p l+1) ⟨oM,by rw[RO,List.length_take];omega⟩ ?_ ?_
  ·refine aS.of [] (by rw[aA];rfl) rfl ⟨⟨rfl,aZ.row rfl fun i j hi hj=>aL.of_eq ?_⟩,bQ,bQ,bQ,bQ,oO⟩ ⟨qZ,qZ,⟨rfl,aU.int ?_⟩,⟨rfl,aU.int ?_⟩,oO⟩
   ·show lN (l.getD i []) j=lN ((lO p l (cJ p l+1)).getD i []) j
    by_cases h1:i<cJ p l
    ·rw[vZ (by rw[RO,List.length_take];omega),RO]
     simp only [List.getD_eq_getElem?_getD,List.getElem?_take_of_lt h1]
    ·rw[zV (by rw[RO,List.length_take];omega)]
   ·rw[RO,List.length_take];congr 1;omega
   ·exact aG oM oM
  ·rintro j ⟨hj,fR⟩
   refine sX aA ?_
   refine aI (fun h=>?_) (fun h=>?_)
   ·have h:(j:Int)<l.length:=bL h
    have pX:j<l.length:=oM
    have fA:=Q9 (p:=p) pX
    have hLj:(lO p l j).getD j []=l.getD j []:=zV oM
    have ew:aV ((j:Int)+1)=((j+1:Nat):Int):=aG oM oM
    have hc:=aKR ((lO p l j).getD j []) last key m
    rw[hp,hLj]at hc
    refine ex.sound (rc:=[217]) aJ mix aA _ ?_
    refine oi ⟨oM,oM⟩ ?_
    refine oi (show j<l.length by omega) ?_
    refine⟨[],_,_,_,_,hc,by rw[←hLj];rfl,⟨rfl,rfl,rfl,rfl,oO⟩,rfl,?_⟩
    refine aI (fun g=>?_) (fun g=>?_)
    ·have g:(!p (l.getD j []))=true:=g
     have g:p (l.getD j [])=false:=by simpa using g
     rw[g]at fA
     have hlen:(dJ p (l.take (j+1))).length=(dJ p (l.take j)).length+1:=by rw[fA];simp
     refine oi (show(0:Int)≤((dJ p (l.take j)).length:Nat)∧(((dJ p (l.take j)).length:Nat):Int)<l.length by omega) ?_
     refine ob (show(((dJ p (l.take j)).length:Nat):Int).toNat<l.length by omega) ?_
     refine⟨j+1,⟨oM,oM⟩,oM,?_⟩
     refine aS.of [] (by rw[aA];rfl) rfl ⟨⟨rfl,aZ.row rfl fun k c hk o8=>aL.of_eq ?_⟩,bQ,bQ,bQ,bQ,oO⟩ ⟨qZ,qZ,⟨rfl,aU.int ?_⟩,⟨rfl,aU.int ew⟩,oO⟩
     ·show fL (dN (lO p l j)) (((dJ p (l.take j)).length:Nat):Int).toNat 0 (C5 ((lO p l j).getD j [])) k c=lN ((lO p l (j+1)).getD k []) c
      rw[hLj,Int.toNat_natCast]
      by_cases QJ:k=(dJ p (l.take j)).length
      ·subst QJ
       rw[C8 _ _ _ _ o8,vZ oM,fA]
       congr 1
       simp
      ·rw[show fL (dN (lO p l j)) (dJ p (l.take j)).length 0 (C5 (l.getD j [])) k c=dN (lO p l j) k c from if_neg QJ]
       show lN ((lO p l j).getD k []) c=_
       congr 1
       by_cases WC:k<(dJ p (l.take j)).length
       ·rw[vZ WC,vZ oM,fA]
        simp only [cond_false,List.getD_eq_getElem?_getD,List.getElem?_append_left WC]
       ·rw[zV oM,zV oM]
     ·rw[hlen]
      exact aG oM oM
    ·have g:(!p (l.getD j []))=false:=g
     have g:p (l.getD j [])=true:=by simpa using g
     rw[g]at fA
     have fA:dJ p (l.take (j+1))=dJ p (l.take j):=by rw[fA];simp
     refine⟨j+1,⟨oM,by rw[fA];omega⟩,oM,?_⟩
     have e9:lO p l (j+1)=lO p l j:=by unfold lO;rw[fA]
     rw[e9,fA]
     exact aS.of [] (by rw[aA];rfl) rfl ⟨bQ,bQ,bQ,bQ,bQ,oO⟩ ⟨qZ,qZ,qZ,⟨rfl,aU.int ew⟩,oO⟩
   ·have h:¬(j:Int)<l.length:=bG h
    obtain rfl:j=l.length:=oM
    rw[List.take_length]at fR ⊢
    have hk9:(dJ p l).length≤l.length:=oM
    refine AW.gG (σ':=⟨[(0,.s (.own 1001)),(5,vI ((dJ p l).length:Nat))],[(1001,some (.row 254 l.length 14 (dN (lO p l l.length)))),(1002,some (.cells [.d (dI last)])),(1003,some (.cells [.mp 1005])),(1004,some (.cells [.d (dT key)])),(1005,some (.smap .int m))]⟩) ?_ ?_
    ·exact aS.of [] (by rw[aA];rfl) rfl ⟨bQ,bQ,bQ,bQ,bQ,oO⟩ ⟨qZ,qZ,oO⟩
    refine AW.seq (AW.CD (bN.region (bH.ops (T:=tab) (rc:=[]) (ks:=[1001,1002,1003,1004,1005]) aJ 3 ?_ (fun x bc h=>pG h) (fun x h=>by rw[aA]at h;exact h) ?_)))
    ·intro x hx
     simp only [List.mem_cons,List.not_mem_nil,or_false]at hx
     rcases hx with rfl|rfl|rfl|rfl|rfl <;> exact⟨_,rfl,rfl⟩
    refine oi (show(0:Int)≤((dJ p l).length:Nat)∧(((dJ p l).length:Nat):Int)≤l.length∧(l.length:Int)≤l.length by omega) ?_
    refine bH.op rfl (nE.clear (e:=254) (s:=14) (b:=1001) (f:=dN (lO p l l.length)) (n:=l.length) (lo:=(dJ p l).length) rfl rfl ?_ hk9 rfl underlying255 zeroValue254 rfl (fun v hv=>List.all_eq_true.1 (show _=true by rfl) v hv) (bH.nil ?_))
    ·show AV.s (.jH 1001 14 (((dJ p l).length:Nat):Int).toNat ((l.length:Int).toNat - (((dJ p l).length:Nat):Int).toNat))=_
     rw[Int.toNat_natCast,Int.toNat_natCast]
    refine eX aA ?_
    refine oi (show(0:Int)≤0∧(0:Int)≤((dJ p l).length:Nat)∧(((dJ p l).length:Nat):Int)≤l.length by omega) ?_
    refine⟨aU.of_eq ?_,rfl,rfl,rfl,rfl,rfl,oO⟩
    show AV.s (.jH 1001 14 (0:Int).toNat ((((dJ p l).length:Nat):Int).toNat - (0:Int).toNat))=_
    rw[Int.toNat_natCast]
    rfl
end Go.Pj
namespace Go.Pj
open Go Go.Ax Go.Ch Go.Proofs Go.Proofs.Tryz
theorem eqC(t u:b9):aF prog 222 [.g (C5 t),.g (C5 u)] (vB (t==u)):=by
 refine eP func222 rfl rfl call222 rfl rfl fun cx aA=>?_
 refine aC.of_eq (congrArg vB ?_)
 show((bs t).toList==(bs u).toList)=(t==u)
 rw[mH,mH]
def qd(l:List b9)(i:Nat):Bool:=i==0|| !(l.getD i []==l.getD (i - 1) [])
def zI(l:List b9)(n:Nat):List b9:=(List.range n).filterMap fun i=>bif qd l i then some (l.getD i [])else none
theorem w9(l:List b9)(n:Nat):zI l (n+1)=zI l n++(bif qd l n then [l.getD n []]else []):=by
 unfold zI
 rw[cW]
 cases qd l n <;> rfl
theorem aDK(l:List b9)(n:Nat):(zI l n).length≤n:=by
 unfold zI
 exact Nat.le_trans (List.length_filterMap_le _ _) sM
theorem EZ{l:List b9}:∀{n:Nat},n≤l.length→(∀k,k<n→qd l k=true)→zI l n=l.take n
 |0,_,_=>rfl
 |n+1,h,hq=>by
  rw[w9,EZ (n:=n) oM (fun k hk=>hq k oM),hq n oM,List.take_add_one,List.getElem?_eq_getElem oM,a7 (show n<l.length by omega)]
  rfl
def jG(l:List b9)(j:Nat):List b9:=zI l j++l.drop (zI l j).length
theorem wA{l:List b9}{j k:Nat}(h:k<(zI l j).length):(jG l j).getD k []=(zI l j).getD k []:=by
 unfold jG
 simp only [List.getD_eq_getElem?_getD,List.getElem?_append_left h]
theorem wB{l:List b9}{j k:Nat}(h:(zI l j).length≤k):(jG l j).getD k []=l.getD k []:=by
 unfold jG
 simp only [List.getD_eq_getElem?_getD,List.getElem?_append_right h,List.getElem?_drop]
 rw[show(zI l j).length+(k - (zI l j).length)=k by omega]
def vR(l:List b9):List b9:=zI l l.length
theorem QA(l:List b9)(hl:l.length≤1000000):
  bT prog 221 [.s (.own 1001),.s (.dR 222 [])] [YP l] (.s (.jH 1001 14 0 (vR l).length)) [(1001,.row 254 l.length 14 (oV (vR l)))]:=by
 refine gL func221 rfl rfl call221 aJ rfl rfl rfl rfl (fun cx aA=>?_)
 refine sX aA ?_
 refine AW.seq (sX aA ?_)
 refine AW.cond ?_
 refine aI (fun g=>?_) (fun g=>?_)
 ·have g:((l.length:Nat):Int)<2:=bL g
  have e:vR l=l:=by
   unfold vR
   rw[EZ (Nat.le_refl _) (fun k hk=>?_),List.take_length]
   obtain rfl:k=0:=oM
   rfl
  refine sX aA ?_
  refine AW.gG (σ':=⟨[(4,.s (.own 1001))],[(1001,some (.row 254 l.length 14 (oV (vR l))))]⟩) (aS.of [] (by rw[aA];rfl) rfl ⟨⟨rfl,aZ.row rfl fun i j hi hj=>aL.of_eq (by unfold oV;rw[e,if_pos hi])⟩,oO⟩ ⟨qZ,oO⟩) ?_
  refine AW.gG (aS.ES (e:=254) (n:=l.length) (s:=14) (f:=oV (vR l)) 4 1001 rfl rfl) ?_
  refine eX aA ?_
  exact⟨aU.of_eq (by rw[e];rfl),rfl,oO⟩
 have g:¬((l.length:Nat):Int)<2:=bG g
 have n2:2≤l.length:=oM
 refine eX aA ?_
 refine AW.seq (sX aA ?_)
 refine AW.block ?_
 refine AW.cV (fun i:Nat=>⟨[(0,.s (.own 1001)),(1,.s (.dR 222 [])),(5,vI i)],[(1001,some (.row 254 l.length 14 (dN l)))]⟩)
  (fun i=>(1≤i∧i≤l.length)∧∀k,k<i→qd l k=true) (fun i=>l.length - i) 1 ⟨⟨Nat.le_refl _,oM⟩,fun k hk=>by
   obtain rfl:k=0:=oM
   rfl⟩ ?_ ?_
 ·exact aS.of [] (by rw[aA];rfl) rfl ⟨bQ,oO⟩ ⟨qZ,qZ,qZ,oO⟩
 ·rintro i ⟨⟨MU,hi⟩,hq⟩
  refine sX aA ?_
  refine aI (fun h=>?_) (fun h=>?_)
  ·have h:(i:Int)<l.length:=bL h
   have bK:i<l.length:=oM
   have ew:aV ((i:Int) - 1)=((i - 1:Nat):Int):=by
    rw[aG oM oM];omega
   have ew2:(aV ((i:Int) - 1)).toNat=i - 1:=by rw[ew];omega
   refine AW.seq (AW.block (sX aA ?_))
   refine oi ⟨oM,oM⟩ ?_
   refine oi (show i<l.length by omega) ?_
   refine oi (show 0≤aV ((i:Int) - 1)∧aV ((i:Int) - 1)<l.length by rw[ew];omega) ?_
   refine oi (show(aV ((i:Int) - 1)).toNat<l.length by rw[ew2];omega) ?_
   refine aB (eqC (l.getD i []) (l.getD (aV ((i:Int) - 1)).toNat [])) ?_
   refine aD ?_
   refine AW.cond ?_
   refine aI (fun g2=>?_) (fun g2=>?_)
   ·have g2:(l.getD i []==l.getD (aV ((i:Int) - 1)).toNat [])=true:=g2
    rw[ew2]at g2
    have hqi:qd l i=false:=by
     unfold qd
     rw[g2,show(i==0)=false by simp;omega];rfl
    have hd0:zI l i=l.take i:=EZ hi hq
    have hd1:zI l (i+1)=l.take i:=by rw[w9,hqi,hd0];simp
    refine sX aA ?_
    refine oi (show(0:Int)≤i∧(i:Int)≤l.length∧(l.length:Int)≤l.length by omega) ?_
    refine AW.seq (sX aA ?_)
    refine AW.block ?_
    refine AW.cV (fun q:Nat=>⟨[(0,.s (.own 1001)),(1,.s (.dR 222 [])),(5,vI ((zI l (i+q)).length:Nat)),(6,.s (.jH 1001 14 i (l.length - i))),(7,vI q)],[(1001,some (.row 254 l.length 14 (dN (jG l (i+q)))))]⟩)
     (fun q=>1≤q∧i+q≤l.length∧(zI l (i+q)).length<i+q) (fun q=>l.length - q) 1 ⟨Nat.le_refl _,oM,by rw[hd1,List.length_take];omega⟩ ?_ ?_
    ·refine aS.of [] (by rw[aA];rfl) rfl ⟨⟨rfl,aZ.row rfl fun k c hk hc=>aL.of_eq ?_⟩,oO⟩ ⟨qZ,qZ,⟨rfl,aU.int ?_⟩,qZ,qZ,oO⟩
     ·show lN (l.getD k []) c=lN ((jG l (i+1)).getD k []) c
      by_cases h1:k<i
      ·rw[wA (by rw[hd1,List.length_take];omega),hd1]
       simp only [List.getD_eq_getElem?_getD,List.getElem?_take_of_lt h1]
      ·rw[wB (by rw[hd1,List.length_take];omega)]
     ·rw[hd1,List.length_take];omega
    ·rintro q ⟨hq1,hq2,hq3⟩
     refine sX aA ?_
     refine aI (fun h3=>?_) (fun h3=>?_)
     ·have h3:(q:Int)<((l.length - i:Nat):Int):=bL h3
      have hj:i+q<l.length:=oM
      have eq1:aV ((q:Int) - 1)=((q - 1:Nat):Int):=by
       rw[aG oM oM];omega
      have eq2:i+(aV ((q:Int) - 1)).toNat=i+q - 1:=by rw[eq1];omega
      have ew3:aV ((q:Int)+1)=((q+1:Nat):Int):=aG oM oM
      have a1:(jG l (i+q)).getD (i+q) []=l.getD (i+q) []:=wB oM
      have a2:(jG l (i+q)).getD (i+q - 1) []=l.getD (i+q - 1) []:=wB oM
      have hs:=w9 l (i+q)
      refine AW.seq (AW.block (sX aA ?_))
      refine oi ⟨oM,oM⟩ ?_
      refine oi (show i+(q:Int).toNat<l.length by omega) ?_
      refine oi (show 0≤aV ((q:Int) - 1)∧aV ((q:Int) - 1)<((l.length - i:Nat):Int) by rw[eq1];omega) ?_
      refine oi (show i+(aV ((q:Int) - 1)).toNat<l.length by omega) ?_
      refine aB (eqC ((jG l (i+q)).getD (i+(q:Int).toNat) []) ((jG l (i+q)).getD (i+(aV ((q:Int) - 1)).toNat) [])) ?_
      refine aD ?_
      refine AW.cond ?_
      refine aI (fun g4=>?_) (fun g4=>?_)
      ·have g4:(!((jG l (i+q)).getD (i+(q:Int).toNat) []==(jG l (i+q)).getD (i+(aV ((q:Int) - 1)).toNat) []))=true:=g4
       rw[Int.toNat_natCast,eq2,a1,a2]at g4
       have hq0:qd l (i+q)=true:=by
        unfold qd
        rw[g4,Bool.or_true]
       rw[hq0]at hs
       have hlen:(zI l (i+q+1)).length=(zI l (i+q)).length+1:=by rw[hs];simp
       refine eX aA ?_
       refine oi ⟨oM,oM⟩ ?_
       refine oi (show i+(q:Int).toNat<l.length by omega) ?_
       refine oi (show(0:Int)≤((zI l (i+q)).length:Nat)∧(((zI l (i+q)).length:Nat):Int)<l.length by omega) ?_
       refine ob (show(((zI l (i+q)).length:Nat):Int).toNat<l.length by omega) ?_
       refine eX aA ?_
       refine⟨q+1,⟨oM,oM,by rw[←Nat.add_assoc];omega⟩,oM,?_⟩
       refine aS.of [] (by rw[aA];rfl) rfl ⟨⟨rfl,aZ.row rfl fun k c hk o8=>aL.of_eq ?_⟩,oO⟩ ⟨qZ,qZ,⟨rfl,aU.int ?_⟩,qZ,⟨rfl,aU.int ew3⟩,oO⟩
       ·show fL (dN (jG l (i+q))) (((zI l (i+q)).length:Nat):Int).toNat 0 (C5 ((jG l (i+q)).getD (i+(q:Int).toNat) [])) k c=lN ((jG l (i+q+1)).getD k []) c
        rw[Int.toNat_natCast,Int.toNat_natCast,a1]
        by_cases QJ:k=(zI l (i+q)).length
        ·subst QJ
         rw[C8 _ _ _ _ o8,wA oM,hs]
         congr 1
         simp
        ·rw[show fL (dN (jG l (i+q))) (zI l (i+q)).length 0 (C5 (l.getD (i+q) [])) k c=dN (jG l (i+q)) k c from if_neg QJ]
         show lN ((jG l (i+q)).getD k []) c=_
         congr 1
         by_cases WC:k<(zI l (i+q)).length
         ·rw[wA WC,wA oM,hs]
          simp only [cond_true,List.getD_eq_getElem?_getD,List.getElem?_append_left WC]
         ·rw[wB oM,wB oM]
       ·show aV _=(((zI l (i+q+1)).length:Nat):Int)
        rw[hlen]
        exact aG oM oM
      ·have g4:(!((jG l (i+q)).getD (i+(q:Int).toNat) []==(jG l (i+q)).getD (i+(aV ((q:Int) - 1)).toNat) []))=false:=g4
       rw[Int.toNat_natCast,eq2,a1,a2]at g4
       have hq0:qd l (i+q)=false:=by
        unfold qd
        rw[g4,show(i+q==0)=false by simp;omega];rfl
       rw[hq0]at hs
       have hs:zI l (i+q+1)=zI l (i+q):=by rw[hs];simp
       have e9:jG l (i+q+1)=jG l (i+q):=by unfold jG;rw[hs]
       refine eX aA ?_
       refine eX aA ?_
       refine⟨q+1,⟨oM,oM,by rw[←Nat.add_assoc,hs];omega⟩,oM,?_⟩
       refine aS.of [] (by rw[aA];rfl) rfl ⟨⟨rfl,aZ.of_eq (by rw[←Nat.add_assoc,e9];rfl)⟩,oO⟩ ⟨qZ,qZ,⟨rfl,aU.of_eq (by rw[←Nat.add_assoc,hs];rfl)⟩,qZ,⟨rfl,aU.int ew3⟩,oO⟩
     ·have h3:¬(q:Int)<((l.length - i:Nat):Int):=bG h3
      have hj:i+q=l.length:=oM
      rw[hj]at hq3 ⊢
      have hk9:(vR l).length≤l.length:=by unfold vR;omega
      refine AW.gG (σ':=⟨[(0,.s (.own 1001)),(5,vI ((vR l).length:Nat))],[(1001,some (.row 254 l.length 14 (dN (jG l l.length))))]⟩) ?_ ?_
      ·exact aS.of [] (by rw[aA];rfl) rfl ⟨bQ,oO⟩ ⟨qZ,qZ,oO⟩
      refine AW.seq (AW.CD (bN.region (bH.ops (T:=tab) (rc:=[]) (ks:=[1001]) aJ 3 ?_ (fun x bc h=>pG h) (fun x h=>by rw[aA]at h;exact h) ?_)))
      ·intro x hx
       simp only [List.mem_cons,List.not_mem_nil,or_false]at hx
       subst hx
       exact⟨_,rfl,rfl⟩
      refine oi (show(0:Int)≤((vR l).length:Nat)∧(((vR l).length:Nat):Int)≤l.length∧(l.length:Int)≤l.length by omega) ?_
      refine bH.op rfl (nE.clear (e:=254) (s:=14) (b:=1001) (f:=dN (jG l l.length)) (n:=l.length) (lo:=(vR l).length) rfl rfl ?_ hk9 rfl underlying255 zeroValue254 rfl (fun v hv=>List.all_eq_true.1 (show _=true by rfl) v hv) (bH.nil ?_))
      ·show AV.s (.jH 1001 14 (((vR l).length:Nat):Int).toNat ((l.length:Int).toNat - (((vR l).length:Nat):Int).toNat))=_
       rw[Int.toNat_natCast,Int.toNat_natCast]
      refine sX aA ?_
      refine oi (show(0:Int)≤0∧(0:Int)≤((vR l).length:Nat)∧(((vR l).length:Nat):Int)≤l.length by omega) ?_
      refine AW.gG (σ':=⟨[(4,.s (.jH 1001 14 0 (vR l).length))],[(1001,some (.row 254 l.length 14 (oV (vR l))))]⟩) ?_ ?_
      ·refine aS.of [] (by rw[aA];rfl) rfl ⟨⟨rfl,aZ.row rfl fun k c hk o8=>aL.of_eq ?_⟩,oO⟩ ⟨⟨rfl,aU.of_eq ?_⟩,oO⟩
       ·show(if k<(vR l).length then lN ((jG l l.length).getD k []) c else .bF)=if k<(vR l).length then lN ((vR l).getD k []) c else .bF
        split
        ·rename_i h
         rw[wA h];rfl
        ·rfl
       ·show AV.s (.jH 1001 14 (0:Int).toNat ((((vR l).length:Nat):Int).toNat - (0:Int).toNat))=_
        rw[Int.toNat_natCast]
        rfl
      refine eX aA ?_
      exact⟨aU.rfl,rfl,oO⟩
   ·have g2:(l.getD i []==l.getD (aV ((i:Int) - 1)).toNat [])=false:=g2
    rw[ew2]at g2
    have hqi:qd l i=true:=by
     unfold qd
     rw[g2];simp
    refine eX aA ?_
    refine eX aA ?_
    have ew3:aV ((i:Int)+1)=((i+1:Nat):Int):=aG oM oM
    refine⟨i+1,⟨⟨oM,oM⟩,fun k hk=>?_⟩,oM,?_⟩
    ·rcases Nat.lt_or_ge k i with h1|h1
     ·exact hq k h1
     ·obtain rfl:k=i:=oM
      exact hqi
    ·exact aS.of [] (by rw[aA];rfl) rfl ⟨bQ,oO⟩ ⟨qZ,qZ,⟨rfl,aU.int ew3⟩,oO⟩
  ·have h:¬(i:Int)<l.length:=bG h
   obtain rfl:i=l.length:=oM
   have e:vR l=l:=by
    unfold vR
    rw[EZ (Nat.le_refl _) hq,List.take_length]
   refine sX aA ?_
   refine AW.gG (σ':=⟨[(4,.s (.own 1001))],[(1001,some (.row 254 l.length 14 (oV (vR l))))]⟩) (aS.of [] (by rw[aA];rfl) rfl ⟨⟨rfl,aZ.row rfl fun i j hi hj=>aL.of_eq (by unfold oV;rw[e,if_pos hi])⟩,oO⟩ ⟨qZ,oO⟩) ?_
   refine AW.gG (aS.ES (e:=254) (n:=l.length) (s:=14) (f:=oV (vR l)) 4 1001 rfl rfl) ?_
   refine eX aA ?_
   exact⟨aU.of_eq (by rw[e];rfl),rfl,oO⟩
abbrev gF:=b9×List b9×Nat
theorem aHQ{a b:b9}(h:bs a=bs b):a=b:=by
 have:=congrArg (fun x:ByteArray=>x.data.toList) h
 simpa [bs]using this
theorem uG(a b:b9):(bs a==bs b)=(a==b):=by
 rw[Bool.eq_iff_iff,beq_iff_eq,beq_iff_eq]
 exact⟨aHQ,fun h=>by rw[h]⟩
structure uY(r:mB)(ts:List b9):Prop where
 lo:r.lo=0
 n:r.n=ts.length
 f:∀i j,i<ts.length→j<14→aL (r.f i j) (dN ts i j)
structure EOK(q:bJ)(e:gF):Prop where
 key:q.key=bs e.1
 born:q.born=e.2.2
 ne:e.2.1≠[]
 row:∃r,q.row=some r∧uY r e.2.1
def dW:List bJ→List gF→Prop
 |[],[]=>True
 |q::r,e::s=>EOK q e∧dW r s
 |_,_=>False
theorem dW.len:∀{l:List bJ} {E:List gF},dW l E→l.length=E.length
 |[],[],_=>rfl
 |_::r,_::s,h=>congrArg (· +1) (dW.len h.2)
 |[],_::_,h=>h.elim
 |_::_,[],h=>h.elim
theorem dW.get:∀{l:List bJ} {E:List gF} {i:Nat} {q:bJ},dW l E→l[i]? =some q→∃e,E[i]? =some e∧EOK q e
 |q::r,e::s,0,q',h,hq=>⟨e,rfl,by
  have:q=q':=by simpa using hq
  exact this▸h.1⟩
 |_::r,_::s,i+1,q',h,hq=>by
  have:=dW.get (i:=i) h.2 (by simpa using hq)
  simpa using this
 |[],[],_,_,_,hq=>by simp at hq
 |[],_::_,_,_,h,_=>h.elim
 |_::_,[],_,_,h,_=>h.elim
theorem dW.append:∀{l m:List bJ} {E F:List gF},dW l E→dW m F→dW (l++m) (E++F)
 |[],_,[],_,_,h=>h
 |_::_,_,_::_,_,h,k=>⟨h.1,dW.append h.2 k⟩
 |[],_,_::_,_,h,_=>h.elim
 |_::_,_,[],_,h,_=>h.elim
theorem dW.modify:∀{l:List bJ} {E:List gF} {i:Nat} {g:bJ→bJ} {g':gF→gF},dW l E→(∀q e,l[i]? =some q→E[i]? =some e→EOK q e→EOK (g q) (g' e))→dW (l.modify i g) (E.modify i g')
 |[],[],_,_,_,_,_=>by simp[dW]
 |q::r,e::s,0,g,g',h,k=>by
  simp only [List.modify_zero_cons]
  exact⟨k q e rfl rfl h.1,h.2⟩
 |q::r,e::s,i+1,g,g',h,k=>by
  simp only [List.modify_succ_cons]
  exact⟨h.1,dW.modify h.2 fun q e hq he=>k q e (by simpa using hq) (by simpa using he)⟩
 |[],_::_,_,_,_,h,_=>h.elim
 |_::_,[],_,_,_,h,_=>h.elim
theorem dW.erase:∀{l:List bJ} {E:List gF} {i:Nat},dW l E→dW (l.eraseIdx i) (E.eraseIdx i)
 |[],[],_,_=>by simp[dW]
 |q::r,e::s,0,h=>h.2
 |q::r,e::s,i+1,h=>⟨h.1,dW.erase h.2⟩
 |[],_::_,_,h=>h.elim
 |_::_,[],_,h=>h.elim
def fE:List gF→b9→Nat→Option (Nat×gF)
 |[],_,_=>none
 |e::r,k,i=>bif k==e.1 then some (i,e)else fE r k (i+1)
theorem sR:∀{l:List bJ} {E:List gF} {k:b9} {i:Nat},dW l E→fE E k i=none→cY l (bs k) i=none
 |[],[],_,_,_,_=>rfl
 |q::r,e::s,k,i,h,hf=>by
  rw[fE]at hf
  rw[cY,h.1.key,uG]
  cases hk:k==e.1 with
  |true=>rw[hk]at hf;cases hf
  |false=>rw[hk]at hf;exact sR h.2 hf
 |[],_::_,_,_,h,_=>h.elim
 |_::_,[],_,_,h,_=>h.elim
theorem pH:∀{l:List bJ} {E:List gF} {k:b9} {i:Nat} {p:Nat×gF},dW l E→fE E k i=some p→∃q,cY l (bs k) i=some (p.1,q)∧EOK q p.2
 |[],[],_,_,_,_,hf=>by cases hf
 |q::r,e::s,k,i,p,h,hf=>by
  rw[fE]at hf
  rw[cY,h.1.key,uG]
  cases hk:k==e.1 with
  |true=>
   rw[hk]at hf
   obtain rfl:(i,e)=p:=Option.some.inj hf
   exact⟨q,rfl,h.1⟩
  |false=>rw[hk]at hf;exact pH h.2 hf
 |[],_::_,_,_,_,h,_=>h.elim
 |_::_,[],_,_,_,h,_=>h.elim
theorem zC:∀{E:List gF} {k:b9} {i:Nat} {p:Nat×gF},fE E k i=some p→i≤p.1∧E[p.1 - i]? =some p.2∧p.2.1=k
 |[],_,_,_,h=>by cases h
 |e::r,k,i,p,h=>by
  rw[fE]at h
  cases hk:k==e.1 with
  |true=>
   rw[hk]at h
   obtain rfl:(i,e)=p:=Option.some.inj h
   exact⟨Nat.le_refl _,sM,(by simpa using hk:k=e.1).symm⟩
  |false=>
   rw[hk]at h
   obtain⟨h1,h2,h3⟩:=zC (i:=i+1) h
   refine⟨oM,?_,h3⟩
   rw[show p.1 - i=(p.1 - (i+1))+1 by omega,List.getElem?_cons_succ]
   exact h2
def oT(E:List gF)(k t:b9):List gF:=match fE E k 0 with
 |some (i,_)=>E.modify i fun e=>(e.1,e.2.1++ [t],e.2.2)
 |none=>E++ [(k,[t],E.length)]
theorem sQ(l:List bJ)(k:ByteArray)(j:Nat):∀i,(cY (cP l j) k i).map (·.1)=(cY l k i).map (·.1):=by
 intro i
 unfold cP
 induction l generalizing i j with
 |nil=>simp[cY]
 |cons q r ih=>
  cases j with
  |zero=>
   simp only [List.modify_zero_cons,cY]
   cases k==q.key <;> rfl
  |succ j=>
   simp only [List.modify_succ_cons,cY]
   cases k==q.key with
   |true=>rfl
   |false=>exact ih j (i+1)
theorem xP{h:HM}{E:List gF}{k:b9}{j:Nat}{q:bJ}{v:Value}{r:mB}{ts:List b9}(ha:dW h.l E)(hf:cY h.l (bs k) 0=some (j,q))(hr:uY r ts)(gI:ts≠[]):
  dW (eG {h with l:=cP h.l j} (bs k) v (some r)).l (E.modify j fun e=>(e.1,ts,e.2.2))∧(eG {h with l:=cP h.l j} (bs k) v (some r)).bm=h.bm∧(eG {h with l:=cP h.l j} (bs k) v (some r)).clock=h.clock∧(eG {h with l:=cP h.l j} (bs k) v (some r)).it=h.it:=by
 have h1:=sQ h.l (bs k) j 0
 rw[hf]at h1
 unfold eG
 simp only
 cases hq:cY (cP h.l j) (bs k) 0 with
 |none=>rw[hq]at h1;cases h1
 |some p=>
  obtain⟨i,q'⟩:=p
  rw[hq]at h1
  obtain rfl:i=j:=by simpa using h1
  refine⟨?_,rfl,rfl,rfl⟩
  show dW ((cP h.l i).modify i _) _
  unfold cP
  rw[List.modify_modify_eq]
  exact ha.modify fun q e _ _ ho=>⟨ho.key,ho.born,gI,r,rfl,hr⟩
theorem KV{h:HM}{E:List gF}{k:b9}{v:Value}{r:mB}{ts:List b9}(ha:dW h.l E)(hc:h.clock=E.length)(hf:cY h.l (bs k) 0=none)(hr:uY r ts)(gI:ts≠[]):
  dW (eG h (bs k) v (some r)).l (E++ [(k,ts,E.length)])∧(eG h (bs k) v (some r)).bm=h.bm∧(eG h (bs k) v (some r)).clock=E.length+1∧(eG h (bs k) v (some r)).it=h.it:=by
 unfold eG
 rw[hf]
 refine⟨?_,rfl,by simp only;omega,rfl⟩
 refine ha.append ⟨⟨rfl,by simp only;exact hc,gI,r,rfl,hr⟩,oO⟩
end Go.Pj
--K19
namespace Go.Ax
def qJ(box:aN)(x:Nat):Bool:=match aH box x with
 |some (some b)=>b.real
 |_=>false
theorem qJ.spec{box:aN}{x:Nat}(h:qJ box x=true):∃bc,aH box x=some (some bc)∧bc.real=true:=by
 unfold qJ at h
 split at h
 ·rename_i b hb;exact⟨b,hb,h⟩
 ·cases h
section
variable{P:Program}{cx:Cx}{N:Nat}{σ:St}{H:Hid}{K:Exit→St→Hid→Prop}
theorem bN.alone{c:Code}(aA:cx.ref=[])(ks:List Nat)(h1:(ks.all fun x=>qJ σ.box x)=true)(h2:((cL σ.box).all fun x=>ks.contains x)=true)
  (h:∀MA:Cx,MA.ref=ks→AW P MA N c σ (fun e σ'=>K e σ' H)):bN P cx N c σ H K:=
 bN.part (ks:=ks) (fun x hx=>qJ.spec (by rw[List.all_eq_true]at h1;exact h1 x hx)) (fun x bc hx=>by
  have:=pG hx
  rw[List.all_eq_true]at h2
  simpa using h2 x this) (fun x hx=>by rw[aA]at hx;cases hx) h
theorem bH.some{T:List (Nat×bP)}{all l:List Oper}{K:St→Hid→Prop}{rc:List Nat}(hT:b7 P T)(n:Nat)(aA:cx.ref=[])(ks:List Nat)(h1:(ks.all fun x=>qJ σ.box x)=true)(h2:((cL σ.box).all fun x=>ks.contains x)=true)
  (h:lF P T N ks rc all (l.take n) σ fun σ'=>bH P cx N all (l.drop n) σ' H K):bH P cx N all l σ H K:=
 bH.ops (ks:=ks) hT n (fun x hx=>qJ.spec (by rw[List.all_eq_true]at h1;exact h1 x hx)) (fun x bc hx=>by
  have:=pG hx
  rw[List.all_eq_true]at h2
  simpa using h2 x this) (fun x hx=>by rw[aA]at hx;cases hx) h
end
end Go.Ax
namespace Go.Pj
open Go Go.Ax Go.Ch Go.Proofs Go.Proofs.Tryz
set_option maxRecDepth 100000
set_option maxHeartbeats 1000000
def wdB:b9:=[119,105,116,104,100,114,97,119,32]
def OI(f:Fact):Bool:=Lib.hasPrefix (lI f) wdB
def stepG(G:List (ByteArray×Int))(f:Fact):List (ByteArray×Int):=
 bif OI f then iY G (bs (Lib.trimPrefix (lI f) wdB)) (mm true (iO G (bs (Lib.trimPrefix (lI f) wdB))) (aV (f.seq+1)))else G
def C6(E:List gF)(f:Fact):List gF:=bif OI f then E else oT E (lI f) (kO f)
def o9(l:List Fact)(i:Nat):List (ByteArray×Int):=(l.take i).foldl stepG []
def gJ(l:List Fact)(i:Nat):List gF:=(l.take i).foldl C6 []
theorem WE{l:List Fact}{i:Nat}(h:i<l.length):o9 l (i+1)=stepG (o9 l i) (l.getD i default):=by
 unfold o9
 rw[List.take_add_one,List.getElem?_eq_getElem h,a7 h,List.foldl_append];rfl
theorem sV{l:List Fact}{i:Nat}(h:i<l.length):gJ l (i+1)=C6 (gJ l i) (l.getD i default):=by
 unfold gJ
 rw[List.take_add_one,List.getElem?_eq_getElem h,a7 h,List.foldl_append];rfl
theorem toldRow(f:Fact):∀c,c<14→aL (VC 14 [.d (dI (eF f).kind),.d (dI (eF f).seq),.d (dI (eF f).bM),.d (dI (eF f).month),.d (dI (eF f).number),.d (dI (eF f).aW),.d (dI (eF f).over),.d (dI (eF f).cls),.d (dI (eF f).target),.d (dS (eF f).aO),.d (dS (eF f).dO),.d (dS (eF f).eO),.d (cE (eF f).levels),.d (dT (kO f))] 0 c) (lN (kO f) c)
 |0,_|1,_|2,_|3,_|4,_|5,_|6,_|7,_|8,_|9,_|10,_|11,_|12,_|13,_=>aL.refl _
theorem UL{n a c:Nat}{F G:Nat→Nat→DV}(h:a<n):k7 n F G a c=F a c:=if_pos h
theorem UM{n c:Nat}{F G:Nat→Nat→DV}:k7 n F G n c=G 0 c:=by
 unfold k7
 rw[if_neg (Nat.lt_irrefl n),Nat.sub_self]
theorem aB0(f:Fact):∀c,c<14→(VC 14 [.d (dI (eF f).kind),.d (dI (eF f).seq),.d (dI (eF f).bM),.d (dI (eF f).month),.d (dI (eF f).number),.d (dI (eF f).aW),.d (dI (eF f).over),.d (dI (eF f).cls),.d (dI (eF f).target),.d (dS (eF f).aO),.d (dS (eF f).dO),.d (dS (eF f).eO),.d (cE (eF f).levels),.d (dT (kO f))] 0 c).fit=true
 |0,_|1,_|2,_|3,_|4,_|5,_|6,_|7,_|8,_|9,_|10,_|11,_|12,_|13,_=>rfl
theorem zL{E:List gF}{k t:b9}{m:Nat}(h:∀e∈E,e.2.1.length≤m):∀e∈oT E k t,e.2.1.length≤m+1:=by
 intro e he
 unfold oT at he
 split at he
 ·rename_i i p hp
  obtain⟨j,hj⟩:=List.getElem?_of_mem he
  rw[List.getElem?_modify]at hj
  cases hE:E[j]? with
  |none=>rw[hE]at hj;cases hj
  |some y=>
   rw[hE]at hj
   have hy:=h y (List.mem_of_getElem? hE)
   have hj:(if i=j then(y.1,y.2.1++ [t],y.2.2)else y)=e:=by simpa using hj
   split at hj
   ·subst hj;simp;omega
   ·subst hj;omega
 ·rcases List.mem_append.1 he with he|he
  ·have:=h e he;omega
  ·rw[List.mem_singleton.1 he];simp
theorem nO{l:List Fact}:∀{i:Nat},∀{e:gF},e∈gJ l i→e.2.1.length≤i
 |0,e,he=>by simp[gJ]at he
 |i+1,e,he=>by
  by_cases h:i<l.length
  ·rw[sV h]at he
   unfold C6 at he
   cases hw:OI (l.getD i default)with
   |true=>
    rw[hw]at he
    have:=nO (i:=i) he
    omega
   |false=>
    rw[hw]at he
    exact zL (fun e he=>nO (i:=i) he) e he
  ·have e1:gJ l (i+1)=gJ l i:=by
    unfold gJ
    rw[List.take_of_length_le oM,List.take_of_length_le oM]
   rw[e1]at he
   have:=nO (i:=i) he
   omega
abbrev dH(b:Nat):AV:=.s (.d (.val (.map (some b))))
def J1(l:List Fact)(s:Nat×HM):Prop:=s.1≤l.length∧dW s.2.l (gJ l s.1)∧s.2.clock=(gJ l s.1).length∧s.2.it=none
end Go.Pj
namespace Go.Pj
open Go Go.Ax Go.Ch Go.Proofs Go.Proofs.Tryz
theorem eA{cx:Cx}{N:Nat}{c:Code}{σ:St}{H:Hid}{K:Exit→St→Hid→Prop}(aA:cx.ref=[])(ks:List Nat)(h:∀MA:Cx,MA.ref=ks→ex Tryz.prog tab N ks [] MA c σ fun e s=>K e s H)(h1:(ks.all fun x=>qJ σ.box x)=true:=by rfl)(h2:((cL σ.box).all fun x=>ks.contains x)=true:=by rfl):bN Tryz.prog cx N c σ H K:=bN.alone aA ks h1 h2 fun MA h'=>ex.sound (rc:=[]) aJ mix h' _ (h MA h')
theorem eB{cx:Cx}{N:Nat}{c:Code}{σ:St}{H:Hid}{K:Exit→St→Hid→Prop}(rc:List Nat)(aA:cx.ref=[])(ks:List Nat)(h:∀MA:Cx,MA.ref=ks→ex Tryz.prog tab N ks rc MA c σ fun e s=>K e s H)(h1:(ks.all fun x=>qJ σ.box x)=true:=by rfl)(h2:((cL σ.box).all fun x=>ks.contains x)=true:=by rfl):bN Tryz.prog cx N c σ H K:=bN.alone aA ks h1 h2 fun MA h'=>ex.sound (rc:=rc) aJ mix h' _ (h MA h')
theorem sA{cx:Cx}{N:Nat}{x y:Code}{σ:St}{H:Hid}{K:Exit→St→Hid→Prop}(aA:cx.ref=[])(ks:List Nat)(h:∀MA:Cx,MA.ref=ks→ex Tryz.prog tab N ks [] MA x σ fun e s=>qT (fun s H=>bN Tryz.prog cx N y s H K) K e s H)(h1:(ks.all fun x=>qJ σ.box x)=true:=by rfl)(h2:((cL σ.box).all fun x=>ks.contains x)=true:=by rfl):bN Tryz.prog cx N (.seq x y) σ H K:=bN.seq (eA aA ks h h1 h2)
end Go.Pj
namespace Go.Pj
open Go Go.Ax Go.Ch Go.Proofs Go.Proofs.Tryz
def J0(G:List (ByteArray×Int))(k:b9):Int:=iO G (bs k)
def TR(G:List (ByteArray×Int))(k:b9)(ts:List b9):Int:=ts.foldl (fun a t=>mm true a (uN t).seq) (aV (J0 G k - 1))
def fZ(G:List (ByteArray×Int))(k:b9)(ts:List b9):List b9:=dJ (WX (TR G k ts) (J0 G k)) ts
def uP(G:List (ByteArray×Int))(k:b9)(ts:List b9):List b9:=vR (mI (fZ G k ts))
def zR(G:List (ByteArray×Int))(e:gF):Option gF:=bif (fZ G e.1 e.2.1).isEmpty then none else some (e.1,uP G e.1 e.2.1,e.2.2)
def sH(G:List (ByteArray×Int))(sn:List Nat)(e:gF):Option gF:=bif sn.contains e.2.2 then zR G e else some e
def fB(G:List (ByteArray×Int))(E:List gF)(sn:List Nat):List gF:=E.filterMap (sH G sn)
theorem CC{G:List (ByteArray×Int)}{sn:List Nat}{b:Nat}{e:gF}(h:e.2.2≠b):sH G (b::sn) e=sH G sn e:=by
 unfold sH
 rw[show(b::sn).contains e.2.2=sn.contains e.2.2 by simp[h]]
theorem sG{G:List (ByteArray×Int)}{sn:List Nat}{e x:gF}(h:sH G sn e=some x):x.1=e.1∧x.2.2=e.2.2:=by
 unfold sH zR at h
 cases hc:sn.contains e.2.2 with
 |false=>rw[hc]at h;cases h;exact⟨rfl,rfl⟩
 |true=>
  rw[hc,cond_true]at h
  cases hk:(fZ G e.1 e.2.1).isEmpty with
  |true=>rw[hk]at h;cases h
  |false=>rw[hk]at h;cases h;exact⟨rfl,rfl⟩
theorem nN{G:List (ByteArray×Int)}{E:List gF}{sn:List Nat}{x:gF}(h:x∈fB G E sn):∃e∈E,x.1=e.1∧x.2.2=e.2.2:=by
 obtain⟨e,he,hx⟩:=List.mem_filterMap.1 h
 exact⟨e,he,sG hx⟩
theorem G6{G:List (ByteArray×Int)}{b:Nat}{sn:List Nat}:∀{E:List gF},(∀e∈E,e.2.2≠b)→fB G E (b::sn)=fB G E sn
 |[],_=>rfl
 |e::r,h=>by
  unfold fB
  rw[List.filterMap_cons,List.filterMap_cons,CC (h e (List.mem_cons_self ..))]
  have:=G6 (E:=r) (G:=G) (b:=b) (sn:=sn) (fun x hx=>h x (List.mem_cons_of_mem _ hx))
  unfold fB at this
  rw[this]
theorem tZ{G:List (ByteArray×Int)}{sn:List Nat}:∀{E:List gF} {j:Nat} {e:gF},(E.map (·.2.2)).Nodup→(fB G E sn)[j]? =some e→sn.contains e.2.2=false→
  fB G E (e.2.2::sn)=match zR G e with
   |none=>(fB G E sn).eraseIdx j
   |some x=>(fB G E sn).modify j fun _=>x
 |[],j,e,_,h,_=>by simp[fB]at h
 |d::r,j,e,hn,h,hs=>by
  have hn':=List.nodup_cons.1 (show(d.2.2::r.map (·.2.2)).Nodup from hn)
  have hr:=hn'.2
  unfold fB at h ⊢
  rw[List.filterMap_cons]at h ⊢
  cases hd:sH G sn d with
  |none=>
   rw[hd]at h
   have hb:=nN (List.mem_of_getElem? h)
   obtain⟨e',CM,_,hb⟩:=hb
   have gI:d.2.2≠e.2.2:=fun hc=>hn'.1 (by rw[hc,hb];exact List.mem_map.2 ⟨e',CM,rfl⟩)
   have:=tZ hr h hs
   unfold fB at this
   rw[CC gI,List.filterMap_cons,hd]
   exact this
  |some x=>
   rw[hd]at h
   have hx:=sG hd
   cases j with
   |zero=>
    obtain rfl:x=e:=by simpa using h
    have hde:d=x:=by
     unfold sH at hd
     rw[←hx.2,hs]at hd
     exact Option.some.inj hd
    subst hde
    have e1:sH G (d.2.2::sn) d=zR G d:=by
     unfold sH
     rw[show(d.2.2::sn).contains d.2.2=true by simp];rfl
    have e2:r.filterMap (sH G (d.2.2::sn))=r.filterMap (sH G sn):=G6 fun e he hc=>hn'.1 (by rw[←hc];exact List.mem_map.2 ⟨e,he,rfl⟩)
    rw[e1,List.filterMap_cons,hd,e2]
    cases zR G d <;> rfl
   |succ j=>
    have h':(r.filterMap (sH G sn))[j]? =some e:=by simpa using h
    obtain⟨e',CM,_,hb⟩:=nN (List.mem_of_getElem? h')
    have gI:d.2.2≠e.2.2:=fun hc=>hn'.1 (by rw[hc,hb];exact List.mem_map.2 ⟨e',CM,rfl⟩)
    have:=tZ hr h' hs
    unfold fB at this
    rw[CC gI,hd,List.filterMap_cons,hd]
    simp only
    rw[this]
    cases zR G e with
    |none=>rfl
    |some y=>simp
theorem aAN:∀{E:List gF} {j i:Nat} {e:gF},(E.map (·.1)).Nodup→E[j]? =some e→fE E e.1 i=some (i+j,e)
 |[],j,_,_,_,h=>by simp at h
 |d::r,0,i,e,_,h=>by
  obtain rfl:d=e:=by simpa using h
  rw[fE,beq_self_eq_true];rfl
 |d::r,j+1,i,e,hn,h=>by
  have hn':=List.nodup_cons.1 (show(d.1::r.map (·.1)).Nodup from hn)
  have h':r[j]? =some e:=by simpa using h
  have gI:(e.1==d.1)=false:=by
   rw[beq_eq_false_iff_ne]
   exact fun hc=>hn'.1 (by rw[←hc];exact List.mem_map.2 ⟨e,List.mem_of_getElem? h',rfl⟩)
  rw[fE,gI,cond_false,aAN hn'.2 h']
  congr 2;omega
structure BV(E:List gF):Prop where
 keys:(E.map (·.1)).Nodup
 born:∀(i:Nat) (e:gF),E[i]? =some e→e.2.2=i
theorem BV.nodup{E:List gF}(h:BV E):(E.map (·.2.2)).Nodup:=by
 refine List.pairwise_iff_getElem.2 fun i j hi hj XU=>?_
 have hi:i<E.length:=by simpa using hi
 have hj:j<E.length:=by simpa using hj
 rw[List.getElem_map,List.getElem_map,h.born i _ (List.getElem?_eq_getElem hi),h.born j _ (List.getElem?_eq_getElem hj)]
 omega
theorem T7:∀{E:List gF} {k:b9} {i:Nat},fE E k i=none→k∉E.map (·.1)
 |[],_,_,_=>by simp
 |d::r,k,i,h=>by
  rw[fE]at h
  cases hk:k==d.1 with
  |true=>rw[hk]at h;cases h
  |false=>
   rw[hk]at h
   have:=T7 (i:=i+1) h
   have gI:k≠d.1:=by simpa using hk
   simp only [List.map_cons,List.mem_cons,not_or]
   exact⟨gI,this⟩
theorem BV.add{E:List gF}(h:BV E)(k t:b9):BV (oT E k t):=by
 unfold oT
 cases hf:fE E k 0 with
 |some p=>
  obtain⟨i,e⟩:=p
  refine⟨?_,fun j x hx=>?_⟩
  ·have:(E.modify i fun e=>(e.1,e.2.1++ [t],e.2.2)).map (·.1)=E.map (·.1):=by
    apply List.ext_getElem?
    intro j
    rw[List.getElem?_map,List.getElem?_modify,List.getElem?_map]
    cases E[j]? with
    |none=>rfl
    |some y=>by_cases XU:i=j <;> simp[XU]
   simp only
   rw[this]
   exact h.keys
  ·simp only at hx
   rw[List.getElem?_modify]at hx
   cases hE:E[j]? with
   |none=>rw[hE]at hx;cases hx
   |some y=>
    rw[hE]at hx
    have hb:=h.born j y hE
    have hx:(if i=j then(y.1,y.2.1++ [t],y.2.2)else y)=x:=by simpa using hx
    split at hx <;> subst hx <;> exact hb
 |none=>
  have hk:=T7 hf
  refine⟨?_,fun j x hx=>?_⟩
  ·simp only [List.map_append,List.map_cons,List.map_nil]
   rw[List.nodup_append]
   refine⟨h.keys,sM,fun a ha b hb II=>?_⟩
   rw[List.mem_singleton.1 hb]at II
   exact hk (II▸ha)
  ·simp only at hx
   rcases Nat.lt_or_ge j E.length with hj|hj
   ·rw[List.getElem?_append_left hj]at hx;exact h.born j x hx
   ·rw[List.getElem?_append_right hj]at hx
    obtain⟨h0,h1⟩:j - E.length=0∧(k,[t],E.length)=x:=by
     cases hq:j - E.length with
     |zero=>rw[hq]at hx;exact⟨rfl,by simpa using hx⟩
     |succ n=>rw[hq]at hx;simp at hx
    subst h1
    show E.length=j
    omega
theorem uA(l:List Fact):∀i,BV (gJ l i)
 |0=>⟨by simp[gJ],fun i e h=>by simp[gJ]at h⟩
 |i+1=>by
  by_cases h:i<l.length
  ·rw[sV h]
   unfold C6
   cases OI (l.getD i default)with
   |true=>exact uA l i
   |false=>exact(uA l i).add _ _
  ·have e1:gJ l (i+1)=gJ l i:=by
    unfold gJ
    rw[List.take_of_length_le oM,List.take_of_length_le oM]
   rw[e1];exact uA l i
theorem zF{G:List (ByteArray×Int)}{sn:List Nat}:∀{E:List gF},(E.map (·.1)).Nodup→((fB G E sn).map (·.1)).Nodup
 |[],_=>by simp[fB]
 |d::r,h=>by
  have h':=List.nodup_cons.1 (show(d.1::r.map (·.1)).Nodup from h)
  have ih:=zF (G:=G) (sn:=sn) h'.2
  unfold fB at ih ⊢
  rw[List.filterMap_cons]
  cases hd:sH G sn d with
  |none=>exact ih
  |some x=>
   simp only [List.map_cons]
   refine List.nodup_cons.2 ⟨fun hm=>?_,ih⟩
   obtain⟨y,hy,he⟩:=List.mem_map.1 hm
   obtain⟨e',CM,h1,_⟩:=nN hy
   exact h'.1 (by rw[←(sG hd).1,←he,h1];exact List.mem_map.2 ⟨e',CM,rfl⟩)
theorem w7{G:List (ByteArray×Int)}{sn:List Nat}:∀{E:List gF},(E.map (·.2.2)).Nodup→((fB G E sn).map (·.2.2)).Nodup
 |[],_=>by simp[fB]
 |d::r,h=>by
  have h':=List.nodup_cons.1 (show(d.2.2::r.map (·.2.2)).Nodup from h)
  have ih:=w7 (G:=G) (sn:=sn) h'.2
  unfold fB at ih ⊢
  rw[List.filterMap_cons]
  cases hd:sH G sn d with
  |none=>exact ih
  |some x=>
   simp only [List.map_cons]
   refine List.nodup_cons.2 ⟨fun hm=>?_,ih⟩
   obtain⟨y,hy,he⟩:=List.mem_map.1 hm
   obtain⟨e',CM,_,h1⟩:=nN hy
   exact h'.1 (by rw[←(sG hd).2,←he,h1];exact List.mem_map.2 ⟨e',CM,rfl⟩)
theorem WQ(G:List (ByteArray×Int))(E:List gF):fB G E []=E:=by
 unfold fB
 rw[show sH G []=some from funext fun e=>rfl]
 exact List.filterMap_some
def O8(G:List (ByteArray×Int))(E:List gF):List gF:=E.filterMap (zR G)
theorem y9{α β:Type}{f g:α→Option β}:∀{l:List α},(∀x∈l,f x=g x)→l.filterMap f=l.filterMap g
 |[],_=>rfl
 |x::r,h=>by
  rw[List.filterMap_cons,List.filterMap_cons,h x (List.mem_cons_self ..),y9 fun y hy=>h y (List.mem_cons_of_mem _ hy)]
theorem KC{G:List (ByteArray×Int)}{E:List gF}{sn:List Nat}(h:∀e∈fB G E sn,sn.contains e.2.2=true):fB G E sn=O8 G E:=by
 unfold fB O8 at*
 refine y9 fun e he=>?_
 unfold sH
 cases hs:sn.contains e.2.2 with
 |true=>rfl
 |false=>
  have hm:e∈E.filterMap (sH G sn):=List.mem_filterMap.2 ⟨e,he,by unfold sH;rw[hs];rfl⟩
  have:=h e hm
  rw[hs]at this;cases this
end Go.Pj
--K21
namespace Go.Ax
open Go.RowKit
theorem HSub.shrink{cx:Cx}{N:Nat}{H:Hid}{E:List (Nat×AV)}{B:aN}{e m s n:Nat}{f:Nat→Nat→DV}(t x:Nat)(aA:cx.ref=[])(hE:(E.all fun p=>V4 (cL B) p.2)=true)(hB:(B.all fun p=>aMK (cL B) p.2)=true)
  (hx:(cL B).contains x=false) (hm:0<m) (hn:n≤m):
  HSub cx N ⟨(t,.s (.jH x s 0 n))::E,(x,some (.row e m s f))::B⟩ H ⟨(t,.s (.own x))::E,(x,some (.row e n s f))::B⟩ H:=by
 intro M β a w i RP
 have hxk:x∉cL B:=by simpa using hx
 have r:=i.env t
 have r:(AV.s (.jH x s 0 n)).bD M β (a.tmps.getD t undef):=by
  have e1:eY ((t,AV.s (.jH x s 0 n))::E) t=.s (.jH x s 0 n):=by rw[gA,if_pos rfl]
  rw[←e1];exact r
 obtain⟨b,c,o,qP,hv,ho,hl,hc⟩:=r
 obtain⟨b',c',cur,WD,h1,h2,h3,h4,h5,h6⟩:=i.box x (.row e m s f) (by show aH ((x,_)::B) x=_;rw[aK,if_pos rfl])
 rw[qP]at WD
 cases WD
 have ho:o=0:=by rw[ho oM,Nat.zero_mul]
 subst ho
 let β':Nm:=fun y=>if y=x then some (b,(c.1,n))else β y
 have bx:β' x=some (b,(c.1,n)):=by simp[β']
 have bo:∀y,y≠x→β' y=β y:=fun y h=>by simp[β',h]
 have keep:∀y,y∈cL B→∀p,β y=some p→β' y=some p:=fun y hy p h=>by
  rw[bo y (fun e=>hxk (e▸hy))];exact h
 have back:∀y b1 c1,β' y=some (b1,c1)→∃c2,β y=some (b1,c2):=fun y b1 c1 h=>by
  by_cases hy:y=x
  ·subst hy;rw[bx]at h;cases h;exact⟨_,qP⟩
  ·rw[bo y hy]at h;exact⟨_,h⟩
 have live:∀y bc,aH ((x,some (.row e n s f))::B) y=some (some bc)→∃bc',aH ((x,some (.row e m s f))::B) y=some (some bc'):=by
  intro y bc h
  rw[aK]at h ⊢
  by_cases hy:x=y
  ·rw[if_pos hy];exact⟨_,rfl⟩
  ·rw[if_neg hy]at h ⊢;exact⟨_,h⟩
 refine⟨M,β',⟨i.defers,i.tmps,i.heap,?_,i.mem,?_,?_,?_,?_,?_,?_⟩,⟨RP.holds,RP.low,RP.apart,fun y CW b1 c1 e1 g1=>by
  obtain⟨_,e1⟩:=live _ _ e1
  obtain⟨_,g1⟩:=back _ _ _ g1
  exact RP.names y _ b1 _ e1 g1⟩,Grow.refl _ _⟩
 ·intro u
  show(eY ((t,_)::E) u).bD M β' _
  rw[gA]
  by_cases hu:t=u
  ·subst hu
   rw[if_pos rfl]
   exact⟨b,(c.1,n),bx,by rw[hv];simp,by simp only;omega⟩
  ·rw[if_neg hu]
   have hi:=i.env u
   have hi:(eY E u).bD M β (a.tmps.getD u undef):=by
    have e1:eY ((t,AV.s (.jH x s 0 n))::E) u=eY E u:=by rw[gA,if_neg hu]
    rw[←e1];exact hi
   rcases O4 (E:=E) (u:=u)with h|⟨p,hp,h⟩
   ·rw[h];trivial
   ·rw[h]at hi ⊢
    exact V4.mono keep (List.all_eq_true.1 hE p hp) hi
 ·intro y p h
  show ∃y',aH ((x,_)::B) y=some y'
  rw[aK]
  by_cases hy:x=y
  ·rw[if_pos hy];exact⟨_,rfl⟩
  ·rw[if_neg hy]
   rw[bo y (fun e=>hy e.symm)]at h
   obtain⟨z,hz⟩:=i.keys y p h
   have hz:aH ((x,some (.row e m s f))::B) y=some z:=hz
   rw[aK,if_neg hy]at hz
   exact⟨z,hz⟩
 ·intro y bc h
  have h:aH ((x,some (.row e n s f))::B) y=some (some bc):=h
  rw[aK]at h
  by_cases hy:x=y
  ·subst hy
   rw[if_pos rfl]at h
   cases h
   exact⟨b,(c.1,n),cur,bx,h1,rfl,h3,by simp only;omega,h5,fun k j hk hj=>h6 k j oM hj⟩
  ·rw[if_neg hy]at h
   have hr:=i.box y bc (by show aH ((x,_)::B) y=_;rw[aK,if_neg hy];exact h)
   have hm:=O6 h
   have:=List.all_eq_true.1 hB _ hm
   exact QC.mono keep (aBF hm) this hr
 ·intro y y' CW bx2 b1 c1 c2 e1 e2 g1 g2
  obtain⟨_,e1⟩:=live _ _ e1
  obtain⟨_,e2⟩:=live _ _ e2
  obtain⟨_,g1⟩:=back _ _ _ g1
  obtain⟨_,g2⟩:=back _ _ _ g2
  exact i.inj y y' _ _ b1 _ _ e1 e2 g1 g2
 ·intro y CW b1 c1 e1 g1
  obtain⟨_,e1⟩:=live _ _ e1
  obtain⟨_,g1⟩:=back _ _ _ g1
  exact i.apart y _ b1 _ e1 g1
 ·intro y CW b1 c1 e1 g1
  obtain⟨_,e1⟩:=live _ _ e1
  obtain⟨_,g1⟩:=back _ _ _ g1
  exact i.low y _ b1 _ e1 g1
 ·intro y hy
  rw[aA]at hy;cases hy
end Go.Ax
namespace Go.Pj
open Go Go.Ax Go.Ch Go.Proofs Go.Proofs.Tryz
set_option maxRecDepth 100000
set_option maxHeartbeats 1000000
noncomputable def aCC:Code:=match f176.body with
 |some (.seq _ (.seq _ (.seq _ (.seq _ c))))=>c
 |_=>.skip
abbrev stS(G:List (ByteArray×Int))(bm bi:Nat):St:=⟨[(3,.s (.ptr 3 0)),(4,dH bm),(63,.s (.d (.val (.pointer (some ⟨bi,0,none⟩)))))],[(3,some (.cells [.mp 18])),(18,some (.smap .int G))]⟩
structure J2(G:List (ByteArray×Int))(E:List gF)(bm bi:Nat)(s:List Nat×HM):Prop where
 all:dW s.2.l (fB G E s.1)
 bm:s.2.bm=bm
 clock:s.2.clock=E.length
 it:s.2.it=some (bi,s.1)
def S7(E:List gF)(sn:List Nat):Nat:=(E.filter fun e=> !sn.contains e.2.2).length
theorem PE{G:List (ByteArray×Int)}{E:List gF}(hE:BV E){sn:List Nat}{e:gF}(h:e∈fB G E sn):e.2.2<E.length:=by
 obtain⟨x,hx,_,hb⟩:=nN h
 obtain⟨i,hi⟩:=List.getElem?_of_mem hx
 rw[hb,hE.born i x hi]
 exact(List.getElem?_eq_some_iff.1 hi).1
theorem PD{G:List (ByteArray×Int)}{E:List gF}(hsm:∀e∈E,e.2.1.length≤200){sn:List Nat}{e:gF}(h:e∈fB G E sn)(hs:sn.contains e.2.2=false):e.2.1.length≤200:=by
 obtain⟨x,hx,he⟩:=List.mem_filterMap.1 h
 have hb:=sG he
 unfold sH at he
 rw[←hb.2,hs]at he
 have he:x=e:=Option.some.inj he
 exact he▸hsm x hx
theorem M6{E:List gF}(hE:BV E){sn:List Nat}{b:Nat}(hb:b<E.length)(hs:sn.contains b=false):S7 E (b::sn)<S7 E sn:=by
 unfold S7
 have key:∀L:List gF,L.filter (fun e=> !(b::sn).contains e.2.2)=(L.filter fun e=> !sn.contains e.2.2).filter fun e=>e.2.2 !=b:=by
  intro L
  rw[List.filter_filter]
  congr 1
  funext e
  by_cases h:e.2.2=b
  ·simp[h]
  ·simp[h]
 rw[key E]
 have hm:E[b]∈E.filter fun e=> !sn.contains e.2.2:=by
  rw[List.mem_filter]
  refine⟨List.getElem_mem hb,?_⟩
  rw[hE.born b _ (List.getElem?_eq_getElem hb),hs];rfl
 refine Nat.lt_of_le_of_ne (List.length_filter_le _ _) fun he=>?_
 have:=List.length_filter_eq_length_iff.1 he _ hm
 rw[hE.born b _ (List.getElem?_eq_getElem hb)]at this
 simp at this
theorem R6(l:List bJ)(j:Nat):(cP l j).eraseIdx j=l.eraseIdx j:=by
 unfold cP
 apply List.ext_getElem?
 intro i
 rw[List.getElem?_eraseIdx,List.getElem?_eraseIdx]
 split
 ·rw[List.getElem?_modify]
  have:¬j=i:=oM
  simp[this]
 ·rw[List.getElem?_modify]
  have:¬j=i+1:=oM
  simp[this]
theorem aA0{l:List b9}(h:l≠[]):vR l≠[]:=by
 have hl:=List.length_pos_iff.2 h
 unfold vR
 obtain⟨n,hn⟩:∃n,l.length=n+1:=⟨l.length - 1,oM⟩
 rw[hn]
 clear hn hl
 induction n with
 |zero=>rw[w9];simp[qd]
 |succ n ih=>
  rw[w9]
  intro h
  exact ih (List.append_eq_nil_iff.1 h).1
theorem WW{h:HM}{k:b9}{j:Nat}{q:bJ}(hf:cY h.l (bs k) 0=some (j,q)):
  (yA {h with l:=cP h.l j} (bs k)).l=h.l.eraseIdx j∧(yA {h with l:=cP h.l j} (bs k)).bm=h.bm∧(yA {h with l:=cP h.l j} (bs k)).clock=h.clock∧(yA {h with l:=cP h.l j} (bs k)).it=h.it:=by
 have h1:=sQ h.l (bs k) j 0
 rw[hf]at h1
 unfold yA
 simp only
 cases hq:cY (cP h.l j) (bs k) 0 with
 |none=>rw[hq]at h1;cases h1
 |some p=>
  obtain⟨i,q'⟩:=p
  rw[hq]at h1
  obtain rfl:i=j:=by simpa using h1
  exact⟨R6 h.l i,rfl,rfl,rfl⟩
theorem U6{cx:Cx}(aA:cx.ref=[])(G:List (ByteArray×Int))(E:List gF)(hE:BV E)(hsm:∀e∈E,e.2.1.length≤200)(h:HM)(ha:dW h.l E)(iQ:h.clock=E.length)(K:Exit→St→Hid→Prop)
  (hK:∀h':HM,dW h'.l (O8 G E)→h'.clock=E.length→bN prog cx f176.ntmps .ret ⟨[(2,dH h'.bm)],[]⟩ (hid 254 14 h') K):
  bN prog cx f176.ntmps aCC ⟨[(3,.s (.ptr 3 0)),(4,dH h.bm)],[(3,some (.cells [.mp 18])),(18,some (.smap .int G))]⟩ (hid 254 14 h) K:=by
 refine bN.seq (bN.seq (bN.region (bH.some (rc:=[]) aJ 1 aA [3,18] rfl rfl (bH.op rfl (nE.range rfl rfl dC rfl underlying250 fun bi=>bH.nil ?_)))))
 refine bN.block ?_
 refine bN.loop (S:=List Nat×HM) (fun s=>stS G s.2.bm bi) (fun s=>hid 254 14 s.2) (J2 G E h.bm bi) (fun s=>S7 E s.1) ([],{h with it:=some (bi,[])}) ⟨by rw[WQ];exact ha,rfl,iQ,rfl⟩ ?_ ?_
 ·exact HSub.of (eS.of [] (by rw[aA];rfl) rfl ⟨bQ,bQ,oO⟩ ⟨qZ,qZ,qZ,oO⟩)
 ·rintro⟨sn,h⟩ ⟨ha,MV,iQ,hit⟩
  have ha:dW h.l (fB G E sn):=ha
  have iQ:h.clock=E.length:=iQ
  have hit:h.it=some (bi,sn):=hit
  refine bN.seq (bN.region (bH.op rfl (nE.next (bi:=bi) (sn:=sn) rfl rfl dC rfl hit ?_ (fun kM=>?_) (fun q hq WA=>?_))))
  ·intro q hq
   obtain⟨j,hj⟩:=List.getElem?_of_mem hq
   obtain⟨e,he,hqe⟩:=ha.get hj
   show q.born<h.clock
   rw[hqe.born,iQ]
   exact PE hE (List.mem_of_getElem? he)
  ·refine bH.some (rc:=[]) aJ 1 aA [3,18] rfl rfl (bH.nil ?_)
   refine bN.seq (bN.cond (bN.exit ?_))
   refine sA aA [3,18] fun _ h'=>?_
   refine bN.sub (σ':=⟨[(2,dH h.bm)],[]⟩) (HSub.of (eS.of [] (by rw[aA];rfl) rfl trivial ⟨qZ,oO⟩)) ?_
   refine hK h ?_ iQ
   rw[←KC (G:=G) (E:=E) (sn:=sn)]
   ·exact ha
   ·intro e he
    obtain⟨j,hj⟩:=List.getElem?_of_mem he
    have rZ:j<h.l.length:=by rw[ha.len];exact(List.getElem?_eq_some_iff.1 hj).1
    obtain⟨e',CM,hq⟩:=ha.get (List.getElem?_eq_getElem rZ)
    rw[hj]at CM
    obtain rfl:e=e':=Option.some.inj CM
    have:=kM _ (List.getElem_mem rZ)
    rw[hq.born]at this
    simpa using this
  ·obtain⟨j,hj⟩:=List.getElem?_of_mem hq
   obtain⟨e,he,hqe⟩:=ha.get hj
   have jX:=List.mem_of_getElem? he
   have qL:=PE hE jX
   have hns:sn.contains e.2.2=false:=by
    rw[←hqe.born]
    simpa using WA
   have rX:=PD hsm jX hns
   obtain⟨k,ts,b⟩:=e
   have sL:q.key=bs k:=hqe.key
   have aEK:q.born=b:=hqe.born
   have rX:ts.length≤200:=rX
   have hns:sn.contains b=false:=hns
   obtain⟨r,V8,oP⟩:=hqe.row
   have hrn:r.n=ts.length:=oP.n
   have hrf:∀i c,i<ts.length→c<14→aL (r.f i c) (dN ts i c):=oP.f
   refine bH.some (rc:=[]) aJ 1 aA [3,18] rfl rfl (bH.nil ?_)
   refine bN.seq (bN.cond (bN.skip ?_))
   refine bN.block ?_
   have yJ:=aAN (i:=0) (zF (G:=G) (sn:=sn) hE.keys) he
   rw[Nat.zero_add]at yJ
   obtain⟨q0,nR,_⟩:=pH ha yJ
   have nR:cY h.l (bs k) 0=some (j,q0):=nR
   have XT:(h.l.map (·.born)).Nodup:=by
    have:h.l.map (·.born)=(fB G E sn).map (·.2.2):=by
     apply List.ext_getElem?
     intro i
     rw[List.getElem?_map,List.getElem?_map]
     cases hi:h.l[i]? with
     |none=>
      have:h.l.length≤i:=List.getElem?_eq_none_iff.1 hi
      rw[List.getElem?_eq_none (by rw[←ha.len];exact this)];rfl
     |some x=>
      obtain⟨e',CM,hx⟩:=ha.get hi
      rw[CM]
      simp[hx.born]
    rw[this]
    exact w7 hE.nodup
   refine bN.seq (bN.region (bH.op rfl (nE.entry (bi:=bi) (j:=j) (sn:=sn) rfl rfl dC rfl rfl hj rfl XT V8 oP.lo (bH.some (rc:=[]) aJ 5 aA [3,18,66] rfl rfl (bH.nil ?_)))))
   refine bN.sub (σ':=⟨[(3,.s (.ptr 3 0)),(4,dH h.bm),(13,.s (.ptr 13 0)),(14,.s (.own 66)),(63,.s (.d (.val (.pointer (some ⟨bi,0,none⟩)))))],[(3,some (.cells [.mp 18])),(18,some (.smap .int G)),(13,some (.cells [.d (dT k)])),(66,some (.row 254 ts.length 14 (dN ts)))]⟩) (HSub.of (eS.of [] (by rw[aA];rfl) rfl ⟨bQ,bQ,⟨rfl,aZ.of_eq (by rw[sL];rfl)⟩,⟨rfl,aZ.row hrn fun i c hi hc=>hrf i c oM hc⟩,oO⟩ ⟨qZ,qZ,qZ,qZ,qZ,oO⟩)) ?_
   refine sA aA [3,18,13,66] fun _ h'=>?_
   refine bN.sub (σ':=⟨[(3,.s (.ptr 3 0)),(4,dH h.bm),(13,.s (.ptr 13 0)),(14,.s (.own 66)),(15,.s (.ptr 15 0)),(63,.s (.d (.val (.pointer (some ⟨bi,0,none⟩)))))],[(3,some (.cells [.mp 18])),(18,some (.smap .int G)),(13,some (.cells [.d (dT k)])),(66,some (.row 254 ts.length 14 (dN ts))),(15,some (.cells [.d (dI (aV (J0 G k - 1)))]))]⟩) (HSub.of (eS.of [] (by rw[aA];rfl) rfl ⟨bQ,bQ,bQ,bQ,bQ,oO⟩ ⟨qZ,qZ,qZ,qZ,qZ,qZ,oO⟩)) ?_
   refine bN.seq (bN.alone aA [3,18,13,66,15] rfl rfl fun MA h'=>?_)
   refine AW.seq (ex.sound (rc:=[]) aJ mix h' _ ?_)
   refine AW.block ?_
   refine AW.cV (fun i:Nat=>⟨[(3,.s (.ptr 3 0)),(4,dH h.bm),(13,.s (.ptr 13 0)),(14,.s (.own 66)),(15,.s (.ptr 15 0)),(63,.s (.d (.val (.pointer (some ⟨bi,0,none⟩))))),(73,.s (.own 66)),(74,vI ts.length),(75,vI i)],[(3,some (.cells [.mp 18])),(18,some (.smap .int G)),(13,some (.cells [.d (dT k)])),(66,some (.row 254 ts.length 14 (dN ts))),(15,some (.cells [.d (dI ((ts.take i).foldl (fun a t=>mm true a (uN t).seq) (aV (J0 G k - 1))))]))]⟩)
    (fun i=>i≤ts.length) (fun i=>ts.length - i) 0 (Nat.zero_le _) ?_ ?_
   ·exact aS.of [] (by rw[h'];rfl) rfl ⟨bQ,bQ,bQ,bQ,bQ,oO⟩ ⟨qZ,qZ,qZ,qZ,qZ,qZ,qZ,qZ,qZ,oO⟩
   ·intro i hi
    refine ex.sound (rc:=[]) aJ mix h' _ ?_
    refine aI (fun g=>?_) (fun g=>?_)
    ·have g:(i:Int)<ts.length:=bL g
     have bK:i<ts.length:=oM
     have ew:aV ((i:Int)+1)=((i+1:Nat):Int):=aG oM oM
     refine oi ⟨oM,oM⟩ ?_
     refine oi (show i<ts.length by omega) ?_
     refine⟨i+1,oM,oM,?_⟩
     refine aS.of [] (by rw[h'];rfl) rfl ⟨bQ,bQ,bQ,bQ,⟨rfl,aZ.of_eq ?_⟩,oO⟩ ⟨qZ,qZ,qZ,qZ,qZ,qZ,qZ,qZ,⟨rfl,aU.int ew⟩,oO⟩
     show jE.cells [.d (dI (mm true ((ts.take i).foldl (fun a t=>mm true a (uN t).seq) (aV (J0 G k - 1))) (uN (ts.getD i [])).seq))]=jE.cells [.d (dI ((ts.take (i+1)).foldl (fun a t=>mm true a (uN t).seq) (aV (J0 G k - 1))))]
     rw[List.take_add_one,List.getElem?_eq_getElem bK,List.foldl_append,a7 bK];rfl
    ·have g:¬(i:Int)<ts.length:=bG g
     obtain rfl:i=ts.length:=oM
     rw[List.take_length]
     refine bN.sub (σ':=⟨[(3,.s (.ptr 3 0)),(4,dH h.bm),(13,.s (.ptr 13 0)),(14,.s (.own 66)),(15,.s (.ptr 15 0)),(63,.s (.d (.val (.pointer (some ⟨bi,0,none⟩)))))],[(3,some (.cells [.mp 18])),(18,some (.smap .int G)),(13,some (.cells [.d (dT k)])),(66,some (.row 254 ts.length 14 (dN ts))),(15,some (.cells [.d (dI (TR G k ts))]))]⟩) (HSub.of (eS.of [] (by rw[aA];rfl) rfl ⟨bQ,bQ,bQ,bQ,bQ,oO⟩ ⟨qZ,qZ,qZ,qZ,qZ,qZ,oO⟩)) ?_
     refine bN.seq (eB [216] aA [3,18,13,66,15] fun _ h'=>?_)
     refine⟨[(1001,66),(1002,15),(1003,3),(1004,13),(1005,18)],_,_,_,_,S1 ts (TR G k ts) k G oM _ rfl,rfl,⟨rfl,rfl,rfl,rfl,rfl,oO⟩,rfl,?_⟩
     have QH:fZ G k ts=dJ (WX (TR G k ts) (iO G (bs k))) ts:=rfl
     rw[←QH]
     refine bN.sub (σ':=⟨[(14,.s (.jH 66 14 0 (fZ G k ts).length)),(3,.s (.ptr 3 0)),(4,dH h.bm),(13,.s (.ptr 13 0)),(63,.s (.d (.val (.pointer (some ⟨bi,0,none⟩)))))],[(66,some (.row 254 ts.length 14 (oV (fZ G k ts)))),(3,some (.cells [.mp 18])),(18,some (.smap .int G)),(13,some (.cells [.d (dT k)]))]⟩) (HSub.of (eS.of [] (by rw[aA];rfl) rfl ⟨bQ,bQ,bQ,bQ,oO⟩ ⟨qZ,qZ,qZ,qZ,qZ,oO⟩)) ?_
     refine bN.seq (sA aA [66,3,18,13] fun _ h'=>?_)
     refine bN.cond ?_
     refine aI (fun g2=>?_) (fun g2=>?_)
     ·have g2:(((fZ G k ts).length:Int)==0)=true:=g2
      have hz:fZ G k ts=[]:=List.eq_nil_of_length_eq_zero (by simpa using g2)
      refine bN.seq (bN.region (bH.some (rc:=[]) aJ 2 aA [66,3,18,13] rfl rfl (bH.op rfl (nE.del (k:=bs k) rfl rfl rfl rfl underlying250 underlying9 (bH.nil ?_)))))
      refine bN.exit ?_
      have aF9:zR G (k,ts,b)=none:=by unfold zR;rw[show(k,ts,b).1=k from rfl,show(k,ts,b).2.1=ts from rfl,hz];rfl
      have iU:=tZ (G:=G) hE.nodup he hns
      rw[aF9]at iU
      have iU:fB G E (b::sn)=(fB G E sn).eraseIdx j:=iU
      obtain⟨d1,d2,d3,d4⟩:=WW (h:={h with it:=some (bi,q.born::sn)}) nR
      refine⟨(b::sn,yA {h with l:=cP h.l j,it:=some (bi,q.born::sn)} (bs k)),⟨?_,d2.trans MV,d3.trans iQ,d4.trans (by rw[aEK])⟩,M6 hE qL hns,?_⟩
      ·show dW (yA {h with l:=cP h.l j,it:=some (bi,q.born::sn)} (bs k)).l (fB G E (b::sn))
       rw[iU,d1]
       exact ha.erase
      ·exact HSub.of (eS.of [] (by rw[aA];rfl) rfl ⟨bQ,bQ,oO⟩ ⟨qZ,⟨rfl,aU.of_eq (by rw[d2];rfl)⟩,qZ,oO⟩)
     ·have g2:(((fZ G k ts).length:Int)==0)=false:=g2
      have hnz:fZ G k ts≠[]:=fun hz=>by rw[hz]at g2;cases g2
      have QI:(fZ G k ts).length≤ts.length:=List.length_filter_le _ _
      have kG:0<(fZ G k ts).length:=List.length_pos_iff.2 hnz
      refine bN.skip ?_
      refine bN.sub (σ':=⟨[(14,.s (.jH 66 14 0 (fZ G k ts).length)),(3,.s (.ptr 3 0)),(4,dH h.bm),(13,.s (.ptr 13 0)),(63,.s (.d (.val (.pointer (some ⟨bi,0,none⟩)))))],[(66,some (.row 254 ts.length 14 (oV (fZ G k ts)))),(3,some (.cells [.mp 18])),(18,some (.smap .int G)),(13,some (.cells [.d (dT k)]))]⟩) (HSub.of (eS.of [] (by rw[aA];rfl) rfl ⟨bQ,bQ,bQ,bQ,oO⟩ ⟨qZ,qZ,qZ,qZ,qZ,oO⟩)) ?_
      refine bN.sub (HSub.shrink 14 66 aA rfl rfl rfl oM QI) ?_
      refine bN.seq (eB [218] aA [66,3,18,13] fun _ h'=>?_)
      refine⟨[(1001,66)],_,_,_,_,aBT (fZ G k ts) (oV (fZ G k ts)) (fun i c hi hc=>aL.of_eq (by unfold oV;rw[if_pos hi])) oM,rfl,⟨rfl,oO⟩,rfl,?_⟩
      have hsl:(mI (fZ G k ts)).length=(fZ G k ts).length:=List.length_mergeSort _
      refine bN.sub (σ':=⟨[(3,.s (.ptr 3 0)),(4,dH h.bm),(13,.s (.ptr 13 0)),(14,.s (.own 66)),(63,.s (.d (.val (.pointer (some ⟨bi,0,none⟩)))))],[(3,some (.cells [.mp 18])),(18,some (.smap .int G)),(13,some (.cells [.d (dT k)])),(66,some (.row 254 (mI (fZ G k ts)).length 14 (dN (mI (fZ G k ts)))))]⟩) (HSub.of (eS.of [] (by rw[aA];rfl) rfl ⟨bQ,bQ,bQ,⟨rfl,aZ.of_eq (by rw[hsl];rfl)⟩,oO⟩ ⟨qZ,qZ,qZ,qZ,qZ,oO⟩)) ?_
      refine bN.aAV (ks:=[3,18,13,66]) (T:=tab) (rc:=[1500221]) aJ (fun f hf=>?_) mix (fun x hx=>qJ.spec ?_) (fun x bc hx=>pG hx) (fun x hx=>by rw[aA]at hx;cases hx) 4 rfl rfl rfl (fun c hc=>by cases hc) ?_
      ·have hf:[1500221].contains (f+2000000)=true:=hf
       simp at hf
      ·simp only [List.mem_cons,List.not_mem_nil,or_false]at hx
       rcases hx with rfl|rfl|rfl|rfl <;> rfl
      refine⟨[(1001,66)],_,_,_,_,QA (mI (fZ G k ts)) oM,rfl,⟨rfl,oO⟩,rfl,?_⟩
      refine⟨kR,?_⟩
      refine nE.X8 (b:=66) (k:=bs k) (n:=(mI (fZ G k ts)).length) (n':=(vR (mI (fZ G k ts))).length) (lo:=0) aA rfl rfl rfl rfl (.inr rfl) rfl oM underlying250 underlying9 (fun hn=>?_) (fun g3 aNI v=>?_)
      ·have:=sQ h.l (bs k) j 0
       rw[nR]at this
       have hn:cY (cP h.l j) (bs k) 0=none:=hn
       rw[hn]at this
       cases this
      generalize oN:(⟨g3,0+(vR (mI (fZ G k ts))).length,aNI,0,_⟩:mB)=row
      have hpt:uP G k ts=vR (mI (fZ G k ts)):=rfl
      have aMP:uP G k ts≠[]:=aA0 (by rw[Ne,←List.length_eq_zero_iff,hsl];omega)
      have OT:uY row (uP G k ts):=by
       subst oN
       refine⟨rfl,by rw[hpt];simp,fun i c hi hc=>aL.of_eq ?_⟩
       show oV (vR (mI (fZ G k ts))) i c=_
       unfold oV
       rw[←hpt,if_pos hi]
      have aF9:zR G (k,ts,b)=some (k,uP G k ts,b):=by
       unfold zR
       rw[show(fZ G (k,ts,b).1 (k,ts,b).2.1).isEmpty=false by
        show(fZ G k ts).isEmpty=false
        cases hq:fZ G k ts with
        |nil=>exact absurd hq hnz
        |cons _ _=>rfl]
       rfl
      have iU:=tZ (G:=G) hE.nodup he hns
      rw[aF9]at iU
      have iU:fB G E (b::sn)=(fB G E sn).modify j fun _=>(k,uP G k ts,b):=iU
      obtain⟨d1,d2,d3,d4⟩:=xP (h:={h with it:=some (bi,q.born::sn)}) (v:=v) ha nR OT aMP
      have aGE:(fB G E sn).modify j (fun e=>(e.1,uP G k ts,e.2.2))=(fB G E sn).modify j fun _=>(k,uP G k ts,b):=by
       apply List.ext_getElem?
       intro i
       rw[List.getElem?_modify,List.getElem?_modify]
       by_cases x8:j=i
       ·subst x8
        rw[he];rfl
       ·simp[x8]
      refine⟨(b::sn,eG {h with l:=cP h.l j,it:=some (bi,q.born::sn)} (bs k) v (some row)),⟨?_,d2.trans MV,d3.trans iQ,d4.trans (by rw[aEK])⟩,M6 hE qL hns,?_⟩
      ·show dW (eG {h with l:=cP h.l j,it:=some (bi,q.born::sn)} (bs k) v (some row)).l (fB G E (b::sn))
       rw[iU,←aGE]
       exact d1
      ·exact HSub.of (eS.of [] (by rw[aA];rfl) rfl ⟨bQ,bQ,oO⟩ ⟨qZ,⟨rfl,aU.of_eq (by rw[d2];rfl)⟩,qZ,oO⟩)
end Go.Pj
--K22
namespace Go.Ax
def LeE:List (ByteArray×Nat×DV)→List (ByteArray×Nat×DV)→Prop
 |[],[]=>True
 |(k,b,x)::r,(k',b',y)::s=>k=k'∧b=b'∧aL x y∧LeE r s
 |_,_=>False
theorem LeE.gW:∀{l m:List (ByteArray×Nat×DV)} {vs:List Value},LeE l m→lC l vs=lC m vs
 |[],[],_,_=>rfl
 |(k,b,x)::r,(k',b',y)::s,[],⟨h1,h2,_,h⟩=>rfl
 |(k,b,x)::r,(k',b',y)::s,v::vs,⟨h1,h2,_,h⟩=>by
  subst h1 h2
  simp only [lC]
  rw[LeE.gW h]
 |[],_::_,_,h=>h.elim
 |_::_,[],_,h=>h.elim
theorem LeE.rep{M:Mem}:∀{l m:List (ByteArray×Nat×DV)} {vs:List Value},LeE l m→vN M l vs→vN M m vs
 |[],[],_,_,r=>r
 |(k,b,x)::r,(k',b',y)::s,v::vs,⟨_,_,h3,h⟩,hr=>⟨h3 M v hr.1,LeE.rep h hr.2⟩
 |(k,b,x)::r,(k',b',y)::s,[],_,hr=>hr.elim
 |[],_::_,_,h,_=>h.elim
 |_::_,[],_,h,_=>h.elim
theorem aZ.dm{l m:List (ByteArray×Nat×DV)}{n n':Nat}(hn:n=n')(h:LeE l m):aZ (.dm l n) (.dm m n'):=by
 subst hn
 rintro M β w x ⟨b,c,vs,h1,h2,h3⟩
 exact⟨b,c,vs,h1,by rw[←h.gW];exact h2,h.rep h3⟩
end Go.Ax
namespace Go.Pj
open Go Go.Ax Go.Ch Go.Proofs Go.Proofs.Tryz
set_option maxRecDepth 100000
set_option maxHeartbeats 1000000
def aA2(ts:List b9):DV:=.fW ts.length 14 (dN ts)
def L3(E:List gF):List (ByteArray×Nat×DV):=E.map fun e=>(bs e.1,e.2.2,aA2 e.2.1)
def tI(l:List Fact):List gF:=O8 (o9 l l.length) (gJ l l.length)
def FF(l:List Fact):List (ByteArray×Nat×DV):=L3 (tI l)
theorem dW.le:∀{l:List bJ} {E:List gF},dW l E→LeE (dmL 14 l) (L3 E)
 |[],[],_=>trivial
 |q::r,e::s,h=>by
  obtain⟨hq,ht⟩:=h
  obtain⟨r0,hr,fG⟩:=hq.row
  refine⟨hq.key,hq.born,?_,dW.le ht⟩
  unfold dmV
  rw[hr]
  exact aL.zZ fG.n fun i j hi hj=>fG.f i j (by rw[←fG.n];exact hi) hj
 |[],_::_,h=>h.elim
 |_::_,[],h=>h.elim
theorem dW.rows:∀{l:List bJ} {E:List gF},dW l E→∀q∈l,(∃r,q.row=some r∧r.lo=0)∨(q.row=none∧q.val=.slice none 0 0)
 |[],[],_,q,hq=>by cases hq
 |q::r,e::s,h,x,hx=>by
  rcases List.mem_cons.1 hx with rfl|hx
  ·obtain⟨r0,hr,fG⟩:=h.1.row
   exact .inl ⟨r0,hr,fG.lo⟩
  ·exact dW.rows h.2 x hx
 |[],_::_,h,_,_=>h.elim
 |_::_,[],h,_,_=>h.elim
theorem YE(l:List Fact)(hf:∀f∈l,f.fits)(hv:∀f∈l,j6 f=0)(hl:l.length≤200):bT prog 176 [iX l] [] (.s (.mp 99)) [(99,.dm (FF l) (gJ l l.length).length)]:=by
 refine gL func176 rfl rfl call176 aJ rfl rfl rfl rfl (fun cx aA=>AW.CD ?_)
 have aA:cx.ref=[]:=aA
 refine sA aA [] fun _ h'=>?_
 refine sA aA [] fun _ h'=>?_
 refine bN.seq (bN.region (bH.op rfl (nE.mk (e:=254) (s:=14) rfl rfl dC fun bm=>bH.some (rc:=[]) aJ 1 aA [18,3] rfl rfl (bH.nil ?_))))
 refine bN.seq (sA aA [18,3] fun _ h'=>?_)
 refine bN.block ?_
 refine bN.loop (S:=Nat×HM) (fun s=>⟨[(3,.s (.ptr 3 0)),(4,dH s.2.bm),(20,iX l),(21,vI l.length),(22,vI s.1)],[(3,some (.cells [.mp 18])),(18,some (.smap .int (o9 l s.1)))]⟩) (fun s=>hid 254 14 s.2) (J1 l) (fun s=>l.length - s.1) (0,⟨bm,[],0,none⟩) ⟨Nat.zero_le _,trivial,rfl,rfl⟩ ?_ ?_
 ·exact HSub.of (eS.of [] (by rw[aA];rfl) rfl ⟨bQ,bQ,oO⟩ ⟨qZ,qZ,qZ,qZ,qZ,oO⟩)
 ·rintro⟨i,h⟩ ⟨hi,ha,iQ,hit⟩
  have hi:i≤l.length:=hi
  have ha:dW h.l (gJ l i):=ha
  have iQ:h.clock=(gJ l i).length:=iQ
  have hit:h.it=none:=hit
  refine sA aA [3,18] fun _ h'=>?_
  refine bN.seq (bN.cond ?_)
  refine aI (fun g=>bN.skip ?_) (fun g=>bN.exit ?_)
  ·have g:(i:Int)<l.length:=bL g
   have bK:i<l.length:=oM
   have hg:l.getD i default=l[i]:=a7 bK
   have o7:(l.getD i default).fits:=by rw[hg];exact hf _ (List.getElem_mem bK)
   have GM:j6 (l.getD i default)=0:=by rw[hg];exact hv _ (List.getElem_mem bK)
   have hG:=WE bK
   have hE:=sV bK
   have ew:aV ((i:Int)+1)=((i+1:Nat):Int):=aG oM oM
   generalize hF:l.getD i default=f at o7 GM hG hE
   refine bN.seq (bN.block ?_)
   refine sA aA [3,18] fun _ h'=>?_
   refine oi ⟨oM,oM⟩ ?_
   refine bN.sub (σ':=⟨[(3,.s (.ptr 3 0)),(4,dH h.bm),(6,.s (.ptr 6 0)),(20,iX l),(21,vI l.length),(22,vI i)],[(3,some (.cells [.mp 18])),(18,some (.smap .int (o9 l i))),(6,some (.cells (IM f)))]⟩) (HSub.of (eS.of [] (by rw[aA];rfl) rfl ⟨bQ,bQ,⟨rfl,aZ.of_eq (by rw[←hF];rfl)⟩,oO⟩ ⟨qZ,qZ,qZ,qZ,qZ,qZ,oO⟩)) ?_
   refine sA aA [3,18,6] fun _ h'=>?_
   refine aB (Key f o7) ?_
   refine bN.seq (sA aA [3,18,6] fun _ h'=>?_)
   refine aB (XM (lI f) wdB) ?_
   refine sA aA [3,18,6] fun _ h'=>?_
   refine bN.cond ?_
   refine aI (fun g2=>?_) (fun g2=>?_)
   ·have g2:OI f=true:=g2
    have hG2:o9 l (i+1)=iY (o9 l i) (bs (Lib.trimPrefix (lI f) wdB)) (mm true (iO (o9 l i) (bs (Lib.trimPrefix (lI f) wdB))) (aV (f.seq+1))):=by rw[hG];unfold stepG;rw[g2];rfl
    have RY:gJ l (i+1)=gJ l i:=by rw[hE];unfold C6;rw[g2];rfl
    refine eA aA [3,18,6] fun _ h'=>?_
    refine eA aA [3,18,6] fun _ h'=>?_
    refine⟨(i+1,h),⟨by show i+1≤l.length;omega,by rw[RY];exact ha,by rw[RY];exact iQ,hit⟩,by show l.length - (i+1)<l.length - i;omega,?_⟩
    exact(HSub.of (eS.of [] (by rw[aA];rfl) rfl ⟨bQ,⟨rfl,aZ.of_eq (by show jE.smap .int _=jE.smap .int (o9 l (i+1));rw[hG2])⟩,oO⟩ ⟨qZ,qZ,qZ,qZ,⟨rfl,aU.int ew⟩,oO⟩))
   ·have g2:OI f=false:=g2
    have hG2:o9 l (i+1)=o9 l i:=by rw[hG];unfold stepG;rw[g2];rfl
    have RY:gJ l (i+1)=oT (gJ l i) (lI f) (kO f):=by rw[hE];unfold C6;rw[g2];rfl
    refine bN.skip ?_
    refine sA aA [3,18,6] fun _ h'=>?_
    refine aB (aDQ f o7) ?_
    refine bN.sub (σ':=⟨[(3,.s (.ptr 3 0)),(4,dH h.bm),(7,vT (lI f)),(11,.s (.ptr 11 0)),(12,vT (kO f)),(20,iX l),(21,vI l.length),(22,vI i)],[(3,some (.cells [.mp 18])),(18,some (.smap .int (o9 l i))),(11,some (.cells (IM (eF f))))]⟩) (HSub.of (eS.of [] (by rw[aA];rfl) rfl ⟨bQ,bQ,bQ,oO⟩ ⟨qZ,qZ,qZ,qZ,qZ,qZ,qZ,qZ,oO⟩)) ?_
    refine bN.region (bH.some (rc:=[]) aJ 4 aA [3,18,11] rfl rfl (bH.op rfl (nE.look (k:=bs (lI f)) rfl rfl dC rfl rfl rfl underlying250 underlying9 zeroValue255 ?_)))
    cases yJ:fE (gJ l i) (lI f) 0 with
    |none=>
     have sN:=sR ha yJ
     rw[sN]
     refine bH.some (rc:=[]) aJ 5 aA [3,18,11] rfl rfl ?_
     refine ob dC ?_
     refine ob dC ?_
     refine bH.op rfl (nE.X8 (b:=60) (k:=bs (lI f)) (n:=1) (n':=1) (lo:=0) aA rfl rfl rfl rfl (.inl ⟨rfl,rfl,rfl⟩) rfl dC underlying250 underlying9 (fun _=>hit) (fun g cap v=>bH.nil ?_))
     generalize oN:(⟨g,0+1,cap,0,_⟩:mB)=row
     have oP:uY row [kO f]:=by
      subst oN
      refine⟨rfl,rfl,fun a c ha hc=>?_⟩
      obtain rfl:a=0:=by have:a<1:=ha;omega
      exact toldRow f c hc
     obtain⟨s1,s2,s3,s4⟩:=KV (v:=v) ha iQ sN oP sM
     have GW:oT (gJ l i) (lI f) (kO f)=gJ l i++ [(lI f,[kO f],(gJ l i).length)]:=by unfold oT;rw[yJ]
     refine bN.sub (σ':=⟨[(3,.s (.ptr 3 0)),(4,dH h.bm),(20,iX l),(21,vI l.length),(22,vI i)],[(3,some (.cells [.mp 18])),(18,some (.smap .int (o9 l i)))]⟩) (HSub.of (eS.of [] (by rw[aA];rfl) rfl ⟨bQ,bQ,oO⟩ ⟨qZ,qZ,qZ,qZ,qZ,oO⟩)) ?_
     refine eA aA [3,18] fun _ h'=>?_
     refine⟨(i+1,eG h (bs (lI f)) v (some row)),⟨by show i+1≤l.length;omega,by rw[RY,GW];exact s1,by rw[RY,GW,List.length_append];exact s3,s4.trans hit⟩,by show l.length - (i+1)<l.length - i;omega,?_⟩
     exact(HSub.of (eS.of [] (by rw[aA];rfl) rfl ⟨bQ,⟨rfl,aZ.of_eq (by show jE.smap .int _=jE.smap .int (o9 l (i+1));rw[hG2])⟩,oO⟩ ⟨qZ,⟨rfl,aU.of_eq (by show dH h.bm=dH (eG h (bs (lI f)) v (some row)).bm;rw[s2])⟩,qZ,qZ,⟨rfl,aU.int ew⟩,oO⟩))
    |some p=>
     obtain⟨j,e⟩:=p
     obtain⟨q,sN,hq⟩:=pH ha yJ
     have sN:cY h.l (bs (lI f)) 0=some (j,q):=sN
     obtain⟨_,EK,hek⟩:=zC yJ
     have EK:(gJ l i)[j]? =some e:=EK
     obtain⟨r,V8,oP⟩:=hq.row
     have hsm:=nO (l:=l) (i:=i) (List.mem_of_getElem? EK)
     rw[sN]
     show match q.row with|some r=>_|none=>_
     rw[V8]
     obtain⟨g,n,cap,lo,F⟩:=r
     obtain rfl:lo=0:=oP.lo
     obtain rfl:n=e.2.1.length:=oP.n
     have hFF:∀a c,a<e.2.1.length→c<14→aL (F a c) (dN e.2.1 a c):=oP.f
     refine bH.some (rc:=[]) aJ 5 aA [3,18,11,55] rfl rfl ?_
     refine ob (show(e.2.1.length+1)*160≤140737488355328 by omega) ?_
     refine ob (nZ fun c hc=>aB0 f c hc) ?_
     refine bH.op rfl (nE.X8 (b:=60) (k:=bs (lI f)) (n:=e.2.1.length+1) (n':=e.2.1.length+1) (lo:=0) aA rfl rfl rfl rfl (.inl ⟨rfl,rfl,rfl⟩) rfl (Nat.succ_pos _) underlying250 underlying9 (fun _=>hit) (fun g2 PZ v=>bH.nil ?_))
     generalize oN:(⟨g2,0+(e.2.1.length+1),PZ,0,_⟩:mB)=row
     have OT:uY row (e.2.1++ [kO f]):=by
      subst oN
      refine⟨rfl,sM,fun a c hA hc=>?_⟩
      by_cases hae:a<e.2.1.length
      ·rw[show dN (e.2.1++ [kO f]) a c=dN e.2.1 a c by
        unfold dN
        simp only [List.getD_eq_getElem?_getD,List.getElem?_append_left hae]]
       show aL (k7 e.2.1.length F _ a c) _
       rw[UL hae]
       exact hFF a c hae hc
      ·obtain rfl:a=e.2.1.length:=by simp at hA;omega
       rw[show dN (e.2.1++ [kO f]) e.2.1.length c=lN (kO f) c by
        unfold dN
        simp]
       show aL (k7 e.2.1.length F _ e.2.1.length c) _
       rw[UM]
       exact toldRow f c hc
     obtain⟨s1,s2,s3,s4⟩:=xP (v:=v) ha sN OT sM
     have GW:oT (gJ l i) (lI f) (kO f)=(gJ l i).modify j fun e'=>(e'.1,e.2.1++ [kO f],e'.2.2):=by
      unfold oT
      rw[yJ]
      show(gJ l i).modify j _=(gJ l i).modify j _
      apply List.ext_getElem?
      intro a
      rw[List.getElem?_modify,List.getElem?_modify]
      by_cases hja:j=a
      ·subst hja
       rw[EK];rfl
      ·simp[hja]
     refine bN.sub (σ':=⟨[(3,.s (.ptr 3 0)),(4,dH h.bm),(20,iX l),(21,vI l.length),(22,vI i)],[(3,some (.cells [.mp 18])),(18,some (.smap .int (o9 l i)))]⟩) (HSub.of (eS.of [] (by rw[aA];rfl) rfl ⟨bQ,bQ,oO⟩ ⟨qZ,qZ,qZ,qZ,qZ,oO⟩)) ?_
     refine eA aA [3,18] fun _ h'=>?_
     refine⟨(i+1,eG {h with l:=cP h.l j} (bs (lI f)) v (some row)),⟨by show i+1≤l.length;omega,by rw[RY,GW];exact s1,by rw[RY,GW,List.length_modify];exact s3.trans iQ,s4.trans hit⟩,by show l.length - (i+1)<l.length - i;omega,?_⟩
     exact(HSub.of (eS.of [] (by rw[aA];rfl) rfl ⟨bQ,⟨rfl,aZ.of_eq (by show jE.smap .int _=jE.smap .int (o9 l (i+1));rw[hG2])⟩,oO⟩ ⟨qZ,⟨rfl,aU.of_eq (by show dH h.bm=dH (eG {h with l:=cP h.l j} (bs (lI f)) v (some row)).bm;rw[s2])⟩,qZ,qZ,⟨rfl,aU.int ew⟩,oO⟩))
  ·have g:¬(i:Int)<l.length:=bG g
   obtain rfl:i=l.length:=oM
   refine bN.sub (σ':=⟨[(3,.s (.ptr 3 0)),(4,dH h.bm)],[(3,some (.cells [.mp 18])),(18,some (.smap .int (o9 l l.length)))]⟩) (HSub.of (eS.of [] (by rw[aA];rfl) rfl ⟨bQ,bQ,oO⟩ ⟨qZ,qZ,oO⟩)) ?_
   refine U6 aA (o9 l l.length) (gJ l l.length) (uA l _) (fun e he=>Nat.le_trans (nO he) hl) h ha iQ _ (fun h2 ha2 HY=>?_)
   refine bN.sub (HSub.aCH (x:=99) (t:=2) ha2.rows rfl rfl) ?_
   refine bN.sub (σ':=⟨[(2,.s (.mp 99))],[(99,some (.dm (FF l) (gJ l l.length).length))]⟩) (HSub.of (eS.of [] (by rw[aA];rfl) rfl ⟨⟨rfl,aZ.dm HY ha2.le⟩,oO⟩ ⟨qZ,oO⟩)) ?_
   refine bN.ret ?_
   exact⟨aU.rfl,rfl,oO⟩
end Go.Pj
namespace Go.Pj
open Go Go.Ax Go.Ch Go.Proofs Go.Proofs.Tryz Go.Sort Go.RowKit
theorem LV{w:World}{g n:Nat}{os:Array Obj}{cur:Array Value}{e:TypeId}{fr:Nat×Nat}(d:Array b9)(hb:w.heap[g]? =some (.cells cur e fr)):
  (grow (putRow encStr (Sort.ahead w n) g 0 d) os).heap[g]? =some (.cells (putCells encStr 0 d cur) e fr):=by
 have hg:g<w.heap.size:=(Array.getElem?_eq_some_iff.1 hb).1
 rw[heap_grow_old _ _ (by simpa using hg)]
 simp[putRow,mapBlock,Sort.ahead,Array.getElem?_modify,hb,onCells]
theorem y2{w:World}{g n k:Nat}{os:Array Obj}(d:Array b9)(hk:k<w.heap.size)(h:k≠g):
  (grow (putRow encStr (Sort.ahead w n) g 0 d) os).heap[k]? =w.heap[k]? :=by
 rw[heap_grow_old _ _ (by simpa using hk)]
 simp[putRow,mapBlock,Sort.ahead,Array.getElem?_modify,Ne.symm h]
theorem IA{cur:Array Value}{m:List b9}{i:Nat}(hi:i<m.length)(hc:i<cur.size):(putCells encStr 0 m.toArray cur)[i]? =some (.string (bs (m.getD i []))):=by
 unfold putCells
 rw[Array.getElem?_mapIdx]
 simp[hc,hi,encStr,bs]
theorem wE(l:List b9):(mI l).length=l.length:=by unfold mI;simp
theorem aLC(l:List b9)(f0:Nat→Nat→DV)(T2:∀i j,i<l.length→j<1→aL (f0 i j) (tG l i j))(hl:l.length≤1000000):
  bT prog 223 [.s (.own 1001)] [(1001,.row 9 l.length 1 f0)] (.t []) [(1001,.row 9 l.length 1 (tG (mI l)))]:=by
 refine⟨call223,fun M β w vs _ hr hM qP hβ=>?_⟩
 obtain⟨b,c,cur,hx,h1,h2,h3,h4,h5,h6⟩:=qP.rep 1001 _ (List.mem_singleton.2 rfl)
 match vs,hr with
 |[v],⟨hv,_⟩=>
  obtain⟨b',c',OP,TZ,O1⟩:=hv
  rw[hx]at OP
  cases OP
  subst TZ
  have l5:cur.size=c.1:=by rw[h3,Nat.mul_one]
  have cR:∀j,j<l.length→cur[j]? =some (.string (bs (l.getD j []))):=by
   intro j hj
   obtain⟨u,e1,e2⟩:=h6 j 0 hj dC
   rw[Nat.mul_one,Nat.add_zero]at e1
   have:u=.string (bs (l.getD j [])):=T2 j 0 hj dC M u e2
   rw[e1,this]
  have hH:Holds encStr w b 0 l.toArray:=by
   intro j hj
   have hj:j<l.length:=by simpa using hj
   refine⟨?_,by simp[World.frozen?,h1]⟩
   simp only [World.cell?,h1,Nat.zero_add,Option.isSome_none,Bool.false_eq_true,if_false]
   rw[cR j hj]
   simp[hj,encStr,bs]
  have hb:b<w.heap.size:=(Array.getElem?_eq_some_iff.1 h1).1
  rw[h2]
  refine(Tryz.slices_Sort_string b 0 c.1 l w hH hb oM).mono ?_
  rintro e w' ⟨he,n,os,hw⟩
  have hw:w'=grow (putRow encStr (Sort.ahead w n) b 0 (mI l).toArray) os:=hw
  have hlen:(mI l).length=l.length:=wE l
  have oN:=LV (w:=w) (n:=n) (os:=os) (mI l).toArray h1
  have Z9:∀k,k<w.heap.size→k≠b→w'.heap[k]? =w.heap[k]? :=fun k hk gI=>by rw[hw];exact y2 _ hk gI
  rw[←hw]at oN
  have hs:w.heap.size≤w'.heap.size:=by rw[hw];simp[putRow,mapBlock,Sort.ahead]
  have iF:∀x,x∈names [(1001,jE.row 9 l.length 1 (tG (mI l)))]→x=1001:=fun x hx=>List.mem_singleton.1 hx
  refine⟨.tuple #[],M,β,he,Nm.le_refl β,⟨[],rfl,oO⟩,Grow.refl _ _,?_,⟨?_,?_,?_,?_⟩,?_,?_,?_,?_,hs,?_,oO⟩
  ·intro b2 o u hu
   have gI:b2≠b:=fun h=>by
    subst h
    have:=qP.apart 1001 b2 c (List.mem_singleton.2 rfl) hx o
    rw[this]at hu;cases hu
   have hold:=hM b2 o u hu
   have hb2:b2<w.heap.size:=World.block_lt_of_cell? w ⟨b2,o,none⟩ hold
   simp only [World.cell?]at hold ⊢
   rw[Z9 b2 hb2 gI]
   exact hold
  ·intro x h
   rw[iF x h];exact⟨b,c,hx⟩
  ·intro x bx h
   obtain⟨rfl,rfl⟩:=Prod.mk.inj (List.mem_singleton.1 h)
   refine⟨b,c,_,hx,oN,h2,by simp[putCells,h3],h4,h5,fun i j hi hj=>?_⟩
   obtain rfl:j=0:=oM
   refine⟨.string (bs ((mI l).getD i [])),?_,rfl⟩
   rw[Nat.mul_one,Nat.add_zero]
   exact IA oM oM
  ·intro x y b1 c1 c2 hx1 hy1 _ _
   rw[iF x hx1,iF y hy1]
  ·intro x b1 c1 h e o
   rw[iF x h]at e
   rw[hx]at e
   cases e
   exact qP.apart 1001 b c (List.mem_singleton.2 rfl) hx o
  ·intro x b1 c1 h e
   rw[iF x h]at e
   exact .inr ⟨1001,c1,e⟩
  ·rw[hw];rfl
  ·rw[hw];rfl
  ·rw[hw];rfl
  ·intro k hk gI
   exact Z9 k hk (fun h=>gI 1001 c (by rw[h];exact hx))
 |[],h=>exact h.elim
 |_::_::_,h=>exact h.2.elim
theorem aBU:aF prog 223 [.s (.d (.val (.slice none 0 0)))] (.t []):=by
 refine⟨call223,fun M w vs _ hr hM=>?_⟩
 match vs,hr with
 |[v],⟨hv,_⟩=>
  have hv:v=.slice none 0 0:=hv
  subst hv
  refine(Tryz.slices_Sort_string_none none 0 w).mono ?_
  rintro e w' ⟨he,rfl⟩
  exact⟨.tuple #[],M,he,⟨[],rfl,oO⟩,Grow.refl _ _,hM,⟨⟨rfl,rfl,rfl,Nat.le_refl _,fun _ _=>rfl⟩,oO⟩⟩
 |[],h=>exact h.elim
 |_::_::_,h=>exact h.2.elim
abbrev MT:=ByteArray×Nat×DV
def kT(q:MT):b9:=q.1.data.toList
def OE(L:List MT):List b9:=mI (L.map kT)
structure DOK(L:List MT)(n:Nat):Prop where
 lt:∀q∈L,q.2.1<n
 nd:(L.map (·.2.1)).Nodup
theorem born_inj{L:List MT}(hn:(L.map (·.2.1)).Nodup){q v:MT}(hq:q∈L)(hv:v∈L)(h:q.2.1=v.2.1):q=v:=by
 induction L with
 |nil=>cases hq
 |cons a r ih=>
  have hn':=List.nodup_cons.1 (show(a.2.1::r.map (·.2.1)).Nodup from hn)
  rcases List.mem_cons.1 hq with rfl|hq'
  ·rcases List.mem_cons.1 hv with rfl|TZ
   ·rfl
   ·exact absurd (List.mem_map.2 ⟨v,TZ,h.symm⟩) hn'.1
  ·rcases List.mem_cons.1 hv with rfl|TZ
   ·exact absurd (List.mem_map.2 ⟨q,hq',h⟩) hn'.1
   ·exact ih hn'.2 hq' TZ
theorem F1{L:List MT}(hn:(L.map (·.2.1)).Nodup):L.Nodup:=by
 have:=List.pairwise_map.1 hn
 exact this.imp fun {a b} h e=>h (by rw[e])
theorem all_seen{L vs:List MT}(hn:(L.map (·.2.1)).Nodup)(hv:(vs.map (·.2.1)).Nodup)(hs:∀v∈vs,v∈L)(ha:∀q∈L,q.2.1∈vs.map (·.2.1)):vs.Perm L:=by
 have n1:vs.Nodup:=F1 hv
 have n2:L.Nodup:=F1 hn
 refine(List.perm_ext_iff_of_nodup n1 n2).2 fun q=>⟨hs q,fun hq=>?_⟩
 obtain⟨v,TZ,e⟩:=List.mem_map.1 (ha q hq)
 rw[born_inj hn hq (hs v TZ) e.symm];exact TZ
theorem U7{a b:List b9}(h:a.Perm b):mI a=mI b:=by
 refine(wD b (mI a) ((List.mergeSort_perm _ _).trans h) ?_)
 have:=List.pairwise_mergeSort (le:=fun x y:b9=>decide (x≤y)) (fun a b c h1 h2=>by
  simp only [decide_eq_true_eq]at*;exact List.le_trans h1 h2) (fun a b=>by
  simp only [Bool.or_eq_true,decide_eq_true_eq];exact List.le_total a b) a
 refine this.imp fun {x y} h=>?_
 rw[ltB,decide_eq_false_iff_not]
 exact List.not_lt.2 (by simpa using h)
theorem QS(L:List MT)(n:Nat)(h:DOK L n)(hl:L.length≤1000000):bT prog 177 [.s (.mp 1001)] [(1001,.dm L n)] (.s (.d (XZ (OE L)))) [(1001,.dm L n)]:=by
 refine kP func177 rfl rfl call177 aJ rfl rfl rfl rfl (fun cx aA=>?_)
 refine sX aA ?_
 refine sX aA ?_
 refine AW.seq (sX aA ?_)
 refine AW.block ?_
 refine AW.cV (fun vs:List MT=>⟨[(3,.s (.mo (vs.reverse.map kT).isEmpty 100)),(6,.s (.ptr 6 0))],[(1001,some (.dm L n)),(6,some (.iter 1001 n (vs.map (·.2.1)))),(100,some (.cA 9 (vs.reverse.map kT).length 1 (tG (vs.reverse.map kT))))]⟩)
  (fun vs=>(vs.map (·.2.1)).Nodup∧∀v∈vs,v∈L) (fun vs=>L.length - vs.length) [] ⟨List.nodup_nil,fun _ h=>by cases h⟩ ?_ ?_
 ·exact aS.of [(100,1000)] (by rw[aA];rfl) rfl ⟨bQ,bQ,⟨rfl,rfl⟩,oO⟩ ⟨⟨rfl,aU.nil rfl⟩,qZ,oO⟩
 ·rintro vs ⟨hv,hs⟩
  refine sX aA ?_
  refine⟨rfl,h.lt,fun kM=>?_,fun q hq hns=>?_⟩
  ·have hp:=all_seen h.nd hv hs kM
   have he:mI (vs.reverse.map kT)=OE L:=U7 (((List.reverse_perm vs).trans hp).map kT)
   have hlen:(vs.reverse.map kT).length=L.length:=by simp[hp.length_eq]
   refine sX aA ?_
   generalize hks:vs.reverse.map kT=ks at he hlen
   cases hz:ks.isEmpty with
   |true=>
    refine AW.gG (σ':=⟨[(3,.s (.d (.val (.slice none 0 0))))],[(1001,some (.dm L n))]⟩) (aS.of [] (by rw[aA];rfl) rfl ⟨bQ,oO⟩ ⟨⟨rfl,aU.aD6 rfl⟩,oO⟩) ?_
    refine sX aA ?_
    refine aB (aBU) ?_
    refine eX aA ?_
    have:ks=[]:=by simpa using hz
    refine⟨?_,rfl,oO⟩
    rw[←he,this,show mI []=[] by simp[mI]]
    exact fun M u r=>(aU.d aL.nil:aU (.s (.d eK)) (.s (.d (XZ [])))) M nb u r
   |false=>
    refine AW.gG (aS.own (z:=false) (e:=9) (n:=ks.length) (s:=1) (f:=tG ks) 3 100 rfl rfl rfl) ?_
    refine AW.gG (σ':=⟨[(3,.s (.own 100))],[(1001,some (.dm L n)),(100,some (.row 9 ks.length 1 (tG ks)))]⟩) (aS.of [] (by rw[aA];rfl) rfl ⟨bQ,bQ,oO⟩ ⟨qZ,oO⟩) ?_
    refine AW.seq (ex.sound (rc:=[223]) aJ mix aA _ ?_)
    refine⟨[(1001,100)],_,_,_,_,aLC ks (tG ks) (fun _ _ _ _=>fun _ _ r=>r) oM,rfl,⟨rfl,oO⟩,rfl,?_⟩
    refine eX aA ?_
    refine⟨aC.of_eq ?_,rfl,oO⟩
    rw[he,show ks.length=(OE L).length by rw[←he,wE]]
    rfl
  ·have fR:vs.length<L.length:=by
    have h1:(q::vs).Nodup:=F1 (L:=q::vs) (List.nodup_cons.2 ⟨hns,hv⟩)
    have:=List.Nodup.length_le_of_subset h1 (fun x hx=>by
     rcases List.mem_cons.1 hx with rfl|hx
     ·exact hq
     ·exact hs x hx:q::vs⊆L)
    simp at this
    omega
   refine sX aA ?_
   refine AW.block (sX aA ?_)
   refine⟨rfl,h.nd,q,hq,rfl,?_⟩
   refine eX aA ?_
   refine ob dC ?_
   refine ob (by rw[eL];show((vs.reverse.map kT).length+1)*16≤_;simp;omega) ?_
   refine ob (nZ (AN rfl)) ?_
   refine⟨q::vs,⟨List.nodup_cons.2 ⟨hns,hv⟩,fun x hx=>?_⟩,by show L.length - (vs.length+1)<L.length - vs.length;omega,?_⟩
   ·rcases List.mem_cons.1 hx with rfl|hx
    ·exact hq
    ·exact hs x hx
   ·have e:(q::vs).reverse.map kT=vs.reverse.map kT++ [kT q]:=sM
    refine aS.of [(100,14)] (by rw[aA];rfl) rfl ⟨bQ,bQ,⟨rfl,?_⟩,oO⟩ ⟨⟨rfl,aU.mo ?_⟩,qZ,oO⟩
    ·show aZ _ (.cA 9 ((q::vs).reverse.map kT).length 1 (tG ((q::vs).reverse.map kT)))
     rw[e]
     exact aZ.snoc (el:=fun n _=>dT n) (x:=kT q) (AN rfl)
    ·rw[e];exact cG _ _
end Go.Pj
namespace Go.Pj
open Go Go.Ax Go.Ch Go.Proofs Go.Proofs.Tryz
theorem T6(G:List (ByteArray×Int))(E:List gF):O8 G E=fB G E (E.map (·.2.2)):=by
 refine(KC fun e he=>?_).symm
 obtain⟨e',CM,_,hb⟩:=nN he
 rw[hb]
 simpa using⟨_,_,CM⟩
theorem U4(l:List Fact):((tI l).map (·.1)).Nodup:=by
 unfold tI;rw[T6];exact zF (uA l _).keys
theorem aB6(l:List Fact):((tI l).map (·.2.2)).Nodup:=by
 unfold tI;rw[T6];exact w7 (uA l _).nodup
theorem FG{l:List Fact}{x:gF}(h:x∈tI l):∃e∈gJ l l.length,x.1=e.1∧x.2.2=e.2.2∧x.2.1=uP (o9 l l.length) e.1 e.2.1∧x.2.1≠[]:=by
 obtain⟨e,he,hx⟩:=List.mem_filterMap.1 h
 unfold zR at hx
 cases hk:(fZ (o9 l l.length) e.1 e.2.1).isEmpty with
 |true=>rw[hk]at hx;cases hx
 |false=>
  rw[hk]at hx
  cases hx
  refine⟨e,he,rfl,rfl,rfl,aA0 fun hz=>?_⟩
  have:fZ (o9 l l.length) e.1 e.2.1=[]:=by
   rw[←List.length_eq_zero_iff,←wE,hz];rfl
  rw[this]at hk;cases hk
theorem NB{l:List Fact}{x:gF}(h:x∈tI l):0<x.2.1.length∧x.2.1.length≤l.length:=by
 obtain⟨e,he,_,_,hp,gI⟩:=FG h
 refine⟨List.length_pos_iff.2 gI,?_⟩
 rw[hp]
 refine Nat.le_trans (aDK _ _) ?_
 rw[wE]
 exact Nat.le_trans (List.length_filter_le _ _) (nO he)
theorem aB3(l:List Fact):DOK (FF l) (gJ l l.length).length:=by
 refine⟨fun q hq=>?_,?_⟩
 ·obtain⟨x,hx,rfl⟩:=List.mem_map.1 hq
  obtain⟨e,he,_,hb,_⟩:=FG hx
  obtain⟨i,hi⟩:=List.getElem?_of_mem he
  show x.2.2<_
  rw[hb,(uA l _).born i e hi]
  exact(List.getElem?_eq_some_iff.1 hi).1
 ·unfold FF L3
  rw[List.map_map]
  exact aB6 l
theorem WJ(E:List gF):(L3 E).map kT=E.map (·.1):=by
 unfold L3
 rw[List.map_map]
 exact List.map_congr_left fun e _=>BL e.1
theorem J7:∀(E:List gF) (k:b9) (i:Nat),findD (L3 E) (bs k)=(fE E k i).map fun p=>aA2 p.2.2.1
 |[],_,_=>rfl
 |e::r,k,i=>by
  show(bif bs k==bs e.1 then _ else _)=_
  rw[fE]
  have:(bs k==bs e.1)=(k==e.1):=uG k e.1
  rw[this]
  cases k==e.1 with
  |true=>rfl
  |false=>exact J7 r k (i+1)
def F7(E:List gF)(k:b9):b9:=match fE E k 0 with
 |some p=>p.2.2.1.getD (p.2.2.1.length - 1) []
 |none=>[]
def qN(l:List Fact):List b9:=mI ((tI l).map (·.1))
theorem aB4(l:List Fact):OE (FF l)=qN l:=by unfold OE qN FF;rw[WJ]
def cntF(l:List Fact):List Fact:=(qN l).map fun k=>uN (F7 (tI l) k)
theorem I9{l:List Fact}{k:b9}(h:k∈qN l):∃j e,fE (tI l) k 0=some (j,e)∧e∈tI l:=by
 have h1:k∈(tI l).map (·.1):=(List.mergeSort_perm _ _).mem_iff.1 h
 obtain⟨e,he,rfl⟩:=List.mem_map.1 h1
 obtain⟨j,hj⟩:=List.getElem?_of_mem he
 exact⟨_,e,aAN (U4 l) hj,he⟩
theorem aBR(E:List gF)(k t:b9):(oT E k t).length≤E.length+1:=by
 unfold oT
 split <;> simp
theorem zG(l:List Fact):∀i,(gJ l i).length≤i
 |0=>Nat.le_refl _
 |i+1=>by
  have ih:=zG l i
  by_cases h:i<l.length
  ·rw[sV h]
   unfold C6
   cases OI (l.getD i default)with
   |true=>exact Nat.le_trans ih (Nat.le_succ _)
   |false=>exact Nat.le_trans (aBR _ _ _) oM
  ·have:gJ l (i+1)=gJ l i:=by
    unfold gJ
    rw[List.take_of_length_le oM,List.take_of_length_le oM]
   rw[this];omega
theorem NA(l:List Fact):(qN l).length≤l.length:=by
 unfold qN
 rw[wE,List.length_map]
 refine Nat.le_trans (List.length_filterMap_le _ _) (zG l l.length)
theorem aDM(l:List Fact)(hf:∀f∈l,f.fits)(hv:∀f∈l,j6 f=0)(hl:l.length≤200):aF prog 118 [iX l] (iX (cntF l)):=by
 refine eW func118 rfl rfl call118 rfl rfl (fun cx aA=>?_)
 refine sX aA ?_
 refine AW.seq (ex.sound (rc:=[176]) aJ mix aA _ ?_)
 refine⟨[(99,8)],_,_,_,_,YE l hf hv hl,rfl,trivial,rfl,?_⟩
 refine sX aA ?_
 refine AW.seq (AW.seq (ex.sound (rc:=[177]) aJ mix aA _ ?_))
 refine⟨[(1001,8)],_,_,_,_,QS (FF l) _ (aB3 l) (by
  show(L3 (tI l)).length≤_
  unfold L3
  rw[List.length_map]
  have:=zG l l.length
  have:=List.length_filterMap_le (zR (o9 l l.length)) (gJ l l.length)
  show(O8 _ _).length≤_
  unfold O8
  omega),rfl,⟨rfl,oO⟩,rfl,?_⟩
 rw[aB4]
 have QI:=NA l
 refine AW.block ?_
 refine AW.cV (fun i:Nat=>⟨[(3,.s (.mp 8)),(4,.s (.mo ((cntF l).take i).isEmpty 100)),(10,.s (.d (XZ (qN l)))),(11,vI (qN l).length),(12,vI i)],[(8,some (.dm (FF l) (gJ l l.length).length)),(100,some (.cA 40 ((cntF l).take i).length 13 (p9 ((cntF l).take i))))]⟩)
  (fun i=>i≤(qN l).length) (fun i=>(qN l).length - i) 0 (Nat.zero_le _) ?_ ?_
 ·exact aS.bO aA [(100,1000)] rfl ⟨bQ,⟨rfl,rfl⟩,oO⟩ ⟨qZ,⟨rfl,aU.nil rfl⟩,qZ,qZ,qZ,oO⟩
 ·intro i hi
  refine sX aA ?_
  refine AW.seq (AW.cond ?_)
  refine aI (fun g=>AW.skip ?_) (fun g=>AW.exit ?_)
  ·have g:(i:Int)<(qN l).length:=bL g
   have bK:i<(qN l).length:=oM
   generalize hk:(qN l).getD i []=k
   have jX:k∈qN l:=by rw[←hk,a7 bK];exact List.getElem_mem bK
   obtain⟨j,e,yJ,he⟩:=I9 jX
   have hfd:findD (FF l) (bs k)=some (aA2 e.2.1):=by
    show findD (L3 (tI l)) (bs k)=_
    rw[J7 _ _ 0,yJ];rfl
   obtain⟨hl1,hl2⟩:=NB he
   have ew:aV ((e.2.1.length:Int) - 1)=((e.2.1.length - 1:Nat):Int):=by
    rw[aG oM oM];omega
   have xU:(cntF l).length=(qN l).length:=by unfold cntF;simp
   have uT:(cntF l).getD i default=uN (e.2.1.getD (e.2.1.length - 1) []):=by
    rw[a7 oM]
    unfold cntF
    rw[List.getElem_map,←a7 (d:=[]) bK,hk]
    unfold F7
    rw[yJ]
   have ht1:(cntF l).take (i+1)=(cntF l).take i++ [(cntF l).getD i default]:=by
    rw[List.take_add_one,List.getElem?_eq_getElem oM,a7 oM];rfl
   have e1:aV ((i:Int)+1)=((i+1:Nat):Int):=aG oM oM
   refine AW.seq (AW.block (sX aA ?_))
   refine oi ⟨oM,oM⟩ ?_
   refine eX aA ?_
   refine fun r hr=>?_
   have hr:findD (FF l) (bs ((qN l).getD i []))=r:=hr
   rw[hk,hfd]at hr
   subst hr
   refine fun r hr=>?_
   have hr:findD (FF l) (bs ((qN l).getD i []))=r:=hr
   rw[hk,hfd]at hr
   subst hr
   refine oi (show 0≤aV ((e.2.1.length:Int) - 1)∧aV ((e.2.1.length:Int) - 1)<e.2.1.length by rw[ew];omega) ?_
   refine ob dC ?_
   refine ob (by rw[eL];show(((cntF l).take i).length+1)*144≤_;rw[List.length_take];omega) ?_
   refine ob (nZ fun c hc=>by match c,hc with|0,_|1,_|2,_|3,_|4,_|5,_|6,_|7,_|8,_|9,_|10,_|11,_|12,_=>rfl) ?_
   refine eX aA ?_
   refine⟨i+1,oM,oM,?_⟩
   refine aS.bO aA [(100,29)] rfl ⟨bQ,⟨rfl,?_⟩,oO⟩ ⟨qZ,⟨rfl,aU.mo ?_⟩,qZ,qZ,⟨rfl,aU.int e1⟩,oO⟩
   ·show aZ _ (.cA 40 ((cntF l).take (i+1)).length 13 (p9 ((cntF l).take (i+1))))
    rw[ht1,uT]
    have ewn:(aV ((e.2.1.length:Int) - 1)).toNat=e.2.1.length - 1:=by rw[ew];omega
    refine aZ.snoc (el:=R4) (x:=uN (e.2.1.getD (e.2.1.length - 1) [])) fun c hc=>?_
    rw[←ewn]
    match c,hc with|0,_|1,_|2,_|3,_|4,_|5,_|6,_|7,_|8,_|9,_|10,_|11,_|12,_=>rfl
   ·rw[ht1];exact cG _ _
  ·have g:¬(i:Int)<(qN l).length:=bG g
   obtain rfl:i=(qN l).length:=oM
   refine sX aA ?_
   refine eX aA ?_
   have xU:(cntF l).length=(qN l).length:=by unfold cntF;simp
   rw[←xU,List.take_length]
   exact aC.mo
abbrev lE(p:Proj)(fs:List Fact):List SV:=[.d (dS p.name),.d (dI p.aW.x),.d (dI p.aW.y),.d (dI p.aW.side),.d (dI p.aW.dL),.d (dI p.aW.rows),.d (cE p.aW.levels),.d (dS p.chan.name),.d (xC p.chan.aX),.d (dI p.chan.over),.d (dI p.chan.buffer),.d (yM p.chan.regions),.d (j8 p.gr.bE),.d (oY p.gr.b6),.d (dI p.agree),.d (dI p.eU),.d (BI p.cI),.d (PI p.cN),.d (qC p.aP),.d (oA p.a8),.d (UH fs)]
abbrev QP(p:Proj)(fs:List Fact):AV:=.g (lE p fs)
theorem DY{f:Fact→Int}:∀{l:List Fact},tU f l=0→∀x∈l,f x=0
 |[],_,x,h=>by cases h
 |a::r,he,x,h=>by
  rw[DZ]at he
  cases h0:(f a !=0)with
  |true=>
   rw[h0]at he
   have he:f a=0:=he
   rw[he]at h0;cases h0
  |false=>
   rw[h0]at he
   rcases List.mem_cons.1 h with rfl|h
   ·simpa using h0
   ·exact DY he x h
theorem UK{p:Proj}{f:Fact}(h:MX p f=0):j6 f=0∧tJ p f=false:=by
 unfold MX at h
 cases h1:(j6 f !=0)with
 |true=>
  rw[h1]at h
  have h:j6 f=0:=h
  rw[h]at h1;cases h1
 |false=>
  rw[h1]at h
  refine⟨by simpa using h1,?_⟩
  cases h2:tJ p f with
  |false=>rfl
  |true=>rw[h2]at h;cases h
structure FOK(p:Proj)(l:List Fact):Prop where
 proj:fJ p=0
 len:l.length≤200
 fmt:∀f∈l,j6 f=0
 shape:∀f∈l,tJ p f=false
theorem WK{p:Proj}{l:List Fact}(h:mU p l=0):FOK p l:=by
 unfold mU at h
 cases h1:(fJ p !=0)with
 |true=>
  rw[h1]at h
  have h:fJ p=0:=h
  rw[h]at h1;cases h1
 |false=>
  rw[h1]at h
  cases h2:decide ((l.length:Int)>200)with
  |true=>rw[h2]at h;cases h
  |false=>
   rw[h2]at h
   have hz:=DY (f:=MX p) (l:=l) h
   have h2:¬(l.length:Int)>200:=by simpa using h2
   exact⟨by simpa using h1,oM,fun f hf=>(UK (hz f hf)).1,fun f hf=>(UK (hz f hf)).2⟩
def F0(p:Proj)(l:List Fact)(month first:Int):Int:=bif mU p l !=0 then mU p l else bif !within month first 24 then 2 else 0
theorem FZ{p:Proj}{l:List Fact}{m f:Int}(h:F0 p l m f=0):FOK p l∧within m f 24=true:=by
 unfold F0 at h
 cases h1:(mU p l !=0)with
 |true=>
  rw[h1]at h
  have h:mU p l=0:=h
  rw[h]at h1;cases h1
 |false=>
  rw[h1]at h
  refine⟨WK (by simpa using h1),?_⟩
  cases h2:within m f 24 with
  |true=>rfl
  |false=>rw[h2]at h;cases h
theorem aCQ(p:Proj)(l:List Fact)(month first:Int)(hp:p.fits)(hf:∀f∈l,f.fits)(hl:l.length≤9223372036854775807)(he:F0 p l month first=0):
  aF prog 60 [vE p,iX l,vI month,vI first] (.t [.g (lE p (cntF l)),.s (.d (dI 0))]):=by
 obtain⟨hk,hw⟩:=FZ he
 have h1:mU p l=0:=by
  unfold F0 at he
  cases h1:(mU p l !=0)with
  |true=>rw[h1]at he;exact he
  |false=>simpa using h1
 refine eP func60 rfl rfl call60 rfl rfl fun cx aA=>?_
 refine aB (SH p l hp hf hl) ?_
 refine aI (fun h2=>?_) (fun _=>?_)
 ·have h2:(mU p l !=0)=true:=h2
  rw[h1]at h2;cases h2
 refine aB (lQ first 24 month rfl) ?_
 refine aI (fun h2=>?_) (fun _=>?_)
 ·have h2:within month first 24=false:=by simpa using h2
  rw[hw]at h2;cases h2
 refine aB (aDM l hf hk.fmt hk.len) ?_
 refine aD ?_
 exact aC.refl _
def svM(bM month:Int)(f:Fact):Bool:=f.kind==0&&f.bM==bM&&f.month==month
def XP(fs:List Fact)(bM month:Int):Int:=Ch.cJ (svM bM month) fs 0
def zW(fs:List Fact)(bM month:Int)(cell:Nat):Int:=
 bif decide (XP fs bM month<0)then 30000 else(fs.getD (XP fs bM month).toNat default).levels.getD cell 0
theorem aIB(f:Fact)(bM month:Int)(c d:Nat→DV)(hc:c 0=dI bM)(hd:d 0=dI month):aF prog 236 [p8 f,.s (.d (.rp 1 c)),.s (.d (.rp 1 d))] (vB (svM bM month f)):=by
 refine aF.conv (args:=[p8 f,.s (.d (.rp 1 fun _=>dI bM)),.s (.d (.rp 1 fun _=>dI month))]) ?_ ⟨⟨aL.refl _,aL.refl _,aL.refl _,aL.refl _,aL.refl _,aL.refl _,aL.refl _,aL.refl _,aL.refl _,aL.refl _,aL.refl _,aL.refl _,aL.refl _,oO⟩,aL.rp fun j hj=>aL.of_eq (by rw[show j=0 by omega];exact hc),aL.rp fun j hj=>aL.of_eq (by rw[show j=0 by omega];exact hd),oO⟩
 refine eP func236 rfl rfl call236 rfl rfl fun cx aA=>?_
 repeat refine aR ?_
 exact aC.refl _
theorem AU{α:Type} [Inhabited α] (q:α→Bool):∀(l:List α) (k:Nat),0≤Ch.cJ q l k→k≤(Ch.cJ q l k).toNat∧(Ch.cJ q l k).toNat - k<l.length∧q (l.getD ((Ch.cJ q l k).toNat - k) default)=true
 |[],k,h=>by simp[Ch.cJ]at h
 |x::r,k,h=>by
  unfold Ch.cJ at h ⊢
  cases hx:q x with
  |true=>simp[hx]
  |false=>
   rw[hx]at h
   obtain⟨h1,h2,h3⟩:=AU q r (k+1) h
   simp only [cond_false]at h ⊢
   refine⟨oM,by simp;omega,?_⟩
   rw[show(Ch.cJ q r (k+1)).toNat - k=((Ch.cJ q r (k+1)).toNat - (k+1))+1 by omega]
   exact h3
theorem aE7{fs:List Fact}{bM month:Int}(h:0≤XP fs bM month):(XP fs bM month).toNat<fs.length∧(fs.getD (XP fs bM month).toNat default).kind=0:=by
 obtain⟨_,h2,h3⟩:=AU (svM bM month) fs 0 h
 refine⟨h2,?_⟩
 have h3:svM bM month (fs.getD (XP fs bM month).toNat default)=true:=h3
 unfold svM at h3
 simp only [Bool.and_eq_true,beq_iff_eq]at h3
 exact h3.1.1
theorem FB(p:Proj)(fs:List Fact)(bM month:Int)(cell:Nat)(hl:fs.length≤9223372036854775807)
  (hc:∀f∈fs,f.kind=0→cell<f.levels.length):aF prog 184 [QP p fs,vI bM,vI month,vI cell] (vI (zW fs bM month cell)):=by
 refine eP func184 rfl rfl call184 rfl rfl fun cx aA=>?_
 refine aB (V2 fs hl 236 2 _ (svM bM month) (fun x _=>aIB x bM month _ _ rfl rfl)) ?_
 refine aI (fun h1=>?_) (fun h1=>?_)
 ·have h1:decide (XP fs bM month<0)=true:=h1
  exact aC.of_eq (by unfold zW;rw[h1];rfl)
 ·have h1:decide (XP fs bM month<0)=false:=h1
  have IJ:¬XP fs bM month<0:=by simpa using h1
  have fR:=aE7 (fs:=fs) (bM:=bM) (month:=month) oM
  refine oi ⟨by show 0≤XP fs bM month;omega,by show XP fs bM month<fs.length;omega⟩ ?_
  have hk:=hc _ (by rw[a7 fR.1];exact List.getElem_mem fR.1) fR.2
  refine oi (show(0:Int)≤(cell:Int)∧(cell:Int)<((fs.getD (XP fs bM month).toNat default).levels.length:Int) by omega) ?_
  exact aC.of_eq (by unfold zW;rw[h1];rfl)
def aF5(a b c:Int):Int:=mm true (mm false a b) (mm false (mm true a b) c)
theorem median(a b c:Int):aF prog 185 [vI a,vI b,vI c] (vI (aF5 a b c)):=by
 refine eP func185 rfl rfl call185 rfl rfl fun cx aA=>?_
 exact aC.refl _
def hI(p:Proj)(fs:List Fact)(month:Int)(cell:Nat):Int×Bool:=
 let a:=zW fs 0 month cell
 let b:=zW fs 1 month cell
 let c:=zW fs 2 month cell
 bif a==30000 then(b,false)else bif b==30000 then(a,false)
 else bif decide (aV (mm true a b - mm false a b)≤p.agree)then(aV (aV (Int.tdiv (aV (aV (aV (a+b)+40000)+1)) 2) - 20000),false)
 else bif c==30000 then(c,true)else(aF5 a b c,false)
theorem tM(p:Proj)(fs:List Fact)(month:Int)(cell:Nat)(hl:fs.length≤9223372036854775807)
  (hc:∀f∈fs,f.kind=0→cell<f.levels.length):aF prog 126 [QP p fs,vI month,vI cell] (.t [.s (.d (dI (hI p fs month cell).1)),.s (.d (.val (.bool (hI p fs month cell).2)))]):=by
 refine eP func126 rfl rfl call126 rfl rfl fun cx aA=>?_
 refine aB (FB p fs 0 month cell hl hc) ?_
 refine aB (FB p fs 1 month cell hl hc) ?_
 refine aD ?_
 generalize ha:zW fs 0 month cell=a
 generalize hb:zW fs 1 month cell=b
 generalize o8:zW fs 2 month cell=c
 refine aI (fun h1=>?_) (fun h1=>?_)
 ·have h1:(a==30000)=true:=h1
  have e:hI p fs month cell=(b,false):=by unfold hI;simp only [ha,hb,h1,cond_true]
  exact aC.ib (by rw[e]) (by rw[e])
 have h1:(a==30000)=false:=h1
 refine aI (fun h2=>?_) (fun h2=>?_)
 ·have h2:(b==30000)=true:=h2
  have e:hI p fs month cell=(a,false):=by unfold hI;simp only [ha,hb,h1,h2,cond_true,cond_false]
  exact aC.ib (by rw[e]) (by rw[e])
 have h2:(b==30000)=false:=h2
 refine aI (fun h3=>?_) (fun h3=>?_)
 ·have h3:decide (aV (mm true a b - mm false a b)≤p.agree)=true:=h3
  have e:hI p fs month cell=(aV (aV (Int.tdiv (aV (aV (aV (a+b)+40000)+1)) 2) - 20000),false):=by unfold hI;simp only [ha,hb,h1,h2,h3,cond_true,cond_false]
  refine oi dC ?_
  exact aC.ib (by rw[e]) (by rw[e])
 have h3:decide (aV (mm true a b - mm false a b)≤p.agree)=false:=h3
 refine aB (FB p fs 2 month cell hl hc) ?_
 rw[o8]
 refine aI (fun h4=>?_) (fun h4=>?_)
 ·have h4:(c==30000)=true:=h4
  have e:hI p fs month cell=(c,true):=by unfold hI;simp only [ha,hb,o8,h1,h2,h3,h4,cond_true,cond_false]
  exact aC.ib (by rw[e]) (by rw[e])
 ·have h4:(c==30000)=false:=h4
  refine aB (median a b c) ?_
  have e:hI p fs month cell=(aF5 a b c,false):=by unfold hI;simp only [ha,hb,o8,h1,h2,h3,h4,cond_false]
  exact aC.ib (by rw[e]) (by rw[e])
def aAY(p:Proj)(fs:List Fact)(m:Int):List Int→eJ
 |[]=>[(1001,.cells (lE p fs)),(1002,.cells [.d (dI m)]),(1003,.cells [.d eK])]
 |x::r=>[(1001,.cells (lE p fs)),(1002,.cells [.d (dI m)]),(1003,.cells [.own 1004]),(1004,.row 3 (x::r).length 1 (eH (x::r)))]
abbrev aHJ:SV:=.dR 125 [.ptr 1001 0,.ptr 1002 0,.ptr 1003 0]
theorem aBO(p:Proj)(fs:List Fact)(m:Int)(l:List Int)(i:Nat)(hl:fs.length≤9223372036854775807)
  (hc:∀f∈fs,f.kind=0→i<f.levels.length) (h:(hI p fs m i).2=false):
  bT prog 125 [vI i,.s (.ptr 1001 0),.s (.ptr 1002 0),.s (.ptr 1003 0)] (aAY p fs m l) (vI (hI p fs m i).1) (aAY p fs m l):=by
 cases l with
 |nil=>
  refine fT (rc:=[]) (N:=21) func125 rfl rfl call125 aJ mix rfl rfl rfl rfl (fun cx aA=>?_)
  refine aB (tM p fs m i hl hc) ?_
  refine aI (fun h1=>?_) (fun _=>?_)
  ·have h1:(hI p fs m i).2=true:=h1
   rw[h]at h1;cases h1
  ·exact⟨aC.refl _,rfl,rfl,rfl,oO⟩
 |cons x r=>
  refine fT (rc:=[]) (N:=21) func125 rfl rfl call125 aJ mix rfl rfl rfl rfl (fun cx aA=>?_)
  refine aB (tM p fs m i hl hc) ?_
  refine aI (fun h1=>?_) (fun _=>?_)
  ·have h1:(hI p fs m i).2=true:=h1
   rw[h]at h1;cases h1
  ·exact⟨aC.refl _,rfl,rfl,rfl,rfl,oO⟩
theorem UQ(p:Proj)(fs:List Fact)(m:Int)(l:List Int)(i:Nat)(hl:fs.length≤9223372036854775807)(hll:l.length≤1000000)
  (hc:∀f∈fs,f.kind=0→i<f.levels.length) (h:(hI p fs m i).2=true):
  ∃n f,gT 1 n f (fun x _=>dI x) (l++ [(i:Int)])∧
  bT prog 125 [vI i,.s (.ptr 1001 0),.s (.ptr 1002 0),.s (.ptr 1003 0)] (aAY p fs m l) (vI (hI p fs m i).1) [(1001,.cells (lE p fs)),(1002,.cells [.d (dI m)]),(1003,.cells [.own 19]),(19,.row 3 n 1 f)]:=by
 cases l with
 |nil=>
  apply Exists.intro
  apply Exists.intro
  apply And.intro
  rotate_left
  ·refine D7 (rc:=[]) (N:=21) func125 rfl rfl call125 aJ mix rfl rfl rfl (fun cx aA=>?_)
   refine aB (tM p fs m i hl hc) ?_
   refine aI (fun _=>?_) (fun h1=>?_)
   ·refine ob dC ?_
    refine ob dC ?_
    exact⟨aU.rfl,rfl,rfl,rfl,rfl,oO⟩
   ·have h1:(hI p fs m i).2=false:=h1
    rw[h]at h1;cases h1
  all_goals exact gT.one (AN rfl)
 |cons x r=>
  apply Exists.intro
  apply Exists.intro
  apply And.intro
  rotate_left
  ·refine D7 (rc:=[]) (N:=21) func125 rfl rfl call125 aJ mix rfl rfl rfl (fun cx aA=>?_)
   refine aB (tM p fs m i hl hc) ?_
   refine aI (fun _=>?_) (fun h1=>?_)
   ·refine ob (by show((x::r).length+1)*8≤_;omega) ?_
    refine ob (nZ (AN rfl)) ?_
    exact⟨aU.rfl,rfl,rfl,rfl,rfl,oO⟩
   ·have h1:(hI p fs m i).2=false:=h1
    rw[h]at h1;cases h1
  all_goals exact gT.snoc (gT.refl (l:=x::r) (el:=fun (x:Int) (_:Nat)=>dI x)) (AN rfl)
def nD(p:Proj)(fs:List Fact)(m:Int)(i:Nat):List Int:=(List.range i).filterMap fun k=>bif (hI p fs m k).2 then some (k:Int)else none
def gX(p:Proj)(fs:List Fact)(m:Int)(i:Nat):List Int:=(List.range i).map fun k=>(hI p fs m k).1
theorem SB(p:Proj)(fs:List Fact)(m:Int)(i:Nat):nD p fs m (i+1)=bif (hI p fs m i).2 then nD p fs m i++ [(i:Int)]else nD p fs m i:=by
 unfold nD
 rw[cW]
 cases(hI p fs m i).2 <;> simp
theorem WT(p:Proj)(fs:List Fact)(m:Int)(i:Nat):(nD p fs m i).length≤i:=by
 have:=List.length_filterMap_le (fun k=>bif (hI p fs m k).2 then some (k:Int)else none) (List.range i)
 rw[List.length_range]at this
 exact this
theorem VU(p:Proj)(fs:List Fact)(m:Int)(i:Nat):gX p fs m (i+1)=gX p fs m i++ [(hI p fs m i).1]:=by
 unfold gX
 rw[List.range_succ,List.map_append];rfl
theorem ZF(p:Proj)(fs:List Fact)(m:Int)(i:Nat):(gX p fs m i).length=i:=by unfold gX;simp
abbrev T4(g:eZ)(lv:SV):List SV:=[.d (dI g.x),.d (dI g.y),.d (dI g.side),.d (dI g.dL),.d (dI g.rows),lv]
def gSt(p:Proj)(fs:List Fact)(m:Int)(i:Nat):List Int→St
 |[]=>⟨[(1,.s aHJ),(2,.s (.ptr 2 0)),(4,.s (.ptr 4 0)),(5,.s (.ptr 5 0)),(15,vI p.aW.levels.length),(16,vI i)],[(2,some (.cells (lE p fs))),(4,some (.cells (iS ty24.zero))),(5,some (.cells (T4 p.aW (.mo (gX p fs m i).isEmpty 100)))),(100,some (.cA 3 (gX p fs m i).length 1 (eH (gX p fs m i)))),(1001,some (.cells (lE p fs))),(1002,some (.cells [.d (dI m)])),(1003,some (.cells [.d eK]))]⟩
 |x::r=>⟨[(1,.s aHJ),(2,.s (.ptr 2 0)),(4,.s (.ptr 4 0)),(5,.s (.ptr 5 0)),(15,vI p.aW.levels.length),(16,vI i)],[(2,some (.cells (lE p fs))),(4,some (.cells (iS ty24.zero))),(5,some (.cells (T4 p.aW (.mo (gX p fs m i).isEmpty 100)))),(100,some (.cA 3 (gX p fs m i).length 1 (eH (gX p fs m i)))),(1001,some (.cells (lE p fs))),(1002,some (.cells [.d (dI m)])),(1003,some (.cells [.own 1004])),(1004,some (.row 3 (x::r).length 1 (eH (x::r))))]⟩
theorem aKA(p:Proj)(fs:List Fact)(m:Int)(hl:fs.length≤9223372036854775807)(hn:0<p.aW.levels.length∧p.aW.levels.length≤1024)(hc:∀f∈fs,f.kind=0→f.levels.length=p.aW.levels.length):
  bT prog 124 [QP p fs,.s aHJ] (aAY p fs m []) (.g (T4 p.aW (.own 1005))) (aAY p fs m (nD p fs m p.aW.levels.length)++ [(1005,.row 3 p.aW.levels.length 1 (eH (gX p fs m p.aW.levels.length)))]):=by
 refine gL func124 rfl rfl call124 aJ rfl (by cases nD p fs m p.aW.levels.length <;> rfl) (by cases nD p fs m p.aW.levels.length <;> rfl) rfl (fun cx aA=>?_)
 refine sX aA ?_
 refine sX aA ?_
 refine sX aA ?_
 refine AW.seq (sX aA ?_)
 refine AW.block ?_
 refine AW.cV (fun i:Nat=>gSt p fs m i (nD p fs m i)) (fun i=>i≤p.aW.levels.length) (fun i=>p.aW.levels.length - i) 0 (Nat.zero_le _) ?_ ?_
 ·exact aS.of [(100,1000)] (by rw[aA];rfl) rfl ⟨bQ,bQ,⟨rfl,aZ.cells ⟨aU.rfl,aU.rfl,aU.rfl,aU.rfl,aU.rfl,aU.nil rfl,oO⟩⟩,⟨rfl,rfl⟩,bQ,bQ,bQ,oO⟩ ⟨qZ,qZ,qZ,qZ,qZ,qZ,oO⟩
 ·intro i hi
  have hlen:=WT p fs m i
  have fA:=SB p fs m i
  have hlv:=VU p fs m i
  have hll:=ZF p fs m i
  cases hL:nD p fs m i with
  |nil=>
   rw[hL]at fA hlen
   refine sX aA ?_
   refine AW.seq (AW.cond ?_)
   refine aI (fun h1=>AW.skip ?_) (fun h1=>AW.exit ?_)
   ·have h1:(i:Int)<p.aW.levels.length:=bL h1
    have bK:i<p.aW.levels.length:=oM
    have hci:∀f∈fs,f.kind=0→i<f.levels.length:=fun f hf hk=>by rw[hc f hf hk];exact bK
    refine AW.seq (AW.block (sX aA ?_))
    cases h3:(hI p fs m i).2 with
    |true=>
     rw[h3]at fA
     obtain⟨n,f,oN,dV⟩:=UQ p fs m [] i hl oM hci h3
     refine ex.sound (rc:=[1500125]) aJ mix aA _ ?_
     refine⟨[(19,701)],_,_,_,_,dV,rfl,⟨rfl,rfl,rfl,oO⟩,rfl,?_⟩
     refine ob dC ?_
     refine ob (by rw[eL];show((gX p fs m i).length+1)*8≤_;rw[hll];omega) ?_
     refine ob (nZ (AN rfl)) ?_
     refine aD ?_
     refine eX aA ?_
     refine⟨i+1,oM,oM,?_⟩
     rw[fA]
     refine aS.of [(1004,701),(100,25)] (by rw[aA];rfl) rfl ⟨bQ,bQ,⟨rfl,aZ.cells ⟨aU.rfl,aU.rfl,aU.rfl,aU.rfl,aU.rfl,aU.mo (by rw[hlv];exact cG _ _),oO⟩⟩,⟨rfl,?_⟩,bQ,bQ,bQ,⟨rfl,oN.row⟩,oO⟩ ⟨qZ,qZ,qZ,qZ,qZ,⟨rfl,aU.int (aG oM oM)⟩,oO⟩
     show aZ _ (.cA 3 (gX p fs m (i+1)).length 1 (eH (gX p fs m (i+1))))
     rw[hlv]
     exact aZ.snoc (el:=fun n _=>dI n) (x:=(hI p fs m i).1) (AN rfl)
    |false=>
     rw[h3]at fA
     refine ex.sound (rc:=[1500125]) aJ mix aA _ ?_
     refine⟨[],_,_,_,_,aBO p fs m [] i hl hci h3,rfl,⟨rfl,rfl,rfl,oO⟩,rfl,?_⟩
     refine ob dC ?_
     refine ob (by rw[eL];show((gX p fs m i).length+1)*8≤_;rw[hll];omega) ?_
     refine ob (nZ (AN rfl)) ?_
     refine aD ?_
     refine eX aA ?_
     refine⟨i+1,oM,oM,?_⟩
     rw[fA]
     refine aS.of [(100,25)] (by rw[aA];rfl) rfl ⟨bQ,bQ,⟨rfl,aZ.cells ⟨aU.rfl,aU.rfl,aU.rfl,aU.rfl,aU.rfl,aU.mo (by rw[hlv];exact cG _ _),oO⟩⟩,⟨rfl,?_⟩,bQ,bQ,bQ,oO⟩ ⟨qZ,qZ,qZ,qZ,qZ,⟨rfl,aU.int (aG oM oM)⟩,oO⟩
     show aZ _ (.cA 3 (gX p fs m (i+1)).length 1 (eH (gX p fs m (i+1))))
     rw[hlv]
     exact aZ.snoc (el:=fun n _=>dI n) (x:=(hI p fs m i).1) (AN rfl)
   ·have h1:¬(i:Int)<p.aW.levels.length:=bG h1
    obtain rfl:i=p.aW.levels.length:=oM
    rw[hL]
    have hz:(gX p fs m p.aW.levels.length).isEmpty=false:=by
     cases hq:gX p fs m p.aW.levels.length with
     |nil=>rw[hq]at hll;simp at hll;omega
     |cons _ _=>rfl
    refine AW.gG (aS.aIW (z:=(gX p fs m p.aW.levels.length).isEmpty) (e:=3) (n:=(gX p fs m p.aW.levels.length).length) (s:=1) (f:=eH (gX p fs m p.aW.levels.length)) (cs:=T4 p.aW (.mo (gX p fs m p.aW.levels.length).isEmpty 100)) 5 5 100 rfl rfl hz rfl) ?_
    refine AW.gG (σ':=⟨[(4,.s (.ptr 4 0)),(5,.s (.ptr 5 0))],[(4,some (.cells (iS ty24.zero))),(5,some (.cells (T4 p.aW (.own 1005)))),(1005,some (.row 3 p.aW.levels.length 1 (eH (gX p fs m p.aW.levels.length)))),(1001,some (.cells (lE p fs))),(1002,some (.cells [.d (dI m)])),(1003,some (.cells [.d eK]))]⟩) (aS.of [(1005,100)] (by rw[aA];rfl) rfl ⟨bQ,⟨rfl,aZ.cells ⟨aU.rfl,aU.rfl,aU.rfl,aU.rfl,aU.rfl,fun _ _ _ r=>r.2 hz,oO⟩⟩,⟨rfl,aZ.of_eq (by rw[hll];rfl)⟩,bQ,bQ,bQ,oO⟩ ⟨qZ,qZ,oO⟩) ?_
    refine eX aA ?_
    exact⟨aU.rfl,rfl,rfl,rfl,rfl,oO⟩
  |cons x r=>
   rw[hL]at fA hlen
   refine sX aA ?_
   refine AW.seq (AW.cond ?_)
   refine aI (fun h1=>AW.skip ?_) (fun h1=>AW.exit ?_)
   ·have h1:(i:Int)<p.aW.levels.length:=bL h1
    have bK:i<p.aW.levels.length:=oM
    have hci:∀f∈fs,f.kind=0→i<f.levels.length:=fun f hf hk=>by rw[hc f hf hk];exact bK
    refine AW.seq (AW.block (sX aA ?_))
    cases h3:(hI p fs m i).2 with
    |true=>
     rw[h3]at fA
     obtain⟨n,f,oN,dV⟩:=UQ p fs m (x::r) i hl oM hci h3
     refine ex.sound (rc:=[1500125]) aJ mix aA _ ?_
     refine⟨[(19,701)],_,_,_,_,dV,rfl,⟨rfl,rfl,rfl,rfl,oO⟩,rfl,?_⟩
     refine ob dC ?_
     refine ob (by rw[eL];show((gX p fs m i).length+1)*8≤_;rw[hll];omega) ?_
     refine ob (nZ (AN rfl)) ?_
     refine aD ?_
     refine eX aA ?_
     refine⟨i+1,oM,oM,?_⟩
     rw[fA]
     refine aS.of [(1004,701),(100,25)] (by rw[aA];rfl) rfl ⟨bQ,bQ,⟨rfl,aZ.cells ⟨aU.rfl,aU.rfl,aU.rfl,aU.rfl,aU.rfl,aU.mo (by rw[hlv];exact cG _ _),oO⟩⟩,⟨rfl,?_⟩,bQ,bQ,bQ,⟨rfl,oN.row⟩,oO⟩ ⟨qZ,qZ,qZ,qZ,qZ,⟨rfl,aU.int (aG oM oM)⟩,oO⟩
     show aZ _ (.cA 3 (gX p fs m (i+1)).length 1 (eH (gX p fs m (i+1))))
     rw[hlv]
     exact aZ.snoc (el:=fun n _=>dI n) (x:=(hI p fs m i).1) (AN rfl)
    |false=>
     rw[h3]at fA
     refine ex.sound (rc:=[1500125]) aJ mix aA _ ?_
     refine⟨[],_,_,_,_,aBO p fs m (x::r) i hl hci h3,rfl,⟨rfl,rfl,rfl,rfl,oO⟩,rfl,?_⟩
     refine ob dC ?_
     refine ob (by rw[eL];show((gX p fs m i).length+1)*8≤_;rw[hll];omega) ?_
     refine ob (nZ (AN rfl)) ?_
     refine aD ?_
     refine eX aA ?_
     refine⟨i+1,oM,oM,?_⟩
     rw[fA]
     refine aS.of [(100,25)] (by rw[aA];rfl) rfl ⟨bQ,bQ,⟨rfl,aZ.cells ⟨aU.rfl,aU.rfl,aU.rfl,aU.rfl,aU.rfl,aU.mo (by rw[hlv];exact cG _ _),oO⟩⟩,⟨rfl,?_⟩,bQ,bQ,bQ,bQ,oO⟩ ⟨qZ,qZ,qZ,qZ,qZ,⟨rfl,aU.int (aG oM oM)⟩,oO⟩
     show aZ _ (.cA 3 (gX p fs m (i+1)).length 1 (eH (gX p fs m (i+1))))
     rw[hlv]
     exact aZ.snoc (el:=fun n _=>dI n) (x:=(hI p fs m i).1) (AN rfl)
   ·have h1:¬(i:Int)<p.aW.levels.length:=bG h1
    obtain rfl:i=p.aW.levels.length:=oM
    rw[hL]
    have hz:(gX p fs m p.aW.levels.length).isEmpty=false:=by
     cases hq:gX p fs m p.aW.levels.length with
     |nil=>rw[hq]at hll;simp at hll;omega
     |cons _ _=>rfl
    refine AW.gG (aS.aIW (z:=(gX p fs m p.aW.levels.length).isEmpty) (e:=3) (n:=(gX p fs m p.aW.levels.length).length) (s:=1) (f:=eH (gX p fs m p.aW.levels.length)) (cs:=T4 p.aW (.mo (gX p fs m p.aW.levels.length).isEmpty 100)) 5 5 100 rfl rfl hz rfl) ?_
    refine AW.gG (σ':=⟨[(4,.s (.ptr 4 0)),(5,.s (.ptr 5 0))],[(4,some (.cells (iS ty24.zero))),(5,some (.cells (T4 p.aW (.own 1005)))),(1005,some (.row 3 p.aW.levels.length 1 (eH (gX p fs m p.aW.levels.length)))),(1001,some (.cells (lE p fs))),(1002,some (.cells [.d (dI m)])),(1003,some (.cells [.own 1004])),(1004,some (.row 3 (x::r).length 1 (eH (x::r))))]⟩) (aS.of [(1005,100)] (by rw[aA];rfl) rfl ⟨bQ,⟨rfl,aZ.cells ⟨aU.rfl,aU.rfl,aU.rfl,aU.rfl,aU.rfl,fun _ _ _ r=>r.2 hz,oO⟩⟩,⟨rfl,aZ.of_eq (by rw[hll];rfl)⟩,bQ,bQ,bQ,bQ,oO⟩ ⟨qZ,qZ,oO⟩) ?_
    refine eX aA ?_
    exact⟨aU.rfl,rfl,rfl,rfl,rfl,rfl,oO⟩
theorem aHX{a:TV}{x y:DV}(h:aL x y):aU (.t [a,.s (.d x)]) (.t [a,.s (.d y)]):=by
 rintro M β v ⟨vs,e,r⟩
 match vs,r with
 |[u1,u2],⟨r1,r2,r3⟩=>exact⟨[u1,u2],e,r1,h M u2 r2,r3⟩
structure SOK(p:Proj)(fs:List Fact):Prop where
 len:fs.length≤200
 n:0<p.aW.levels.length∧p.aW.levels.length≤100
 shape:∀f∈fs,f.kind=0→f.levels.length=p.aW.levels.length
theorem SX(p:Proj)(fs:List Fact)(m:Int)(h:SOK p fs):
  bT prog 63 [QP p fs,vI m] [] (.t [.g (T4 p.aW (.own 9)),.s (.d (cE (nD p fs m p.aW.levels.length)))]) [(9,.row 3 p.aW.levels.length 1 (eH (gX p fs m p.aW.levels.length)))]:=by
 have QM:=aKA p fs m (by have:=h.len;omega) ⟨h.n.1,by have:=h.n.2;omega⟩ h.shape
 generalize nD p fs m p.aW.levels.length=L at QM
 cases L with
 |nil=>
  refine fC (rc:=[124]) (N:=13) func63 rfl rfl call63 aJ mix rfl rfl rfl rfl (fun cx aA=>?_)
  refine⟨[(1001,2),(1002,3),(1003,6),(1005,9)],_,_,_,_,QM,rfl,⟨rfl,rfl,rfl,oO⟩,rfl,?_⟩
  refine aD ?_
  exact⟨aHX aL.nil,rfl,oO⟩
 |cons x r=>
  refine fC (rc:=[124]) (N:=13) func63 rfl rfl call63 aJ mix rfl rfl rfl rfl (fun cx aA=>?_)
  refine⟨[(1001,2),(1002,3),(1003,6),(1005,9)],_,_,_,_,QM,rfl,⟨rfl,rfl,rfl,oO⟩,rfl,?_⟩
  refine aD ?_
  exact⟨aU.rfl,rfl,oO⟩
def lH(p:Proj)(fs:List Fact):Nat→Nat→Int
 |0,i=>bif (hI p fs (0:Nat) i).1==30000 then p.aW.levels.getD i 0 else(hI p fs (0:Nat) i).1
 |m+1,i=>mm false (hI p fs (m+1:Nat) i).1 (lH p fs m i)
def o6(p:Proj)(fs:List Fact)(m:Nat):List Int:=(List.range p.aW.levels.length).map (lH p fs m)
def x4(p:Proj)(fs:List Fact)(m:Nat):eZ:={p.aW with levels:=o6 p fs m}
def dB(p:Proj)(fs:List Fact)(k:Nat):List eZ:=(List.range k).map (x4 p fs)
def qO(p:Proj)(fs:List Fact)(m i:Nat):List Int:=(List.range p.aW.levels.length).map fun k=>if k<i then lH p fs m k else(hI p fs m k).1
theorem nQ{p:Proj}{fs:List Fact}{m i k:Nat}(h:k<p.aW.levels.length):(qO p fs m i).getD k 0=if k<i then lH p fs m k else(hI p fs m k).1:=by
 unfold qO
 simp[List.getD_eq_getElem?_getD,List.getElem?_map,List.getElem?_range h]
theorem TM{p:Proj}{fs:List Fact}{m:Int}{n k:Nat}(h:k<n):(gX p fs m n).getD k 0=(hI p fs m k).1:=by
 unfold gX
 simp[List.getD_eq_getElem?_getD,List.getElem?_map,List.getElem?_range h]
theorem N1(p:Proj)(fs:List Fact)(m:Nat):qO p fs m p.aW.levels.length=o6 p fs m:=by
 unfold qO o6
 exact List.map_congr_left fun k hk=>if_pos (List.mem_range.1 hk)
theorem mP(p:Proj)(fs:List Fact)(k:Nat):(dB p fs k).length=k:=by unfold dB;simp
theorem mQ{p:Proj}{fs:List Fact}{k m:Nat}(h:m<k):(dB p fs k).getD m default=x4 p fs m:=by
 unfold dB
 simp[List.getD_eq_getElem?_getD,List.getElem?_map,List.getElem?_range h]
theorem VS(p:Proj)(fs:List Fact)(k:Nat):dB p fs (k+1)=dB p fs k++ [x4 p fs k]:=by
 unfold dB
 rw[List.range_succ,List.map_append];rfl
theorem AO{p:Proj}{fs:List Fact}{m k:Nat}(h:k<p.aW.levels.length):(o6 p fs m).getD k 0=lH p fs m k:=by
 unfold o6
 simp[List.getD_eq_getElem?_getD,List.getElem?_map,List.getElem?_range h]
theorem ZB{p:Proj}{fs:List Fact}{m i a:Nat}(ha:a<p.aW.levels.length)(h:(hI p fs m i).1=lH p fs m i):(qO p fs m i).getD a 0=(qO p fs m (i+1)).getD a 0:=by
 rw[nQ ha,nQ ha]
 by_cases h1:a<i
 ·rw[if_pos h1,if_pos oM]
 ·rw[if_neg h1]
  by_cases h2:a=i
  ·subst h2;rw[if_pos oM,h]
  ·rw[if_neg oM]
theorem TL{p:Proj}{fs:List Fact}{m i a c:Nat}{x:Int}(ha:a<p.aW.levels.length)(hc:c<1)(h:x=lH p fs m i):fL (eH (qO p fs m i)) i 0 [.d (dI x)] a c=dI ((qO p fs m (i+1)).getD a 0):=by
 obtain rfl:c=0:=oM
 by_cases h2:a=i
 ·subst h2
  rw[wK,nQ ha,if_pos oM,h]
 ·rw[B8 h2]
  show dI ((qO p fs m i).getD a 0)=_
  rw[nQ ha,nQ ha]
  by_cases h1:a<i
  ·rw[if_pos h1,if_pos oM]
  ·rw[if_neg h1,if_neg oM]
def aMD(p:Proj)(fs:List Fact)(n:Nat):Nat→St
 |0=>⟨[(2,.s (.ptr 2 0)),(5,.s (.d eK)),(12,vI n),(13,vI (0:Nat))],[(2,some (.cells (lE p fs)))]⟩
 |k+1=>⟨[(2,.s (.ptr 2 0)),(5,.s (.own 100)),(12,vI n),(13,vI (k+1:Nat))],[(2,some (.cells (lE p fs))),(100,some (.row 24 (dB p fs (k+1)).length 6 (CN (dB p fs (k+1)))))]⟩
theorem lowest(p:Proj)(fs:List Fact)(month:Nat)(h:SOK p fs)(hm:month≤24):aF prog 61 [QP p fs,vI month] (.s (.d (cU (dB p fs (month+1))))):=by
 obtain⟨hn0,hn1⟩:=h.n
 refine eW func61 rfl rfl call61 rfl rfl (fun cx aA=>?_)
 refine sX aA ?_
 refine sX aA ?_
 refine AW.seq (sX aA ?_)
 refine AW.block ?_
 refine AW.cV (fun k:Nat=>aMD p fs (month+1) k) (fun k=>k≤month+1) (fun k=>month+1 - k) 0 (Nat.zero_le _) ?_ ?_
 ·exact aS.bO aA [] rfl ⟨bQ,oO⟩ ⟨qZ,qZ,⟨rfl,aU.int (aG oM oM)⟩,qZ,oO⟩
 ·intro k hk
  cases k with
  |zero=>
   refine sX aA ?_
   refine AW.seq (AW.cond ?_)
   refine aI (fun h1=>AW.skip ?_) (fun h1=>by simp at h1)
   refine AW.seq (AW.block (sX aA ?_))
   refine AW.seq (ex.sound (rc:=[63]) aJ mix aA _ ?_)
   refine⟨[(9,700)],_,_,_,_,SX p fs (0:Nat) h,rfl,trivial,rfl,?_⟩
   refine AW.gG (σ':=⟨[(2,.s (.ptr 2 0)),(5,.s (.d eK)),(6,vI (0:Nat)),(7,.s (.ptr 7 0)),(12,vI (month+1:Nat)),(13,vI (0:Nat))],[(2,some (.cells (lE p fs))),(7,some (.cells (T4 p.aW (.own 700)))),(700,some (.row 3 p.aW.levels.length 1 (eH (gX p fs (0:Nat) p.aW.levels.length))))]⟩) (aS.bO aA [] rfl ⟨bQ,bQ,bQ,oO⟩ ⟨qZ,qZ,qZ,qZ,qZ,qZ,oO⟩) ?_
   refine AW.seq (sX aA ?_)
   refine AW.block ?_
   refine AW.cV (fun i:Nat=>⟨[(2,.s (.ptr 2 0)),(5,.s (.d eK)),(6,vI (0:Nat)),(7,.s (.ptr 7 0)),(12,vI (month+1:Nat)),(13,vI (0:Nat)),(23,.s (.own 700)),(24,vI p.aW.levels.length),(25,vI i)],[(2,some (.cells (lE p fs))),(7,some (.cells (T4 p.aW (.own 700)))),(700,some (.row 3 p.aW.levels.length 1 (eH (qO p fs 0 i))))]⟩)
    (fun i=>i≤p.aW.levels.length) (fun i=>p.aW.levels.length - i) 0 (Nat.zero_le _) ?_ ?_
   ·exact aS.bO aA [] rfl ⟨bQ,bQ,⟨rfl,aZ.row rfl fun a c ha hc=>aL.of_eq (by show dI ((gX p fs (0:Nat) p.aW.levels.length).getD a 0)=dI ((qO p fs 0 0).getD a 0);rw[TM ha,nQ ha,if_neg (Nat.not_lt_zero _)])⟩,oO⟩ ⟨qZ,qZ,qZ,qZ,qZ,qZ,qZ,qZ,qZ,oO⟩
   ·intro i hi
    refine sX aA ?_
    refine AW.seq (AW.cond ?_)
    refine aI (fun h2=>AW.skip ?_) (fun h2=>AW.exit ?_)
    ·have h2:(i:Int)<p.aW.levels.length:=bL h2
     have bK:i<p.aW.levels.length:=oM
     refine AW.seq (AW.block (sX aA ?_))
     refine oi ⟨oM,oM⟩ ?_
     refine oi (show i<p.aW.levels.length by omega) ?_
     refine AW.block (sX aA ?_)
     repeat refine aR ?_
     refine AW.cond ?_
     refine aI (fun h3=>?_) (fun h3=>?_)
     ·have h3:((0:Int)==0&&(qO p fs 0 i).getD i 0==30000)=true:=h3
      rw[nQ bK,if_neg (Nat.lt_irrefl i)]at h3
      have EJ:lH p fs 0 i=p.aW.levels.getD i 0:=by
       unfold lH
       rw[show((hI p fs ((0:Nat):Int) i).1==30000)=true by simpa using h3];rfl
      refine eX aA ?_
      refine oi ⟨oM,oM⟩ ?_
      refine oi ⟨oM,oM⟩ ?_
      refine ob (show((i:Nat):Int).toNat<p.aW.levels.length by omega) ?_
      refine aD ?_
      refine eX aA ?_
      refine⟨i+1,oM,oM,?_⟩
      refine aS.bO aA [] rfl ⟨bQ,bQ,⟨rfl,aZ.row rfl fun a c ha hc=>aL.of_eq ?_⟩,oO⟩ ⟨qZ,qZ,qZ,qZ,qZ,qZ,qZ,qZ,⟨rfl,aU.int (aG oM oM)⟩,oO⟩
      show fL (eH (qO p fs 0 i)) i 0 [.d (dI (p.aW.levels.getD i 0))] a c=dI ((qO p fs 0 (i+1)).getD a 0)
      exact TL ha hc EJ.symm
     ·have h3:((0:Int)==0&&(qO p fs 0 i).getD i 0==30000)=false:=h3
      rw[nQ bK,if_neg (Nat.lt_irrefl i)]at h3
      have EJ:lH p fs 0 i=(hI p fs (0:Nat) i).1:=by
       unfold lH
       rw[show((hI p fs ((0:Nat):Int) i).1==30000)=false by simpa using h3];rfl
      refine sX aA ?_
      refine AW.cond ?_
      refine aI (fun h4=>by simp at h4) (fun h4=>AW.skip ?_)
      refine eX aA ?_
      refine⟨i+1,oM,oM,?_⟩
      refine aS.bO aA [] rfl ⟨bQ,bQ,⟨rfl,aZ.row rfl fun a c ha hc=>aL.of_eq ?_⟩,oO⟩ ⟨qZ,qZ,qZ,qZ,qZ,qZ,qZ,qZ,⟨rfl,aU.int (aG oM oM)⟩,oO⟩
      show dI ((qO p fs 0 i).getD a 0)=dI ((qO p fs 0 (i+1)).getD a 0)
      exact congrArg dI (ZB ha EJ.symm)
    ·have h2:¬(i:Int)<p.aW.levels.length:=bG h2
     obtain rfl:i=p.aW.levels.length:=oM
     rw[N1]
     refine AW.YC (σ':=⟨[(2,.s (.ptr 2 0)),(5,.s (.d eK)),(7,.s (.ptr 7 0)),(12,vI (month+1:Nat)),(13,vI (0:Nat))],[(2,some (.cells (lE p fs))),(7,some (.cells (T4 p.aW (.d (cE (o6 p fs 0))))))]⟩) (pB.of aA [] [700] rfl rfl rfl ⟨⟨rfl,iP.rfl⟩,⟨rfl,iP.cells ⟨cF.rfl,cF.rfl,cF.rfl,cF.rfl,cF.rfl,(cF.own sM rfl).then (aU.d (aL.of_eq (by unfold cE;rw[show(o6 p fs 0).length=p.aW.levels.length by unfold o6;simp]))),oO⟩⟩,oO⟩ ⟨⟨rfl,cF.rfl⟩,⟨rfl,cF.rfl⟩,⟨rfl,cF.rfl⟩,⟨rfl,cF.rfl⟩,⟨rfl,cF.rfl⟩,oO⟩) ?_
     refine eX aA ?_
     refine ob dC ?_
     refine ob dC ?_
     refine eX aA ?_
     refine⟨0+1,oM,oM,?_⟩
     exact aS.bO aA [(100,70)] rfl ⟨bQ,⟨rfl,aZ.row (by rw[mP]) fun a c ha hc=>aL.of_eq (by
      obtain rfl:a=0:=oM
      match c,hc with|0,_|1,_|2,_|3,_|4,_|5,_=>rfl)⟩,oO⟩ ⟨qZ,qZ,qZ,⟨rfl,aU.int (aG oM oM)⟩,oO⟩
  |succ k=>
   refine sX aA ?_
   refine AW.seq (AW.cond ?_)
   refine aI (fun h1=>AW.skip ?_) (fun h1=>AW.exit ?_)
   ·have h1:((k+1:Nat):Int)<((month+1:Nat):Int):=bL h1
    refine AW.seq (AW.block (sX aA ?_))
    refine AW.seq (ex.sound (rc:=[63]) aJ mix aA _ ?_)
    refine⟨[(9,700)],_,_,_,_,SX p fs (k+1:Nat) h,rfl,trivial,rfl,?_⟩
    refine AW.gG (σ':=⟨[(2,.s (.ptr 2 0)),(5,.s (.own 100)),(6,vI (k+1:Nat)),(7,.s (.ptr 7 0)),(12,vI (month+1:Nat)),(13,vI (k+1:Nat))],[(2,some (.cells (lE p fs))),(100,some (.row 24 (dB p fs (k+1)).length 6 (CN (dB p fs (k+1))))),(7,some (.cells (T4 p.aW (.own 700)))),(700,some (.row 3 p.aW.levels.length 1 (eH (gX p fs (k+1:Nat) p.aW.levels.length))))]⟩) (aS.bO aA [] rfl ⟨bQ,bQ,bQ,bQ,oO⟩ ⟨qZ,qZ,qZ,qZ,qZ,qZ,oO⟩) ?_
    refine AW.seq (sX aA ?_)
    refine AW.block ?_
    refine AW.cV (fun i:Nat=>⟨[(2,.s (.ptr 2 0)),(5,.s (.own 100)),(6,vI (k+1:Nat)),(7,.s (.ptr 7 0)),(12,vI (month+1:Nat)),(13,vI (k+1:Nat)),(23,.s (.own 700)),(24,vI p.aW.levels.length),(25,vI i)],[(2,some (.cells (lE p fs))),(100,some (.row 24 (dB p fs (k+1)).length 6 (CN (dB p fs (k+1))))),(7,some (.cells (T4 p.aW (.own 700)))),(700,some (.row 3 p.aW.levels.length 1 (eH (qO p fs (k+1) i))))]⟩)
     (fun i=>i≤p.aW.levels.length) (fun i=>p.aW.levels.length - i) 0 (Nat.zero_le _) ?_ ?_
    ·exact aS.bO aA [] rfl ⟨bQ,bQ,bQ,⟨rfl,aZ.row rfl fun a c ha hc=>aL.of_eq (by show dI ((gX p fs (k+1:Nat) p.aW.levels.length).getD a 0)=dI ((qO p fs (k+1) 0).getD a 0);rw[TM ha,nQ ha,if_neg (Nat.not_lt_zero _)])⟩,oO⟩ ⟨qZ,qZ,qZ,qZ,qZ,qZ,qZ,qZ,qZ,oO⟩
    ·intro i hi
     refine sX aA ?_
     refine AW.seq (AW.cond ?_)
     refine aI (fun h2=>AW.skip ?_) (fun h2=>AW.exit ?_)
     ·have h2:(i:Int)<p.aW.levels.length:=bL h2
      have bK:i<p.aW.levels.length:=oM
      refine AW.seq (AW.block (sX aA ?_))
      refine oi ⟨oM,oM⟩ ?_
      refine oi (show i<p.aW.levels.length by omega) ?_
      refine AW.block (sX aA ?_)
      repeat refine aR ?_
      refine AW.cond ?_
      refine aI (fun h3=>?_) (fun h3=>?_)
      ·have h3:((((k+1:Nat):Int)==0)&&(qO p fs (k+1) i).getD i 0==30000)=true:=h3
       rw[show((((k+1:Nat):Int)==0))=false by simp only [beq_eq_false_iff_ne];omega]at h3
       cases h3
      ·have EJ:mm false (hI p fs (k+1:Nat) i).1 (lH p fs k i)=lH p fs (k+1) i:=rfl
       have aMO:(qO p fs (k+1) i).getD i 0=(hI p fs (k+1:Nat) i).1:=by rw[nQ bK,if_neg (Nat.lt_irrefl i)]
       have ek:aV (((k+1:Nat):Int) - 1)=(k:Int):=by rw[aG oM oM];omega
       have ekn:(aV (((k+1:Nat):Int) - 1)).toNat=k:=by rw[ek];rfl
       refine sX aA ?_
       refine AW.cond ?_
       refine aI (fun h4=>?_) (fun h4=>?_)
       ·refine eX aA ?_
        refine oi (show 0≤aV (((k+1:Nat):Int) - 1)∧aV (((k+1:Nat):Int) - 1)<((dB p fs (k+1)).length:Int) by rw[ek,mP];omega) ?_
        refine oi (show(aV (((k+1:Nat):Int) - 1)).toNat<(dB p fs (k+1)).length by rw[ekn,mP];omega) ?_
        refine oi (show(0:Int)≤(i:Int)∧(i:Int)<((((dB p fs (k+1)).getD (aV (((k+1:Nat):Int) - 1)).toNat default).levels.length:Nat):Int) by rw[ekn,mQ oM];show(0:Int)≤(i:Int)∧(i:Int)<((o6 p fs k).length:Int);unfold o6;simp;omega) ?_
        refine oi ⟨oM,oM⟩ ?_
        refine ob (show((i:Nat):Int).toNat<p.aW.levels.length by omega) ?_
        refine aD ?_
        refine eX aA ?_
        refine⟨i+1,oM,oM,?_⟩
        refine aS.bO aA [] rfl ⟨bQ,bQ,bQ,⟨rfl,aZ.row rfl fun a c ha hc=>aL.of_eq ?_⟩,oO⟩ ⟨qZ,qZ,qZ,qZ,qZ,qZ,qZ,qZ,⟨rfl,aU.int (aG oM oM)⟩,oO⟩
        refine TL (x:=mm false ((qO p fs (k+1) i).getD i 0) (((dB p fs (k+1)).getD (aV (((k+1:Nat):Int) - 1)).toNat default).levels.getD i 0)) ha hc ?_
        rw[aMO,ekn,mQ oM]
        show mm false _ ((o6 p fs k).getD i 0)=_
        rw[AO bK]
        exact EJ
       ·have h4:decide (((k+1:Nat):Int)>0)=false:=h4
        simp at h4
     ·have h2:¬(i:Int)<p.aW.levels.length:=bG h2
      obtain rfl:i=p.aW.levels.length:=oM
      rw[N1]
      refine AW.YC (σ':=⟨[(2,.s (.ptr 2 0)),(5,.s (.own 100)),(7,.s (.ptr 7 0)),(12,vI (month+1:Nat)),(13,vI (k+1:Nat))],[(2,some (.cells (lE p fs))),(100,some (.row 24 (dB p fs (k+1)).length 6 (CN (dB p fs (k+1))))),(7,some (.cells (T4 p.aW (.d (cE (o6 p fs (k+1)))))))]⟩) (pB.of aA [] [700] rfl rfl rfl ⟨⟨rfl,iP.rfl⟩,⟨rfl,iP.rfl⟩,⟨rfl,iP.cells ⟨cF.rfl,cF.rfl,cF.rfl,cF.rfl,cF.rfl,(cF.own sM rfl).then (aU.d (aL.of_eq (by unfold cE;rw[show(o6 p fs (k+1)).length=p.aW.levels.length by unfold o6;simp]))),oO⟩⟩,oO⟩ ⟨⟨rfl,cF.rfl⟩,⟨rfl,cF.rfl⟩,⟨rfl,cF.rfl⟩,⟨rfl,cF.rfl⟩,⟨rfl,cF.rfl⟩,oO⟩) ?_
      refine eX aA ?_
      refine ob (by rw[mP];show(k+1+1)*64≤_;omega) ?_
      refine ob (nZ fun c hc=>by match c,hc with|0,_|1,_|2,_|3,_|4,_|5,_=>rfl) ?_
      refine eX aA ?_
      refine⟨(k+1)+1,oM,oM,?_⟩
      refine aS.bO aA [(100,70)] rfl ⟨bQ,⟨rfl,?_⟩,oO⟩ ⟨qZ,qZ,qZ,⟨rfl,aU.int (aG oM oM)⟩,oO⟩
      show aZ _ (.row 24 (dB p fs (k+1+1)).length 6 (CN (dB p fs (k+1+1))))
      rw[VS p fs (k+1)]
      exact gT.row (el:=aET) (gT.snoc gT.refl fun c hc=>by match c,hc with|0,_|1,_|2,_|3,_|4,_|5,_=>rfl)
   ·have h1:¬((k+1:Nat):Int)<((month+1:Nat):Int):=bG h1
    obtain rfl:k=month:=oM
    refine eX aA ?_
    exact aC.refl _
abbrev aLB(b:Batch):List SV:=[.d (dI b.number),.d (dI b.aW),.d (dI b.over),.d (dS b.aO),.d (dI b.cls)]
def yO(l:List mM)(s:ByteArray):Int:=Ch.cJ (fun x=>bB x.aO s) l 0
theorem aKI(q:mM)(s:ByteArray)(f:Nat→DV)(hf:f 0=dS s):aF prog 352 [.g [.d (dS q.aO),.d (dI q.num),.d (dI q.den)],.s (.d (.rp 1 f))] (vB (bB q.aO s)):=by
 refine aF.conv (args:=[.g [.d (dS q.aO),.d (dI q.num),.d (dI q.den)],.s (.d (.rp 1 fun _=>dS s))]) ?_ ⟨⟨aL.refl _,aL.refl _,aL.refl _,oO⟩,aL.rp fun j hj=>aL.of_eq (by rw[show j=0 by omega];exact hf),oO⟩
 refine eP func352 rfl rfl call352 rfl rfl fun cx aA=>?_
 exact aC.refl _
theorem O9(y:fV)(s:ByteArray)(hl:y.a8.length≤9223372036854775807):aF prog 327 [r8 y,vS s] (vI (yO y.a8 s)):=by
 refine eP func327 rfl rfl call327 rfl rfl fun cx aA=>?_
 refine aB (V3 y.a8 hl 352 1 _ (fun q=>bB q.aO s) (fun q _=>aKI q s _ rfl)) ?_
 exact aC.refl _
def P3(y:fV)(b:Batch):Int:=
 bif !within b.number 1 1000000|| !within b.aW 0 1000000000000|| !within b.over 0 b.aW then 2
 else bif decide (yO y.a8 b.aO<0)then 6 else bif !within b.cls 0 9 then 2 else 0
theorem SI(y:fV)(b:Batch)(hl:y.a8.length≤9223372036854775807):aF prog 324 [r8 y,aDW b] (vI (P3 y b)):=by
 refine eP func324 rfl rfl call324 rfl rfl fun cx aA=>?_
 refine aB (jQ _ _ _) ?_
 repeat refine aR ?_
 refine bS (jQ _ _ _) ?_
 repeat refine aR ?_
 refine bS (jQ _ _ _) ?_
 repeat refine aR ?_
 refine aI (fun h1=>?_) (fun h1=>?_)
 ·have h1:(!within b.number 1 1000000|| !within b.aW 0 1000000000000|| !within b.over 0 b.aW)=true:=h1
  exact aC.of_eq (by unfold P3;rw[h1];rfl)
 have h1:(!within b.number 1 1000000|| !within b.aW 0 1000000000000|| !within b.over 0 b.aW)=false:=h1
 refine aB (O9 y b.aO hl) ?_
 refine aI (fun h2=>?_) (fun h2=>?_)
 ·have h2:decide (yO y.a8 b.aO<0)=true:=h2
  exact aC.of_eq (by unfold P3;rw[h1,h2];rfl)
 have h2:decide (yO y.a8 b.aO<0)=false:=h2
 refine aB (jQ _ _ _) ?_
 refine aI (fun h3=>?_) (fun h3=>?_)
 ·have h3:(!within b.cls 0 9)=true:=h3
  exact aC.of_eq (by unfold P3;rw[h1,h2,h3];rfl)
 ·have h3:(!within b.cls 0 9)=false:=h3
  exact aC.of_eq (by unfold P3;rw[h1,h2,h3];rfl)
def xN(y:fV)(b:Batch):Int:=bif kA y !=0 then kA y else P3 y b
theorem S2(y:fV)(b:Batch)(hy:y.fits):aF prog 274 [r8 y,aDW b] (vI (xN y b)):=by
 refine eP func274 rfl rfl call274 rfl rfl fun cx aA=>?_
 refine aB (aA1 y hy) ?_
 refine aI (fun h1=>?_) (fun h1=>?_)
 ·have h1:(kA y !=0)=true:=h1
  exact aC.of_eq (by unfold xN;rw[h1];rfl)
 have h1:(kA y !=0)=false:=h1
 refine aB (SI y b hy.a8) ?_
 exact aC.of_eq (by unfold xN;rw[h1];rfl)
def L9(y:fV)(n:Int):Bool:=y.bC.any fun d=>d.batch==n
theorem aNE(q:MY)(n:Int)(f:Nat→DV)(hf:f 0=dI n):aF prog 326 [aDH q,.s (.d (.rp 1 f))] (vB (q.batch==n)):=by
 refine aF.conv (args:=[aDH q,.s (.d (.rp 1 fun _=>dI n))]) ?_ ⟨⟨aL.refl _,aL.refl _,aL.refl _,oO⟩,aL.rp fun j hj=>aL.of_eq (by rw[show j=0 by omega];exact hf),oO⟩
 refine eP func326 rfl rfl call326 rfl rfl fun cx aA=>?_
 exact aC.refl _
theorem WV(y:fV)(n:Int)(hl:y.bC.length≤9223372036854775807):aF prog 275 [r8 y,vI n] (vB (L9 y n)):=by
 refine eP func275 rfl rfl call275 rfl rfl fun cx aA=>?_
 refine aB (PO y.bC hl 326 1 _ (fun q=>q.batch==n) (fun q _=>aNE q n _ rfl)) ?_
 exact aC.refl _
def H8(y:fV)(p:tD)(cls iE:Int):Int:=bif !p.aT.contains cls then 20 else bif decide (FJ y p<iE)then 19 else 0
theorem refusal(y:fV)(p:tD)(cls iE:Int)(hl:y.bC.length≤9223372036854775807)(hc:p.aT.length≤1000000):aF prog 277 [r8 y,FT p,vI cls,vI iE] (vI (H8 y p cls iE)):=by
 refine eP func277 rfl rfl call277 rfl rfl fun cx aA=>?_
 refine aB (XN p.aT cls hc) ?_
 refine aI (fun h1=>?_) (fun h1=>?_)
 ·have h1:(!p.aT.contains cls)=true:=h1
  exact aC.of_eq (by unfold H8;rw[h1];rfl)
 have h1:(!p.aT.contains cls)=false:=h1
 refine aB (aEU y p hl) ?_
 refine aI (fun h2=>?_) (fun h2=>?_)
 ·have h2:decide (FJ y p<iE)=true:=h2
  exact aC.of_eq (by unfold H8;rw[h1,h2];rfl)
 ·have h2:decide (FJ y p<iE)=false:=h2
  exact aC.of_eq (by unfold H8;rw[h1,h2];rfl)
theorem MG:aF prog 161 [vX []] (.s (.d eK)):=by
 refine eP func161 rfl rfl call161 rfl rfl fun cx aA=>?_
 refine aI (fun h=>?_) (fun h=>?_)
 ·exact aC.refl _
 ·cases h
theorem aDO(y:fV)(h:y.small)(x7:0<y.aP.length)(hc:0<y.carry.length)(hd:y.bC=[]):bT prog 88 [r8 y] [] (.g [.d (qC y.aP),.d (oA y.a8),.d eK,.own 9]) [(9,.row 3 y.carry.length 1 (eH y.carry))]:=by
 have hp:=h.aP
 have xU:=h.carry
 refine gL func88 rfl rfl call88 aJ rfl rfl rfl rfl (fun cx aA=>?_)
 have aA:cx.ref=[]:=aA
 refine sX aA ?_
 refine AW.seq (ex.sound (rc:=[1000159,1000162]) aJ mix aA _ ?_)
 refine⟨[(9,501)],_,_,_,_,zJ y.aP x7 h.aP,rfl,rfl,rfl,?_⟩
 refine aB (uD y.a8 h.a8) ?_
 rw[hd]
 refine aB (MG) ?_
 refine⟨[(9,502)],_,_,_,_,HF y.carry hc xU,rfl,rfl,rfl,?_⟩
 refine aD ?_
 refine AW.seq (sX aA ?_)
 refine AW.block ?_
 refine AW.cV (fun i:Nat=>⟨[(2,.s (.ptr 2 0)),(3,.s (.ptr 3 0)),(20,vI y.aP.length),(21,vI i)],[(2,some (.cells (iS ty88.zero))),(3,some (.cells [.own 501,.d (oA y.a8),.d eK,.own 502])),(501,some (.row 69 y.aP.length 6 (DB y.aP))),(502,some (.row 3 y.carry.length 1 (eH y.carry)))]⟩) (fun i=>i≤y.aP.length) (fun i=>y.aP.length - i) 0 (Nat.zero_le _) ?_ ?_
 ·exact aS.bO aA [] rfl ⟨bQ,bQ,⟨rfl,(xX (el:=VO) y.aP).row⟩,⟨rfl,(xX (el:=fun x _=>dI x) y.carry).row⟩,oO⟩ ⟨qZ,qZ,qZ,qZ,oO⟩
 ·intro i hi
  refine eX aA ?_
  refine aI (fun h5=>?_) (fun h5=>?_)
  ·have h5:(i:Int)<y.aP.length:=bL h5
   refine oi ⟨oM,oM⟩ ?_
   refine oi (by show(i:Int).toNat<y.aP.length;omega) ?_
   refine aB (sZ (y.aP.getD i default).aT (h.aT _ (cT oM))) ?_
   refine oi ⟨oM,oM⟩ ?_
   refine ob (by show(i:Int).toNat<y.aP.length;omega) ?_
   refine aD ?_
   refine⟨i+1,oM,oM,?_⟩
   exact aS.bO aA [] rfl ⟨bQ,bQ,⟨rfl,(MF y.aP i).row⟩,bQ,oO⟩ ⟨qZ,qZ,qZ,⟨rfl,aU.int (aG oM oM)⟩,oO⟩
  ·refine AW.YC (σ':=⟨[(2,.s (.ptr 2 0)),(3,.s (.ptr 3 0))],[(2,some (.cells (iS ty88.zero))),(3,some (.cells [.d (qC y.aP),.d (oA y.a8),.d eK,.own 9])),(9,some (.row 3 y.carry.length 1 (eH y.carry)))]⟩) (pB.of aA [(9,502)] [501] rfl rfl rfl ⟨⟨rfl,iP.rfl⟩,⟨rfl,iP.cells ⟨cF.own sM rfl,cF.rfl,cF.rfl,cF.rfl,oO⟩⟩,⟨rfl,iP.rfl⟩,oO⟩ ⟨⟨rfl,cF.rfl⟩,⟨rfl,cF.rfl⟩,oO⟩) ?_
   refine eX aA ?_
   exact⟨aU.rfl,rfl,oO⟩
theorem aDN(y:fV)(h:y.small)(x7:0<y.aP.length)(hc:0<y.carry.length)(hd:0<y.bC.length):bT prog 88 [r8 y] [] (.g [.d (qC y.aP),.d (oA y.a8),.own 8,.own 9]) [(8,.row 177 y.bC.length 3 (D5 y.bC)),(9,.row 3 y.carry.length 1 (eH y.carry))]:=by
 have hp:=h.aP
 have xU:=h.carry
 refine gL func88 rfl rfl call88 aJ rfl rfl rfl rfl (fun cx aA=>?_)
 have aA:cx.ref=[]:=aA
 refine sX aA ?_
 refine AW.seq (ex.sound (rc:=[1000159,1000161,1000162]) aJ mix aA _ ?_)
 refine⟨[(9,501)],_,_,_,_,zJ y.aP x7 h.aP,rfl,rfl,rfl,?_⟩
 refine aB (uD y.a8 h.a8) ?_
 refine⟨[(9,503)],_,_,_,_,SF y.bC hd h.bC,rfl,rfl,rfl,?_⟩
 refine⟨[(9,502)],_,_,_,_,HF y.carry hc xU,rfl,rfl,rfl,?_⟩
 refine aD ?_
 refine AW.seq (sX aA ?_)
 refine AW.block ?_
 refine AW.cV (fun i:Nat=>⟨[(2,.s (.ptr 2 0)),(3,.s (.ptr 3 0)),(20,vI y.aP.length),(21,vI i)],[(2,some (.cells (iS ty88.zero))),(3,some (.cells [.own 501,.d (oA y.a8),.own 503,.own 502])),(501,some (.row 69 y.aP.length 6 (DB y.aP))),(503,some (.row 177 y.bC.length 3 (D5 y.bC))),(502,some (.row 3 y.carry.length 1 (eH y.carry)))]⟩) (fun i=>i≤y.aP.length) (fun i=>y.aP.length - i) 0 (Nat.zero_le _) ?_ ?_
 ·exact aS.bO aA [] rfl ⟨bQ,bQ,⟨rfl,(xX (el:=VO) y.aP).row⟩,⟨rfl,(xX (el:=aDI) y.bC).row⟩,⟨rfl,(xX (el:=fun x _=>dI x) y.carry).row⟩,oO⟩ ⟨qZ,qZ,qZ,qZ,oO⟩
 ·intro i hi
  refine eX aA ?_
  refine aI (fun h5=>?_) (fun h5=>?_)
  ·have h5:(i:Int)<y.aP.length:=bL h5
   refine oi ⟨oM,oM⟩ ?_
   refine oi (by show(i:Int).toNat<y.aP.length;omega) ?_
   refine aB (sZ (y.aP.getD i default).aT (h.aT _ (cT oM))) ?_
   refine oi ⟨oM,oM⟩ ?_
   refine ob (by show(i:Int).toNat<y.aP.length;omega) ?_
   refine aD ?_
   refine⟨i+1,oM,oM,?_⟩
   exact aS.bO aA [] rfl ⟨bQ,bQ,⟨rfl,(MF y.aP i).row⟩,bQ,bQ,oO⟩ ⟨qZ,qZ,qZ,⟨rfl,aU.int (aG oM oM)⟩,oO⟩
  ·refine AW.YC (σ':=⟨[(2,.s (.ptr 2 0)),(3,.s (.ptr 3 0))],[(2,some (.cells (iS ty88.zero))),(3,some (.cells [.d (qC y.aP),.d (oA y.a8),.own 8,.own 9])),(8,some (.row 177 y.bC.length 3 (D5 y.bC))),(9,some (.row 3 y.carry.length 1 (eH y.carry)))]⟩) (pB.of aA [(8,503),(9,502)] [501] rfl rfl rfl ⟨⟨rfl,iP.rfl⟩,⟨rfl,iP.cells ⟨cF.own sM rfl,cF.rfl,cF.rfl,cF.rfl,oO⟩⟩,⟨rfl,iP.rfl⟩,⟨rfl,iP.rfl⟩,oO⟩ ⟨⟨rfl,cF.rfl⟩,⟨rfl,cF.rfl⟩,oO⟩) ?_
   refine eX aA ?_
   exact⟨aU.rfl,rfl,rfl,oO⟩
def HO(y:fV)(b:Batch):Nat:=(yO y.a8 b.aO).toNat
def P1(y:fV)(b:Batch):Int:=aV (aV (aV (b.aW - b.over)*(y.a8.getD (HO y b) default).num)+y.carry.getD (HO y b) 0)
def qD(y:fV)(b:Batch):Int:=aV (Int.tdiv (P1 y b) (y.a8.getD (HO y b) default).den)
def oB(y:fV)(b:Batch):List Int:=y.carry.set (HO y b) (Int.tmod (P1 y b) (y.a8.getD (HO y b) default).den)
theorem aHP(y:fV)(b:Batch)(hl:y.a8.length≤1000000)(h0:0≤yO y.a8 b.aO)(hc:y.carry.length=y.a8.length)(hd:(y.a8.getD (HO y b) default).den≠0):
  bT prog 276 [r8 y,aDW b,.s (.own 1001)] [(1001,.row 3 y.carry.length 1 (eH y.carry))] (vI (qD y b)) [(1001,.row 3 y.carry.length 1 (eH (oB y b)))]:=by
 have fR:HO y b<y.a8.length:=(AU (fun x:mM=>bB x.aO b.aO) y.a8 0 h0).2.1
 have hN:yO y.a8 b.aO=(HO y b:Int):=by unfold HO;omega
 refine kP func276 rfl rfl call276 aJ rfl rfl rfl rfl (fun cx aA=>?_)
 refine sX aA ?_
 refine sX aA ?_
 refine aB (O9 y b.aO oM) ?_
 rw[hN]
 generalize hi:HO y b=i at fR hd
 refine sX aA ?_
 refine oi ⟨oM,oM⟩ ?_
 refine sX aA ?_
 refine oi ⟨oM,oM⟩ ?_
 refine oi (show((i:Nat):Int).toNat<y.carry.length by omega) ?_
 refine aD ?_
 refine sX aA ?_
 refine oi hd ?_
 refine oi ⟨oM,oM⟩ ?_
 refine ob (show((i:Nat):Int).toNat<y.carry.length by omega) ?_
 have hT:P1 y b=aV (aV (aV (b.aW - b.over)*(y.a8.getD i default).num)+y.carry.getD i 0):=by unfold P1;rw[hi]
 refine AW.gG (σ':=⟨[(8,.s (.ptr 8 0)),(9,vI (P1 y b))],[(8,some (.cells [.d (dI (y.a8.getD i default).num),.d (dI (y.a8.getD i default).den)])),(1001,some (.row 3 y.carry.length 1 (eH (oB y b))))]⟩) (aS.of [] (by rw[aA];rfl) rfl ⟨bQ,⟨rfl,aZ.row rfl fun a c ha O1=>aL.of_eq ?_⟩,oO⟩ ⟨qZ,⟨rfl,aU.int hT.symm⟩,oO⟩) ?_
 ·obtain rfl:c=0:=oM
  show fL (eH y.carry) i 0 [.d (dI (Int.tmod (aV (aV (aV (b.aW - b.over)*(y.a8.getD i default).num)+y.carry.getD i 0)) (y.a8.getD i default).den))] a 0=dI ((oB y b).getD a 0)
  unfold oB
  rw[hi,hT]
  by_cases h2:a=i
  ·subst h2
   rw[wK]
   simp[List.getD_eq_getElem?_getD,show a<y.carry.length by omega]
  ·rw[B8 h2]
   show dI (y.carry.getD a 0)=_
   simp[List.getD_eq_getElem?_getD,Ne.symm h2]
 refine eX aA ?_
 refine oi hd ?_
 refine⟨aC.of_eq (by unfold qD;rw[hi];rfl),rfl,oO⟩
def nU(y:fV)(b:Batch)(dO:ByteArray):Int:=
 bif xN y b !=0 then xN y b else bif L9 y b.number then 5 else bif decide (k9 y.aP dO<0)then 6
 else bif H8 y (y.aP.getD (k9 y.aP dO).toNat default) b.cls (qD y b) !=0 then H8 y (y.aP.getD (k9 y.aP dO).toNat default) b.cls (qD y b)
 else bif decide ((y.bC.length:Int)≥200)then 8 else 0
def NV(y:fV)(b:Batch)(dO:ByteArray):fV:={y with bC:=y.bC++ [⟨b.number,dO,qD y b⟩],carry:=oB y b}
def FR(y:fV)(b:Batch)(dO:ByteArray):List SV:=bif nU y b dO !=0 then iS ty88.zero else tF (NV y b dO)
structure xK(y:fV):Prop where
 fits:y.fits
 small:y.small
 zero:kA y=0→y.carry.length=y.a8.length∧∀i,i<y.a8.length→(y.a8.getD i default).den≠0
theorem Place(y:fV)(b:Batch)(dO:ByteArray)(hy:xK y):aF prog 228 [r8 y,aDW b,vS dO] (.t [.g (FR y b dO),.s (.d (dI (nU y b dO)))]):=by
 have aAE:=hy.fits
 have yY:=hy.small
 have hl:y.bC.length≤9223372036854775807:=aAE.bC
 have tW:∀{e:Int},nU y b dO=e→(e !=0)=true→aC (.t [.g (iS ty88.zero),.s (.d (dI e))]) (.t [.g (FR y b dO),.s (.d (dI (nU y b dO)))]):=fun h1 h2=>aC.of_eq (by unfold FR;rw[h1,h2];rfl)
 refine eW func228 rfl rfl call228 rfl rfl (fun cx aA=>?_)
 refine sX aA ?_
 refine AW.seq (sX aA ?_)
 refine aB (S2 y b aAE) ?_
 refine sX aA ?_
 refine AW.cond ?_
 refine aI (fun h1=>?_) (fun h1=>AW.skip ?_)
 ·have h1:(xN y b !=0)=true:=h1
  refine eX aA ?_
  exact tW (by unfold nU;rw[h1];rfl) h1
 have h1:(xN y b !=0)=false:=h1
 have hyz:kA y=0:=by
  have IJ:xN y b=0:=by simpa using h1
  unfold xN at IJ
  cases h:(kA y !=0)with
  |true=>
   rw[h]at IJ
   have IJ:kA y=0:=IJ
   rw[IJ]at h;cases h
  |false=>simpa using h
 have hba:P3 y b=0:=by
  have IJ:xN y b=0:=by simpa using h1
  unfold xN at IJ
  rw[hyz]at IJ
  exact IJ
 have hblk:0≤yO y.a8 b.aO:=by
  unfold P3 at hba
  cases h:decide (yO y.a8 b.aO<0)with
  |false=>
   have:¬yO y.a8 b.aO<0:=by simpa using h
   omega
  |true=>
   rw[h]at hba
   cases h':(!within b.number 1 1000000|| !within b.aW 0 1000000000000|| !within b.over 0 b.aW) <;> rw[h']at hba <;> cases hba
 obtain⟨xU,aM2⟩:=hy.zero hyz
 have fR:HO y b<y.a8.length:=(AU (fun x:mM=>bB x.aO b.aO) y.a8 0 hblk).2.1
 refine sX aA ?_
 refine aB (aEB y dO aAE.aP) ?_
 refine AW.seq (AW.block (sX aA ?_))
 refine aB (WV y b.number hl) ?_
 refine AW.cond ?_
 refine aI (fun h2=>?_) (fun h2=>?_)
 ·have h2:L9 y b.number=true:=h2
  refine eX aA ?_
  exact tW (by unfold nU;rw[h1,h2];rfl) rfl
 have h2:L9 y b.number=false:=h2
 refine sX aA ?_
 refine AW.cond ?_
 refine aI (fun h3=>?_) (fun h3=>AW.skip ?_)
 ·have h3:decide (k9 y.aP dO<0)=true:=h3
  refine eX aA ?_
  exact tW (by unfold nU;rw[h1,h2,h3];rfl) rfl
 have h3:decide (k9 y.aP dO<0)=false:=h3
 have hp0:0≤k9 y.aP dO:=by
  have:¬k9 y.aP dO<0:=by simpa using h3
  omega
 have hpl:(k9 y.aP dO).toNat<y.aP.length:=(AU (fun x:tD=>bB x.name dO) y.aP 0 hp0).2.1
 have aJW:(y.aP.getD (k9 y.aP dO).toNat default).aT.length≤1000000:=yY.aT _ (cT hpl)
 have hb:=aHP y b yY.a8 hblk xU (aM2 _ fR)
 by_cases hd:y.bC=[]
 ·refine AW.seq (ex.sound (rc:=[88]) aJ mix aA _ ?_)
  refine⟨[(9,602)],_,_,_,_,aDO y yY oM oM hd,rfl,trivial,rfl,?_⟩
  refine AW.seq (ex.sound (rc:=[276]) aJ mix aA _ ?_)
  refine⟨[(1001,602)],_,_,_,_,hb,rfl,⟨rfl,oO⟩,rfl,?_⟩
  refine AW.seq (sX aA ?_)
  refine oi ⟨oM,oM⟩ ?_
  refine aB (refusal y (y.aP.getD (k9 y.aP dO).toNat default) b.cls (qD y b) hl aJW) ?_
  refine aD ?_
  refine sX aA ?_
  refine AW.cond ?_
  refine aI (fun h4=>?_) (fun h4=>AW.skip ?_)
  ·have h4:(H8 y (y.aP.getD (k9 y.aP dO).toNat default) b.cls (qD y b) !=0)=true:=h4
   refine eX aA ?_
   exact tW (by unfold nU;rw[h1,h2,h3,h4];rfl) h4
  have h4:(H8 y (y.aP.getD (k9 y.aP dO).toNat default) b.cls (qD y b) !=0)=false:=h4
  refine AW.seq (sX aA ?_)
  refine AW.cond ?_
  refine aI (fun h5=>?_) (fun h5=>AW.skip ?_)
  ·have h5:decide ((y.bC.length:Int)≥200)=true:=h5
   refine eX aA ?_
   exact tW (by unfold nU;rw[h1,h2,h3,h4,h5];rfl) rfl
  have h5:decide ((y.bC.length:Int)≥200)=false:=h5
  have he:nU y b dO=0:=by unfold nU;rw[h1,h2,h3,h4,h5];rfl
  have aGM:(oB y b).length=y.carry.length:=by unfold oB;simp
  refine AW.gG (σ':=⟨[(2,vS dO),(6,.s (.ptr 6 0)),(4,.s (.ptr 4 0)),(10,.s (.ptr 10 0)),(11,vI (qD y b))],[(4,some (.cells (aLB b))),(6,some (.cells (iS ty88.zero))),(10,some (.cells [.d (qC y.aP),.d (oA y.a8),.d eK,.own 602])),(602,some (.row 3 (oB y b).length 1 (eH (oB y b))))]⟩) (aS.bO aA [] rfl ⟨bQ,bQ,bQ,⟨rfl,aZ.of_eq (by rw[aGM];rfl)⟩,oO⟩ ⟨qZ,qZ,qZ,qZ,qZ,oO⟩) ?_
  refine eX aA ?_
  refine ob dC ?_
  refine ob dC ?_
  rw[show FR y b dO=tF (NV y b dO) by unfold FR;rw[he];rfl,he]
  refine aC.t ⟨⟨aL.refl _,aL.refl _,?_,aL.refl _,oO⟩,aL.refl _,oO⟩
  show aL _ (KE (y.bC++ [⟨b.number,dO,qD y b⟩]))
  rw[hd]
  exact gT.fW (el:=aDI) (gT.one (lt3 rfl rfl rfl))
 ·refine AW.seq (ex.sound (rc:=[88]) aJ mix aA _ ?_)
  refine⟨[(8,601),(9,602)],_,_,_,_,aDN y yY oM oM (List.length_pos_iff.2 hd),rfl,trivial,rfl,?_⟩
  refine AW.seq (ex.sound (rc:=[276]) aJ mix aA _ ?_)
  refine⟨[(1001,602)],_,_,_,_,hb,rfl,⟨rfl,oO⟩,rfl,?_⟩
  refine AW.seq (sX aA ?_)
  refine oi ⟨oM,oM⟩ ?_
  refine aB (refusal y (y.aP.getD (k9 y.aP dO).toNat default) b.cls (qD y b) hl aJW) ?_
  refine aD ?_
  refine sX aA ?_
  refine AW.cond ?_
  refine aI (fun h4=>?_) (fun h4=>AW.skip ?_)
  ·have h4:(H8 y (y.aP.getD (k9 y.aP dO).toNat default) b.cls (qD y b) !=0)=true:=h4
   refine eX aA ?_
   exact tW (by unfold nU;rw[h1,h2,h3,h4];rfl) h4
  have h4:(H8 y (y.aP.getD (k9 y.aP dO).toNat default) b.cls (qD y b) !=0)=false:=h4
  refine AW.seq (sX aA ?_)
  refine AW.cond ?_
  refine aI (fun h5=>?_) (fun h5=>AW.skip ?_)
  ·have h5:decide ((y.bC.length:Int)≥200)=true:=h5
   refine eX aA ?_
   exact tW (by unfold nU;rw[h1,h2,h3,h4,h5];rfl) rfl
  have h5:decide ((y.bC.length:Int)≥200)=false:=h5
  have he:nU y b dO=0:=by unfold nU;rw[h1,h2,h3,h4,h5];rfl
  have aGM:(oB y b).length=y.carry.length:=by unfold oB;simp
  refine AW.gG (σ':=⟨[(2,vS dO),(6,.s (.ptr 6 0)),(4,.s (.ptr 4 0)),(10,.s (.ptr 10 0)),(11,vI (qD y b))],[(4,some (.cells (aLB b))),(6,some (.cells (iS ty88.zero))),(10,some (.cells [.d (qC y.aP),.d (oA y.a8),.own 601,.own 602])),(601,some (.row 177 y.bC.length 3 (D5 y.bC))),(602,some (.row 3 (oB y b).length 1 (eH (oB y b))))]⟩) (aS.bO aA [] rfl ⟨bQ,bQ,bQ,bQ,⟨rfl,aZ.of_eq (by rw[aGM];rfl)⟩,oO⟩ ⟨qZ,qZ,qZ,qZ,qZ,oO⟩) ?_
  refine eX aA ?_
  refine ob (show(y.bC.length+1)*32≤140737488355328 by have:=yY.bC;omega) ?_
  refine ob (nZ (lt3 rfl rfl rfl)) ?_
  rw[show FR y b dO=tF (NV y b dO) by unfold FR;rw[he];rfl,he]
  refine aC.t ⟨⟨aL.refl _,aL.refl _,?_,aL.refl _,oO⟩,aL.refl _,oO⟩
  show aL _ (KE (y.bC++ [⟨b.number,dO,qD y b⟩]))
  exact gT.fW (el:=aDI) (gT.snoc gT.refl (lt3 rfl rfl rfl))
end Go.Pj
