/- Part 7: lemmas that the proofs of this seat share; by itself it claims nothing. -/
import Derived.Shelf.Strings.OnBuilder
import Derived.Shelf.Small.Strs
import Derived.Shelf.Small.Wraps
import Derived.Shelf.Utf8.RuneCount
import Derived.Shelf.Strconv.Itoa3
import Derived.Shelf.Strconv.AtoiErr
import Derived.Shelf.Strconv.AtoiAll
import Derived.Shelf.Strconv.ParseInt10At64
import Derived.Shelf.Strconv.ParseInt10At32
import Derived.Shelf.Strconv.ParseInt10At16
import Derived.Shelf.Strconv.ParseInt10At8
import Derived.Shelf.Strings.Shaped
import Derived.Shelf.Sort.Plain
import Derived.Shelf.Strings.SplitShaped
import Derived.Shelf.Strings.Explode
import Derived.Shelf.Bits.Mul64
import Derived.Shelf.Unicode.DecodeAny
import Derived.Shelf.Strings.BuilderCap
import Derived.Shelf.Slices.Turned
import Derived.Shelf.Slices.Clone
import Derived.Shelf.Slices.SearchI
import Derived.Shelf.Slices.Cells
import Derived.Shelf.Slices.In.SortNone
import Derived.Shelf.SlicesE.Reverse
import Derived.Shelf.SlicesE.Clone
import Derived.Shelf.Spec.SlicesInsertGrow
import Derived.Shelf.Strings.FieldsAny
import Derived.Shelf.SlSortCmp.NoneTotal
import Derived.Test.YtmmfnloidfibkaaGreatDoorPt6
set_option maxRecDepth 100000
set_option maxHeartbeats 2000000
set_option linter.defProp false
namespace Go.Proofs
open Go.Shelf
def Tryz.M4:Go.Shelf.Ren:=⟨λ|171=>28|243=>54|246=>100|283=>163|284=>164|285=>165|286=>166|129=>98|317=>219|318=>220|319=>221|320=>222|337=>309|338=>310|n=>n,λ|3=>3|9=>9|2=>2|4=>4|171=>273|0=>0|53=>214|37=>195|5=>5|173=>275|212=>332|51=>212|20=>20|213=>333|46=>153|232=>413|233=>414|n=>n,λ|17=>1|18=>2|19=>3|n=>n⟩
def Tryz.aBX:Go.Proofs.LaysM.n171 Tryz.prog Tryz.M4:=by repeat first|kernel_rfl|(intros;kernel_rfl)|decide|constructor
open Go.RowKit Go.Sort Go.Lib in
def Tryz.strconv_Itoa(n:Int)(h0: -9223372036854775808<=n)(h1:n<=9223372036854775807)(w:Aa)(aO9:Lib.TabIs Tryz.prog w "internal/strconv.uint64pow10" .u64 Lib.pow10Tab):
  Calls Tryz.prog 28 #[.int .i64 n] w λe w'=>e=.returned (.string ⟨(Lib.itoa n).toArray⟩)/\∃k os,w'=grow (w.drewN k) os:=Any.strconv_Itoa Tryz.aBX n h0 h1 w aO9
def Tryz.M5:Go.Shelf.Ren:=⟨λ|172=>321|244=>353|245=>354|247=>367|279=>368|280=>369|281=>370|282=>371|287=>375|316=>376|171=>28|205=>377|321=>379|322=>380|243=>54|246=>100|283=>163|284=>164|285=>165|286=>166|129=>98|317=>219|318=>220|319=>221|320=>222|337=>309|338=>310|n=>n,λ|9=>9|3=>3|75=>200|76=>201|4=>4|5=>5|167=>424|37=>195|0=>0|85=>425|2=>2|168=>427|53=>214|175=>437|46=>153|210=>441|127=>266|145=>446|143=>444|21=>21|171=>273|173=>275|212=>332|51=>212|20=>20|213=>333|232=>413|233=>414|80=>203|n=>n,λ|15=>6|16=>7|17=>1|18=>2|19=>3|n=>n⟩
def Tryz.HE:Go.Proofs.LaysC.n172 Tryz.prog Tryz.M5:=by repeat first|kernel_rfl|(intros;kernel_rfl)|decide|constructor
open Go.RowKit in
def Tryz.strconv_Atoi_ok(s:ta)(aIZ:s.size<=9223372036854775806)(v:Int)(h:Lib.atoiAll s.data.toList=.ok v)(w:Aa):
  Calls Tryz.prog 321 #[.string s] w λe w'=>e=.returned (.tuple #[.int .i64 v,.nilIface])/\(w'=w\/∃t,w'=Lib.bytesWorld w 5 t):=Any.strconv_Atoi_ok Tryz.HE s aIZ v h w
def aBK:Lib.NumEnd Int->Bool
 |.ok _=>false
 |.range=>false
 |_=>true
open Go.RowKit in
def Tryz.C6(s:ta)(aI1:s.size<=281474976710656)(h:aBK (Lib.atoiAll s.data.toList)=true)(ev:wa)(w:Aa)(hv:w.cell? ⟨6,0,none⟩=some ev)(hev:ev=.nilIface\/∃te pe,ev=.iface te pe):
  Calls Tryz.prog 321 #[.string s] w λe w'=>∃N,e=.returned (.tuple #[.int .i64 (0),.iface 427 (.pointer (some ⟨N,0,none⟩))])/\w.heap.size<=N/\w'.heap[N]? =some (.cells #[.string ⟨#[65,116,111,105]⟩,.string s,ev] 441 (0,0))/\Below w.heap.size w w':=Any.strconv_Atoi_syntax Tryz.HE s aI1 (by revert h;cases Lib.atoiAll s.data.toList <;> intro h <;> first|rfl|cases h) ev w hv hev
open Go.RowKit in
def Tryz.strconv_Atoi_range(s:ta)(aI1:s.size<=281474976710656)(h:Lib.atoiAll s.data.toList=.range)(ev:wa)(w:Aa)(hv:w.cell? ⟨7,0,none⟩=some ev)(hev:ev=.nilIface\/∃te pe,ev=.iface te pe):
  Calls Tryz.prog 321 #[.string s] w λe w'=>∃N,e=.returned (.tuple #[.int .i64 (Lib.atoiSat s.data.toList),.iface 427 (.pointer (some ⟨N,0,none⟩))])/\w.heap.size<=N/\w'.heap[N]? =some (.cells #[.string ⟨#[65,116,111,105]⟩,.string s,ev] 441 (0,0))/\Below w.heap.size w w':=Any.strconv_Atoi_range Tryz.HE s aI1 h ev w hv hev
def Tryz.EI:Go.Shelf.Ren:=⟨λ|156=>50|165=>86|166=>87|169=>88|240=>156|241=>157|276=>216|277=>217|n=>n,λ|31=>147|9=>9|3=>3|4=>4|0=>0|20=>20|72=>197|76=>201|70=>194|37=>195|75=>200|127=>266|164=>325|5=>5|80=>203|n=>n,λ|n=>n⟩
def Tryz.V0:Go.Proofs.Lays.n156 Tryz.prog Tryz.EI:=by repeat first|kernel_rfl|(intros;kernel_rfl)|decide|constructor
def Tryz.sD:Builder.Extra Tryz.prog Tryz.EI:=by repeat first|kernel_rfl|(intros;kernel_rfl)|decide|constructor
open Go.RowKit in
def Tryz.strings_Join(bk o c:Nat)(xs:List ta)(sep:ta)(w:Aa)(kB:∀(j:Nat) x,xs[j]? =some x->w.cell? ⟨bk,o+j,none⟩=some (.string x))(hbk:bk<w.heap.size)(hN:xs.length<=140737488355328)(wI:xs.length<=c)(hlen:(Lib.join (xs.map (·.data.toList)) sep.data.toList).length<=140737488355328):
  Calls Tryz.prog 50 #[.slice (some ⟨bk,o,none⟩) xs.length c,.string sep] w λe w'=>e=.returned (.string ⟨(Lib.join (xs.map (·.data.toList)) sep.data.toList).toArray⟩)/\Below w.heap.size w w':=Any.strings_Join Tryz.V0 Tryz.sD bk o c xs sep w kB hbk hN wI hlen
open Go.RowKit in
def Tryz.strings_Join_none(a:Da Addr)(c:Nat)(sep:ta)(w:Aa):
  Calls Tryz.prog 50 #[.slice a 0 c,.string sep] w λe w'=>e=.returned (.string ⟨#[]⟩)/\w'=w:=Any.strings_Join_none Tryz.V0 Tryz.sD a c sep w
def Tryz.P7:Go.Shelf.Ren:=⟨λ|103=>126|210=>194|206=>256|n=>n,λ|9=>9|4=>4|24=>239|3=>3|n=>n,λ|n=>n⟩
def Tryz.aFM:Go.Proofs.Lays.n103 Tryz.prog Tryz.P7:=by repeat first|kernel_rfl|(intros;kernel_rfl)|decide|constructor
open Go.RowKit in
def Tryz.strings_CutPrefix(s p:ta)(w:Aa):
  Calls Tryz.prog 126 #[.string s,.string p] w λe w'=>e=.returned (.tuple #[.string ⟨(Lib.trimPrefix s.data.toList p.data.toList).toArray⟩,.bool (Lib.hasPrefix s.data.toList p.data.toList)])/\w'=w:=Any.strings_CutPrefix Tryz.aFM s p w
def Tryz.P6:Go.Shelf.Ren:=⟨λ|106=>26|213=>53|265=>99|n=>n,λ|9=>9|3=>3|n=>n,λ|n=>n⟩
def Tryz.aFL:Go.Proofs.Lays.n106 Tryz.prog Tryz.P6:=by repeat first|kernel_rfl|(intros;kernel_rfl)|decide|constructor
open Go.RowKit in
def Tryz.strings_Compare(a b:ta)(w:Aa):
  Calls Tryz.prog 26 #[.string a,.string b] w λe w'=>e=.returned (.int .i64 (Lib.compareBytes a.data.toList b.data.toList))/\w'=w:=Any.strings_Compare Tryz.aFL a b w
def Tryz.P3:Go.Shelf.Ren:=⟨λ|190=>134|125=>52|258=>199|128=>97|129=>98|302=>270|303=>271|304=>272|305=>273|306=>274|307=>275|308=>276|309=>277|310=>278|333=>325|329=>159|330=>160|334=>326|335=>327|336=>328|344=>356|n=>n,λ|31=>147|9=>9|3=>3|46=>153|0=>0|51=>212|53=>214|4=>4|183=>206|182=>205|131=>139|5=>5|218=>267|222=>271|228=>328|229=>329|n=>n,λ|n=>n⟩
def Tryz.VZ:Go.Proofs.Lays.n190 Tryz.prog Tryz.P3:=by repeat first|kernel_rfl|(intros;kernel_rfl)|decide|constructor
open Go.Sort Go.RowKit in
def Tryz.slices_Sort_string(blk off cap:Nat)(ss:List (List UInt8))(w:Aa)(hH:Holds encStr w blk off ss.toArray)(hblk:blk<w.heap.size)(mL:ss.length<4611686018427387904):
  Calls Tryz.prog 134 #[.slice (some ⟨blk,off,none⟩) ss.length cap] w λe w'=>
   e=.returned (.tuple #[])/\∃n os,w'=grow (putRow encStr (Sort.ahead w n) blk off (ss.mergeSort λx y=>decide (x<=y)).toArray) os:=Any.slices_Sort_string Tryz.VZ blk off cap ss w hH hblk mL
open Go.RowKit Go.Sort in
def Tryz.slices_Sort_string_none(p:Da Addr)(cap:Nat)(w:Aa):
  Calls Tryz.prog 134 #[.slice p 0 cap] w λe w'=>e=.returned (.tuple #[])/\w'=w:=Any.slices_Sort_string_none Tryz.VZ p cap w
def Tryz.P4:Go.Shelf.Ren:=⟨λ|146=>195|221=>257|268=>318|138=>319|143=>320|195=>349|197=>350|218=>351|219=>352|260=>362|217=>363|225=>364|224=>365|267=>366|266=>373|314=>374|n=>n,λ|9=>9|31=>147|3=>3|4=>4|0=>0|105=>416|21=>21|5=>5|46=>153|119=>432|139=>435|138=>434|146=>406|51=>212|n=>n,λ|1=>0|3=>4|4=>5|n=>n⟩
def Tryz.aFK:Go.Proofs.Lays.n146 Tryz.prog Tryz.P4:=by repeat first|kernel_rfl|(intros;kernel_rfl)|decide|constructor
open Go.RowKit Go.Lib in
def Tryz.strings_Split(s sep:ta)(m:Int)(w:Aa)(hs:s.size<4294967281)(hm:w.cell? ⟨0,0,none⟩=some (.int .i64 m))(h1:1<=sep.size):
  Calls Tryz.prog 195 #[.string s,.string sep] w λe w'=>
   e=.returned (.slice (some ⟨w.heap.size,0,none⟩) (Lib.countB s sep+1) (Lib.countB s sep+1))/\w'=w.alloc (.cells ((Lib.splitB sep 0 (Lib.countB s sep) s).map Value.string).toArray 9):=Any.strings_Split Tryz.aFK (by kernel_rfl) s sep m w hs hm h1
def Tryz.P5:Go.Shelf.Ren:=⟨λ|109=>155|n=>n,λ|31=>147|9=>9|3=>3|0=>0|4=>4|n=>n,λ|n=>n⟩
def Tryz.V1:Go.Proofs.Lays.n109 Tryz.prog Tryz.P5:=by repeat first|kernel_rfl|(intros;kernel_rfl)|decide|constructor
open Go.Lib in
def Tryz.slices_Index_string(b off n c:Nat)(zs:List ta)(x:ta)(w:Aa)(hz:n<=zs.length)(aPU:n<=9223372036854775807)(hc:∀j,j<zs.length->w.cell? ⟨b,off+j,none⟩=some (.string (zs.getD j ByteArray.empty))):
  Calls Tryz.prog 155 #[.slice (some ⟨b,off,none⟩) n c,.string x] w λe w'=>e=.returned (.int .i64 (Lib.idxOfS (zs.take n) x))/\w'=w:=Any.slices_Index_string Tryz.V1 b off n c zs x w hz aPU hc
open Go.Lib in
def Tryz.slices_Index_string_empty(a:Da Addr)(c:Nat)(x:ta)(w:Aa):
  Calls Tryz.prog 155 #[.slice a 0 c,.string x] w λe w'=>e=.returned (.int .i64 (Lib.idxOfS [] x))/\w'=w:=Any.slices_Index_string_empty Tryz.V1 a c x w
end Go.Proofs
namespace Go.Ch
open Go Go.Ax Go.Proofs Go.Proofs.Tryz Go.RowKit
def nA{M:Mem}{w w':Aa}(h:lA M w)(hb:Below w.heap.size w w'):lA M w':=by
 intro b o u e;have hc:=h b o u e;have fZ:b<w.heap.size:=by
  rcases Ql b w.heap.size with h'|h'
  ·exact h'
  simp[World.cell?,Sv h']at hc
 have:w'.heap[b]? =w.heap[b]? :=hb.block b fZ;simp only[World.cell?,this]at hc⊢;exact hc
def xB(M:Mem)(w w':Aa):Mem:=λb o=>if w.heap.size<=b then w'.cell? ⟨b,o,none⟩else M b o
def PY{M:Mem}{w w':Aa}(h:lA M w):Grow w.heap.size M (xB M w w'):=by
 refine⟨λb o u e=>?_,λb o u e=>?_⟩
 ·have hc:=h b o u e;have fZ:¬w.heap.size<=b:=λh'=>by simp[World.cell?,Sv h']at hc
  simp only[xB,Ka fZ];exact e
 simp only[xB]at e;split at e
 ·rename_i h';exact .inr h'
 exact .inl e
def X3{M:Mem}{w w':Aa}(h:lA M w)(hb:Below w.heap.size w w'):lA (xB M w w') w':=by
 intro b o u e;simp only[xB]at e;split at e
 ·exact e
 exact nA h hb b o u e
def C5{x:Km}{w:Aa}(h:CU x w){g:Nat}{t:Array wa}(m:(g,t)∈tE x)(o:Nat):w.cell? ⟨g,o,none⟩=t[o]? :=by obtain⟨e,fr,c⟩:=h g t m;simp[World.cell?,c]
def aHR{x:Km}{w:Aa}(h:CU x w){g:Nat}{name:String}{k:IntKind}{zs:List Int}(hn:prog.globalNamed name=some g)(m:(g,(zs.map λz=>Value.int k z).toArray)∈tE x):Lib.TabIs prog w name k zs:=by obtain⟨e,fr,c⟩:=h g _ m;simp[Lib.TabIs,World.var?,hn,c]
def D6(n:Int)(h0: -9223372036854775808<=n)(h1:n<=9223372036854775807):aF prog 28 [vI n] (vT (Lib.itoa n)):=by
 refine⟨call28,λM w vs hg hr hM=>?_⟩
 match vs,hr with
 |[v],⟨h,_⟩=>obtain rfl:v=.int .i64 n:=h;obtain⟨x,hx⟩:=hg;refine(Tryz.strconv_Itoa n h0 h1 w (aHR hx (g:=1) kR (by simp[tE,aBG]))).mono ?_;rintro e w' ⟨rfl,k,os,rfl⟩;have hb:Below w.heap.size w (Sort.grow (w.drewN k) os):=⟨rfl,rfl,rfl,by show w.heap.size<=(w.heap++os).size;rw[br];omega,λ_ hj=>Sort.heap_grow_old (w.drewN k) os hj⟩;exact⟨_,M,rfl,rfl,fb _ _,nA hM hb,⟨hb,oO⟩⟩
def Mj(l:List UInt8):Int:=match Lib.atoiAll l with|.ok v=>v|.range=>Lib.atoiSat l|_=>0
def UX(l:List UInt8):Bool:=match Lib.atoiAll l with|.ok _=>false|_=>true
def Atoi(l:List UInt8)(hl:l.length<=281474976710656):aF prog 321 [vT l] (.t [.s (.d (.val (.int .i64 (Mj l)))),.s (.d (.err (UX l)))]):=by
 refine⟨call321,λM w vs hg hr hM=>?_⟩
 match vs,hr with
 |[v],⟨h,_⟩=>
  obtain rfl:v=.string (bs l):=h;obtain⟨x,hx⟩:=hg;have hs:(bs l).size<=281474976710656:=by rw[cF];exact hl
  cases ha:Lib.atoiAll l with
  |ok n=>
   refine(Tryz.strconv_Atoi_ok (bs l) O n ha w).mono ?_;rintro e w' ⟨rfl,hw⟩;have hb:Below w.heap.size w w':=by
    rcases hw with rfl|⟨t,rfl⟩
    ·exact Below.refl _ _
    exact Lib.bytesWorld_below _ _ _
   refine⟨_,M,rfl,?_,fb _ _,nA hM hb,⟨hb,oO⟩⟩;simp only[Mj,UX,ha];exact⟨[_,_],rfl,rfl,.inl ⟨rfl,rfl⟩,oO⟩
  |range=>refine(Tryz.strconv_Atoi_range (bs l) hs ha (.iface x.t3 x.p3) w (by rw[C5 hx (t:= #[.iface x.t3 x.p3]) (by simp[tE])];rfl) (.inr ⟨_,_,rfl⟩)).mono ?_;exact xy
  |_=>refine(Tryz.C6 (bs l) hs (by show aBK (Lib.atoiAll l)=true;rw[ha];rfl) (.iface x.t2 x.p2) w (by rw[C5 hx (t:= #[.iface x.t2 x.p2]) (by simp[tE])];rfl) (.inr ⟨_,_,rfl⟩)).mono ?_;exact xy
def J4(ls:List (List UInt8)):DV:=.fU ls.length 1 λi _=>dT (ls.getD i [])
end Go.Ch
namespace Go.Pj
open Go Go.Ax Go.Ch Go.Proofs Go.Proofs.Tryz
abbrev bJ:=List UInt8
def tx(b:ta):bJ:=b.data.toList
def CJ(b:ta):bs (tx b)=b:=by apply ByteArray.ext;simp[bs,tx]
def Kh(b:ta):dS b=dT (tx b):=by rw[dT,CJ]
def pR:bJ:=[115,117,114,118,101,121]
def AX:bJ:=[108,111,97,100]
def uK:bJ:=[119,97,105,118,101]
def cT:bJ:=[119,105,116,104,100,114,97,119]
def cK(kind:Int)(f:Fact):Int:=
 bif (kind==0&&within f.a8 0 2)&&within f.month 0 24 then 0
 else bif kind==1&&within f.number 1 1000000 then 0
 else bif kind !=2|| !within f.month 1 24 then 2
 else bif !isName f.eS then 4 else 0
def cS(kind:Int)(f:Fact):List bJ:=
 bif kind==0 then [pR,Lib.itoa f.a8,Lib.itoa f.month]else bif kind==1 then [AX,Lib.itoa f.number]else [uK,tx f.eS,Lib.itoa f.month]
def uJ(l:List bJ)(k:Nat)(_:Nat):DV:=dT (l.getD k [])
def K6(kind:Int)(f:Fact)(hf:f.fits)(he:cK kind f≠0):aF prog 252 [vI kind,pX f] (.t [.s (.d (.val (.slice none 0 0))),.s (.d (dI (cK kind f)))]):=by
 have no1:(kind==0)=true->(kind==1)=true->False:=λa b=>by
  exact Yo
 have no2:(kind==0)=true->(kind !=2)=false->False:=λa b=>by
  exact Yo
 have no3:(kind==1)=true->(kind !=2)=false->False:=λa b=>by
  exact zd2
 have e0:(kind==0)=true->cK kind f=2:=λa=>by
  have:kind=0:=by simpa using a
  subst this
  unfold cK at he⊢
  revert he
  cases h:(((0:Int)==0&&within f.a8 0 2)&&within f.month 0 24)with
  |true=>intro he;exact absurd rfl he
  |false=>intro _;rfl
 refine eP func252 rfl rfl call252 rfl rfl λR J=>?_
 repeat refine aR ?_
 apply aI<;>intro h1
 ·apply ob To
  refine aB (lV 0 2 f.a8 rfl) ?_
  repeat refine aR ?_
  apply aI<;>intro h2
  ·refine ob (by rw[h2];rfl) ?_
   refine aB (lV 0 24 f.month rfl) ?_
   repeat refine aR ?_
   apply aI<;>intro h3
   ·exact absurd (by unfold cK;rw[h1,h2,h3];rfl) he
   ·repeat refine aR ?_
    apply aI<;>intro h4
    ·exact(no1 h1 h4).elim
    repeat refine aR ?_
    apply aI<;>intro h5
    ·exact(no2 h1 h5).elim
    ·exact Ia (by rw[e0 h1];rfl)
  ·have h2:within f.a8 0 2=false:=h2
   repeat refine aR ?_
   apply aI<;>intro h4
   ·exact(no1 h1 h4).elim
   repeat refine aR ?_
   apply aI<;>intro h5
   ·exact(no2 h1 h5).elim
   ·exact Ia (by rw[e0 h1];rfl)
 ·have h1:(kind==0)=false:=h1
  repeat refine aR ?_
  apply aI<;>intro h4
  ·refine ob (by rw[h4];rfl) ?_
   refine aB (lV 1 1000000 f.number rfl) ?_
   repeat refine aR ?_
   apply aI<;>intro h5
   ·have h4:(kind==1)=true:=h4
    exact absurd (by unfold cK;rw[h1,h4,h5];rfl) he
   ·have h5:within f.number 1 1000000=false:=h5
    repeat refine aR ?_
    apply aI<;>intro h6
    ·exact(no3 h4 h6).elim
    ·have h6:(kind !=2)=true:=h6
     exact Ia (by unfold cK;rw[h1,h4,h5,h6];rfl)
  ·have h4:(kind==1)=false:=h4
   repeat refine aR ?_
   apply aI<;>intro h6
   ·have h6:(kind !=2)=false:=h6
    apply ob rm
    refine aB (lV 1 24 f.month rfl) ?_
    repeat refine aR ?_
    apply aI<;>intro h7
    ·have h7:(!within f.month 1 24)=true:=h7
     exact Ia (by unfold cK;rw[h1,h4,h6,h7];rfl)
    ·have h7:(!within f.month 1 24)=false:=h7
     refine aB (BJ f.eS hf.eS) ?_
     repeat refine aR ?_
     apply aI<;>intro h8
     ·have h8:(!isName f.eS)=true:=h8
      exact Ia (by unfold cK;rw[h1,h4,h6,h7,h8];rfl)
     ·have h8:(!isName f.eS)=false:=h8
      exact absurd (by unfold cK;rw[h1,h4,h6,h7,h8];rfl) he
   ·have h6:(kind !=2)=true:=h6
    exact Ia (by unfold cK;rw[h1,h4,h6];rfl)
def wd2{a b:bJ}{f:Nat->Nat->DV}(h0:f 0 0=dT a)(h1:f 1 0=dT b):∀i j,i<2->j<1->aK (f i j) (uJ [a,b] i j):=λi j hi hj=>by obtain rfl:j=0:=O;exact zda
def wd3{a b c:bJ}{f:Nat->Nat->DV}(h0:f 0 0=dT a)(h1:f 1 0=dT b)(h2:f 2 0=dT c):∀i j,i<3->j<1->aK (f i j) (uJ [a,b,c] i j):=λi j hi hj=>by
 obtain rfl:j=0:=O
 match i,hi with
 |0,_=>exact Wa h0
 |1,_=>exact Wa h1
 |2,_=>exact Wa h2
def QD(kind:Int)(f:Fact)(hf:f.fits)(he:cK kind f=0):bW prog 252 [vI kind,pX f] [] (.t [.s (.own 9),.s (.d (dI 0))]) [(9,.row 9 (cS kind f).length 1 (uJ (cS kind f)))]:=by
 have no1:(kind==0)=true->(kind==1)=true->False:=λa b=>by
  exact Yo
 have no2:(kind==0)=true->(kind !=2)=false->False:=λa b=>by
  exact Yo
 have no3:(kind==1)=true->(kind !=2)=false->False:=λa b=>by
  exact zd2
 cases h1:kind==0 with
 |true=>
  have hW:cS kind f=[pR,Lib.itoa f.a8,Lib.itoa f.month]:=by unfold cS;rw[h1];rfl
  have hc:within f.a8 0 2=true/\within f.month 0 24=true:=by
   have:kind=0:=by simpa using h1
   subst this
   unfold cK at he
   revert he
   cases within f.a8 0 2 <;> cases within f.month 0 24 <;> simp
  obtain⟨h2,h3⟩:=hc
  have h2':=within_iff.1 h2
  have EW:=within_iff.1 h3
  rw[hW]
  apply ao (a:=27) (n:=3) 9 rfl
  case h=>
   refine eG (rc:=[]) (N:=62) func252 rfl rfl call252 aJ mix rfl rfl rfl rfl (λR J=>?_)
   repeat refine aR ?_
   refine aI (λk1=>?_) (λk1=>(Bool.noConfusion (h1.symm.trans k1)))
   apply ob To
   refine aB (lV 0 2 f.a8 rfl) ?_
   repeat refine aR ?_
   refine aI (λk1=>?_) (λk1=>(Bool.noConfusion (h2.symm.trans k1)))
   refine ob (by rw[h2];rfl) ?_
   refine aB (lV 0 24 f.month rfl) ?_
   repeat refine aR ?_
   refine aI (λk1=>?_) (λk1=>(Bool.noConfusion (h3.symm.trans k1)))
   refine aB (D6 f.a8 O O) ?_
   exact zcU
  case hg=>exact wd3 rfl rfl rfl
 |false=>
  cases h4:kind==1 with
  |true=>
   have hW:cS kind f=[AX,Lib.itoa f.number]:=by unfold cS;rw[h1,h4];rfl
   have h5:within f.number 1 1000000=true:=by
    have:kind=1:=by simpa using h4
    subst this
    unfold cK at he
    revert he
    cases within f.number 1 1000000 <;> simp
   have h5':=within_iff.1 h5
   rw[hW]
   apply ao (a:=40) (n:=2) 9 rfl
   case h=>
    refine eG (rc:=[]) (N:=62) func252 rfl rfl call252 aJ mix rfl rfl rfl rfl (λR J=>?_)
    repeat refine aR ?_
    refine aI (λk1=>(Bool.noConfusion (h1.symm.trans k1))) (λk1=>?_)
    repeat refine aR ?_
    refine aI (λk1=>?_) (λk1=>(Bool.noConfusion (h4.symm.trans k1)))
    refine ob (by rw[h4];rfl) ?_
    refine aB (lV 1 1000000 f.number rfl) ?_
    repeat refine aR ?_
    refine aI (λk1=>?_) (λk1=>(Bool.noConfusion (h5.symm.trans k1)))
    refine aB (D6 f.number O O) ?_
    exact gj
   case hg=>exact wd2 rfl rfl
  |false=>
   have hW:cS kind f=[uK,tx f.eS,Lib.itoa f.month]:=by unfold cS;rw[h1,h4];rfl
   have hc:(kind !=2)=false/\(!within f.month 1 24)=false/\(!isName f.eS)=false:=by
    unfold cK at he
    rw[h1,h4]at he
    revert he
    cases kind !=2 <;> cases within f.month 1 24 <;> cases isName f.eS <;> simp
   obtain⟨h6,h7,h8⟩:=hc
   have h7':=within_iff.1 (show within f.month 1 24=true by revert h7;cases within f.month 1 24 <;> simp)
   rw[hW]
   apply ao (a:=61) (n:=3) 9 rfl
   case h=>
    refine eG (rc:=[]) (N:=62) func252 rfl rfl call252 aJ mix rfl rfl rfl rfl (λR J=>?_)
    repeat refine aR ?_
    refine aI (λk1=>(Bool.noConfusion (h1.symm.trans k1))) (λk1=>?_)
    repeat refine aR ?_
    refine aI (λk1=>(Bool.noConfusion (h4.symm.trans k1))) (λk1=>?_)
    repeat refine aR ?_
    refine aI (λk1=>?_) (λk1=>(Bool.noConfusion (h6.symm.trans k1)))
    apply ob rm
    refine aB (lV 1 24 f.month rfl) ?_
    repeat refine aR ?_
    refine aI (λk1=>(Bool.noConfusion (h7.symm.trans k1))) (λk1=>?_)
    refine aB (BJ f.eS hf.eS) ?_
    repeat refine aR ?_
    refine aI (λk1=>(Bool.noConfusion (h8.symm.trans k1))) (λk1=>?_)
    exact zcU
   case hg=>exact wd3 rfl (Kh f.eS) rfl
end Go.Pj
--K2
namespace Go.Proofs
open Go Go.Lib
def Tryz.EH:Go.Shelf.Ren:=⟨λ|22=>193|17=>348|29=>254|30=>255|36=>317|n=>n,λ|24=>147|9=>9|3=>3|4=>4|0=>0|n=>n,λ|n=>n⟩
def Tryz.VY:Go.Proofs.Lays2.n22 prog Tryz.EH:={
 mixed:=kR
 f17:=func348.trans (Na some kR)
 f22:=func193.trans (Na some kR)
 f29:=func254.trans (Na some kR)
 f30:=func255.trans (Na some kR)
 f36:=func317.trans (Na some kR)
 t0:=underlying0
 a0:=Tryz.isAgg0
 z0:=Tryz.sizeOf0
 v0:=zeroValue0
 t3:=underlying3
 a3:=Tryz.isAgg3
 z3:=Tryz.sizeOf3
 v3:=zeroValue3
 t4:=underlying4
 a4:=Tryz.isAgg4
 z4:=Tryz.sizeOf4
 v4:=zeroValue4
 t9:=underlying9
 a9:=Tryz.isAgg9
 z9:=Tryz.sizeOf9
 v9:=zeroValue9
 t24:=underlying147
 a24:=Tryz.isAgg147
 z24:=Tryz.sizeOf147
 v24:=zeroValue147
 i9:=by kernel_rfl}
end Go.Proofs
namespace Go.Pj
open Go Go.Ax Go.Ch Go.Proofs Go.Proofs.Tryz
def gX{b k:Nat}(h:k≠b):∀(vs:List wa) (o:Nat) (w:Aa),(w.setCells b o vs).heap[k]? =w.heap[k]?
 |[],_,_=>rfl
 |v::r,o,w=>by rw[World.setCells,gX h r];exact zdS
def size_setCells{b:Nat}:∀(vs:List wa) (o:Nat) (w:Aa),(w.setCells b o vs).heap.size=w.heap.size
 |[],_,_=>rfl
 |v::r,o,w=>by rw[World.setCells,size_setCells r];simp[World.setCell]
def j5{b:Nat}:∀(vs:List wa) (o:Nat) (w:Aa),(w.setCells b o vs).os=w.os/\(w.setCells b o vs).tape=w.tape/\(w.setCells b o vs).output=w.output
 |[],_,_=>⟨rfl,rfl,rfl⟩
 |v::r,o,w=>by rw[World.setCells];obtain⟨h1,h2,h3⟩:=j5 (b:=b) r (o+1) (w.setCell ⟨b,o,none⟩ v);exact⟨h1,h2,h3⟩
def wG(l:List bJ)(i:Nat)(x:bJ):List bJ:=l.take i++x::l.drop i
def W3(l:List bJ)(i:Nat)(x:bJ)(hi:i<l.length)(hl:l.length<=100000){f g:Nat->Nat->DV}(hf:∀k,k<l.length->aK (f k 0) (dT (l.getD k [])))(hg:aK (g 0 0) (dT x)):
  bW prog 193 [.s (.own 1),vI i,.s (.own 2)] [(1,.row 9 l.length 1 f),(2,.row 9 1 1 g)] (.s (.own 9)) [(9,.row 9 (l.length+1) 1 (uJ (wG l i x)))]:=by
 refine⟨call193,λM V w vs hG hr hM rJ hβ=>?_⟩
 obtain⟨b,c,cur,hb1,hb2,hb3,hb4,hb5,hb6,hb7⟩:=rJ.rep 1 _ (Zd ..)
 obtain⟨d,e,aJN,hd1,hd2,hd3,hd4,hd5,hd6,hd7⟩:=rJ.rep 2 _ (oc _ (Zd ..))
 match vs,hr with
 |[v1,v2,v3],⟨h1,h2,h3,_⟩=>
  obtain⟨b',c',QO,rfl,Q1⟩:=h1;rw[hb1]at QO;cases QO;obtain rfl:v2=.int .i64 i:=h2;obtain⟨d',e',QO,rfl,DT⟩:=h3;rw[hd1]at QO;cases QO;have T4:b≠d:=λh=>by
   subst h;have:=rJ.inj 1 2 b c e Dh Dh hb1 hd1
   cases this
  have nR:∀(j:Nat) v,(l.map λt=>Value.string (bs t))[j]? =some v->cur[j]? =some v:=by
   intro j v hj;have qR:j<l.length:=by have:=(Ue.1 hj).1;simpa using this
   obtain⟨u,hu,hr⟩:=hb7 j 0 qR O;rw[show j*1+0=j by omega]at hu;have hr:u=.string (bs (l.getD j [])):=hf j qR M u hr;rw[hu,hr];simp only[ag,List.getElem?_eq_getElem qR,lr]at hj;rw[aX qR,<-Option.some.inj hj]
  have YI:aJN[0]? =some (.string (bs x)):=by obtain⟨u,hu,hr⟩:=hd7 0 0 O O;have hr:u=.string (bs x):=hg M u hr;rw[<-hr];exact hu
  have hvs:∀(j:Nat) v,[Value.string (bs x)][j]? =some v->aJN[j]? =some v:=by
   intro j v hj
   match j,hj with
   |0,hj=>rw[YI];exact hj
  have aIZ:c.1<=9223372036854775807:=hb6;have bw:b<w.heap.size:=(Lh.1 hb2).1;have dw:d<w.heap.size:=(Lh.1 hd2).1;have fin:∀(w':Aa) (b2 cap:Nat) (F:Nat->wa),w'.rowIs b2 9 cap F->l.length+1<=cap->cap<=maxLen->(∀j,j<l.length+1->F j=.string (bs ((wG l i x).getD j [])))->(b2=b\/w.heap.size<=b2)->
    (∀k,k<w.heap.size->k≠b->w'.heap[k]? =w.heap[k]?)->w.heap.size<=w'.heap.size->w'.os=w.os/\w'.tape=w.tape/\w'.output=w.output->
    ∃v M' V',Ending.returned (.slice (some ⟨b2,0,none⟩) (l.length+1) cap)=.returned v/\Nm.le V V'/\(AV.s (.own 9)).bI M' V' v/\Grow w.heap.size M M'/\lA M' w'/\sE M' V' w' [(9,.row 9 (l.length+1) 1 (uJ (wG l i x)))]/\
     (∀z b c,z∈names [(9,jK.row 9 (l.length+1) 1 (uJ (wG l i x)))]->V' z=some (b,c)->w.heap.size<=b\/∃y c',V y=some (b,c'))/\
     w'.os=w.os/\w'.tape=w.tape/\w'.output=w.output/\w.heap.size<=w'.heap.size/\(∀k,k<w.heap.size->(∀y c,V y≠some (k,c))->w'.heap[k]? =w.heap[k]?)/\Dr w w':=by
   intro w' b2 cap F hF hn wI aCB aCA hold hs ⟨ho1,ho2,ho3⟩
   obtain⟨cu,hc1,JA,hc3⟩:=hF
   have only:∀y,y∈names [(9,jK.row 9 (l.length+1) 1 (uJ (wG l i x)))]->y=9:=λy hy=>Ib.1 hy
   have h9:V 9=none:=by
    cases h:V 9 with
    |none=>rfl
    |some p=>have:=hβ 9 p h;simp[names]at this
   let V':Nm:=λy=>if y=9 then some (b2,(cap,l.length+1))else V y
   have e9:V' 9=some (b2,(cap,l.length+1)):=La rfl
   have noM:∀o,M b2 o=none:=λo=>by
    rcases aCA with rfl|h
    ·exact rJ.apart 1 b2 c Dh hb1 o
    cases hm:M b2 o with
    |none=>rfl
    |some u=>have:=Rq w ⟨b2,o,none⟩ (hM b2 o u hm);exact absurd this (by simp only;omega)
   refine⟨_,M,V',rfl,?_,⟨b2,_,e9,rfl,hn⟩,fb _ _,?_,⟨?_,?_,?_,?_⟩,?_,ho1,ho2,ho3,hs,?_,oO⟩
   ·intro y p hy;show(if y=9 then _ else V y)=_;rw[Ka (λh=>by rw[h,h9]at hy;cases hy)];exact hy
   ·intro b3 o u hu;have hw:=hM b3 o u hu;have fZ:=Rq w ⟨b3,o,none⟩ hw;have fJ:b3≠b:=λh=>by subst h;rw[rJ.apart 1 b3 c Dh hb1 o]at hu;cases hu
    simp only[World.cell?]at hw⊢;rw[hold b3 fZ fJ];exact hw
   ·intro y hy;obtain rfl:=only y hy;exact⟨_,_,e9⟩
   ·intro y bb hy;have hy:=Ib.1 hy
    cases hy
    refine⟨b2,_,cu,e9,hc1,rfl,by rw[JA];simp,hn,wI,λk j hk hj=>?_⟩;obtain rfl:j=0:=O;refine⟨F k,by rw[oh,nh];exact hc3 k O,aCB k hk⟩
   ·intro y z _ _ _ hy hz _ _;rw[only y hy,only z hz]
   ·intro y b3 c3 hy hb o;obtain rfl:=only y hy;rw[e9]at hb;cases hb;exact noM o
   ·intro y b3 c3 hy hb;obtain rfl:=only y hy;rw[e9]at hb;cases hb;rcases aCA with rfl|h
    ·exact .inr ⟨1,c,hb1⟩
    exact .inl h
   ·intro k hk YN;exact hold k hk (λh=>YN 1 c (by rw[h];exact hb1))
  have BX:∀j,j<l.length+1->(wG l i x).getD j []=if j<i then l.getD j []else if j=i then x else l.getD (j-1) []:=by
   intro j hj;unfold wG;simp only[fc];by_cases h1:j<i
   ·rw[Jc re,Ni h1,La h1]
   rw[Gd re,Ka h1];have hlen:(l.take i).length=i:=by simp;omega
   rw[hlen];by_cases h2:j=i
   ·subst h2;simp
   rw[Ka h2,show j-i=(j-1-i)+1 by omega,Uq,Ri,show i+(j-1-i)=j-1 by omega]
  have Q0:∀(j k:Nat),i+k=j->j<l.length->(((l.map λt=>Value.string (bs t)).drop i)[k]?).getD default=.string (bs (l.getD j [])):=by intro j k e hj;rw[Ri,e,ag,List.getElem?_eq_getElem hj,aX hj];rfl
  have pD:w.rowIs b 9 c.1 (λj=>(cur[j]?).getD default):=⟨cur,hb2,O,λj hj=>by have:=Qx (xs:=cur) (i:=j) O;simp[this]⟩;have aCO:∀j,j<l.length->(cur[j]?).getD default=.string (bs (l.getD j [])):=λj hj=>by rw[nR j (.string (bs (l.getD j []))) (by rw[ag,List.getElem?_eq_getElem hj,aX hj];rfl)];rfl
  rw[hb3,hd3];by_cases rY:l.length+1<=c.1
  ·refine(Any2.slices_Insert_string_shift Tryz.VY b 0 l.length c.1 i d 0 1 e.1 (l.map λt=>Value.string (bs t)) [.string (bs x)] w hi O rY aIZ (Ne.symm T4) sM rfl
    (λj v hj=>by simp only[World.cell?,hb2];simpa using nR j v hj) (λj hj=>by simp only[World.cell?,hb2];simp;omega) (λj hj=>by simp[World.frozen?,hb2])
    (λj v hj=>by simp only[World.cell?,hd2];simpa using hvs j v hj) (λv hv=>by obtain⟨t,_,rfl⟩:=Lc.1 hv;rfl) (λv hv=>by rw[Ib.1 hv];rfl)
    9 9 aJN.size cur.size (by simp[World.shape?,hd2]) (by simp[World.shape?,hb2]) O (by simp[World.frozen?,hd2]) (by simp[World.frozen?,hd2])).mono ?_
   rintro q w' ⟨rfl,rfl⟩;have r1:w.drew.rowIs b 9 c.1 _:=pD.of_block rfl;have r2:=Go.rowIs_setCells [Value.string (bs x)] (0+i) _ _ (Go.rowIs_setCells ((l.map λt=>Value.string (bs t)).drop i) (0+(i+1)) _ _ r1);refine fin _ b c.1 _ r2 rY hb6 (λj hj=>?_) (.inl rfl) (λk hk fJ=>?_) ?_ ?_
   ·rw[BX j hj];simp only[Rb,xe,er,bg,Ec];by_cases h1:j<i
    ·rw[Ka O,Ka O,La h1];exact aCO j O
    by_cases h2:j=i
    ·subst h2;rw[La O,Ka O,La rfl,Td];rfl
    rw[Ka O,La O,Ka h1,Ka h2];exact Q0 (j-1) (j-(i+1)) O O
   ·rw[gX fJ,gX fJ];rfl
   ·rw[size_setCells,size_setCells];exact mb _
   obtain⟨a1,a2,a3⟩:=j5 (b:=b) [Value.string (bs x)] (0+i) (w.drew.setCells b (0+(i+1)) ((l.map λt=>Value.string (bs t)).drop i));obtain⟨b1,b2,b3⟩:=j5 (b:=b) ((l.map λt=>Value.string (bs t)).drop i) (0+(i+1)) w.drew;exact zec
  have wI:=Vn w (l.length+1) c.1 9;have aG6:=Yq w (l.length+1) c.1 9 Lm;refine(Any2.slices_Insert_string_grow Tryz.VY b 0 l.length c.1 i d 0 1 e.1 (l.map λt=>Value.string (bs t)) [.string (bs x)] w hi O hb5 O O sM rfl
   (λj v hj=>by simp only[World.cell?,hb2];simpa using nR j v hj)
   (λj v hj=>by simp only[World.cell?,hd2];simpa using hvs j v hj) (λv hv=>by obtain⟨t,_,rfl⟩:=Lc.1 hv;rfl) (λv hv=>by rw[Ib.1 hv];rfl)).mono ?_
  rintro q w' ⟨rfl,rfl⟩;have hG:grownCap w (l.length+1) c.1 (Tryz.EH.t 9)=grownCap w (l.length+1) c.1 9:=rfl;rw[hG];generalize grownCap w (l.length+1) c.1 9=G at wI aG6;generalize aMO:(((l.map λt=>Value.string (bs t)).take i).toArray++Builtin.zeroCells (Value.string ⟨#[]⟩).cells (l.length+1-i)++Builtin.zeroCells (Value.string ⟨#[]⟩).cells (G-(l.length+1)))=ZT;have hRl:ZT.size=G:=by rw[<-aMO];simp[Builtin.zeroCells,Value.cells];omega
  have hRt:∀j,j<i->ZT[j]? =some (.string (bs (l.getD j []))):=by intro j hj;rw[<-aMO,Array.append_assoc,Bz re];simp only[Jl,Ni hj,ag,List.getElem?_eq_getElem (show j<l.length by omega),aX (show j<l.length by omega)];rfl
  have r1:((w.alloc (.cells ZT 9)).drew).rowIs w.heap.size 9 G (λj=>(ZT[j]?).getD default):=⟨ZT,Ke w _,hRl,λj hj=>by have:=Qx (xs:=ZT) (i:=j) O;simp[this]⟩;have r2:=Go.rowIs_setCells [Value.string (bs x)] i _ _ r1;have r3:=Go.rowIs_setCells ((l.map λt=>Value.string (bs t)).drop i) (i+1) _ _ (World.rowIs.of_block (w':=(((w.alloc (.cells ZT 9)).drew).setCells w.heap.size i [Value.string (bs x)]).drew) r2 rfl);have mL:(w.alloc (.cells ZT 9)).heap.size=w.heap.size+1:=by show(w.heap.push _).size=_;simp
  refine fin _ w.heap.size G _ r3 wI aG6 (λj hj=>?_) (.inr (mb _)) (λk hk fJ=>?_) ?_ ?_
  ·rw[BX j hj];simp only[Rb,xe,er,bg,Ec];by_cases h1:j<i
   ·rw[Ka O,Ka O,La h1,hRt j h1];rfl
   by_cases h2:j=i
   ·subst h2;rw[Ka O,La O,Ka h1,La rfl,Td];rfl
   rw[La O,Ka h1,Ka h2];exact Q0 (j-1) (j-(i+1)) O O
  ·rw[gX O];show((((w.alloc (.cells ZT 9)).drew).setCells w.heap.size i [Value.string (bs x)])).heap[k]? =_;rw[gX O];exact heap_alloc_old w _ hk
  ·rw[size_setCells];show w.heap.size<=((((w.alloc (.cells ZT 9)).drew).setCells w.heap.size i [Value.string (bs x)])).heap.size;rw[size_setCells];show w.heap.size<=(w.alloc (.cells ZT 9)).heap.size;omega
  obtain⟨a1,a2,a3⟩:=j5 (b:=w.heap.size) ((l.map λt=>Value.string (bs t)).drop i) (i+1) ((((w.alloc (.cells ZT 9)).drew).setCells w.heap.size i [Value.string (bs x)]).drew);obtain⟨b1,b2,b3⟩:=j5 (b:=w.heap.size) [Value.string (bs x)] i ((w.alloc (.cells ZT 9)).drew);exact zec
end Go.Pj
namespace Go.Ch
open Go Go.Ax Go.Proofs Go.Proofs.Tryz Go.RowKit
def Xp(ls:List (List UInt8))(sep:List UInt8)(hN:ls.length<=140737488355328)(hl:(Lib.join ls sep).length<=140737488355328):
  aF prog 50 [.s (.d (J4 ls)),vT sep] (vT (Lib.join ls sep)):=by
 refine⟨call50,λM w vs hg hr hM=>?_⟩
 match vs,hr with
 |[v,s],⟨h,h2,_⟩=>
  obtain rfl:s=.string (bs sep):=h2;obtain⟨a,cap,rfl,hc,cY⟩:=h;have YQ:(ls.map bs).map (·.data.toList)=ls:=by rw[Rn];exact(Xv λx _=>by simp[bs]).trans (List.map_id _)
  have aL0:(bs sep).data.toList=sep:=by simp[bs]
  rcases cY with h0|⟨b,o,rfl,cY⟩
  ·have:ls=[]:=fh h0;subst this;exact(Tryz.strings_Join_none a cap (bs sep) w).mono qg
  by_cases h0:ls.length=0
  ·have:ls=[]:=fh h0;subst this;exact(Tryz.strings_Join_none _ cap (bs sep) w).mono qg
  have cells:∀(j:Nat) x,(ls.map bs)[j]? =some x->w.cell? ⟨b,o+j,none⟩=some (.string x):=by
   intro j x hx;have hj:j<ls.length:=by have:=(Ue.1 hx).1;simpa using this
   obtain⟨u,hu,hr⟩:=cY j 0 hj O;rw[show o+j*1+0=o+j by omega]at hu;rw[hM _ _ _ hu];have hr:u=.string (bs (ls.getD j [])):=hr;rw[hr];simp[List.getElem?_eq_getElem hj]at hx;rw[aX hj,hx]
  have hb:b<w.heap.size:=by have:=cells 0 (bs ls[0]) (by simp[List.getElem?_eq_getElem (show 0<ls.length by omega)]);exact Rq w ⟨b,o+0,none⟩ this
  have hsh:=Tryz.strings_Join b o cap (ls.map bs) (bs sep) w cells hb (by simpa using hN) (by simpa using hc) (by rw[YQ,aL0];exact hl);rw[YQ,aL0,bg]at hsh;apply hsh.mono;rintro e w' ⟨rfl,qT⟩;exact⟨_,M,rfl,rfl,fb _ _,nA hM qT,⟨qT,oO⟩⟩
end Go.Ch
namespace Go.Pj
open Go Go.Ax Go.Ch Go.Proofs Go.Proofs.Tryz
def nZ(f:Fact):Int:=bif f.kind !=3 then cK f.kind f else cK f.target f
def nH(f:Fact):List bJ:=bif f.kind !=3 then cS f.kind f else cT::cS f.target f
def mR(k:Int)(f:Fact):1<=(cS k f).length/\(cS k f).length<=3:=by
 unfold cS
 cases k==0 <;> cases k==1 <;> simp
def yK(f:Fact):1<=(nH f).length/\(nH f).length<=4:=by
 unfold nH;have:=mR f.kind f;have:=mR f.target f
 cases f.kind !=3 <;> simp <;> omega
def aB1(f:Fact)(hf:f.fits)(he:nZ f≠0):aF prog 191 [pX f] (.t [.s (.d (.val (.slice none 0 0))),.s (.d (dI (nZ f)))]):=by
 cases h1:f.kind !=3 with
 |true=>
  have e:nZ f=cK f.kind f:=by unfold nZ;rw[h1];rfl
  rw[e]at he⊢;refine eP func191 rfl rfl call191 rfl rfl λR J=>aI (λk1=>?_) (λk1=>(Bool.noConfusion (h1.symm.trans k1)))
  exact aB (K6 f.kind f hf he) (db _)
 |false=>
  have e:nZ f=cK f.target f:=by unfold nZ;rw[h1];rfl
  rw[e]at he⊢;refine eP func191 rfl rfl call191 rfl rfl λR J=>aI (λk1=>(Bool.noConfusion (h1.symm.trans k1))) (λk1=>?_)
  refine aB (K6 f.target f hf he) (aI (λk2=>?_) (λk2=>?_))
  ·exact db _
  have k2:(cK f.target f !=0)=false:=k2;exact absurd (by simpa using k2) he
def KY(f:Fact)(hf:f.fits)(he:nZ f=0):bW prog 191 [pX f] [] (.t [.s (.own 9),.s (.d (dI 0))]) [(9,.row 9 (nH f).length 1 (uJ (nH f)))]:=by
 cases h1:f.kind !=3 with
 |true=>
  have e:nZ f=cK f.kind f:=by unfold nZ;rw[h1];rfl
  have e2:nH f=cS f.kind f:=by unfold nH;rw[h1];rfl
  rw[e]at he;rw[e2];refine eG (rc:=[252]) (N:=28) func191 rfl rfl call191 aJ mix rfl rfl rfl rfl (λR J=>?_);refine aI (λk1=>?_) (λk1=>(Bool.noConfusion (h1.symm.trans k1)));refine⟨[(9,9)],_,_,_,_,QD f.kind f hf he,rfl,trivial,rfl,?_⟩;exact gj
 |false=>
  have e:nZ f=cK f.target f:=by unfold nZ;rw[h1];rfl
  have e2:nH f=cT::cS f.target f:=by unfold nH;rw[h1];rfl
  have hlen:=mR f.target f;rw[e]at he;rw[e2];refine ao (a:=27) 9 rfl (λi j _ _=>Ja _) (eG (rc:=[252,193]) (N:=28) func191 rfl rfl call191 aJ mix rfl rfl rfl rfl (λR J=>?_));refine aI (λk1=>(Bool.noConfusion (h1.symm.trans k1))) (λk1=>?_);refine⟨[(9,9)],_,_,_,_,QD f.target f hf he,rfl,trivial,rfl,?_⟩;refine aI (λk2=>absurd k2 dC) (λ_=>?_);refine⟨[(1,9),(2,26),(9,27)],_,_,_,_,W3 (cS f.target f) 0 cT hlen.1 O (λk hk=>Ja _) (Ja _),rfl,⟨rfl,rfl,oO⟩,rfl,?_⟩;exact gj
def iO(l:List bJ):bJ:=Lib.join l [32]
def bT(f:Fact):bJ:=bif nZ f==0 then iO (nH f)else []
def nB(a:bJ):iO [a]=a:=by simp[iO,Lib.join]
def eY(a b:bJ)(l:List bJ):iO (a::b::l)=a++ [32]++iO (b::l):=by simp[iO,Lib.join,List.intercalate_cons_cons]
def HJ(a:bJ){l:List bJ}(h:l≠[]):iO (a::l)=a++ [32]++iO l:=by
 cases l with
 |nil=>exact absurd rfl h
 |cons b l=>exact eY a b l
def tP{c:Nat}:∀{l:List bJ},(∀x∈l,x.length<=c)->(iO l).length<=l.length*(c+1)
 |[],_=>Nat.zero_le _
 |[a],h=>by rw[nB];have:=h a (Ib.2 rfl);simp;omega
 |a::b::l,h=>by rw[eY];have h1:=h a (Zd ..);have h2:=tP (l:=b::l) (λx hx=>h x (oc _ hx));simp only[ed,Rb,xe,de]at h2⊢;omega
def nQ(n:Int):(Lib.itoa n).length<=n.natAbs / 10+3:=by have h:=oD n.natAbs n.natAbs (mb _);rw[<-Lib.decDigits_length]at h;exact za8
def iW{s:ta}(h:isName s=true):1<=s.size/\s.size<=12:=by rw[uU,Bool.and_eq_true]at h;have:=within_iff.1 h.1;omega
def wV(s:ta):(tx s).length=s.size:=by show s.data.toList.length=s.data.size;exact Oh
def iV{k:Int}{f:Fact}(h:cK k f=0):(k=0/\within f.a8 0 2=true/\within f.month 0 24=true)\/(k=1/\within f.number 1 1000000=true)\/(k=2/\within f.month 1 24=true/\isName f.eS=true):=by
 unfold cK at h
 cases h0:(k==0&&within f.a8 0 2)&&within f.month 0 24 with
 |true=>simp only[Bool.and_eq_true,Tf]at h0;exact .inl ⟨h0.1.1,h0.1.2,h0.2⟩
 |false=>
  rw[h0]at h
  cases h1:k==1&&within f.number 1 1000000 with
  |true=>simp only[Bool.and_eq_true,Tf]at h1;exact .inr (.inl h1)
  |false=>
   rw[h1]at h
   cases h2:k !=2|| !within f.month 1 24 with
   |true=>rw[h2]at h;exact absurd h (show ¬((2:Int)=0) by decide)
   |false=>
    rw[h2]at h
    cases h3:isName f.eS with
    |false=>rw[h3]at h;exact absurd h (show ¬((4:Int)=0) by decide)
    |true=>simp at h2;exact .inr (.inr ⟨h2.1,h2.2,rfl⟩)
def BS{k:Int}{f:Fact}(h:cK k f=0):∀x∈cS k f,x.length<=200000:=by
 intro x hx;have hp:=nQ f.a8;have hm:=nQ f.month;have hn:=nQ f.number;rcases iV h with⟨rfl,h1,h2⟩|⟨rfl,h1⟩|⟨rfl,h1,h2⟩
 ·have h1:=within_iff.1 h1;have h2:=within_iff.1 h2;simp only[cS,wb,Sd,Kd,show((0:Int)==0)=true from rfl,cond_true]at hx;rcases hx with rfl|rfl|rfl
  ·decide
  ·omega
  omega
 ·have h1:=within_iff.1 h1;simp only[cS,wb,Sd,Kd,show((1:Int)==0)=false from rfl,show((1:Int)==1)=true from rfl,cond_true,Ua]at hx;rcases hx with rfl|rfl
  ·decide
  omega
 have h1:=within_iff.1 h1;have h2:=iW h2;simp only[cS,wb,Sd,Kd,show((2:Int)==0)=false from rfl,show((2:Int)==1)=false from rfl,Ua]at hx;rcases hx with rfl|rfl|rfl
 ·decide
 ·rw[wV];omega
 omega
def KZ{f:Fact}(h:nZ f=0):∀x∈nH f,x.length<=200000:=by
 intro x hx;unfold nZ at h;unfold nH at hx
 cases h1:f.kind !=3 with
 |true=>rw[h1]at h hx;exact BS h x hx
 |false=>
  rw[h1]at h hx;rcases wb.1 hx with rfl|hx
  ·decide
  exact BS h x hx
def Key(f:Fact)(hf:f.fits):aF prog 125 [pX f] (.t [.s (.d (dT (bT f))),.s (.d (dI (nZ f)))]):=by
 by_cases he:nZ f=0
 ·have hk:bT f=iO (nH f):=by unfold bT;rw[he];rfl
  have hl:=yK f;have hj:=tP (KZ he);rw[hk,he];refine gI (rc:=[191,2000050]) (N:=14) func125 rfl rfl call125 aJ mix rfl rfl (λR J=>?_);refine⟨[(9,9)],_,_,_,_,KY f hf he,rfl,trivial,rfl,?_⟩;refine⟨[9],_,(Xp (nH f) [32] O (by have:(Lib.join (nH f) [32]).length<=(nH f).length*(200000+1):=hj;omega)).conv (args':=_) ⟨Ja _,Ja _,oO⟩,?_⟩;exact db _
 have hk:bT f=[]:=by unfold bT;rw[show(nZ f==0)=false by simpa using he];rfl
 rw[hk];refine eP func125 rfl rfl call125 rfl rfl λR J=>aB (aB1 f hf he) (aB ((Xp [] [32] dC dC).conv (args':=_) ⟨Nd,Ja _,oO⟩) ?_)
 exact db _
def yJ(n:Int):bJ:=bif n==30000 then [45]else Lib.itoa n
def fR(f:Fact):Int:=bif nZ f !=0 then nZ f else jS f
def jY(f:Fact):List bJ:=
 bif f.kind==0 then nH f++ [Lib.itoa f.seq]++f.levels.map yJ
 else bif f.kind==1 then nH f++ [Lib.itoa f.month,Lib.itoa f.seq,Lib.itoa f.aT,Lib.itoa f.over,tx f.aN,Lib.itoa f.Jb,tx f.dN]
 else bif f.kind==2 then nH f++ [Lib.itoa f.seq]
 else wG (nH f) 1 (Lib.itoa f.seq)
def dR(f:Fact):bJ:=bif fR f==0 then iO (jY f)else []
def lK{f:Fact}(h:jS f=0):within f.seq 0 1000000=true:=by
 unfold jS at h
 cases h1:within f.seq 0 1000000 with
 |true=>rfl
 |false=>rw[h1]at h;exact absurd h (show ¬((2:Int)=0) by decide)
def oB{f:Fact}(h:jS f=0)(k:(f.kind==0)=true):f.levels.any iQ=false/\f.levels.length<=100:=by
 have h1:=lK h;unfold jS at h;rw[h1,k]at h
 cases h2:f.levels.any iQ with
 |true=>rw[h2]at h;exact absurd h (show ¬((2:Int)=0) by decide)
 |false=>
  rw[h2]at h
  cases h3:decide ((f.levels.length:Int)>100)with
  |true=>rw[h3]at h;exact absurd h (show ¬((8:Int)=0) by decide)
  |false=>have:=bF h3;exact⟨rfl,O⟩
def mQ{f:Fact}(h:jS f=0)(k:(f.kind==1)=true):(within f.month 1 24=true/\within f.aT 1 1000000000000=true/\within f.over 0 f.aT=true/\within f.Jb 0 9=true)/\isName f.aN=true/\isName f.dN=true:=by
 have h1:=lK h;have k0:(f.kind==0)=false:=by
  have:f.kind=1:=by simpa using k
  rw[this];rfl
 unfold jS at h;rw[h1,k0,k]at h
 cases h2:kA f with
 |true=>rw[h2]at h;exact absurd h (show ¬((2:Int)=0) by decide)
 |false=>
  rw[h2]at h;have hb:=EG f;rw[h2]at hb;simp only[Sy,Bool.and_eq_true]at hb
  cases h3: !isName f.aN|| !isName f.dN with
  |true=>rw[h3]at h;exact absurd h (show ¬((4:Int)=0) by decide)
  |false=>simp only[Ed,Ph]at h3;exact⟨⟨hb.1.1.1,hb.1.1.2,hb.1.2,hb.2⟩,h3.1,h3.2⟩
def aFE{n:Int}(h:iQ n=false):(yJ n).length<=3000:=by
 unfold yJ
 cases h1:n==30000 with
 |true=>simp
 |false=>
  have hn:n≠30000:=by simpa using h1
  have h2:within n (-20000) 20000=true:=by unfold iQ at h;simpa[hn]using h
  have:=within_iff.1 h2;have:=nQ n;exact Ps
def kN{f:Fact}(h:fR f=0):nZ f=0/\jS f=0:=by
 unfold fR at h
 cases h1:nZ f !=0 with
 |true=>rw[h1]at h;exact absurd h (by simpa using h1)
 |false=>rw[h1]at h;exact⟨by simpa using h1,h⟩
def UB{f:Fact}(h:fR f=0):(jY f).length<=110/\∀x∈jY f,x.length<=100000000010:=by
 obtain⟨h1,h2⟩:=kN h;have hk:=KZ h1;have hl:=yK f;have hs:=within_iff.1 (lK h2);have i1:=nQ f.seq;have y5:∀x∈nH f,x.length<=100000000010:=λx hx=>Xb (hk x hx) dC
 unfold jY
 cases k0:f.kind==0 with
 |true=>
  obtain⟨a,b⟩:=oB h2 k0;refine⟨by simp;omega,λx hx=>?_⟩;simp only[cond_true,ic,Ib,Lc]at hx;rcases hx with(hx|rfl)|⟨n,hn,rfl⟩
  ·exact y5 x hx
  ·omega
  have:iQ n=false:=zeu
  exact Xb (aFE this) dC
 |false=>
  cases k1:f.kind==1 with
  |true=>obtain⟨⟨a,b,c,d⟩,e,g⟩:=mQ h2 k1;have a:=within_iff.1 a;have b:=within_iff.1 b;have c:=within_iff.1 c;have d:=within_iff.1 d;have e:=iW e;have g:=iW g;have j1:=nQ f.month;have j2:=nQ f.aT;have j3:=nQ f.over;have j4:=nQ f.Jb;exact jg
  |false=>exact uw
def FU{f:Fact}(he:fR f=0):aF prog 50 [.s (.d (J4 (jY f))),vT [32]] (vT (dR f)):=by
 have hl:=UB he;have hj:=tP hl.2;have hk:dR f=Lib.join (jY f) [32]:=by unfold dR;rw[he];rfl
 rw[hk];refine Xp (jY f) [32] O ?_;have h1:(Lib.join (jY f) [32]).length<=(jY f).length*(100000000010+1):=hj;have h2:=Vc (100000000010+1) hl.1;omega
def L5(l:List bJ):iJ 1 l.length (uJ l) (λt _=>dT t) l:=⟨rfl,λ_ _ _ _=>rfl⟩
def aAD{n:Nat}{f g:Nat->Nat->DV}{l:List bJ}{x:bJ}{e:Ea}(h:iJ 1 n f (λt _=>dT t) l)(hg:g 0 0=dT x):aY (.row e (n+1) 1 (jM n f g)) (.row e (l++ [x]).length 1 (uJ (l++ [x]))):=
 iJ.row (el:=λt _=>dT t) (wk h (AS hg))
def AP(f:Fact)(i:Nat):List bJ:=nH f++ [Lib.itoa f.seq]++(f.levels.take i).map yJ
def ZQ(f:Fact):AP f 0=nH f++ [Lib.itoa f.seq]:=by simp[AP]
def L4(f:Fact){i:Nat}(h:i<f.levels.length):AP f (i+1)=AP f i++ [yJ (f.levels.getD i 0)]:=by simp only[AP,Bg,List.getElem?_eq_getElem h,aX h,Option.toList_some,Vi,Le,Vy,Ti]
def AR(f:Fact)(hf:f.fits):aF prog 123 [pX f] (.t [.s (.d (dT (dR f))),.s (.d (dI (fR f)))]):=by
 by_cases h1:nZ f=0
 ·have e1:fR f=jS f:=by unfold fR;rw[h1];rfl
  by_cases h2:jS f=0
  ·have he:fR f=0:=by rw[e1,h2]
   have hl:=yK f;have hs:=within_iff.1 (lK h2)
   cases k0:f.kind==0 with
   |true=>
    have hw:jY f=nH f++ [Lib.itoa f.seq]++f.levels.map yJ:=by unfold jY;rw[k0];rfl
    obtain⟨a,b⟩:=oB h2 k0;rw[he];refine gI (rc:=[191,2000050]) (N:=86) func123 rfl rfl call123 aJ mix rfl rfl (λR J=>?_);refine⟨[(9,9)],_,_,_,_,KY f hf h1,rfl,trivial,rfl,?_⟩;refine aI (λk2=>absurd k2 dC) (λ_=>?_);refine aB (uB f hf) ?_;rw[h2];refine aI (λk2=>absurd k2 dC) (λ_=>?_);refine aB (D6 f.seq O O) (aI (λk2=>?_) (λk2=>(Bool.noConfusion (k0.symm.trans k2))));refine ob (show((nH f).length+1)*16<=_ by omega) (ob (nJ (AS rfl)) ?_);refine Gb (λi:Nat=>⟨[(1,.s (.ptr 1 0)),(4,.s (.own 100)),(39,iR f.levels),(40,vI f.levels.length),(41,vI i)],[(1,some (.cells (xT f))),(100,some (.row 9 (AP f i).length 1 (uJ (AP f i))))]⟩)
     (λi=>i<=f.levels.length) (λi=>f.levels.length-i) 0 (Nat.zero_le _) ?_ ?_
    ·refine Qa J [(100,37)] rfl ⟨bQ,⟨rfl,?_⟩,oO⟩ Fa;rw[ZQ];exact aAD (L5 (nH f)) rfl
    intro i hi;refine Sb (rc:=[2000050]) aJ mix J _ (aI (λh=>?_) (λh=>?_))
    ·have h:(i:Int)<f.levels.length:=bG h;have bC:i<f.levels.length:=O;have hN:(AP f i).length<=110:=by simp[AP];omega
     have NI:iQ (f.levels.getD i 0)=false:=by rw[Tg]at a;rw[aX bC];simpa using a _ (Ce bC)
     have ew:aW ((i:Int)+1)=((i+1:Nat):Int):=aG O O;apply oi Ha;apply aI<;>intro g
     ·have g:(f.levels.getD i 0==30000)=true:=g;refine ob (show((AP f i).length+1)*16<=_ by omega) (ob (nJ (AS rfl)) ?_);refine⟨i+1,O,O,?_⟩;refine Qa J [(100,49)] rfl ⟨bQ,⟨rfl,?_⟩,oO⟩ ⟨Z,Z,Z,Z,⟨rfl,Ra ew⟩,oO⟩;exact zdl
     have g:(f.levels.getD i 0==30000)=false:=g;have V6:within (f.levels.getD i 0) (-20000) 20000=true:=by unfold iQ at NI;rw[show(f.levels.getD i 0 !=30000)=true by simpa using g]at NI;simpa using NI
     have hw3:=within_iff.1 V6;refine aB (D6 (f.levels.getD i 0) O O) (ob (show((AP f i).length+1)*16<=_ by omega) ?_);refine ob (nJ (AS rfl)) ⟨i+1,O,O,?_⟩;refine Qa J [(100,54)] rfl ⟨bQ,⟨rfl,?_⟩,oO⟩ ⟨Z,Z,Z,Z,⟨rfl,Ra ew⟩,oO⟩;exact zdl
    have h:¬(i:Int)<f.levels.length:=bF h;obtain rfl:i=f.levels.length:=O;have ew:AP f f.levels.length=jY f:=by rw[hw];simp[AP]
    refine⟨[100],_,(FU he).conv (args':=_) ⟨Wa (by rw[<-ew];rfl),Ja _,oO⟩,?_⟩;exact db _
   |false=>
    cases k1:f.kind==1 with
    |true=>
     have hw:jY f=nH f++ [Lib.itoa f.month,Lib.itoa f.seq,Lib.itoa f.aT,Lib.itoa f.over,tx f.aN,Lib.itoa f.Jb,tx f.dN]:=by unfold jY;rw[k0,k1];rfl
     obtain⟨⟨a,b,c,d⟩,e,g⟩:=mQ h2 k1;have a:=within_iff.1 a;have b:=within_iff.1 b;have c:=within_iff.1 c;have d:=within_iff.1 d;rw[he];refine gI (rc:=[191,2000050]) (N:=86) func123 rfl rfl call123 aJ mix rfl rfl (λR J=>?_);refine⟨[(9,9)],_,_,_,_,KY f hf h1,rfl,trivial,rfl,?_⟩;refine aI (λk2=>absurd k2 dC) (λ_=>?_);refine aB (uB f hf) ?_;rw[h2];refine aI (λk2=>absurd k2 dC) (λ_=>?_);refine aB (D6 f.seq O O) (aI (λk2=>(Bool.noConfusion (k0.symm.trans k2))) (λk2=>?_));refine aI (λk2=>?_) (λk2=>(Bool.noConfusion (k1.symm.trans k2)));refine aB (D6 f.month O O) (aB (D6 f.aT O O) ?_);refine aB (D6 f.over O O) (aB (D6 f.Jb O O) ?_);refine ob (show((nH f).length+7)*16<=_ by omega) ?_;refine ob (λk j hk hj=>by
      obtain rfl:j=0:=by have:j<1:=hj;omega
      match k,hk with
      |0,_=>rfl
      |1,_=>rfl
      |2,_=>rfl
      |3,_=>rfl
      |4,_=>rfl
      |5,_=>rfl
      |6,_=>rfl) ?_
     refine aD ?_;refine⟨[77],_,(FU he).conv (args':=_) ⟨Qe (by rw[hw,ed];rfl) λi j hi hj=>Wa ?_,Ja _,oO⟩,?_⟩
     ·obtain rfl:j=0:=by have:j<1:=hj;omega
      have hi:i<(nH f).length+7:=hi;rw[hw];by_cases hik:i<(nH f).length
      ·refine(show jM _ _ _ i 0=_ from La hik).trans ?_;show dT ((nH f).getD i [])=dT _;simp only[fc,Jc hik]
      refine(show jM _ _ _ i 0=_ from Ka hik).trans ?_;obtain⟨k,rfl⟩:∃k,i=(nH f).length+k:=⟨i-(nH f).length,O⟩;simp only[fc,Gd (Ey _ _),Tq];have hk:k<7:=O
      match k,hk with
      |0,_=>rfl
      |1,_=>rfl
      |2,_=>rfl
      |3,_=>rfl
      |4,_=>exact Kh _
      |5,_=>rfl
      |6,_=>exact Kh _
     exact db _
    |false=>
     cases k2:f.kind==2 with
     |true=>
      have hw:jY f=nH f++ [Lib.itoa f.seq]:=by unfold jY;rw[k0,k1,k2];rfl
      rw[he];refine gI (rc:=[191,2000050]) (N:=86) func123 rfl rfl call123 aJ mix rfl rfl (λR J=>?_);refine⟨[(9,9)],_,_,_,_,KY f hf h1,rfl,trivial,rfl,?_⟩;refine aI (λk2=>absurd k2 dC) (λ_=>?_);refine aB (uB f hf) ?_;rw[h2];refine aI (λk2=>absurd k2 dC) (λ_=>?_);refine aB (D6 f.seq O O) (aI (λk3=>(Bool.noConfusion (k0.symm.trans k3))) (λk3=>?_));refine aI (λk3=>(Bool.noConfusion (k1.symm.trans k3))) (λk3=>?_);refine aI (λk3=>?_) (λk3=>(Bool.noConfusion (k2.symm.trans k3)));refine ob (show((nH f).length+1)*16<=_ by omega) (ob (nJ (AS rfl)) ?_);refine⟨[83],_,(FU he).conv (args':=_) ⟨?_,Ja _,oO⟩,?_⟩
      ·rw[hw];exact iJ.fU (wk (L5 (nH f)) (AS rfl))
      exact db _
     |false=>
      have hw:jY f=wG (nH f) 1 (Lib.itoa f.seq):=by unfold jY;rw[k0,k1,k2];rfl
      have hl2:1<(nH f).length:=by
       unfold nH
       cases h3:f.kind !=3 with
       |false=>have:=mR f.target f;simp;omega
       |true=>
        have e3:nZ f=cK f.kind f:=by unfold nZ;rw[h3];rfl
        rw[e3]at h1;rcases iV h1 with⟨q,_⟩|⟨q,_⟩|⟨q,_⟩
        ·rw[q]at k0;cases k0
        ·rw[q]at k1;cases k1
        rw[q]at k2;cases k2
      rw[he];refine gI (rc:=[191,193,2000050]) (N:=86) func123 rfl rfl call123 aJ mix rfl rfl (λR J=>?_);refine⟨[(9,9)],_,_,_,_,KY f hf h1,rfl,trivial,rfl,?_⟩;refine aI (λk2=>absurd k2 dC) (λ_=>?_);refine aB (uB f hf) ?_;rw[h2];refine aI (λk2=>absurd k2 dC) (λ_=>?_);refine aB (D6 f.seq O O) (aI (λk3=>(Bool.noConfusion (k0.symm.trans k3))) (λk3=>?_));refine aI (λk3=>(Bool.noConfusion (k1.symm.trans k3))) (λk3=>?_);refine aI (λk3=>(Bool.noConfusion (k2.symm.trans k3))) (λk3=>?_);refine⟨[(1,9),(2,30),(9,31)],_,_,_,_,W3 (nH f) 1 (Lib.itoa f.seq) hl2 O (λk hk=>Ja _) (Ja _),rfl,⟨rfl,rfl,oO⟩,rfl,?_⟩;have hw3:(nH f).length+1=(jY f).length:=by rw[hw];simp[wG];omega
      refine⟨[31],_,(FU he).conv (args':=_) ⟨Qe hw3 λi j _ _=>Wa (by rw[hw];rfl),Ja _,oO⟩,?_⟩;exact db _
  have he:dR f=[]:=by unfold dR;rw[e1,show(jS f==0)=false by simpa using h2];rfl
  rw[he,e1];refine gI (rc:=[191]) (N:=86) func123 rfl rfl call123 aJ mix rfl rfl (λR J=>?_);refine⟨[(9,9)],_,_,_,_,KY f hf h1,rfl,trivial,rfl,?_⟩;refine aI (λk2=>absurd k2 dC) (λ_=>?_);refine aB (uB f hf) (aI (λk2=>?_) (λk2=>?_))
  ·exact db _
  have k2:(jS f !=0)=false:=k2;exact absurd (by simpa using k2) h2
 have e1:fR f=nZ f:=by unfold fR;rw[show(nZ f !=0)=true by simpa using h1];rfl
 have he:dR f=[]:=by unfold dR;rw[e1,show(nZ f==0)=false by simpa using h1];rfl
 rw[he,e1];refine eP func123 rfl rfl call123 rfl rfl λR J=>aB (aB1 f hf h1) (aI (λk2=>?_) (λk2=>?_))
 ·exact db _
 have k2:(nZ f !=0)=false:=k2;exact absurd (by simpa using k2) h1
def oH{α:Type}(f:α->Int):List α->Int
 |[]=>0
 |x::r=>bif f x !=0 then f x else oH f r
def xS{α:Type}(f:α->Int)(x:α)(r:List α):oH f (x::r)=bif f x !=0 then f x else oH f r:=rfl
def uM(p:Proj)(f:Fact):Bool:=f.kind==0&&(f.levels.length:Int) !=p.aT.levels.length
def JB(p:Proj)(f:Fact):Int:=bif fR f !=0 then fR f else bif uM p f then 10 else 0
def ZI(p:Proj)(f:Fact)(hf:f.fits):aF prog 66 [oR p,pX f] (vI (JB p f)):=by exact eP func66 rfl rfl call66 rfl rfl λR J=>aB (AR f hf) qf
def iI(p:Proj)(l:List Fact):Int:=bif iG p !=0 then iG p else bif decide ((l.length:Int)>200)then 8 else oH (JB p) l
def IS(p:Proj)(l:List Fact)(hp:p.fits)(hf:∀f∈l,f.fits)(hl:l.length<=9223372036854775807):aF prog 33 [oR p,cJ l] (vI (iI p l)):=by
 refine eP func33 rfl rfl call33 rfl rfl λR J=>?_
 refine aB (N7 p hp) ?_
 apply aI<;>intro h1
 ·exact zcV
 have h1:(iG p !=0)=false:=h1
 apply aI<;>intro h2
 ·exact zb2
 have h2:decide ((l.length:Int)>200)=false:=h2
 have he:iI p l=oH (JB p) l:=by unfold iI;rw[h1,h2];rfl
 refine Hb (λi:Nat=>⟨[(2,.s (.ptr 2 0)),(17,cJ l),(18,vI l.length),(19,vI i)],[(2,some (.cells (qH p)))]⟩) (λi=>i<=l.length/\oH (JB p) l=oH (JB p) (l.drop i)) (λi=>l.length-i) 0 ⟨Nat.zero_le _,rfl⟩ ?_ ?_
 ·exact xn
 ·rintro i ⟨hi,hj⟩
  apply eX J
  apply aI<;>intro h
  ·have h:(i:Int)<l.length:=bG h
   have bC:i<l.length:=O
   have hd:l.drop i=l[i]::l.drop (i+1):=Ve bC
   have hg:l.getD i default=l[i]:=aX bC
   rw[hd]at hj
   apply oi Ha
   repeat refine aR ?_
   refine aB (ZI p (l.getD i default) ze9) ?_
   apply aI<;>intro h3
   ·have h3:(JB p (l.getD i default) !=0)=true:=h3
    exact Ia (by rw[he,hj,<-hg];unfold oH;rw[h3];rfl)
   ·have h3:(JB p (l.getD i default) !=0)=false:=h3
    refine⟨i+1,⟨O,by rw[hj,<-hg,xS,h3];rfl⟩,O,?_⟩
    refine Zb J Ga ⟨rQ,rQ,rQ,⟨rfl,?_⟩,oO⟩
    exact zm
  exact zbj
end Go.Pj
namespace Go.Ch
open Go Go.Ax Go.Proofs Go.Proofs.Tryz Go.RowKit
def CK(l:List UInt8):(bs l).data.toList=l:=by simp[bs]
def ZZ(s p:List UInt8):aF prog 126 [vT s,vT p] (.t [.s (.d (dT (Lib.trimPrefix s p))),.s (.d (.val (.bool (Lib.hasPrefix s p))))]):=by
 refine⟨call126,λM w vs hg hr hM=>?_⟩
 match vs,hr with
 |[a,b],⟨h,h2,_⟩=>obtain rfl:a=.string (bs s):=h;obtain rfl:b=.string (bs p):=h2;refine(Tryz.strings_CutPrefix (bs s) (bs p) w).mono ?_;rintro e w' ⟨rfl,rfl⟩;rw[CK,CK];exact⟨_,M,rfl,⟨[_,_],rfl,rfl,rfl,oO⟩,fb _ _,hM,⟨Below.refl _ _,oO⟩⟩
def aN9{M:Mem}{w:Aa}{ls:List (List UInt8)}{n:Nat}(hn:ls.length=n):(J4 ls).bI (xB M w (w.alloc (.cells (ls.map λl=>Value.string (bs l)).toArray 9))) (.slice (some ⟨w.heap.size,0,none⟩) n n):=by subst hn;refine⟨_,_,rfl,mb _,.inr ⟨w.heap.size,0,rfl,λi j hi hj=>?_⟩⟩;obtain rfl:j=0:=O;refine⟨.string (bs (ls.getD i [])),?_,rfl⟩;simp only[xB,mb,Xi,Ec,oh,nh];have h:=Ke w (.cells (ls.map λl=>Value.string (bs l)).toArray 9);simp only[World.cell?,h];simp[List.getD,List.getElem?_eq_getElem hi]
def sG(s sep:List UInt8):List (List UInt8):=(Lib.splitB (bs sep) 0 (Lib.countB (bs s) (bs sep)) (bs s)).map λb=>b.data.toList
def Split(s sep:List UInt8)(hs:s.length<4294967281)(h1:1<=sep.length):aF prog 195 [vT s,vT sep] (.s (.d (J4 (sG s sep)))):=by
 refine⟨call195,λM w vs hg hr hM=>?_⟩
 match vs,hr with
 |[v,u],⟨h,h2,_⟩=>
  obtain rfl:v=.string (bs s):=h;obtain rfl:u=.string (bs sep):=h2;obtain⟨x,hx⟩:=hg;refine(Tryz.strings_Split (bs s) (bs sep) x.m w (by rw[cF];exact hs) (by rw[C5 hx (g:=0) (t:= #[.int .i64 x.m]) (by simp[tE])];rfl) (by rw[cF];exact h1)).mono ?_;rintro e w' ⟨rfl,rfl⟩;have hb:Below w.heap.size w (w.alloc (.cells ((Lib.splitB (bs sep) 0 (Lib.countB (bs s) (bs sep)) (bs s)).map Value.string).toArray 9)):=(Below.refl _ w).alloc (mb _) _;refine⟨_,xB M w _,rfl,?_,PY hM,X3 hM hb,⟨hb,oO⟩⟩;have e1:(Lib.splitB (bs sep) 0 (Lib.countB (bs s) (bs sep)) (bs s)).map Value.string=(sG s sep).map λl=>Value.string (bs l):=by simp only[sG,Rn];exact Xv λb _=>rfl
  rw[e1];exact aN9 (by simp only[sG,bg];exact Lib.splitB_all (bs sep) (by rw[cF];exact h1) 0 _ (bs s) rfl)
def aKH(ls:List (List UInt8))(x:List UInt8)(hN:ls.length<=9223372036854775807):aF prog 155 [.s (.d (J4 ls)),vT x] (vI (Lib.idxOfS (ls.map bs) (bs x))):=by
 refine⟨call155,λM w vs hg hr hM=>?_⟩
 match vs,hr with
 |[v,s],⟨h,h2,_⟩=>
  obtain rfl:s=.string (bs x):=h2;obtain⟨a,cap,rfl,hc,cY⟩:=h;by_cases h0:ls.length=0
  ·have:ls=[]:=fh h0;subst this;exact(Tryz.slices_Index_string_empty a cap (bs x) w).mono qg
  rcases cY with h1|⟨b,o,rfl,cY⟩
  ·exact absurd h1 h0
  have cells:∀j,j<(ls.map bs).length->w.cell? ⟨b,o+j,none⟩=some (.string ((ls.map bs).getD j ByteArray.empty)):=by
   intro j hj;have hj:j<ls.length:=by simpa using hj
   obtain⟨u,hu,hr⟩:=cY j 0 hj O;rw[show o+j*1+0=o+j by omega]at hu;rw[hM _ _ _ hu];have hr:u=.string (bs (ls.getD j [])):=hr;rw[hr,aX hj];simp[List.getD,List.getElem?_eq_getElem hj]
  have hsh:=Tryz.slices_Index_string b o ls.length cap (ls.map bs) (bs x) w sM hN cells;rw[Hn sM]at hsh;exact hsh.mono qg
end Go.Ch
--K6
namespace Go.Ax
def FE:eV->eV->Prop
 |[],[]=>True
 |(x,b)::r,(y,c)::s=>x=y/\aY b c/\FE r s
 |_,_=>False
def FE.names:∀{a b:eV},FE a b->names a=names b
 |[],[],_=>rfl
 |(x,b)::r,(y,c)::s,⟨h,_,k⟩=>by subst h;have:=FE.names k;simp only[Ax.names]at this⊢;rw[this]
 |[],_::_,h=>h.elim
 |_::_,[],h=>h.elim
def FE.get{M:Mem}{V:Nm}{w:Aa}:∀{a b:eV},FE a b->(∀x c,(x,c)∈a->cN M V w x c)->∀x c,(x,c)∈b->cN M V w x c
 |[],[],_,_,x,c,hc=>by cases hc
 |(x,b)::r,(y,c)::s,⟨h,h2,k⟩,hr,z,d,hd=>by
  subst h
  cases hd with
  |head=>exact h2 M V w x (hr x b (Zd ..))
  |tail _ hd=>exact FE.get k (λx c hc=>hr x c (oc _ hc)) z d hd
 |[],_::_,h,_,_,_,_=>h.elim
 |_::_,[],h,_,_,_,_=>h.elim
def bW.le{P:Ba}{f:FuncId}{args:List AV}{bx:eV}{r r':AV}{b1 b2:eV}(h:bW P f args bx r b1)(hr:aU r r')(hb:FE b1 b2):bW P f args bx r' b2:=by refine⟨h.1,λM V w vs hG hA hM rJ hβ=>(h.2 M V w vs hG hA hM rJ hβ).mono ?_⟩;rintro q w' ⟨v,M',V',he,hle,eD,SN,aIW,gF,y2,rest⟩;have hn:=hb.names;exact⟨v,M',V',he,hle,hr _ _ _ eD,SN,aIW,⟨λx hx=>gF.has x (hn▸hx),hb.get gF.rep,λx y b c c' hx hy=>gF.inj x y b c c' (hn▸hx) (hn▸hy),λx b c hx=>gF.apart x b c (hn▸hx)⟩,λx b c hx=>y2 x b c (hn▸hx),rest⟩
def Ah:=@bW.le
end Go.Ax
namespace Go.Pj
open Go Go.Ax Go.Ch Go.Proofs Go.Proofs.Tryz
abbrev RS:=List bJ×Bool
abbrev DE(s:RS):List SV:=[.d (J4 s.1),.d (.lit s.2)]
def dL(s:RS):bJ×RS:=(s.1.headD [],(s.1.tail,s.2||s.1.isEmpty))
def rdNum(s:RS):Int×RS:=(Mj (s.1.headD []),(s.1.tail,(s.2||s.1.isEmpty)||UX (s.1.headD [])))
def word(s:RS)(hl:s.1.length<=9223372036854775807):bW prog 259 [.s (.ptr 1 0)] [(1,.cells (DE s))] (vT (dL s).1) [(1,.cells (DE (dL s).2))]:=by
 obtain⟨l,b⟩:=s
 cases l with
 |nil=>refine Ah (b1:=[(1,.cells [.d (J4 []),.d (.lit true)])]) (r:=vT []) ?_ Ta ⟨rfl,Pe ⟨Ta,Wb (by cases b <;> rfl),oO⟩,oO⟩;refine gH (rc:=[]) (N:=28) func259 rfl rfl call259 aJ mix rfl rfl rfl rfl (λR J=>?_);refine aI (λh=>?_) (λh=>Bool.noConfusion (show true=false from h));exact kr
 |cons a l=>
  apply Ah (b1:=[(1,.cells [_,_])]) (r:=vT a)
  case h=>
   refine gH (rc:=[]) (N:=28) func259 rfl rfl call259 aJ mix rfl rfl rfl rfl (λR J=>?_);apply aI<;>intro h
   ·have h:(((a::l).length:Int)==0)=true:=h;simp at h;omega
   refine oi (show(0:Int)<=0/\(0:Int)<((a::l).length:Int) by simp only[Rb];omega) ?_;refine oi (show(0:Int)<=1/\(1:Int)<=((a::l).length:Int)/\((a::l).length:Int)<=((a::l).length:Int) by simp only[Rb];omega) ?_;exact kr
  case hr=>exact Ta
  case hb=>
   refine⟨rfl,Pe ⟨Xc (Qe ?_ λi j hi hj=>Wa ?_),?_,oO⟩,oO⟩
   ·show(((a::l).length:Int)-1).toNat=l.length;simp only[Rb];omega
   ·show dT ((a::l).getD (1+i) [])=dT (l.getD i []);rw[Wi];rfl
   exact Wb (by simp[dL])
def aU.val{b c:Bool}(h:b=c):aU (.s (.d (.val (.bool b)))) (.s (.d (.lit c))):=by subst h;exactλ_ _ _ r=>r
def number(s:RS)(hl:s.1.length<=9223372036854775807)(hw:(s.1.headD []).length<=281474976710656):bW prog 261 [.s (.ptr 1 0)] [(1,.cells (DE s))] (vI (rdNum s).1) [(1,.cells (DE (rdNum s).2))]:=by
 obtain⟨l,b⟩:=s
 cases hb:b||l.isEmpty with
 |true=>
  have e1:(dL (l,b)).2=(l.tail,true):=by simp[dL,hb]
  have e2:(rdNum (l,b)).2=(l.tail,true):=by simp[rdNum,hb]
  rw[e2]
  have QP:=word (l,b) hl
  rw[e1]at QP
  refine Ah (b1:=[(1,.cells [.d (J4 l.tail),.d (.lit true)])]) (r:=vI (rdNum (l,b)).1) ?_ Ta ⟨rfl,Lf,oO⟩
  refine gH (rc:=[259]) (N:=23) func261 rfl rfl call261 aJ mix rfl rfl rfl rfl (λR J=>?_)
  refine⟨[(1,1)],_,_,_,_,QP,rfl,⟨rfl,oO⟩,rfl,?_⟩
  refine aB (Atoi (l.headD []) hw) ?_
  exact zd7
 |false=>
  have e1:(dL (l,b)).2=(l.tail,false):=by simp[dL,hb]
  have e2:(rdNum (l,b)).2=(l.tail,UX (l.headD [])):=by simp[rdNum,hb]
  rw[e2]
  have QP:=word (l,b) hl
  rw[e1]at QP
  refine Ah (b1:=[(1,.cells [.d (J4 l.tail),.d (.val (.bool (UX (l.headD []))))])]) (r:=vI (rdNum (l,b)).1) ?_ Ta ⟨rfl,Pe ⟨Ta,aU.val rfl,oO⟩,oO⟩
  refine gH (rc:=[259]) (N:=23) func261 rfl rfl call261 aJ mix rfl rfl rfl rfl (λR J=>?_)
  refine⟨[(1,1)],_,_,_,_,QP,rfl,⟨rfl,oO⟩,rfl,?_⟩
  refine aB (Atoi (l.headD []) hw) ?_
  repeat refine aR ?_
  intro c hc
  obtain rfl:c=UX (l.headD []):=by
   revert hc
   cases c <;> cases UX (l.headD []) <;> simp
  exact zd7
def sJ(s:RS):Prop:=s.1.length<=4294967296/\∀w∈s.1,w.length<=4294967296
def sJ.tail{l:List bJ}{b c:Bool}(h:sJ (l,b)):sJ (l.tail,c):=
 ⟨Xb sM h.1,λw hw=>h.2 w (List.mem_of_mem_tail hw)⟩
def sJ.head{s:RS}(h:sJ s):(s.1.headD []).length<=281474976710656:=by
 obtain⟨l,b⟩:=s
 cases l with
 |nil=>simp
 |cons a l=>exact Xb (h.2 a (Zd ..)) dC
def sJ.num{s:RS}(h:sJ s):sJ (rdNum s).2:=sJ.tail (b:=s.2) h
def Fj:=@sJ.num
def sJ.word{s:RS}(h:sJ s):sJ (dL s).2:=sJ.tail (b:=s.2) h
def Ir:=@sJ.word
def num{s:RS}(h:sJ s):bW prog 261 [.s (.ptr 1 0)] [(1,.cells (DE s))] (vI (rdNum s).1) [(1,.cells (DE (rdNum s).2))]:=number s (Xb h.1 dC) h.head
def Di{s:RS}(h:sJ s):bW prog 259 [.s (.ptr 1 0)] [(1,.cells (DE s))] (vT (dL s).1) [(1,.cells (DE (dL s).2))]:=word s (Xb h.1 dC)
def xH(x:bJ):Int:=Lib.idxOfS ([pR,AX,uK,cT].map bs) (bs x)
def Ym(x:bJ):aF prog 258 [vT x] (vI (xH x)):=by
 refine eP func258 rfl rfl call258 rfl rfl λR J=>aB ((aKH [pR,AX,uK,cT] x dC).conv (args':=_) ⟨Qe rfl λi j hi hj=>?_,Ja _,oO⟩) ?_
 ·obtain rfl:j=0:=by have:j<1:=hj;omega
  have hi:i<4:=hi
  match i,hi with
  |0,_=>exact Ja _
  |1,_=>exact Ja _
  |2,_=>exact Ja _
  |3,_=>exact Ja _
 exact db _
def jH(k:Int)(f:Fact)(s:RS):Fact×RS:=
 bif k==0 then({f with a8:=(rdNum s).1,month:=(rdNum (rdNum s).2).1},(rdNum (rdNum s).2).2)
 else bif k==1 then({f with number:=(rdNum s).1},(rdNum s).2)
 else bif k==2 then({f with eS:=bs (dL s).1,month:=(rdNum (dL s).2).1},(rdNum (dL s).2).2)
 else(f,(s.1,true))
def sJ.key{k:Int}{f:Fact}{s:RS}(h:sJ s):sJ (jH k f s).2:=by
 unfold jH
 cases k==0 <;> cases k==1 <;> cases k==2
 all_goals first|exact h.num.num|exact h.num|exact h.word.num|exact h
abbrev vF(f:Fact)(x:SV):List SV:=[.d (dI f.kind),.d (dI f.seq),.d (dI f.a8),.d (dI f.month),.d (dI f.number),.d (dI f.aT),.d (dI f.over),.d (dI f.Jb),.d (dI f.target),.d (dS f.aN),.d (dS f.dN),.d (dS f.eS),x]
def aLS(k:Int)(f:Fact)(x:DV){s:RS}(h:sJ s):bW prog 260 [.s (.ptr 1 0),.s (.ptr 2 0),vI k] [(1,.cells (DE s)),(2,.cells (vF f (.d x)))] (.t []) [(1,.cells (DE (jH k f s).2)),(2,.cells (vF (jH k f s).1 (.d x)))]:=by
 cases k0:k==0 with
 |true=>
  have e:jH k f s=({f with a8:=(rdNum s).1,month:=(rdNum (rdNum s).2).1},(rdNum (rdNum s).2).2):=by unfold jH;rw[k0];rfl
  rw[e];refine r9 (rc:=[261]) (N:=41) func260 rfl rfl call260 aJ mix rfl rfl rfl (λR J=>?_);refine aI (λg=>?_) (λg=>(Bool.noConfusion (k0.symm.trans g)));refine⟨[(1,1)],_,_,_,_,num h,rfl,⟨rfl,oO⟩,rfl,?_⟩;refine⟨[(1,1)],_,_,_,_,num h.num,rfl,⟨rfl,oO⟩,rfl,?_⟩;exact np
 |false=>
  cases k1:k==1 with
  |true=>
   have e:jH k f s=({f with number:=(rdNum s).1},(rdNum s).2):=by unfold jH;rw[k0,k1];rfl
   rw[e];refine r9 (rc:=[261]) (N:=41) func260 rfl rfl call260 aJ mix rfl rfl rfl (λR J=>?_);refine aI (λg=>(Bool.noConfusion (k0.symm.trans g))) (λg=>?_);refine aI (λg=>?_) (λg=>(Bool.noConfusion (k1.symm.trans g)));refine⟨[(1,1)],_,_,_,_,num h,rfl,⟨rfl,oO⟩,rfl,?_⟩;exact np
  |false=>
   cases k2:k==2 with
   |true=>
    have e:jH k f s=({f with eS:=bs (dL s).1,month:=(rdNum (dL s).2).1},(rdNum (dL s).2).2):=by unfold jH;rw[k0,k1,k2];rfl
    rw[e];refine r9 (rc:=[261,259]) (N:=41) func260 rfl rfl call260 aJ mix rfl rfl rfl (λR J=>?_);refine aI (λg=>(Bool.noConfusion (k0.symm.trans g))) (λg=>?_);refine aI (λg=>(Bool.noConfusion (k1.symm.trans g))) (λg=>?_);refine aI (λg=>?_) (λg=>(Bool.noConfusion (k2.symm.trans g)));refine⟨[(1,1)],_,_,_,_,Di h,rfl,⟨rfl,oO⟩,rfl,?_⟩;refine⟨[(1,1)],_,_,_,_,num h.word,rfl,⟨rfl,oO⟩,rfl,?_⟩;exact np
   |false=>
    have e:jH k f s=(f,(s.1,true)):=by unfold jH;rw[k0,k1,k2];rfl
    rw[e];refine r9 (rc:=[]) (N:=41) func260 rfl rfl call260 aJ mix rfl rfl rfl (λR J=>?_);refine aI (λg=>(Bool.noConfusion (k0.symm.trans g))) (λg=>?_);refine aI (λg=>(Bool.noConfusion (k1.symm.trans g))) (λg=>?_);refine aI (λg=>(Bool.noConfusion (k2.symm.trans g))) (λg=>?_);exact np
def aU.gl{l m:List SV}(h:ZW l m):aU (.g l) (.g m):=by
 rintro M V v ⟨vs,e,r⟩;refine⟨vs,e,?_⟩;clear e;induction l generalizing m vs with
 |nil=>cases m with
  |nil=>exact r
  |cons _ _=>exact h.elim
 |cons a l ih=>
  cases m with
  |nil=>exact h.elim
  |cons b m=>
   match vs,r with
   |u::us,⟨r1,r2⟩=>exact⟨h.1 M V u r1,ih h.2 us r2⟩
def FY(f:Fact){x y:SV}(h:aU (.s x) (.s y)):aU (.g (vF f x)) (.g (vF f y)):=
 aU.gl ⟨Ta,Ta,Ta,Ta,Ta,Ta,Ta,Ta,Ta,Ta,Ta,Ta,h,oO⟩
def lX(k:Int):Fact:={(default:Fact)with kind:=k,seq:=0,a8:=0,month:=0,number:=0,aT:=0,over:=0,Jb:=0,target:=0,aN:=bs [],dN:=bs [],eS:=bs [],levels:=[]}
def FH(w:bJ):Int:=bif w== [45]then 30000 else Mj w
def KW(w:bJ):Bool:=bif w== [45]then false else UX w
def S4(f:Fact)(s:RS):Fact×RS:=
 let s1:=(rdNum s).2
 let s2:=(rdNum s1).2
 let s3:=(rdNum s2).2
 let s4:=(rdNum s3).2
 let s5:=(dL s4).2
 let s6:=(rdNum s5).2
 ({f with month:=(rdNum s).1,seq:=(rdNum s1).1,aT:=(rdNum s2).1,over:=(rdNum s3).1,aN:=bs (dL s4).1,Jb:=(rdNum s5).1,dN:=bs (dL s6).1},(dL s6).2)
def kP(s:RS):Fact×RS:=
 let k:=xH (dL s).1
 let s1:=(dL s).2
 bif k==0 then
  let r:=jH k (lX k) s1
  let s3:=(rdNum r.2).2
  ({r.1 with seq:=(rdNum r.2).1,levels:=s3.1.map FH},([],s3.2||s3.1.any KW))
 else bif k==1 then S4 (jH k (lX k) s1).1 (jH k (lX k) s1).2
 else bif k==3 then
  let s2:=(rdNum s1).2
  let s3:=(dL s2).2
  jH (xH (dL s2).1) {lX k with seq:=(rdNum s1).1,target:=xH (dL s2).1} s3
 else
  let r:=jH k (lX k) s1
  ({r.1 with seq:=(rdNum r.2).1},(rdNum r.2).2)
def BI(k:Int)(f:Fact)(s:RS):(jH k f s).1.levels=f.levels:=by
 unfold jH
 cases k==0 <;> cases k==1 <;> cases k==2 <;> rfl
abbrev eO:DV:=.val (.slice none 0 0)
def H9{l:List Int}(h:l=[]):aU (.s (.d eO)) (.s (.d (b5 l))):=by subst h;exact Xc Nd
def aM1{s:RS}(h:sJ s):bW prog 196 [.s (.ptr 1 0)] [(1,.cells (DE s))] (pX (kP s).1) [(1,.cells (DE (kP s).2))]:=by
 have h1:=h.word;generalize hk:xH (dL s).1=k;generalize LC:(dL s).2=s1 at h1;have hr:=h1.key (k:=k) (f:=lX k);have hl:=BI k (lX k) s1;have tR:=aLS k (lX k) eO h1
 cases k0:k==0 with
 |true=>
  generalize SH:jH k (lX k) s1=r at hl tR hr;obtain⟨f1,s2⟩:=r;have c1:=num (s:=s2) hr;have EW:=Fj (s:=s2) hr;generalize e1:rdNum s2=r1 at c1 EW;obtain⟨n1,l,b⟩:=r1;have h3:sJ (l,b):=EW;have e:kP s=({f1 with seq:=n1,levels:=l.map FH},([],b||l.any KW)):=by unfold kP;simp only[hk,LC,k0,cond_true,SH,e1]
  rw[e];have Q0:∀i c,sJ (l.drop i,c):=λi c=>⟨Xb sM h3.1,λw hw=>h3.2 w (ay hw)⟩
  have hn:=h3.1;have hn:l.length<=4294967296:=hn;refine Ah (b1:=[(1,.cells (DE ([],b||l.any KW)))]) (r:=.g (vF {f1 with seq:=n1} (.d (.fU (bif (l.map FH).isEmpty then 0 else(l.map FH).length) 1 (cP (l.map FH)))))) ?_ (FY {f1 with seq:=n1} (Wb (by rw[dK];rfl))) ⟨rfl,Lf,oO⟩;refine lH func196 rfl rfl call196 aJ rfl rfl rfl rfl (λR J=>?_);refine sX J (Sa (Sb (rc:=[259]) aJ mix J _ ?_));refine⟨[(1,1)],_,_,_,_,Di h,rfl,⟨rfl,oO⟩,rfl,?_⟩;refine aB (Ym (dL s).1) ?_;rw[hk,LC];refine Tb (I':=⟨[(0,.s (.ptr 1 0)),(2,.s (.ptr 2 0)),(3,.s (.ptr 3 0))],[(1,some (.cells (DE s1))),(2,some (.cells (iB Mg.zero))),(3,some (.cells (vF (lX k) (.d eO))))]⟩) (Lb [] lb rfl Fa Fa) (Sa (sX J ?_));refine Eb (sX J ?_);refine Cb (aI (λg=>?_) (λg=>(Bool.noConfusion (k0.symm.trans g))));refine Sa (Sb (rc:=[260]) aJ mix J _ ?_);refine⟨[(1,1),(2,3)],_,_,_,_,tR,rfl,⟨rfl,rfl,oO⟩,rfl,?_⟩;refine Tb (I':=⟨[(0,.s (.ptr 1 0)),(2,.s (.ptr 2 0)),(3,.s (.ptr 3 0))],[(1,some (.cells (DE s2))),(2,some (.cells (iB Mg.zero))),(3,some (.cells (vF f1 (.d eO))))]⟩) (Lb [] lb rfl Fa Fa) (Sa (Sb (rc:=[261]) aJ mix J _ ?_));refine⟨[(1,1)],_,_,_,_,c1,rfl,⟨rfl,oO⟩,rfl,?_⟩;apply Eb;refine Gb (λi:Nat=>⟨[(0,.s (.ptr 1 0)),(2,.s (.ptr 2 0)),(3,.s (.ptr 3 0))],[(1,some (.cells (DE (l.drop i,b||(l.take i).any KW)))),(2,some (.cells (iB Mg.zero))),(3,some (.cells (vF {f1 with seq:=n1} (.mo ((l.take i).map FH).isEmpty 100)))),(100,some (.b8 3 ((l.take i).map FH).length 1 (cP ((l.take i).map FH))))]⟩)
   (λi=>i<=l.length) (λi=>l.length-i) 0 (Nat.zero_le _) ?_ ?_
  ·exact Lb [(100,1000)] lb rfl ⟨⟨rfl,Pe ⟨Ta,Wb (show AV.s (.d (.lit b))=AV.s (.d (.lit (b||false))) by rw[Zj]),oO⟩⟩,bQ,⟨rfl,Pe ⟨Ta,Ta,Ta,Ta,Ta,Ta,Ta,Ta,Ta,Ta,Ta,Ta,fg rfl,oO⟩⟩,⟨rfl,rfl⟩,oO⟩ Fa
  intro i hi;refine Sb (rc:=[259,1500261]) aJ mix J _ (aI (λg=>?_) (λg=>?_))
  ·have g:((l.drop i).length:Int)>0:=bG g;rw[er]at g;have bC:i<l.length:=O;have hd:l.drop i=l.getD i []::l.drop (i+1):=by rw[aX bC];exact Ve bC
   refine oi (show(0:Int)<=0/\(0:Int)<((l.drop i).length:Int) by rw[er];omega) ?_;have hlen:((l.take i).map FH).length=i:=by simp;omega
   have Zg:l.take (i+1)=l.take i++ [l.getD i []]:=by rw[Bg,List.getElem?_eq_getElem bC,aX bC];rfl
   have tkE:(l.take (i+1)).any KW=((l.take i).any KW||KW (l.getD i [])):=by rw[Zg,Pn];simp
   have tkN:(l.take (i+1)).map FH=(l.take i).map FH++ [FH (l.getD i [])]:=by rw[Zg,Vi];rfl
   have hg0:(l.drop i).getD 0 []=l.getD i []:=by rw[hd];rfl
   apply aI<;>intro g2
   ·have g2:((bs ((l.drop i).getD 0 [])).toList==(bs [45]).toList)=true:=g2;rw[hg0,nF,nF]at g2;have eN:FH (l.getD i [])=30000:=by unfold FH;rw[g2];rfl
    have eE:KW (l.getD i [])=false:=by unfold KW;rw[g2];rfl
    refine ob dC (ob zeS ?_);refine ob (nJ (AS rfl)) ⟨[(1,1)],_,_,_,_,Di (Q0 i _),rfl,⟨rfl,oO⟩,rfl,?_⟩;refine⟨i+1,O,O,?_⟩;refine Lb [(100,42)] lb rfl ⟨⟨rfl,Pe ⟨Wb (by rw[hd];rfl),Wb ?_,oO⟩⟩,bQ,⟨rfl,Pe ⟨Ta,Ta,Ta,Ta,Ta,Ta,Ta,Ta,Ta,Ta,Ta,Ta,Ye ?_,oO⟩⟩,⟨rfl,?_⟩,oO⟩ Fa
    ·show AV.s (.d (.lit ((b||(l.take i).any KW)||(l.drop i).isEmpty)))=AV.s (.d (.lit (b||(l.take (i+1)).any KW)));rw[tkE,hd,eE];simp
    ·rw[tkN];exact cA _ _
    show aY _ (.b8 3 ((l.take (i+1)).map FH).length 1 (cP ((l.take (i+1)).map FH)));rw[tkN,eN];exact Nf (el:=λn _=>dI n) (x:=30000) (AS rfl)
   have g2:((bs ((l.drop i).getD 0 [])).toList==(bs [45]).toList)=false:=g2;rw[hg0,nF,nF]at g2;have eN:FH (l.getD i [])=(rdNum (l.drop i,b||(l.take i).any KW)).1:=by unfold FH rdNum;rw[g2,hd];rfl
   have eE:KW (l.getD i [])=UX (l.getD i []):=by unfold KW;rw[g2];rfl
   refine⟨[(1,1)],_,_,_,_,num (Q0 i _),rfl,⟨rfl,oO⟩,rfl,?_⟩;refine ob dC (ob zeS ?_);refine ob (nJ (AS rfl)) (aD ?_);refine⟨i+1,O,O,?_⟩;refine Lb [(100,51)] lb rfl ⟨⟨rfl,Pe ⟨Wb (by rw[hd];rfl),Wb ?_,oO⟩⟩,bQ,⟨rfl,Pe ⟨Ta,Ta,Ta,Ta,Ta,Ta,Ta,Ta,Ta,Ta,Ta,Ta,Ye ?_,oO⟩⟩,⟨rfl,?_⟩,oO⟩ Fa
   ·show AV.s (.d (.lit (((b||(l.take i).any KW)||(l.drop i).isEmpty)||UX ((l.drop i).headD []))))=AV.s (.d (.lit (b||(l.take (i+1)).any KW)));rw[tkE,hd,eE];simp[Uy]
   ·rw[tkN];exact cA _ _
   show aY _ (.b8 3 ((l.take (i+1)).map FH).length 1 (cP ((l.take (i+1)).map FH)));rw[tkN,eN];exact Nf (el:=λn _=>dI n) (x:=(rdNum (l.drop i,b||(l.take i).any KW)).1) (AS rfl)
  have g:¬((l.drop i).length:Int)>0:=bF g;rw[er]at g;obtain rfl:i=l.length:=O;rw[Sg,Vd];exact eX J kr
 |false=>
  cases k1:k==1 with
  |true=>
   generalize SH:jH k (lX k) s1=r at hl tR hr;obtain⟨f1,s2⟩:=r;have aMM:sJ s2:=hr;have c1:=num (s:=s2) aMM;have aHE:=Fj aMM;generalize e1:rdNum s2=r1 at c1 aHE;obtain⟨n1,s3⟩:=r1;have aML:sJ s3:=aHE;have c2:=num (s:=s3) aML;have aHD:=Fj aML;generalize e2:rdNum s3=r2 at c2 aHD;obtain⟨n2,s4⟩:=r2;have aMK:sJ s4:=aHD;have c3:=num (s:=s4) aMK;have aHC:=Fj aMK;generalize e3:rdNum s4=r3 at c3 aHC;obtain⟨n3,s5⟩:=r3;have aMJ:sJ s5:=aHC;have c4:=num (s:=s5) aMJ;have aHB:=Fj aMJ;generalize e4:rdNum s5=r4 at c4 aHB;obtain⟨n4,s6⟩:=r4;have aMI:sJ s6:=aHB;have c5:=Di (s:=s6) aMI;have aHA:=Ir aMI;generalize e5:dL s6=r5 at c5 aHA;obtain⟨w1,s7⟩:=r5;have aMH:sJ s7:=aHA;have c6:=num (s:=s7) aMH;have aG9:=Fj aMH;generalize e6:rdNum s7=r6 at c6 aG9;obtain⟨n5,s8⟩:=r6;have aMG:sJ s8:=aG9;have c7:=Di (s:=s8) aMG;have aG8:=Ir aMG;generalize e7:dL s8=r7 at c7 aG8;obtain⟨w2,s9⟩:=r7;have aQQ:sJ s9:=aG8;have e:kP s=({f1 with month:=n1,seq:=n2,aT:=n3,over:=n4,aN:=bs w1,Jb:=n5,dN:=bs w2},s9):=by unfold kP;simp only[hk,LC,k0,k1,Ua,cond_true,SH,S4,e1,e2,e3,e4,e5,e6,e7]
   rw[e];refine Ah (b1:=[(1,.cells (DE s9))]) (r:=.g (vF {f1 with month:=n1,seq:=n2,aT:=n3,over:=n4,aN:=bs w1,Jb:=n5,dN:=bs w2} (.d eO))) ?_ (FY _ (H9 hl)) ⟨rfl,Lf,oO⟩;refine lH func196 rfl rfl call196 aJ rfl rfl rfl rfl (λR J=>?_);refine sX J (Sa (Sb (rc:=[259]) aJ mix J _ ?_));refine⟨[(1,1)],_,_,_,_,Di h,rfl,⟨rfl,oO⟩,rfl,?_⟩;refine aB (Ym (dL s).1) ?_;rw[hk,LC];refine Tb (I':=⟨[(0,.s (.ptr 1 0)),(2,.s (.ptr 2 0)),(3,.s (.ptr 3 0))],[(1,some (.cells (DE s1))),(2,some (.cells (iB Mg.zero))),(3,some (.cells (vF (lX k) (.d eO))))]⟩) (Lb [] lb rfl Fa Fa) (Sa (sX J ?_));refine Eb (sX J ?_);refine Cb (aI (λg=>(Bool.noConfusion (k0.symm.trans g))) (λg=>?_));refine sX J (Cb ?_);refine aI (λg=>?_) (λg=>(Bool.noConfusion (k1.symm.trans g)));refine Tb (I':=⟨[(0,.s (.ptr 1 0)),(2,.s (.ptr 2 0)),(3,.s (.ptr 3 0))],[(1,some (.cells (DE s1))),(2,some (.cells (iB Mg.zero))),(3,some (.cells (vF (lX k) (.d eO))))]⟩) (Lb [] lb rfl Fa Fa) (Sa (Sb (rc:=[260]) aJ mix J _ ?_));refine⟨[(1,1),(2,3)],_,_,_,_,tR,rfl,⟨rfl,rfl,oO⟩,rfl,?_⟩;refine Tb (I':=⟨[(0,.s (.ptr 1 0)),(2,.s (.ptr 2 0)),(3,.s (.ptr 3 0))],[(1,some (.cells (DE s2))),(2,some (.cells (iB Mg.zero))),(3,some (.cells (vF f1 (.d eO))))]⟩) (Lb [] lb rfl Fa Fa) (Sa (Sb (rc:=[261]) aJ mix J _ ?_));refine⟨[(1,1)],_,_,_,_,c1,rfl,⟨rfl,oO⟩,rfl,?_⟩;refine⟨[(1,1)],_,_,_,_,c2,rfl,⟨rfl,oO⟩,rfl,?_⟩;refine Tb (I':=⟨[(0,.s (.ptr 1 0)),(2,.s (.ptr 2 0)),(3,.s (.ptr 3 0))],[(1,some (.cells (DE s4))),(2,some (.cells (iB Mg.zero))),(3,some (.cells (vF ({f1 with month:=n1,seq:=n2}) (.d eO))))]⟩) (Lb [] lb rfl Fa Fa) (Sa (Sb (rc:=[261]) aJ mix J _ ?_));refine⟨[(1,1)],_,_,_,_,c3,rfl,⟨rfl,oO⟩,rfl,?_⟩;refine⟨[(1,1)],_,_,_,_,c4,rfl,⟨rfl,oO⟩,rfl,?_⟩;refine Tb (I':=⟨[(0,.s (.ptr 1 0)),(2,.s (.ptr 2 0)),(3,.s (.ptr 3 0))],[(1,some (.cells (DE s6))),(2,some (.cells (iB Mg.zero))),(3,some (.cells (vF ({f1 with month:=n1,seq:=n2,aT:=n3,over:=n4}) (.d eO))))]⟩) (Lb [] lb rfl Fa Fa) (Sa (Sb (rc:=[259]) aJ mix J _ ?_));refine⟨[(1,1)],_,_,_,_,c5,rfl,⟨rfl,oO⟩,rfl,?_⟩;refine Tb (I':=⟨[(0,.s (.ptr 1 0)),(2,.s (.ptr 2 0)),(3,.s (.ptr 3 0))],[(1,some (.cells (DE s7))),(2,some (.cells (iB Mg.zero))),(3,some (.cells (vF ({f1 with month:=n1,seq:=n2,aT:=n3,over:=n4,aN:=bs w1}) (.d eO))))]⟩) (Lb [] lb rfl Fa Fa) (Sa (Sb (rc:=[261]) aJ mix J _ ?_));refine⟨[(1,1)],_,_,_,_,c6,rfl,⟨rfl,oO⟩,rfl,?_⟩;refine Tb (I':=⟨[(0,.s (.ptr 1 0)),(2,.s (.ptr 2 0)),(3,.s (.ptr 3 0))],[(1,some (.cells (DE s8))),(2,some (.cells (iB Mg.zero))),(3,some (.cells (vF ({f1 with month:=n1,seq:=n2,aT:=n3,over:=n4,aN:=bs w1,Jb:=n5}) (.d eO))))]⟩) (Lb [] lb rfl Fa Fa) (Sb (rc:=[259]) aJ mix J _ ?_);refine⟨[(1,1)],_,_,_,_,c7,rfl,⟨rfl,oO⟩,rfl,?_⟩;refine Tb (I':=⟨[(0,.s (.ptr 1 0)),(2,.s (.ptr 2 0)),(3,.s (.ptr 3 0))],[(1,some (.cells (DE s9))),(2,some (.cells (iB Mg.zero))),(3,some (.cells (vF ({f1 with month:=n1,seq:=n2,aT:=n3,over:=n4,aN:=bs w1,Jb:=n5,dN:=bs w2}) (.d eO))))]⟩) (Lb [] lb rfl Fa Fa) (eX J ?_);exact kr
  |false=>
   cases k3:k==3 with
   |true=>
    have c1:=num (s:=s1) h1;have h2':=Fj h1;generalize e1:rdNum s1=r1 at c1 h2';obtain⟨n1,s2⟩:=r1;have h2:sJ s2:=h2';have c2:=Di (s:=s2) h2;have EW:=Ir h2;generalize e2:dL s2=r2 at c2 EW;obtain⟨w1,s3⟩:=r2;have h3:sJ s3:=EW;generalize hT:xH w1=tg;have c3:=aLS tg {lX k with seq:=n1,target:=tg} eO h3;have hl2:=BI tg {lX k with seq:=n1,target:=tg} s3;have e:kP s=jH tg {lX k with seq:=n1,target:=tg} s3:=by unfold kP;simp only[hk,LC,k0,k1,k3,Ua,cond_true,hT,e1,e2]
    rw[e];generalize jH tg {lX k with seq:=n1,target:=tg} s3=r3 at c3 hl2;obtain⟨f3,s4⟩:=r3;refine Ah (b1:=[(1,.cells (DE s4))]) (r:=.g (vF f3 (.d eO))) ?_ (FY _ (H9 hl2)) ⟨rfl,Lf,oO⟩;refine gH (rc:=[259,260,261]) (N:=94) func196 rfl rfl call196 aJ mix rfl rfl rfl rfl (λR J=>?_);refine⟨[(1,1)],_,_,_,_,Di h,rfl,⟨rfl,oO⟩,rfl,?_⟩;refine aB (Ym (dL s).1) ?_;rw[hk,LC];refine aI (λg=>(Bool.noConfusion (k0.symm.trans g))) (λg=>?_);refine aI (λg=>(Bool.noConfusion (k1.symm.trans g))) (λg=>?_);refine aI (λg=>?_) (λg=>(Bool.noConfusion (k3.symm.trans g)));refine⟨[(1,1)],_,_,_,_,c1,rfl,⟨rfl,oO⟩,rfl,?_⟩;refine⟨[(1,1)],_,_,_,_,c2,rfl,⟨rfl,oO⟩,rfl,?_⟩;refine aB (Ym w1) ?_;rw[hT];refine⟨[(1,1),(2,3)],_,_,_,_,c3,rfl,⟨rfl,rfl,oO⟩,rfl,?_⟩;exact kr
   |false=>
    generalize SH:jH k (lX k) s1=r at hl tR hr;obtain⟨f1,s2⟩:=r;have e:kP s=({f1 with seq:=(rdNum s2).1},(rdNum s2).2):=by unfold kP;simp only[hk,LC,k0,k1,k3,Ua,SH]
    rw[e];refine Ah (b1:=[(1,.cells (DE (rdNum s2).2))]) (r:=.g (vF {f1 with seq:=(rdNum s2).1} (.d eO))) ?_ (FY _ (H9 hl)) ⟨rfl,Lf,oO⟩;refine gH (rc:=[259,260,261]) (N:=94) func196 rfl rfl call196 aJ mix rfl rfl rfl rfl (λR J=>?_);refine⟨[(1,1)],_,_,_,_,Di h,rfl,⟨rfl,oO⟩,rfl,?_⟩;refine aB (Ym (dL s).1) ?_;rw[hk,LC];refine aI (λg=>(Bool.noConfusion (k0.symm.trans g))) (λg=>?_);refine aI (λg=>(Bool.noConfusion (k1.symm.trans g))) (λg=>?_);refine aI (λg=>(Bool.noConfusion (k3.symm.trans g))) (λg=>?_);refine⟨[(1,1),(2,3)],_,_,_,_,tR,rfl,⟨rfl,rfl,oO⟩,rfl,?_⟩;refine⟨[(1,1)],_,_,_,_,num (s:=s2) hr,rfl,⟨rfl,oO⟩,rfl,?_⟩;exact kr
open Go.Lib in
def aLI:∀(k u:Nat),u<10^(k+1)->nDigits u<=k+1
 |0,u,h=>by rw[nDigits_small ai];exact mb _
 |k+1,u,h=>by
  by_cases hu:u<10
  ·rw[nDigits_small hu];omega
  rw[nDigits_big hu];have:=aLI k (u / 10) (by rw[Vx dC,<-Nat.pow_succ];exact h);omega
def lG{n:Int}(h: -1000000000000<=n/\n<=1000000000000):(Lib.itoa n).length<=14:=by have h1:=aLI 12 n.natAbs (by show n.natAbs<10000000000000;omega);rw[<-Lib.decDigits_length]at h1;exact za8
def HG{k:Int}{f:Fact}(h:cK k f=0):∀x∈cS k f,x.length<=14:=by
 intro x hx;rcases iV h with⟨rfl,h1,h2⟩|⟨rfl,h1⟩|⟨rfl,h1,h2⟩
 ·have h1:=within_iff.1 h1;have h2:=within_iff.1 h2;simp only[cS,wb,Sd,Kd,show((0:Int)==0)=true from rfl,cond_true]at hx;rcases hx with rfl|rfl|rfl
  ·decide
  ·exact lG O
  exact lG O
 ·have h1:=within_iff.1 h1;simp only[cS,wb,Sd,Kd,show((1:Int)==0)=false from rfl,show((1:Int)==1)=true from rfl,cond_true,Ua]at hx;rcases hx with rfl|rfl
  ·decide
  exact lG O
 have h1:=within_iff.1 h1;have h2:=iW h2;simp only[cS,wb,Sd,Kd,show((2:Int)==0)=false from rfl,show((2:Int)==1)=false from rfl,Ua]at hx;rcases hx with rfl|rfl|rfl
 ·decide
 ·rw[wV];omega
 exact lG O
def aLR{f:Fact}(h:nZ f=0):∀x∈nH f,x.length<=14:=by
 intro x hx;unfold nZ at h;unfold nH at hx
 cases h1:f.kind !=3 with
 |true=>rw[h1]at h hx;exact HG h x hx
 |false=>
  rw[h1]at h hx;rcases wb.1 hx with rfl|hx
  ·decide
  exact HG h x hx
def aG0{n:Int}(h:iQ n=false):(yJ n).length<=14:=by
 unfold yJ
 cases h1:n==30000 with
 |true=>simp
 |false=>
  have hn:n≠30000:=by simpa using h1
  have h2:within n (-20000) 20000=true:=by unfold iQ at h;simpa[hn]using h
  have:=within_iff.1 h2;simp only[Ua];exact lG O
def aJA{f:Fact}(h:fR f=0):(jY f).length<=110/\∀x∈jY f,x.length<=14:=by
 obtain⟨h1,h2⟩:=kN h;have hk:=aLR h1;have hl:=yK f;have hs:=within_iff.1 (lK h2);have i1:(Lib.itoa f.seq).length<=14:=lG O;have y5:∀x∈nH f,x.length<=14:=λx hx=>Xb (hk x hx) dC
 unfold jY
 cases k0:f.kind==0 with
 |true=>
  obtain⟨a,b⟩:=oB h2 k0;refine⟨by simp;omega,λx hx=>?_⟩;simp only[cond_true,ic,Ib,Lc]at hx;rcases hx with(hx|rfl)|⟨n,hn,rfl⟩
  ·exact y5 x hx
  ·omega
  have:iQ n=false:=zeu
  exact Xb (aG0 this) dC
 |false=>
  cases k1:f.kind==1 with
  |true=>obtain⟨⟨a,b,c,d⟩,e,g⟩:=mQ h2 k1;have a:=within_iff.1 a;have b:=within_iff.1 b;have c:=within_iff.1 c;have d:=within_iff.1 d;have e:=iW e;have g:=iW g;have j1:(Lib.itoa f.month).length<=14:=lG O;have j2:(Lib.itoa f.aT).length<=14:=lG O;have j3:(Lib.itoa f.over).length<=14:=lG O;have j4:(Lib.itoa f.Jb).length<=14:=lG O;exact jg
  |false=>exact uw
def aCV(f:Fact):(dR f).length<=1650:=by
 unfold dR
 cases he:fR f==0 with
 |false=>simp
 |true=>
  have he:fR f=0:=by simpa using he
  obtain⟨h1,h2⟩:=aJA he;have:=tP h2;have h3:=Vc (14+1) h1;exact cv
def eQ(f:Fact):Fact:=(kP (sG (dR f) [32],false)).1
end Go.Pj
namespace Go.Ch
open Go Go.Ax Go.Proofs Go.Proofs.Tryz
open Go.Lib (decDigits itoa decFrom digitVal nDigits)
def DZ{d:Nat}(h:d<10):(pP d).toNat=48+d:=by
 have:∀k:Fin 10,(pP k.val).toNat=48+k.val:=by decide+kernel
 exact this ⟨d,h⟩
def yQ:∀(n u:Nat),u<=n->∀b∈decDigits u,48<=b.toNat/\b.toNat<=57
 |n,u,h,b,hb=>by
  by_cases hu:u<10
  ·rw[CD hu]at hb;simp only[wb,Sd,Kd]at hb;subst hb;rw[DZ hu];omega
  rw[xY hu]at hb;simp only[ic,wb,Sd,Kd]at hb;rcases hb with hb|hb
  ·match n with
   |0=>omega
   |n+1=>exact yQ n (u / 10) O b hb
  subst hb;rw[DZ O];omega
def CE:∀(l:List UInt8) (acc n:Nat) (b:UInt8) (d:Nat),decFrom acc l=some n->digitVal b=some d->decFrom acc (l++ [b])=some (n*10+d)
 |[],acc,n,b,d,h,hb=>by simp only[decFrom,Je]at h;subst h;simp[decFrom,hb]
 |a::t,acc,n,b,d,h,hb=>by
  simp only[decFrom,We]at h⊢
  cases ha:digitVal a with
  |none=>rw[ha]at h;cases h
  |some e=>rw[ha]at h;exact CE t _ n b d h hb
def CC{d:Nat}(h:d<10):digitVal (pP d)=some d:=by unfold digitVal;rw[DZ h,La O];congr 1;omega
def WO:∀(n u:Nat),u<=n->decFrom 0 (decDigits u)=some u
 |n,u,h=>by
  by_cases hu:u<10
  ·rw[CD hu];simp[decFrom,CC hu]
  rw[xY hu]
  match n with
  |0=>omega
  |n+1=>rw[CE _ _ _ _ _ (WO n (u / 10) O) (CC O)];congr 1;omega
def HK(n:Int):(n<0/\itoa n=45::decDigits n.natAbs)\/(0<=n/\itoa n=decDigits n.natAbs):=by
 unfold itoa;by_cases h:n<0
 ·left;exact⟨h,by rw[La h]⟩
 right;exact⟨O,by rw[Ka h,show n.toNat=n.natAbs by omega]⟩
def YA(n:Int):∀b∈itoa n,b.toNat=45\/(48<=b.toNat/\b.toNat<=57):=by
 intro b hb;rcases HK n with⟨_,e⟩|⟨_,e⟩ <;> rw[e]at hb
 ·rcases wb.1 hb with rfl|hb
  ·exact .inl rfl
  exact .inr (yQ _ _ (mb _) b hb)
 exact .inr (yQ _ _ (mb _) b hb)
end Go.Ch
namespace Go.Ch
open Go Go.Ax Go.Proofs Go.Proofs.Tryz
open Go.Lib (itoa)
end Go.Ch
namespace Go.Ch
open Go Go.Ax Go.Proofs Go.Proofs.Tryz
end Go.Ch
namespace Go.Pj
open Go Go.Ax Go.Ch Go.Proofs Go.Proofs.Tryz
def aDQ{n:Int}(h: -1000000000000<=n/\n<=1000000000000):Lib.atoiAll (Lib.itoa n)=.ok n:=by
 rw[Lib.atoiAll_short _ (by have:=lG h;omega)];have hv:=WO _ _ (mb n.natAbs);have hn:Lib.decNat (Lib.decDigits n.natAbs)=some n.natAbs:=by
  unfold Lib.decNat;rw[hv]
  cases hq:Lib.decDigits n.natAbs with
  |nil=>exact absurd hq (aC8 _)
  |cons _ _=>rfl
 have ho:Lib.atoi (Lib.itoa n)=some n:=by
  rcases HK n with⟨h0,e⟩|⟨h0,e⟩ <;> rw[e]
  ·unfold Lib.atoi;simp only[Ui,Xi,hn,Option.map];congr 1;omega
  cases hq:Lib.decDigits n.natAbs with
  |nil=>exact absurd hq (aC8 _)
  |cons b r=>
   have hb:=yQ _ _ (mb n.natAbs) b (by rw[hq];exact Zd);unfold Lib.atoi;have h1:(b==45)=false:=zen
   have h2:(b==43)=false:=zen
   simp only[h1,h2,Xj,rh];rw[<-hq,hn];simp only[Option.map];congr 1;omega
 rw[ho];rfl
def aHK{n:Int}(h: -1000000000000<=n/\n<=1000000000000):Mj (Lib.itoa n)=n:=by unfold Mj;rw[aDQ h]
def Ws{n:Int}(h: -1000000000000<=n/\n<=1000000000000):UX (Lib.itoa n)=false:=by unfold UX;rw[aDQ h]
def pG(c:UInt8):bJ->List bJ
 |[]=>[[]]
 |b::l=>bif b==c then []::pG c l else match pG c l with|h::t=>(b::h)::t|[]=>[[b]]
def NZ(c:UInt8):∀l,pG c l≠[]
 |[]=>by simp[pG]
 |b::l=>by
  rw[pG]
  cases b==c with
  |true=>simp
  |false=>
   cases h:pG c l with
   |nil=>exact absurd h (NZ c l)
   |cons _ _=>simp
open Go.Lib in
def w3(c:UInt8):∀(s:bJ) (k:Nat),count s [c]=k->splitK [c] 0 k s=pG c s
 |[],k,h=>by
  have h0:count ([]:bJ) [c]=0:=by rw[count_one];rfl
  rw[h0]at h;subst h;rfl
 |b::l,k,h=>by
  rw[pG];by_cases hb:b=c
  ·subst hb;rw[count_cons_eq]at h;obtain⟨k,rfl⟩:∃j,k=j+1:=⟨k-1,O⟩;have hix:index (b::l) [b]=0:=by rw[index];simp[List.isPrefixOf]
   rw[splitK,hix,Ui];simp only[show((0:Int)== -1)=false from rfl,Xj,rh,cond_true];have:=w3 b l k O;simp only[Int.toNat_zero,Ec,List.take_zero,Rb,xe,List.drop_succ_cons,List.drop_zero,this]
  have hbf:(b==c)=false:=by simpa using hb
  rw[count_cons_ne b c l hb]at h;have ih:=w3 c l k h;have hp:([c]:List UInt8).isPrefixOf (b::l)=false:=by simp[List.isPrefixOf,Ne.symm hb]
  have hix:index (b::l) [c]=if index l [c]== -1 then -1 else index l [c]+1:=by rw[index,hp];simp
  rw[hbf,Ua,<-ih]
  cases k with
  |zero=>rfl
  |succ k=>
   rw[splitK,splitK,hix];by_cases hm:index l [c]= -1
   ·rw[hm];rfl
   have FK:=index_ge l [c];have h1:(index l [c]== -1)=false:=by simpa using hm
   have h2:((index l [c]+1)== -1)=false:=by simp only[Wq];omega
   rw[h1];simp only[Xj,rh,h2];have e:(index l [c]+1).toNat=(index l [c]).toNat+1:=O;rw[e];simp only[nh,Kn,Rb,xe,Ec,List.drop_succ_cons]
open Go.Lib in
def EA(s:bJ)(c:UInt8):sG s [c]=pG c s:=by
 unfold sG;rw[splitB_data];have e:countB (bs s) (bs [c])=count s [c]:=by simp[countB,bs]
 rw[e];have e2:(bs [c]).data.toList=[c]:=by simp[bs]
 have e3:(bs s).data.toList=s:=by simp[bs]
 rw[e2,e3];exact w3 c s _ rfl
def RO(c:UInt8):∀l,(pG c l).length<=l.length+1
 |[]=>mb _
 |b::l=>by
  have:=RO c l;rw[pG]
  cases b==c with
  |true=>simp only[cond_true,Rb];omega
  |false=>
   cases h:pG c l with
   |nil=>exact absurd h (NZ c l)
   |cons x r=>rw[h]at this;simp only[Ua,Rb]at this⊢;omega
def LW(c:UInt8):∀l,∀w∈pG c l,w.length<=l.length
 |[],w,hw=>by simp[pG]at hw;subst hw;exact mb _
 |b::l,w,hw=>by
  have ih:=LW c l;rw[pG]at hw
  cases hb:b==c with
  |true=>
   rw[hb]at hw;rcases wb.1 hw with rfl|hw
   ·exact Nat.zero_le _
   exact Xb (ih w hw) sM
  |false=>
   rw[hb]at hw
   cases h:pG c l with
   |nil=>exact absurd h (NZ c l)
   |cons x r=>
    rw[h]at hw ih;rcases wb.1 hw with rfl|hw
    ·have:=ih x (Zd ..);simp only[Rb];omega
    exact Xb (ih w (oc _ hw)) sM
def XK{s:bJ}(h:s.length<4294967281)(b:Bool):sJ (sG s [32],b):=by rw[EA];exact⟨Xb (RO 32 s) O,λw hw=>Xb (LW 32 s w hw) O⟩
def LV{c:UInt8}:∀{w:bJ},(∀b∈w,b≠c)->pG c w=[w]
 |[],_=>rfl
 |b::w,h=>by
  have hb:(b==c)=false:=by simpa using h b (Zd ..)
  rw[pG,hb,Ua,LV (λx hx=>h x (oc _ hx))]
def RP{c:UInt8}:∀{w:bJ} (l:bJ),(∀b∈w,b≠c)->pG c (w++ [c]++l)=w::pG c l
 |[],l,_=>by show pG c (c::l)=_;rw[pG,Ui];rfl
 |b::w,l,h=>by
  have hb:(b==c)=false:=by simpa using h b (Zd ..)
  show pG c (b::(w++ [c]++l))=_;rw[pG,hb,Ua,RP l (λx hx=>h x (oc _ hx))]
def IL:∀{ws:List bJ},ws≠[]->(∀w∈ws,∀b∈w,b≠32)->pG 32 (iO ws)=ws
 |[],h,_=>absurd rfl h
 |[w],_,h=>by rw[nB];exact LV (h w (Ib.2 rfl))
 |w::v::ws,_,h=>by rw[eY,RP _ (h w (Zd ..)),IL (ws:=v::ws) sM (λx hx=>h x (oc _ hx))]
def aGD(f:Fact)(hf:f.fits):aF prog 127 [pX f] (.t [.g (xT (eQ f)),.s (.d (dT (dR f)))]):=by
 have hl:=aCV f;have gF:=XK (s:=dR f) O false;have hR:=aM1 gF;generalize hc:kP (sG (dR f) [32],false)=r at hR;have hcf:eQ f=r.1:=by unfold eQ;rw[hc]
 rw[hcf];refine gI (rc:=[196]) (N:=19) func127 rfl rfl call127 aJ mix rfl rfl (λR J=>?_);refine aB (AR f hf) (aB (Split (dR f) [32] O dC) ?_);refine⟨[(1,15)],_,_,_,_,hR,rfl,⟨rfl,oO⟩,rfl,?_⟩;exact db _
def FB(s:ta):∀(n i:Nat),fT s n i=false->∀k,i<=k->k<i+n->wN k (u8 s k)=false
 |0,i,_,k,h1,h2=>by omega
 |n+1,i,h,k,h1,h2=>by
  rw[fT,Ed]at h;rcases Nat.eq_or_lt_of_le h1 with e|h1
  ·subst e;exact h.1
  exact FB s n (i+1) h.2 k h1 O
def aGK(i:Int):wN i 32=true:=by
 unfold wN Og
 cases i==0 <;> decide
def xK{s:ta}(h:isName s=true):∀b∈tx s,b≠32:=by
 intro b hb;rintro rfl;unfold isName at h;rw[Bool.and_eq_true]at h;obtain⟨k,hk,e⟩:=cy.1 hb;have y5:k<s.size:=by rw[wV]at hk;exact hk
 have h2:=FB s s.size 0 (by simpa using h.2) k (Nat.zero_le _) O;have e2:u8 s k=32:=by
  unfold u8;rw[Sf s k y5];have:s[k]=32:=by rw[<-e];simp[tx];rfl
  rw[this];rfl
 rw[e2,aGK]at h2
 cases h2
def iA(n:Int):∀b∈Lib.itoa n,b≠32:=by intro b hb;rintro rfl;have:=YA n _ hb;simp at this
def aDR:UX [45]=true:=dC
def EK{n:Int}(h: -1000000000000<=n/\n<=1000000000000):(Lib.itoa n== [45])=false:=by
 have:=Ws h
 cases hq:Lib.itoa n== [45]with
 |false=>rfl
 |true=>
  have e:Lib.itoa n=[45]:=by simpa using hq
  rw[e,aDR]at this
  cases this
def gS{n:Int}(h: -1000000000000<=n/\n<=1000000000000)(r:List bJ)(b:Bool):rdNum (Lib.itoa n::r,b)=(n,(r,b)):=by have h1:=aHK h;have h2:=Ws h;simp[rdNum,h1,h2]
def mZ(w:bJ)(r:List bJ)(b:Bool):dL (w::r,b)=(w,(r,b)):=by simp[dL]
def yT{n:Int}(h:iQ n=false):n=30000\/(n≠30000/\ -20000<=n/\n<=20000):=by
 by_cases e:n=30000
 ·exact .inl e
 right;unfold iQ at h;rw[show(n !=30000)=true by simpa using e]at h;have:within n (-20000) 20000=true:=by simpa using h
 exact⟨e,within_iff.1 this⟩
def aFF{n:Int}(h:iQ n=false):FH (yJ n)=n:=by
 rcases yT h with rfl|⟨h0,h1⟩
 ·rfl
 have e:yJ n=Lib.itoa n:=by unfold yJ;rw[show(n==30000)=false by simpa using h0];rfl
 unfold FH;rw[e,EK O,Ua];exact aHK O
def aFG{n:Int}(h:iQ n=false):KW (yJ n)=false:=by
 rcases yT h with rfl|⟨h0,h1⟩
 ·rfl
 have e:yJ n=Lib.itoa n:=by unfold yJ;rw[show(n==30000)=false by simpa using h0];rfl
 unfold KW;rw[e,EK O,Ua];exact Ws O
def PZ:∀{l:List Int},l.any iQ=false->(l.map yJ).map FH=l/\(l.map yJ).any KW=false
 |[],_=>⟨rfl,rfl⟩
 |n::l,h=>by rw[Vg,Ed]at h;obtain⟨h1,h2⟩:=PZ h.2;simp only[Le,Vg,aFF h.1,aFG h.1,h1,h2,Bool.or_self,and_self]
def QA:xH pR=0:=by decide+kernel
def X9:xH AX=1:=by decide+kernel
def TH:xH uK=2:=by decide+kernel
def JS:xH cT=3:=by decide+kernel
def fW(f:Fact):Int:=bif f.kind==3 then f.target else f.kind
def jE(f:Fact):Fact:=
 {kind:=f.kind,seq:=f.seq
  target:=bif f.kind==3 then f.target else 0
  a8:=bif fW f==0 then f.a8 else 0
  month:=bif f.kind==1 then f.month else bif fW f==1 then 0 else f.month
  number:=bif fW f==1 then f.number else 0
  eS:=bif fW f==0||fW f==1 then bs []else f.eS
  aT:=bif f.kind==1 then f.aT else 0
  over:=bif f.kind==1 then f.over else 0
  Jb:=bif f.kind==1 then f.Jb else 0
  aN:=bif f.kind==1 then f.aN else bs []
  dN:=bif f.kind==1 then f.dN else bs []
  levels:=bif f.kind==0 then f.levels else []}
def UA{f:Fact}(he:fR f=0):jY f≠[]/\∀w∈jY f,∀b∈w,b≠32:=by
 obtain⟨h1,h2⟩:=kN he;have hl:=yK f;have keyed:∀k,cK k f=0->∀w∈cS k f,∀b∈w,b≠32:=by
  intro k hk w hw;rcases iV hk with⟨rfl,_⟩|⟨rfl,_⟩|⟨rfl,_,hn⟩
  ·simp only[cS,wb,Sd,Kd,show((0:Int)==0)=true from rfl,cond_true]at hw;rcases hw with rfl|rfl|rfl
   ·decide
   ·exact iA _
   exact iA _
  ·simp only[cS,wb,Sd,Kd,show((1:Int)==0)=false from rfl,show((1:Int)==1)=true from rfl,cond_true,Ua]at hw;rcases hw with rfl|rfl
   ·decide
   exact iA _
  simp only[cS,wb,Sd,Kd,show((2:Int)==0)=false from rfl,show((2:Int)==1)=false from rfl,Ua]at hw;rcases hw with rfl|rfl|rfl
  ·decide
  ·exact xK hn
  exact iA _
 have kw:∀w∈nH f,∀b∈w,b≠32:=by
  intro w hw;unfold nZ at h1;unfold nH at hw
  cases h3:f.kind !=3 with
  |true=>rw[h3]at h1 hw;exact keyed _ h1 w hw
  |false=>
   rw[h3]at h1 hw;rcases wb.1 hw with rfl|hw
   ·decide
   exact keyed _ h1 w hw
 have ne:nH f≠[]:=Nh.1 hl.1;unfold jY
 cases k0:f.kind==0 with
 |true=>
  obtain⟨a,b⟩:=oB h2 k0;refine⟨sM,λw hw=>?_⟩;simp only[cond_true,ic,Ib,Lc]at hw;rcases hw with(hw|rfl)|⟨n,hn,rfl⟩
  ·exact kw w hw
  ·exact iA _
  unfold yJ
  cases n==30000 with
  |true=>exact(by decide:∀b∈([45]:bJ),b≠32)
  |false=>exact iA _
 |false=>
  cases k1:f.kind==1 with
  |true=>
   obtain⟨_,e,g⟩:=mQ h2 k1;refine⟨sM,λw hw=>?_⟩;simp only[cond_true,Ua,ic,wb,Sd,Kd]at hw;rcases hw with hw|rfl|rfl|rfl|rfl|rfl|rfl|rfl
   ·exact kw w hw
   ·exact iA _
   ·exact iA _
   ·exact iA _
   ·exact iA _
   ·exact xK e
   ·exact iA _
   exact xK g
  |false=>
   cases k2:f.kind==2 with
   |true=>
    refine⟨sM,λw hw=>?_⟩;simp only[cond_true,Ua,ic,Ib]at hw;rcases hw with hw|rfl
    ·exact kw w hw
    exact iA _
   |false=>
    refine⟨by simp[wG],λw hw=>?_⟩;simp only[Ua,wG,ic,wb]at hw;rcases hw with hw|rfl|hw
    ·exact kw w (Zx hw)
    ·exact iA _
    exact kw w (ay hw)
def uR{k:Int}{f:Fact}(he:cK k f=0)(g:Fact)(r:List bJ)(b:Bool):
  jH k g ((cS k f).tail++r,b)=({g with a8:=bif k==0 then f.a8 else g.a8,month:=bif k==1 then g.month else f.month,number:=bif k==1 then f.number else g.number,eS:=bif k==0||k==1 then g.eS else f.eS},(r,b)):=by
 rcases iV he with⟨rfl,h1,h2⟩|⟨rfl,h1⟩|⟨rfl,h1,h2⟩
 ·have h1:=within_iff.1 h1;have h2:=within_iff.1 h2;simp only[cS,jH,show((0:Int)==0)=true from rfl,show((0:Int)==1)=false from rfl,cond_true,Ua,Bool.true_or,Oy,We,wj,gS (show -1000000000000<=f.a8/\f.a8<=1000000000000 by omega),gS (show -1000000000000<=f.month/\f.month<=1000000000000 by omega)]
 ·have h1:=within_iff.1 h1;simp only[cS,jH,show((1:Int)==0)=false from rfl,show((1:Int)==1)=true from rfl,cond_true,Ua,Bool.or_true,Oy,We,wj,gS (show -1000000000000<=f.number/\f.number<=1000000000000 by omega)]
 ·have h1:=within_iff.1 h1;simp only[cS,jH,show((2:Int)==0)=false from rfl,show((2:Int)==1)=false from rfl,show((2:Int)==2)=true from rfl,cond_true,Ua,Bool.or_self,Oy,We,wj,mZ,CJ,gS (show -1000000000000<=f.month/\f.month<=1000000000000 by omega)]
def EJ{k:Int}{f:Fact}(he:cK k f=0):∃w,cS k f=w::(cS k f).tail/\xH w=k:=by
 rcases iV he with⟨rfl,_⟩|⟨rfl,_⟩|⟨rfl,_⟩
 ·exact⟨pR,rfl,QA⟩
 ·exact⟨AX,rfl,X9⟩
 exact⟨uK,rfl,TH⟩
def XT{f:Fact}(he:fR f=0):kP (jY f,false)=(jE f,([],false)):=by
 obtain⟨h1,h2⟩:=kN he;have hs:=within_iff.1 (lK h2);have SI: -1000000000000<=f.seq/\f.seq<=1000000000000:=O
 cases h3:f.kind !=3 with
 |false=>
  have k3:f.kind=3:=by simpa using h3
  have e1:cK f.target f=0:=by unfold nZ at h1;rw[h3]at h1;exact h1
  have e2:nH f=cT::cS f.target f:=by unfold nH;rw[h3];rfl
  obtain⟨w,hw,hk⟩:=EJ e1;have e3:jY f=cT::Lib.itoa f.seq::w::((cS f.target f).tail++ []):=by unfold jY wG;rw[k3,e2,mh,<-hw];rfl
  rw[e3];unfold kP;simp only[mZ,JS,show((3:Int)==0)=false from rfl,show((3:Int)==1)=false from rfl,show((3:Int)==3)=true from rfl,cond_true,Ua,gS SI,hk,uR e1];unfold jE fW lX;rw[k3];simp only[show((3:Int)==0)=false from rfl,show((3:Int)==1)=false from rfl,show((3:Int)==3)=true from rfl,cond_true,Ua]
 |true=>
  have e1:cK f.kind f=0:=by unfold nZ at h1;rw[h3]at h1;exact h1
  have e2:nH f=cS f.kind f:=by unfold nH;rw[h3];rfl
  obtain⟨w,hw,hk⟩:=EJ e1;rcases iV e1 with⟨k0,_⟩|⟨k1,_⟩|⟨k2,_⟩
  ·obtain⟨a,b⟩:=oB h2 (by rw[k0];rfl);obtain⟨l1,l2⟩:=PZ a;have e3:jY f=w::((cS f.kind f).tail++(Lib.itoa f.seq::f.levels.map yJ)):=by unfold jY;rw[e2,<-List.cons_append,<-hw,k0];simp
   rw[e3];unfold kP;simp only[mZ,hk];rw[uR e1];simp only[k0,show((0:Int)==0)=true from rfl,cond_true,gS SI,l1,l2];unfold jE fW lX;rw[k0];simp[show((0:Int)==1)=false from rfl,show((0:Int)==3)=false from rfl]
  ·obtain⟨⟨a,b,c,d⟩,e,g⟩:=mQ h2 (by rw[k1];rfl);have a:=within_iff.1 a;have b:=within_iff.1 b;have c:=within_iff.1 c;have d:=within_iff.1 d;have e3:jY f=w::((cS f.kind f).tail++ [Lib.itoa f.month,Lib.itoa f.seq,Lib.itoa f.aT,Lib.itoa f.over,tx f.aN,Lib.itoa f.Jb,tx f.dN]):=by unfold jY;rw[e2,<-List.cons_append,<-hw,k1];rfl
   rw[e3];unfold kP;simp only[mZ,hk];rw[uR e1];simp only[k1,S4,show((1:Int)==0)=false from rfl,show((1:Int)==1)=true from rfl,cond_true,Ua,gS SI,mZ,CJ,gS (show -1000000000000<=f.month/\f.month<=1000000000000 by omega),gS (show -1000000000000<=f.aT/\f.aT<=1000000000000 by omega),gS (show -1000000000000<=f.over/\f.over<=1000000000000 by omega),gS (show -1000000000000<=f.Jb/\f.Jb<=1000000000000 by omega)];unfold jE fW lX;rw[k1];simp[show((1:Int)==0)=false from rfl,show((1:Int)==3)=false from rfl]
  have e3:jY f=w::((cS f.kind f).tail++ [Lib.itoa f.seq]):=by unfold jY;rw[e2,<-List.cons_append,<-hw,k2];rfl
  rw[e3];unfold kP;simp only[mZ,hk];rw[uR e1];simp only[k2,show((2:Int)==0)=false from rfl,show((2:Int)==1)=false from rfl,show((2:Int)==3)=false from rfl,Ua,gS SI];unfold jE fW lX;rw[k2];simp[show((2:Int)==0)=false from rfl,show((2:Int)==1)=false from rfl,show((2:Int)==3)=false from rfl]
def LZ{f:Fact}(he:fR f=0):eQ f=jE f:=by
 unfold eQ;obtain⟨h1,h2⟩:=UA he;have e:dR f=iO (jY f):=by unfold dR;rw[he];rfl
 rw[EA,e,IL h1 h2,XT he]
def yL(f:Fact):Bool:= !within f.kind 0 3||(f.kind==3&& !within f.target 0 2)
def xG(f:Fact):nZ f=cK (fW f) f:=by
 unfold nZ fW
 cases h:f.kind==3 with
 |true=>rw[show(f.kind !=3)=false by simp[bne,h]];rfl
 |false=>rw[show(f.kind !=3)=true by simp[bne,h]];rfl
def BT{k:Int}(f:Fact)(h:k<0\/2<k):cK k f=2:=by unfold cK;rw[show(k==0)=false by simp;omega,show(k==1)=false by simp;omega,show(k !=2)=true by simp;omega];rfl
def M7{f:Fact}(h:yL f=true):nZ f=2:=by
 rw[xG];unfold yL at h;unfold fW
 cases h3:f.kind==3 with
 |true=>
  have e:f.kind=3:=by simpa using h3
  rw[h3,e]at h;have h2:within f.target 0 2=false:=by simpa[show within 3 0 3=true from rfl]using h
  apply BT f;have:¬(0<=f.target/\f.target<=2):=λh=>by rw[within_iff.2 h]at h2;cases h2
  exact cv
 |false=>
  rw[h3,Bool.false_and,Zj]at h;have e:f.kind≠3:=by simpa using h3
  have:¬(0<=f.kind/\f.kind<=3):=λh'=>by rw[within_iff.2 h']at h;cases h
  exact BT f Ps
def JT{f:Fact}(h:yL f=false):fW f=0\/fW f=1\/fW f=2:=by
 unfold yL at h;unfold fW;rw[Ed]at h;have h1:=within_iff.1 (show within f.kind 0 3=true by simpa using h.1)
 cases h3:f.kind==3 with
 |true=>rw[h3]at h;have h2:=within_iff.1 (show within f.target 0 2=true by simpa using h.2);exact cv
 |false=>
  have e:f.kind≠3:=by simpa using h3
  exact Ps
def gQ(f:Fact):bJ:=iO (cS (fW f) f)
def lO{f:Fact}(he:nZ f=0):bT f=bif f.kind==3 then cT++ [32]++gQ f else gQ f:=by
 unfold bT;rw[he];show iO (nH f)=_;unfold nH gQ fW
 cases h:f.kind==3 with
 |true=>rw[show(f.kind !=3)=false by simp[bne,h]];simp only[Ua,cond_true];have:=mR f.target f;exact HJ cT (λh=>by rw[h]at this;simp at this)
 |false=>rw[show(f.kind !=3)=true by simp[bne,h]];rfl
def uE{f:Fact}(he:nZ f=0):(gQ f).length<=45:=by have h:=tP (HG (k:=fW f) (f:=f) (by rw[<-xG];exact he));have h2:=mR (fW f) f;have h3:=Vc (14+1) h2.2;unfold gQ;omega
def XV(f:Fact)(hf:f.fits):aF prog 115 [pX f] (.t [.s (.d (dT (bT f))),.s (.d (dI (nZ f)))]):=by
 have bad:nZ f≠0->bT f=[]:=λh=>by unfold bT;rw[show(nZ f==0)=false by simpa using h];rfl
 refine eP func115 rfl rfl call115 rfl rfl λR J=>?_
 refine aB (cI _ _ _) ?_
 repeat refine aR ?_
 refine bR (cI _ _ _) ?_
 repeat refine aR ?_
 apply aI<;>intro g
 ·have g:yL f=true:=g
  have e:=M7 g
  exact Ia (by rw[bad (by rw[e];decide),e];rfl)
 have g:yL f=false:=g
 refine aB (aAZ f) ?_
 have hk:nZ f=cK (fW f) f:=xG f
 apply aI<;>intro k0
 ·have k0:(fW f==0)=true:=k0
  have k0':fW f=0:=by simpa using k0
  refine aB (cI _ _ _) ?_
  repeat refine aR ?_
  refine bR (cI _ _ _) ?_
  repeat refine aR ?_
  apply aI<;>intro g1
  ·have g1:(!within f.a8 0 2|| !within f.month 0 24)=true:=g1
   have e:nZ f=2:=by
    exact zbU
   exact Ia (by rw[bad (by rw[e];decide),e];rfl)
  ·have g1:(!within f.a8 0 2|| !within f.month 0 24)=false:=g1
   have e:nZ f=0:=by
    exact zbU
   rw[Ed]at g1
   have g2:=within_iff.1 (show within f.a8 0 2=true by simpa using g1.1)
   have g3:=within_iff.1 (show within f.month 0 24=true by simpa using g1.2)
   have l1:(Lib.itoa f.a8).length<=14:=lG O
   have l2:(Lib.itoa f.month).length<=14:=lG O
   have hB:gQ f=[115,117,114,118,101,121,32]++Lib.itoa f.a8++ [32]++Lib.itoa f.month:=by
    unfold gQ
    rw[k0']
    show iO [pR,Lib.itoa f.a8,Lib.itoa f.month]=_
    rw[eY,eY,nB]
    simp[pR]
   refine aB (CY f.a8 O O) ?_
   refine oi (show(bs [115,117,114,118,101,121,32]).size+(bs (Lib.itoa f.a8)).size<=9223372036854775807 by simp only[cF,Rb,xe];omega) ?_
   refine oi (show(bs [115,117,114,118,101,121,32]++bs (Lib.itoa f.a8)).size+(bs [32]).size<=9223372036854775807 by simp only[fH,cF,ed,Rb,xe];omega) ?_
   refine aB (CY f.month O O) ?_
   refine oi (show(bs [115,117,114,118,101,121,32]++bs (Lib.itoa f.a8)++bs [32]).size+(bs (Lib.itoa f.month)).size<=9223372036854775807 by simp only[fH,cF,ed,Rb,xe];omega) ?_
   refine aD ?_
   have qT:=uE e
   rw[hB]at qT
   apply aI<;>intro g5
   ·have g5:(f.kind==3)=true:=g5
    refine oi (show(bs [119,105,116,104,100,114,97,119,32]).size+(bs [115,117,114,118,101,121,32]++bs (Lib.itoa f.a8)++bs [32]++bs (Lib.itoa f.month)).size<=9223372036854775807 by simp only[fH,cF,ed,Rb,xe]at qT⊢;omega) ?_
    apply Ia
    rw[e,lO e,g5,hB]
    show AV.t [.s (.d (.val (.string (bs [119,105,116,104,100,114,97,119,32]++(bs [115,117,114,118,101,121,32]++bs (Lib.itoa f.a8)++bs [32]++bs (Lib.itoa f.month)))))),.s (.d (dI 0))]=_
    exact Ht
   ·have g5:(f.kind==3)=false:=g5
    apply Ia
    rw[e,lO e,g5,hB]
    show AV.t [.s (.d (.val (.string (bs [115,117,114,118,101,121,32]++bs (Lib.itoa f.a8)++bs [32]++bs (Lib.itoa f.month))))),.s (.d (dI 0))]=_
    simp only[fH,Ua]
 ·have k0:(fW f==0)=false:=k0
  apply aI<;>intro k1
  ·have k1:(fW f==1)=true:=k1
   have k1':fW f=1:=by simpa using k1
   refine aB (cI _ _ _) ?_
   repeat refine aR ?_
   apply aI<;>intro g1
   ·have g1:(!within f.number 1 1000000)=true:=g1
    have e:nZ f=2:=by
     exact zcO
    exact Ia (by rw[bad (by rw[e];decide),e];rfl)
   ·have g1:(!within f.number 1 1000000)=false:=g1
    have e:nZ f=0:=by
     exact zcO
    have g2:=within_iff.1 (show within f.number 1 1000000=true by simpa using g1)
    have l1:(Lib.itoa f.number).length<=14:=lG O
    have hB:gQ f=[108,111,97,100,32]++Lib.itoa f.number:=by
     unfold gQ
     rw[k1']
     show iO [AX,Lib.itoa f.number]=_
     rw[eY,nB]
     simp[AX]
    refine aB (CY f.number O O) ?_
    refine oi (show(bs [108,111,97,100,32]).size+(bs (Lib.itoa f.number)).size<=9223372036854775807 by simp only[cF,Rb,xe];omega) ?_
    have qT:=uE e
    rw[hB]at qT
    apply aI<;>intro g5
    ·have g5:(f.kind==3)=true:=g5
     refine oi (show(bs [119,105,116,104,100,114,97,119,32]).size+(bs [108,111,97,100,32]++bs (Lib.itoa f.number)).size<=9223372036854775807 by simp only[fH,cF,ed,Rb,xe]at qT⊢;omega) ?_
     apply Ia
     rw[e,lO e,g5,hB]
     show AV.t [.s (.d (.val (.string (bs [119,105,116,104,100,114,97,119,32]++(bs [108,111,97,100,32]++bs (Lib.itoa f.number)))))),.s (.d (dI 0))]=_
     exact Ht
    ·have g5:(f.kind==3)=false:=g5
     apply Ia
     rw[e,lO e,g5,hB]
     show AV.t [.s (.d (.val (.string (bs [108,111,97,100,32]++bs (Lib.itoa f.number))))),.s (.d (dI 0))]=_
     simp only[fH,Ua]
  ·have k1:(fW f==1)=false:=k1
   have k2':fW f=2:=by
    rcases JT g with h|h|h
    ·rw[h]at k0;cases k0
    ·rw[h]at k1;cases k1
    ·exact h
   refine aB (cI _ _ _) ?_
   repeat refine aR ?_
   apply aI<;>intro g1
   ·have g1:(!within f.month 1 24)=true:=g1
    have e:nZ f=2:=by
     rw[hk,k2']
     unfold cK
     revert g1
     cases within f.month 1 24 <;> simp
    exact Ia (by rw[bad (by rw[e];decide),e];rfl)
   ·have g1:(!within f.month 1 24)=false:=g1
    refine aB (sW f.eS hf.eS) ?_
    repeat refine aR ?_
    apply aI<;>intro g4
    ·have g4:(!isName f.eS)=true:=g4
     have e:nZ f=4:=by
      exact zbZ
     exact Ia (by rw[bad (by rw[e];decide),e];rfl)
    ·have g4:(!isName f.eS)=false:=g4
     have e:nZ f=0:=by
      exact zbZ
     have g2:=within_iff.1 (show within f.month 1 24=true by simpa using g1)
     have l1:(Lib.itoa f.month).length<=14:=lG O
     have l2:=iW (show isName f.eS=true by simpa using g4)
     have l3:(tx f.eS).length<=12:=by rw[wV];omega
     have hB:gQ f=[119,97,105,118,101,32]++tx f.eS++ [32]++Lib.itoa f.month:=by
      unfold gQ
      rw[k2']
      show iO [uK,tx f.eS,Lib.itoa f.month]=_
      rw[eY,eY,nB]
      simp[uK]
     refine oi (show(bs [119,97,105,118,101,32]).size+(f.eS).size<=9223372036854775807 by rw[cF];simp only[Rb,xe];omega) ?_
     refine oi (show(bs [119,97,105,118,101,32]++f.eS).size+(bs [32]).size<=9223372036854775807 by rw[<-CJ f.eS];simp only[fH,cF,ed,Rb,xe];omega) ?_
     refine aB (CY f.month O O) ?_
     refine oi (show(bs [119,97,105,118,101,32]++f.eS++bs [32]).size+(bs (Lib.itoa f.month)).size<=9223372036854775807 by rw[<-CJ f.eS];simp only[fH,cF,ed,Rb,xe];omega) ?_
     refine aD ?_
     have qT:=uE e
     rw[hB]at qT
     apply aI<;>intro g5
     ·have g5:(f.kind==3)=true:=g5
      refine oi (show(bs [119,105,116,104,100,114,97,119,32]).size+(bs [119,97,105,118,101,32]++f.eS++bs [32]++bs (Lib.itoa f.month)).size<=9223372036854775807 by rw[<-CJ f.eS];simp only[fH,cF,ed,Rb,xe]at qT⊢;omega) ?_
      apply Ia
      rw[e,lO e,g5,hB]
      show AV.t [.s (.d (.val (.string (bs [119,105,116,104,100,114,97,119,32]++(bs [119,97,105,118,101,32]++f.eS++bs [32]++bs (Lib.itoa f.month)))))),.s (.d (dI 0))]=_
      rw[show bs [119,97,105,118,101,32]++f.eS=bs ([119,97,105,118,101,32]++tx f.eS) by rw[<-fH,CJ]]
      exact Ht
     ·have g5:(f.kind==3)=false:=g5
      apply Ia
      rw[e,lO e,g5,hB]
      show AV.t [.s (.d (.val (.string (bs [119,97,105,118,101,32]++f.eS++bs [32]++bs (Lib.itoa f.month))))),.s (.d (dI 0))]=_
      rw[show bs [119,97,105,118,101,32]++f.eS=bs ([119,97,105,118,101,32]++tx f.eS) by rw[<-fH,CJ]]
      simp only[fH,Ua]
def MG{f:Fact}(h:mJ f=false):jS f=2:=by
 unfold mJ at h;unfold jS
 cases h1:within f.seq 0 1000000 with
 |false=>rfl
 |true=>
  rw[h1]at h
  cases h2:f.kind==1 with
  |true=>
   rw[h2]at h;have k0:(f.kind==0)=false:=zer
   have h3:kA f=true:=by simpa using h
   rw[k0,h3];rfl
  |false=>
   rw[h2]at h
   cases h3:f.kind==0 with
   |false=>rw[h3]at h;cases h
   |true=>
    rw[h3]at h;have h4:f.levels.any iQ=true:=by
     cases h5:f.levels.any iQ with
     |true=>rfl
     |false=>rw[h5]at h;cases h
    rw[h4];rfl
def S2{f:Fact}(h:mJ f=true):jS f=bif f.kind==1&&(!isName f.aN|| !isName f.dN)then 4 else bif f.kind==0&&decide ((f.levels.length:Int)>100)then 8 else 0:=by
 unfold mJ at h;unfold jS
 cases h1:within f.seq 0 1000000 with
 |false=>rw[h1]at h;cases h
 |true=>
  rw[h1]at h
  cases h2:f.kind==1 with
  |true=>
   rw[h2]at h;have k0:(f.kind==0)=false:=zer
   have h3:kA f=false:=by simpa using h
   rw[k0,h3]
   cases !isName f.aN|| !isName f.dN <;> rfl
  |false=>
   rw[h2]at h
   cases h3:f.kind==0 with
   |false=>rfl
   |true=>
    rw[h3]at h;have h4:f.levels.any iQ=false:=by
     cases h5:f.levels.any iQ with
     |false=>rfl
     |true=>rw[h5]at h;cases h
    rw[h4]
    cases decide ((f.levels.length:Int)>100) <;> rfl
def GU(f:Fact)(hf:f.fits):aF prog 64 [pX f] (vI (fR f)):=by
 refine eP func64 rfl rfl call64 rfl rfl λR J=>?_
 refine aB (XV f hf) ?_
 apply aI<;>intro h1
 ·have h1:(nZ f !=0)=true:=h1
  exact Ia (by unfold fR;rw[h1];rfl)
 have h1:(nZ f !=0)=false:=h1
 have e1:fR f=jS f:=by unfold fR;rw[h1];rfl
 refine aB (aEO f hf) ?_
 apply aI<;>intro h2
 ·have h2:(!mJ f)=true:=h2
  exact Ia (by rw[e1,MG (by simpa using h2)];rfl)
 have h2:(!mJ f)=false:=h2
 have e2:=S2 (f:=f) (by simpa using h2)
 repeat refine aR ?_
 refine bR (sW f.aN hf.aN) ?_
 repeat refine aR ?_
 refine bR (sW f.dN hf.dN) ?_
 repeat refine aR ?_
 apply aI<;>intro h3
 ·have h3:(f.kind==1&&(!isName f.aN|| !isName f.dN))=true:=h3
  exact Ia (by rw[e1,e2,h3];rfl)
 have h3:(f.kind==1&&(!isName f.aN|| !isName f.dN))=false:=h3
 repeat refine aR ?_
 apply aI<;>intro h4
 ·have h4:(f.kind==0&&decide ((f.levels.length:Int)>100))=true:=h4
  exact Ia (by rw[e1,e2,h3,h4];rfl)
 ·have h4:(f.kind==0&&decide ((f.levels.length:Int)>100))=false:=h4
  exact Ia (by rw[e1,e2,h3,h4];rfl)
def XU(p:Proj)(f:Fact)(hf:f.fits):aF prog 32 [oR p,pX f] (vI (JB p f)):=by exact eP func32 rfl rfl call32 rfl rfl λR J=>aB (GU f hf) qf
def PM(p:Proj)(l:List Fact)(hp:p.fits)(hf:∀f∈l,f.fits)(hl:l.length<=9223372036854775807):aF prog 11 [oR p,cJ l] (vI (iI p l)):=by
 refine eP func11 rfl rfl call11 rfl rfl λR J=>aB (JM p hp) (aI (λh1=>?_) (λh1=>?_))
 ·exact zcV
 have h1:(iG p !=0)=false:=h1;apply aI<;>intro h2
 ·exact zb2
 have h2:decide ((l.length:Int)>200)=false:=h2;have he:iI p l=oH (JB p) l:=by unfold iI;rw[h1,h2];rfl
 refine Hb (λi:Nat=>⟨[(1,cJ l),(2,.s (.ptr 2 0)),(6,vI i)],[(2,some (.cells (qH p)))]⟩) (λi=>i<=l.length/\oH (JB p) l=oH (JB p) (l.drop i)) (λi=>l.length-i) 0 ⟨Nat.zero_le _,rfl⟩ ?_ ?_
 ·exact vl
 rintro i ⟨hi,hj⟩;apply eX J;apply aI<;>intro h
 ·have h:(i:Int)<l.length:=bG h;have bC:i<l.length:=O;have hd:l.drop i=l[i]::l.drop (i+1):=Ve bC;have hg:l.getD i default=l[i]:=aX bC;rw[hd]at hj;refine oi Ha (aB (XU p (l.getD i default) ze9) ?_);refine aD ?_;apply aI<;>intro h3
  ·exact zbu
  have h3:(JB p (l.getD i default) !=0)=false:=h3;refine⟨i+1,⟨O,by rw[hj,<-hg,xS,h3];rfl⟩,O,?_⟩;refine Zb J Ga ⟨rQ,rQ,⟨rfl,?_⟩,oO⟩;exact zm
 exact zbj
def iF(l:List Int):bJ:=l.flatMap λn=>32::Lib.itoa n
abbrev okI(n:Int):Prop:= -1000000000000<=n/\n<=1000000000000
def XO{l:List Int}{i:Nat}(h:i<l.length):iF (l.take (i+1))=iF (l.take i)++(32::Lib.itoa (l.getD i 0)):=by unfold iF;rw[Bg,List.getElem?_eq_getElem h,List.flatMap_append];simp[h]
def BE:∀{l:List Int},(∀n∈l,okI n)->(iF l).length<=l.length*15
 |[],_=>Nat.zero_le _
 |n::r,h=>by
  have h1:=lG (h n (Zd));have h2:=BE (l:=r) λx hx=>h x (oc _ hx)
  have e:iF (n::r)=(32::Lib.itoa n)++iF r:=rfl;rw[e,ed,Rb,Rb];omega
def sR(l:List bJ):bJ:=l.flatMap λw=>32::w
def L1{l:List Int}{i:Nat}(g:Int->bJ)(h:i<l.length):sR ((l.take (i+1)).map g)=sR ((l.take i).map g)++(32::g (l.getD i 0)):=by unfold sR;rw[Bg,List.getElem?_eq_getElem h,Vi,List.flatMap_append];congr 1;simp[h]
end Go.Pj
namespace Go.Proofs
open Go.Shelf
def Tryz.M3:Ren where
 f:=λn=>match n with|6=>130|15=>52|14=>198|28=>97|29=>98|20=>262|21=>263|22=>264|23=>265|24=>266|25=>267|26=>268|27=>269|46=>322|47=>159|48=>160|49=>323|50=>324|57=>355|n=>n
 t:=λn=>match n with|22=>176|24=>175|25=>246|3=>3|39=>153|0=>0|53=>212|55=>214|4=>4|46=>206|45=>205|50=>139|5=>5|9=>9|66=>267|70=>271|76=>328|77=>329|n=>n
 g:=λn=>n
def Tryz.aBW:SlLaysF0.n6 Tryz.prog Tryz.M3:=by repeat first|kernel_rfl|(intros;kernel_rfl)|decide|exact ⟨ "slices.SortFunc[[]draghead/project.told,draghead/project.told]",Nb (by kernel_rfl),Tryz.func130.trans (Na some (by kernel_rfl))⟩|exact ⟨ "slices.pdqsortCmpFunc[draghead/project.told]",Nb (by kernel_rfl),Tryz.func198.trans (Na some (by kernel_rfl))⟩|exact ⟨ "slices.insertionSortCmpFunc[draghead/project.told]",Nb (by kernel_rfl),Tryz.func262.trans (Na some (by kernel_rfl))⟩|exact ⟨ "slices.heapSortCmpFunc[draghead/project.told]",Nb (by kernel_rfl),Tryz.func263.trans (Na some (by kernel_rfl))⟩|exact ⟨ "slices.breakPatternsCmpFunc[draghead/project.told]",Nb (by kernel_rfl),Tryz.func264.trans (Na some (by kernel_rfl))⟩|exact ⟨ "slices.choosePivotCmpFunc[draghead/project.told]",Nb (by kernel_rfl),Tryz.func265.trans (Na some (by kernel_rfl))⟩|exact ⟨ "slices.reverseRangeCmpFunc[draghead/project.told]",Nb (by kernel_rfl),Tryz.func266.trans (Na some (by kernel_rfl))⟩|exact ⟨ "slices.partialInsertionSortCmpFunc[draghead/project.told]",Nb (by kernel_rfl),Tryz.func267.trans (Na some (by kernel_rfl))⟩|exact ⟨ "slices.partitionEqualCmpFunc[draghead/project.told]",Nb (by kernel_rfl),Tryz.func268.trans (Na some (by kernel_rfl))⟩|exact ⟨ "slices.partitionCmpFunc[draghead/project.told]",Nb (by kernel_rfl),Tryz.func269.trans (Na some (by kernel_rfl))⟩|exact ⟨ "slices.siftDownCmpFunc[draghead/project.told]",Nb (by kernel_rfl),Tryz.func322.trans (Na some (by kernel_rfl))⟩|exact ⟨ "slices.medianAdjacentCmpFunc[draghead/project.told]",Nb (by kernel_rfl),Tryz.func323.trans (Na some (by kernel_rfl))⟩|exact ⟨ "slices.medianCmpFunc[draghead/project.told]",Nb (by kernel_rfl),Tryz.func324.trans (Na some (by kernel_rfl))⟩|exact ⟨ "slices.order2CmpFunc[draghead/project.told]",Nb (by kernel_rfl),Tryz.func355.trans (Na some (by kernel_rfl))⟩|constructor
def Tryz.BR:Ren where
 f:=λn=>match n with|6=>135|15=>52|14=>200|28=>97|29=>98|20=>279|21=>280|22=>281|23=>282|24=>283|25=>284|26=>285|27=>286|46=>329|47=>159|48=>160|49=>330|50=>331|57=>357|n=>n
 t:=λn=>match n with|22=>39|24=>67|25=>252|3=>3|39=>153|0=>0|53=>212|55=>214|4=>4|46=>206|45=>205|50=>139|5=>5|9=>9|66=>267|70=>271|76=>328|77=>329|n=>n
 g:=λn=>n
def Tryz.aBY:SlLaysF0.n6 Tryz.prog Tryz.BR:=by repeat first|kernel_rfl|(intros;kernel_rfl)|decide|exact ⟨ "slices.SortFunc[[]draghead/api.Fact,draghead/api.Fact]",Nb (by kernel_rfl),Tryz.func135.trans (Na some (by kernel_rfl))⟩|exact ⟨ "slices.pdqsortCmpFunc[draghead/api.Fact]",Nb (by kernel_rfl),Tryz.func200.trans (Na some (by kernel_rfl))⟩|exact ⟨ "slices.insertionSortCmpFunc[draghead/api.Fact]",Nb (by kernel_rfl),Tryz.func279.trans (Na some (by kernel_rfl))⟩|exact ⟨ "slices.heapSortCmpFunc[draghead/api.Fact]",Nb (by kernel_rfl),Tryz.func280.trans (Na some (by kernel_rfl))⟩|exact ⟨ "slices.breakPatternsCmpFunc[draghead/api.Fact]",Nb (by kernel_rfl),Tryz.func281.trans (Na some (by kernel_rfl))⟩|exact ⟨ "slices.choosePivotCmpFunc[draghead/api.Fact]",Nb (by kernel_rfl),Tryz.func282.trans (Na some (by kernel_rfl))⟩|exact ⟨ "slices.reverseRangeCmpFunc[draghead/api.Fact]",Nb (by kernel_rfl),Tryz.func283.trans (Na some (by kernel_rfl))⟩|exact ⟨ "slices.partialInsertionSortCmpFunc[draghead/api.Fact]",Nb (by kernel_rfl),Tryz.func284.trans (Na some (by kernel_rfl))⟩|exact ⟨ "slices.partitionEqualCmpFunc[draghead/api.Fact]",Nb (by kernel_rfl),Tryz.func285.trans (Na some (by kernel_rfl))⟩|exact ⟨ "slices.partitionCmpFunc[draghead/api.Fact]",Nb (by kernel_rfl),Tryz.func286.trans (Na some (by kernel_rfl))⟩|exact ⟨ "slices.siftDownCmpFunc[draghead/api.Fact]",Nb (by kernel_rfl),Tryz.func329.trans (Na some (by kernel_rfl))⟩|exact ⟨ "slices.medianAdjacentCmpFunc[draghead/api.Fact]",Nb (by kernel_rfl),Tryz.func330.trans (Na some (by kernel_rfl))⟩|exact ⟨ "slices.medianCmpFunc[draghead/api.Fact]",Nb (by kernel_rfl),Tryz.func331.trans (Na some (by kernel_rfl))⟩|exact ⟨ "slices.order2CmpFunc[draghead/api.Fact]",Nb (by kernel_rfl),Tryz.func357.trans (Na some (by kernel_rfl))⟩|constructor
end Go.Proofs
namespace Go.Ch
open Go Go.Ax Go.Sort Go.Shelf Go.Proofs
def NG{w:Aa}{g n:Nat}{os:Array Obj}{cur:Array wa}{e:Ea}{fr:Nat×Nat}(F:Array wa)(hb:w.heap[g]? =some (.cells cur e fr)):
  (grow (putRow id (Sort.ahead w n) g 0 F) os).heap[g]? =some (.cells (putCells id 0 F cur) e fr):=by
 have hg:g<w.heap.size:=(Lh.1 hb).1
 rw[heap_grow_old _ _ (by simpa using hg)]
 simp[putRow,mapBlock,Sort.ahead,Vq,hb,onCells]
def AA{w:Aa}{g n k:Nat}{os:Array Obj}(F:Array wa)(hk:k<w.heap.size)(h:k≠g):
  (grow (putRow id (Sort.ahead w n) g 0 F) os).heap[k]? =w.heap[k]? :=by
 rw[heap_grow_old _ _ (by simpa using hk)]
 simp[putRow,mapBlock,Sort.ahead,Vq,Ne.symm h]
def JP{F cur:Array wa}{t:Nat}(hi:t<F.size)(hc:t<cur.size):(putCells id 0 F cur)[t]? =some F[t]! :=by unfold putCells;rw[Array.getElem?_mapIdx];simp[hc,hi]
structure aHM{α:Type}(el:α->Nat->DV)(k:Nat)(x:α)(vs:List wa):Prop where
 len:vs.length=k
 one:∀v∈vs,v.oneCell'=true
 val:∀j u,j<k->el x j=.val u->vs[j]? =some u
abbrev GV{α:Type}(el:α->Nat->DV)(k:Nat):={p:α×List wa // aHM el k p.1 p.2}
def Jx{P:Ba}{α:Type} [Inhabited α] {ρ:Ren}(L:SlLaysF0.n6 P ρ){F g e k:Nat}(hF:ρ.f 6=F)(eF:∀vs w,(callFunc F vs).run P w=.ok (.enter F vs) w)(QW:0<k)
  (aE:∀w,(isAgg (ρ.t 24)).run P w=.ok true w) (zE:∀w,(Go.sizeOf (ρ.t 24)).run P w=.ok k w)
  (el:α->Nat->DV) (oU:∀x j,j<k->(el x j).one=true) [Inhabited (GV el k)]
  (cf:α->α->Int) (hO:SWO (ltOf cf))
  (eg:∀args w,(callFunc g args).run P w=.ok (.enter g args) w) (aPS:∀blk off n w,CmpLays P g #[] (λp:GV el k=>p.1.2) k (λp q=>cf p.1.1 q.1.1) blk off n w)
  (l srt:List α) (aLX:∀l':List α,l'.Perm l->l'.Pairwise (λx y=>ltOf cf y x=false)->l'=srt)
  (f0:Nat->Nat->DV) (SO:∀i j,i<l.length->j<k->aK (f0 i j) (el (l.getD i default) j)) (hl:l.length<=1000000000):
  bW P F [.s (.own 1001),.s (.dZ g [])] [(1001,.row e l.length k f0)] (.t []) [(1001,.row e l.length k λi=>el (srt.getD i default))]:=by
 subst hF
 refine⟨eF,λM V w vs hG hr hM rJ hβ=>?_⟩
 obtain⟨b,c,cur,hx,g1,h2,h3,h4,h5,h6⟩:=rJ.rep 1001 _ (Ib.2 rfl)
 match vs,hr with
 |[v,v2],⟨hv,Z3,_⟩=>
  obtain⟨b',c',QO,V8,Q1⟩:=hv;rw[hx]at QO
  cases QO
  subst V8;obtain⟨vs2,Z3,YK⟩:=Z3;obtain rfl:vs2=[]:=by cases vs2 with
   |nil=>rfl
   |cons _ _=>exact YK.elim
  subst Z3;let cells:Nat->List wa:=λi=>(List.range k).map λj=>(cur[i*k+j]?).getD undef
  have NH:∀i j,i<l.length->j<k->∃u,cur[i*k+j]? =some u/\(el (l.getD i default) j).bI M u:=by intro i j hi hj;obtain⟨u,e1,e2⟩:=h6 i j hi hj;exact⟨u,e1,SO i j hi hj M u e2⟩
  have oV:∀i,i<l.length->aHM el k (l.getD i default) (cells i):=by
   intro i hi;refine⟨by simp[cells],λv hv=>?_,λj u hj hu=>?_⟩
   ·obtain⟨j,hj,rfl⟩:=Lc.1 hv;have hj:=Gf.1 hj;obtain⟨u,e1,e2⟩:=NH i j hi hj;rw[e1];exact gm e2 (oU _ j hj)
   obtain⟨u',e1,e2⟩:=NH i j hi hj;rw[hu]at e2;have e2:u'=u:=e2;simp[cells,dy hj,e1,e2]
  let dl:List (GV el k):=(List.range l.length).map λi=>if hi:i<l.length then⟨(l.getD i default,cells i),oV i hi⟩else default
  have wH:dl.length=l.length:=by simp[dl]
  have aPQ:∀i,i<l.length->dl[i]! =if hi:i<l.length then(⟨(l.getD i default,cells i),oV i hi⟩:GV el k)else default:=by intro i hi;rw[Sf dl i O];simp[dl]
  have aI4:∀i,i<l.length->dl[i]!.1.1=l.getD i default/\dl[i]!.1.2=cells i:=by intro i hi;rw[aPQ i hi,dif_pos hi];exact⟨rfl,rfl⟩
  have aMC:dl.map (λp=>p.1.1)=l:=by
   refine List.ext_getElem (by simp[wH]) λi h1 h2=>?_
   have hi:i<l.length:=h2;have:=(aI4 i hi).1;rw[Sf dl i O]at this;rw[On,this,aX hi]
  have aPO:∀x:GV el k,(x.1.2).length=k:=λx=>x.2.len
  have hb:b<w.heap.size:=(Lh.1 g1).1;have aMB:∀t,t<l.length*k->cur[t]? =some ((flatK (λp:GV el k=>p.1.2) k dl.toArray)[t]!):=by
   intro t ht;have hd:t / k<l.length:=by rw[Vx QW];exact ht
   have hm:t%k<k:=Cg _ QW;obtain⟨u,e1,_⟩:=NH (t / k) (t%k) hd hm;have e2:cur[t]? =some u:=by rw[<-e1,Nat.div_add_mod' t k]
   rw[get_flatK _ _ _ t (by simpa[wH]using ht)];have e3:dl.toArray[t / k]! =dl[t / k]! :=sM;rw[e3,(aI4 _ hd).2];have e4:(cells (t / k))[t%k]! =u:=by rw[Sf _ _ (by simpa[cells]using hm)];simp[cells,e1]
   rw[e4,e2]
  have hH:HoldsK (λp:GV el k=>p.1.2) k w b 0 dl.toArray:=by
   intro t ht;have ht:t<l.length*k:=by simpa[wH]using ht
   refine⟨?_,by simp[World.frozen?,g1]⟩;simp only[World.cell?,g1,Ec,Option.isSome_none,Xj,rh];rw[aMB t ht];rfl
  have hO':SWO (ltOf λp q:GV el k=>cf p.1.1 q.1.1):=⟨λx=>hO.irrefl x.1.1,λx y z=>hO.trans x.1.1 y.1.1 z.1.1,λx y z=>hO.ntrans x.1.1 y.1.1 z.1.1⟩;have aMD:=AnyQ.slices_SortFunc L k aE zE (λp:GV el k=>p.1.2) aPO (λx=>x.2.one) (λp q=>cf p.1.1 q.1.1) hO' g #[] b 0 c.1 dl.toArray w eg (aPS b 0 dl.toArray.size w) hH hb (by simp[wH];omega);rw[h2];have mL:dl.toArray.size=l.length:=by simp[wH]
  rw[mL]at aMD;apply aMD.mono;rintro q w' ⟨he,d',n,os,hp,hs,hw⟩;obtain⟨p1,_,p3⟩:=hp;have hd':d'.size=l.length:=by rw[p1,mL]
  have e1:d'.extract 0 l.length=d':=by rw[<-hd'];exact Array.extract_size
  have e2:dl.toArray.extract 0 l.length=dl.toArray:=by rw[<-mL];exact Array.extract_size
  rw[e1,e2]at p3;have aL3:(d'.toList.map λp=>p.1.1).Perm l:=by have:=p3.map (λp:GV el k=>p.1.1);rw[<-aMC];simpa using this
  have hpw:(d'.toList.map λp=>p.1.1).Pairwise (λx y=>ltOf cf y x=false):=by
   rw[gw,Cz];intro i j hi hj Z5;have qR:j<l.length:=by rw[<-hd'];simpa using hj
   have:=hs i j (Nat.zero_le _) Z5 qR;rw[Sf d' i O,Sf d' j O]at this;simp only[Array.getElem_toList];exact this
  have aPB:=aLX _ aL3 hpw;have pD:=NG (w:=w) (n:=n) (os:=os) (flatK (λp:GV el k=>p.1.2) k d') g1;have aCG:∀j,j<w.heap.size->j≠b->w'.heap[j]? =w.heap[j]? :=λj hj fJ=>by rw[hw];exact AA _ hj fJ
  have V6:w'=grow (putRow id (Sort.ahead w n) b 0 (flatK (λp:GV el k=>p.1.2) k d')) os:=hw;rw[<-V6]at pD;have SH:w.heap.size<=w'.heap.size:=by rw[V6];simp[putRow,mapBlock,Sort.ahead]
  have jA:∀x,x∈names [(1001,jK.row e l.length k λi=>el (srt.getD i default))]->x=1001:=λx hx=>Ib.1 hx
  have aPY:lA M w':=qt
  have eD:∀i j,i<l.length->j<k->(el (srt.getD i default) j).bI M ((d'[i]!.1.2)[j]!):=by
   intro i j hi hj;have kK:d'[i]! ∈dl:=by
    have:d'[i]! ∈d'.toList:=by rw[Sf d' i O];simp
    simpa using p3.subset this
   obtain⟨t,ht,et⟩:=cy.1 kK;have ht':t<l.length:=O;have hv:=aI4 t ht';rw[Sf dl t ht,et]at hv;have ex:srt.getD i default=d'[i]!.1.1:=by rw[<-aPB,Sf d' i O];simp[List.getD,show i<d'.size by omega]
   rw[ex,hv.1,hv.2];obtain⟨u,q1,q2⟩:=NH t j ht' hj;have e4:(cells t)[j]! =u:=by rw[Sf _ _ (by simpa[cells]using hj)];simp[cells,q1]
   rw[e4];exact q2
  refine⟨.tuple #[],M,V,he,Kf V,⟨[],rfl,oO⟩,fb _ _,aPY,⟨?_,?_,?_,?_⟩,?_,?_,?_,?_,SH,?_,oO⟩
  ·intro x h;rw[jA x h];exact⟨b,c,hx⟩
  ·intro x bx h;obtain⟨rfl,rfl⟩:=Prod.mk.inj (Ib.1 h);refine⟨b,c,_,hx,pD,h2,by simp[putCells,h3],h4,h5,λi j hi hj=>?_⟩;have fZ:i*k+j<l.length*k:=by have:(i+1)*k<=l.length*k:=Vc k hi;exact Ss
   have hd:(i*k+j) / k=i:=by rw[Cj,Nat.mul_add_div QW,pw hj,nh]
   have hm:(i*k+j)%k=j:=by rw[Cj,Nat.mul_add_mod,Rh hj]
   refine⟨(d'[i]!.1.2)[j]!,?_,eD i j hi hj⟩;have nR:i*k+j<cur.size:=by rw[h3];have:l.length*k<=c.1*k:=Vc k O;omega
   rw[JP (by simpa[hd']using fZ) nR,get_flatK _ _ _ _ (by simpa[hd']using fZ),hd,hm]
  ·exact zdK
  ·exact zbn
  ·exact zdn
  ·rw[V6];rfl
  ·rw[V6];rfl
  ·rw[V6];rfl
  exactλj hj fJ=>aCG j hj (λh=>fJ 1001 c (by rw[h];exact hx))
 |[],h=>exact h.elim
 |[_],h=>exact h.2.elim
 |_::_::_::_,h=>exact h.2.2.elim
def aKD{P:Ba}{α:Type} [Inhabited α] {ρ:Ren}(L:SlLaysF0.n6 P ρ){F g e k:Nat}(hF:ρ.f 6=F)(eF:∀vs w,(callFunc F vs).run P w=.ok (.enter F vs) w)(QW:0<k)
  (aE:∀w,(isAgg (ρ.t 24)).run P w=.ok true w) (zE:∀w,(Go.sizeOf (ρ.t 24)).run P w=.ok k w)
  (el:α->Nat->DV) (oU:∀x j,j<k->(el x j).one=true) [Inhabited (GV el k)]
  (cf:α->α->Int) (hO:SWO (ltOf cf))
  (eg:∀args w,(callFunc g args).run P w=.ok (.enter g args) w) (aPS:∀blk off n w,CmpLays P g #[] (λp:GV el k=>p.1.2) k (λp q=>cf p.1.1 q.1.1) blk off n w)
  (l srt:List α) (aLX:∀l':List α,l'.Perm l->l'.Pairwise (λx y=>ltOf cf y x=false)->l'=srt)
  (f0:Nat->Nat->DV) (SO:∀i j,i<l.length->j<k->aK (f0 i j) (el (l.getD i default) j)) (hl:l.length<=1000000):
  bW P F [.s (.own 1001),.s (.dZ g [])] [(1001,.row e l.length k f0)] (.t []) [(1001,.row e l.length k λi=>el (srt.getD i default))]:=
 Jx L hF eF QW aE zE el oU cf hO eg aPS l srt aLX f0 SO (by omega)
end Go.Ch
namespace Go.Pj
open Go Go.Ax Go.Ch Go.Proofs Go.Proofs.Tryz Go.Sort Go.Shelf
def aAH(v0 v1 v2 v3 v4 v5 v6 v7 v8 v9 v10 v11 v12 u0 u1 u2 u3 u4 u5 u6 u7 u8 u9 u10 u11 u12:wa)(s t:ta)(w:Aa):
  Calls prog 131 #[.agg #[v0,v1,v2,v3,v4,v5,v6,v7,v8,v9,v10,v11,v12,.string s],.agg #[u0,u1,u2,u3,u4,u5,u6,u7,u8,u9,u10,u11,u12,.string t]] w λe w'=>
   e=.returned (.int .i64 (Lib.compareBytes s.data.toList t.data.toList))/\∃q os',w'=grow (w.drewN q) os':=by
 have hc:=λw'=>Tryz.strings_Compare s t w'
 go_enter func131,Tryz.ntmps131
 go_wp2_with (first|(go_at_fn 26;refine(hc _).mono ?_;rintro e w' ⟨rfl,rfl⟩))
 refine(hc _).mono ?_
 rintro e w' ⟨rfl,rfl⟩
 go_wp2
 go_ret
 exact⟨rfl,0, #[.cells #[v0,v1,v2,v3,v4,v5,v6,v7,v8,v9,v10,v11,v12,.string s] 175 (0,0),.cells #[u0,u1,u2,u3,u4,u5,u6,u7,u8,u9,u10,u11,u12,.string t] 175 (0,0)],rfl⟩
def WS:∀a b:bJ,Lib.compareBytes a b<0↔a<b
 |[],[]=>by simp[Lib.compareBytes]
 |[],b::rb=>by simp[Lib.compareBytes]
 |a::ra,[]=>by simp[Lib.compareBytes]
 |a::ra,b::rb=>by
  rw[Lib.compareBytes,List.cons_lt_cons_iff];by_cases h1:a<b
  ·simp[h1]
  by_cases h2:b<a
  ·have:a≠b:=λe=>by subst e;exact h1 h2
   simp[h1,h2,this]
  have e:a=b:=UInt8.le_antisymm (UInt8.not_lt.1 h2) (UInt8.not_lt.1 h1);subst e;simp[h1,WS ra rb]
def Kk(a b:bJ):ltOf Lib.compareBytes a b=decide (a<b):=by unfold ltOf;exact Mn.2 (WS a b)
def aN8:SWO (ltOf Lib.compareBytes) where
 irrefl:=λx=>by rw[Kk];simp
 trans:=λx y z h1 h2=>by rw[Kk,ae]at*;exact List.lt_trans h1 h2
 ntrans:=λx y z h1 h2=>by rw[Kk,Qd]at*;rw[Dj]at*;exact tr h2 h1
def rU(t:bJ):Fact:=(kP (sG t [32],false)).1
def mA(t:bJ)(j:Nat):DV:=if j=13 then dT t else J0 (rU t) j
def dW(l:List bJ)(i:Nat)(j:Nat):DV:=mA (l.getD i []) j
def aCW(f:Fact):∀j,j<13->(J0 f j).one=true
 |0,_|1,_|2,_|3,_|4,_|5,_|6,_|7,_|8,_|9,_|10,_|11,_|12,_=>rfl
def W9(t:bJ)(j:Nat)(h:j<14):(mA t j).one=true:=by
 unfold mA;split
 ·rfl
 exact aCW _ _ O
instance:Inhabited (GV mA 14):=⟨⟨([],[.int .i64 (rU []).kind,.int .i64 (rU []).seq,.int .i64 (rU []).a8,.int .i64 (rU []).month,.int .i64 (rU []).number,.int .i64 (rU []).aT,.int .i64 (rU []).over,.int .i64 (rU []).Jb,.int .i64 (rU []).target,.string (rU []).aN,.string (rU []).dN,.string (rU []).eS,.slice none 0 0,.string (bs [])]),by
 refine⟨rfl,λv hv=>?_,λj u hj hu=>?_⟩
 ·simp only[wb,Sd,Kd]at hv;rcases hv with rfl|rfl|rfl|rfl|rfl|rfl|rfl|rfl|rfl|rfl|rfl|rfl|rfl|rfl <;> rfl
 match j,hj,hu with
 |0,_,hu|1,_,hu|2,_,hu|3,_,hu|4,_,hu|5,_,hu|6,_,hu|7,_,hu|8,_,hu|9,_,hu|10,_,hu|11,_,hu|13,_,hu=>cases hu;rfl
 |12,_,hu=>cases hu⟩⟩
def W8(blk off n:Nat)(w:Aa):CmpLays prog 131 #[] (λp:GV mA 14=>p.1.2) 14 (λp q=>Lib.compareBytes p.1.1 q.1.1) blk off n w:=by
 intro m os dk _ x y;generalize sortWorldK _ 14 w blk off m dk os=W;obtain⟨⟨s,vs⟩,hx⟩:=x;obtain⟨⟨t,us⟩,hy⟩:=y;have e1:=hx.len;have e2:=hy.len;have s13:=hx.val 13 (.string (bs s)) O rfl;have t13:=hy.val 13 (.string (bs t)) O rfl
 match vs,e1,us,e2,s13,t13 with
 |[v0,v1,v2,v3,v4,v5,v6,v7,v8,v9,v10,v11,v12,v13],_,[u0,u1,u2,u3,u4,u5,u6,u7,u8,u9,u10,u11,u12,u13],_,s13,t13=>obtain rfl:v13=.string (bs s):=sc s13;obtain rfl:u13=.string (bs t):=sc t13;have h:=aAH v0 v1 v2 v3 v4 v5 v6 v7 v8 v9 v10 v11 v12 u0 u1 u2 u3 u4 u5 u6 u7 u8 u9 u10 u11 u12 (bs s) (bs t) W;rw[CK,CK]at h;exact h
def hV(l:List bJ):List bJ:=l.mergeSort λx y=>decide (x<=y)
def rP(l:List bJ)(l':List bJ)(hp:l'.Perm l)(hs:l'.Pairwise (λx y=>ltOf Lib.compareBytes y x=false)):l'=hV l:=by
 refine Rx (le:=λx y=>x<=y) ?_ ?_ ?_ (hp.trans (Oi _ _).symm)
 ·intro a b _ _ h1 h2;exact List.le_antisymm h1 h2
 ·refine hs.imp λ{x y} h=>?_
  rw[Kk,Qd]at h;exact Dj.1 h
 exact qy
def aD3(l:List bJ)(f0:Nat->Nat->DV)(SO:∀i j,i<l.length->j<14->aK (f0 i j) (dW l i j))(hl:l.length<=1000000):
  bW prog 130 [.s (.own 1001),.s (.dZ 131 [])] [(1001,.row 175 l.length 14 f0)] (.t []) [(1001,.row 175 l.length 14 (dW (hV l)))]:=
 aKD (α:=bJ) (k:=14) Tryz.aBW rfl call130 dC Tryz.isAgg175 Tryz.sizeOf175 mA (λt j h=>W9 t j h) Lib.compareBytes aN8
  (enters_of func131 kR rfl) W8 l (hV l) (rP l) f0 SO hl
end Go.Pj
namespace Go.Pj
open Go Go.Ax Go.Ch Go.Proofs Go.Proofs.Tryz
abbrev D9(t:bJ):List SV:=[.d (dI (rU t).kind),.d (dI (rU t).seq),.d (dI (rU t).a8),.d (dI (rU t).month),.d (dI (rU t).number),.d (dI (rU t).aT),.d (dI (rU t).over),.d (dI (rU t).Jb),.d (dI (rU t).target),.d (dS (rU t).aN),.d (dS (rU t).dN),.d (dS (rU t).eS),.d (b5 (rU t).levels),.d (dT t)]
def RI(last g:Int)(t:bJ):Bool:=decide ((rU t).seq<last)||decide ((rU t).seq<g)
abbrev RZ(last:Int)(key:bJ)(m:List (ta×Int)):eV:=[(1002,.cells [.d (dI last)]),(1003,.cells [.mp 1005]),(1004,.cells [.d (dT key)]),(1005,.smap .int m)]
def aNB(t:bJ)(last:Int)(key:bJ)(m:List (ta×Int)):bW prog 129 [.g (D9 t),.s (.ptr 1002 0),.s (.ptr 1003 0),.s (.ptr 1004 0)] (RZ last key m) (vB (RI last (gW m (bs key)) t)) (RZ last key m):=by
 refine gH (rc:=[]) (N:=20) func129 rfl rfl call129 aJ mix rfl rfl rfl rfl (λR J=>?_)
 repeat refine aR ?_
 exact⟨db _,rfl,rfl,rfl,rfl,oO⟩
def cL(p:bJ->Bool):List bJ->Nat
 |[]=>0
 |t::l=>bif p t then 0 else cL p l+1
def uW(p:bJ->Bool)(l:List bJ):Int:=bif l.any p then(cL p l:Nat)else -1
abbrev ym(l:List bJ):Nat×jK:=(1001,.row 175 l.length 14 (dW l))
abbrev Cp:SV:=.dZ 129 [.ptr 1002 0,.ptr 1003 0,.ptr 1004 0]
def aB7{p:bJ->Bool}:∀{l:List bJ} {i:Nat},i<l.length->(∀k,k<i->p (l.getD k [])=false)->p (l.getD i [])=true->uW p l=i
 |[],i,h,_,_=>by simp at h
 |t::l,0,_,_,h=>by have h:p t=true:=h;simp[uW,cL,h]
 |t::l,i+1,hi,hb,h=>by
  have h0:p t=false:=hb 0 O;have ih:=aB7 (p:=p) (l:=l) (i:=i) yu (λk hk=>hb (k+1) O) h;unfold uW at ih⊢;rw[Vg,h0,Ml]
  cases ha:l.any p with
  |false=>rw[ha]at ih;simp at ih
  |true=>rw[ha]at ih;simp only[cond_true,cL,h0,Ua]at ih⊢;omega
def aB6{p:bJ->Bool}{l:List bJ}(h:∀k,k<l.length->p (l.getD k [])=false):uW p l= -1:=by
 unfold uW;have:l.any p=false:=by rw[Tg];intro x hx;obtain⟨k,hk,e⟩:=cy.1 hx;have:=h k hk;rw[aX hk,e]at this;simpa using this
 rw[this];rfl
def ZX(l:List bJ)(last:Int)(key:bJ)(m:List (ta×Int))(hl:l.length<=1000000):
  bW prog 197 [.s (.own 1001),.s Cp] (ym l::RZ last key m) (vI (uW (RI last (gW m (bs key))) l)) (ym l::RZ last key m):=by
 generalize hp:RI last (gW m (bs key))=p
 refine gH (rc:=[129]) (N:=19) func197 rfl rfl call197 aJ mix rfl rfl rfl rfl (λR J=>?_)
 refine Gb (λi:Nat=>⟨[(0,.s (.own 1001)),(1,.s Cp),(7,vI l.length),(8,vI i)],(1001,some (.row 175 l.length 14 (dW l))):: [(1002,some (.cells [.d (dI last)])),(1003,some (.cells [.mp 1005])),(1004,some (.cells [.d (dT key)])),(1005,some (.smap .int m))]⟩)
  (λi=>i<=l.length/\∀k,k<i->p (l.getD k [])=false) (λi=>l.length-i) 0 ⟨Nat.zero_le _,λk hk=>by omega⟩ ?_ ?_
 ·exact Lb [] lb rfl Fa Fa
 ·rintro i ⟨hi,hj⟩;refine Sb (rc:=[129]) aJ mix J _ (aI (λh=>?_) (λh=>?_))
  ·have h:(i:Int)<l.length:=bG h;refine oi Ha (oi (show i<l.length by omega) ?_);have hc:=aNB (l.getD i []) last key m;rw[hp]at hc;refine⟨[],_,_,_,_,hc,rfl,⟨rfl,rfl,rfl,rfl,oO⟩,rfl,?_⟩;apply aI<;>intro g
   ·have g:p (l.getD i [])=true:=g;refine⟨Ia ?_,rfl,rfl,rfl,rfl,rfl,oO⟩;rw[aB7 O hj g];rfl
   have g:p (l.getD i [])=false:=g;have ew:aW ((i:Int)+1)=((i+1:Nat):Int):=aG O O;refine⟨i+1,⟨O,λk hk=>?_⟩,O,?_⟩
   ·rcases Ql k i with h1|h1
    ·exact hj k h1
    obtain rfl:k=i:=O;exact g
   exact zbJ
  have h:¬(i:Int)<l.length:=bF h;obtain rfl:i=l.length:=O;refine⟨Ia ?_,rfl,rfl,rfl,rfl,rfl,oO⟩;rw[aB6 hj];rfl
end Go.Pj
namespace Go.Ax
open Go.RowKit
section
variable{P:Ba}{R:Cx}{N:Nat}{I:St}
def JD(z:wa)(n:Nat):(Builtin.zeroCells z.cells n).toList.length=n*z.cells.size:=by simp[Builtin.zeroCells]
def Qw{b k:Nat}(h:k≠b):∀(vs:List wa) (o:Nat) (w:Aa),(w.setCells b o vs).heap[k]? =w.heap[k]?
 |[],_,_=>rfl
 |v::r,o,w=>by rw[World.setCells,Qw h r];exact zdS
def fx{b:Nat}:∀(vs:List wa) (o:Nat) (w:Aa),(w.setCells b o vs).heap.size=w.heap.size
 |[],_,_=>rfl
 |v::r,o,w=>by rw[World.setCells,fx r];simp[World.setCell]
def Mw{b:Nat}:∀(vs:List wa) (o:Nat) (w:Aa),(w.setCells b o vs).os=w.os/\(w.setCells b o vs).tape=w.tape/\(w.setCells b o vs).output=w.output
 |[],_,_=>⟨rfl,rfl,rfl⟩
 |v::r,o,w=>by rw[World.setCells];obtain⟨h1,h2,h3⟩:=Mw (b:=b) r (o+1) (w.setCell ⟨b,o,none⟩ v);exact⟨h1,h2,h3⟩
def n9.clear{e s t b n lo:Nat}{z:wa}{f:Nat->Nat->DV}{x:Ca}{o:Oper}{K:St->Hid->Prop}(ho:o.op=.call {callee:=.builtin .clear,args:= #[x],argTypes:= #[t]})(hd:o.dst=none)
  (hx:ev I x=.s (.j0 b s lo (n-lo))) (DR:lo<=n) (hb:aH I.box b=some (some (.row e n s f))) (ht:P.underlying t=some (.slice e)) (hv:∀w,(zeroValue e).run P w=.ok z w) (hz:z.cells.size=s) (h1:∀v∈z.cells.toList,v.oneCell'=true)
  (hK:K ⟨I.env,(b,some (.row e n s λi j=>if i<lo then f i j else .bL))::I.box⟩ Ud):n9 P R N o I Ud K:=by
 refine⟨λc hc=>Bh,λM V a w i hi Q=>?_⟩
 obtain⟨b',c,cur,hβ,hc1,JA,hc3,hc4,hc5,hc6⟩:=i.box b _ hb
 obtain⟨b2,c2,ov,hβ',ex,hov,hle,wI⟩:(SV.j0 b s lo (n-lo)).bI M V (a.eval x):=by have:=Yb i x;rw[hx]at this;exact this
 rw[hβ]at hβ';cases hβ'
 unfold Oper.wp
 by_cases h0:n-lo=0
 ·have a7:(execOp a.eval o).run P w=.ok (.value (.tuple #[])) w:=by rw[h0]at ex;simp[execOp,ho,ex,resolve,invoke,builtin,Builtin.clear_,Bb ht]
  rw[a7,Wd,hd];have hw:=i.write (bc':=.row e n s λi j=>if i<lo then f i j else .bL) hb hβ (w':=w) rfl (λ_ _=>rfl) rfl rfl rfl
   ⟨b',c,cur,hβ,hc1,JA,hc3,hc4,hc5,λk j hk hj=>by obtain⟨u,hu,hr⟩:=hc6 k j hk hj;refine⟨u,hu,?_⟩;show DV.bI M (if k<lo then f k j else .bL) u;rw[La O];exact hr⟩
  exact zdE
 ·have hov:=hov O;let ga:=(Builtin.zeroCells z.cells (n-lo)).toList
  have hZl:ga.length=(n-lo)*s:=by rw[<-hz];exact JD z _
  have hZ1:∀v∈ga,v.oneCell'=true:=by
   intro v V8;have:v∈z.cells.toList:=by
    simp only[ga,Builtin.zeroCells]at V8;rw[ir,Lc]at V8;obtain⟨k,hk,rfl⟩:=V8;have hk:k<(n-lo)*z.cells.size:=by simpa using hk
    have hs:0<z.cells.size:=by
     rcases fy z.cells.size with h|h
     ·rw[h]at hk;simp at hk
     exact h
    have hm:k%z.cells.size<z.cells.size:=Cg _ hs;rw[Sf z.cells _ hm];simp
   exact h1 v this
  have jA:(n-lo)*s+lo*s<=cur.size:=by rw[hc3,<-Nat.add_mul];exact Vc s O
  have jO:=run_storeCells_cells (P:=P) b' ov ga 0 w (λj hj=>by simp only[World.cell?,hc1];simp;rw[hov];omega) (λj hj=>by simp[World.frozen?,hc1]) hZ1;simp only[nh]at jO;have a7:(execOp a.eval o).run P w=.ok (.value (.tuple #[])) (w.setCells b' ov ga):=by
   obtain⟨m,hm⟩:∃m,n-lo=m+1:=⟨n-lo-1,O⟩;have aPA:(storeCells ⟨b',ov,none⟩ (Builtin.zeroCells z.cells (m+1)).toList).run P w=.ok () (w.setCells b' ov ga):=by rw[<-hm];exact jO
   rw[hm]at ex;simp[execOp,ho,ex,resolve,invoke,builtin,Builtin.clear_,Bb ht,hv,aPA]
  rw[a7,Wd,hd];have pD:w.rowIs b' e cur.size (λk=>(cur[k]?).getD undef):=⟨cur,hc1,rfl,λk hk=>by have:=Qx (xs:=cur) (i:=k) hk;simp[this]⟩;obtain⟨cu,q1,q2,q3⟩:=Go.rowIs_setCells ga ov _ _ pD;obtain⟨o1,o2,o3⟩:=Mw (b:=b') ga ov w;have hw:=i.write (bc':=.row e n s λi j=>if i<lo then f i j else .bL) hb hβ (w':=w.setCells b' ov ga) (fx ga ov w) (λk hk=>Qw hk ga ov w) o1 o2 o3
   ⟨b',c,cu,hβ,q1,JA,by rw[q2,hc3],hc4,hc5,λk j hk hj=>by
    have fZ:k*s+j<cur.size:=by rw[hc3];have:(k+1)*s<=c.1*s:=Vc s O;exact Ss
    refine⟨_,q3 _ fZ,?_⟩;show DV.bI M (if k<lo then f k j else .bL) _;by_cases ND:k<lo
    ·rw[La ND];have:k*s+j<lo*s:=by have:(k+1)*s<=lo*s:=Vc s ND;exact Ss
     have YN:¬(ov<=k*s+j/\k*s+j<ov+ga.length):=by rw[hov];omega
     simp only[Ka YN];obtain⟨u,hu,hr⟩:=hc6 k j hk hj;rw[hu];exact hr
    rw[Ka ND];trivial⟩
  exact zdE
end
end Go.Ax
--K16
namespace Go.Ax
def Nr{R:Cx}{N:Nat}{I:St}{e n s:Nat}{f:Nat->Nat->DV}(t x:Nat)(ht:fL I.env t=.s (.own x))(hb:aH I.box x=some (some (.row e n s f))):
  aM R N I ⟨(t,.s (.j0 x s 0 n))::I.env,I.box⟩:=by
 intro M V a w i
 have r:=i.env t
 rw[ht]at r
 obtain⟨b,c,hx,hv,hc⟩:=r
 obtain⟨b',c',cur,QO,h1,h2,h3,h4,h5,h6⟩:=i.box x _ hb
 rw[hx]at QO;cases QO
 refine⟨V,i.defers,i.tmps,i.heap,?_,i.mem,i.keys,i.box,i.inj,i.apart,i.low,i.ref⟩
 intro u
 show(fL ((t,_)::I.env) u).bI M V _
 rw[gP]
 by_cases hu:t=u
 ·subst hu;rw[La rfl];exact⟨b,c,0,hx,by rw[hv,h2];rfl,λ_=>(Nat.zero_mul s).symm,O,hc⟩
 ·rw[Ka hu];exact i.env u
def p7{x:Nat}{y:Da jK}:∀{l:aP},aH l x=some y->x∈cR l
 |[],h=>by cases h
 |(k,v)::r,h=>by
  rw[aL]at h;by_cases hk:k=x
  ·subst hk;simp[cR]
  rw[Ka hk]at h;have:=p7 h;simp only[cR]at this⊢;simp[this]
end Go.Ax
namespace Go.Pj
open Go Go.Ax Go.Ch Go.Proofs Go.Proofs.Tryz
def pK(k:List bJ)(i j:Nat):DV:=if i<k.length then dW k i j else .bL
def dM(p:bJ->Bool)(l:List bJ):List bJ:=l.filter λt=> !p t
def mB(p:bJ->Bool)(l:List bJ)(j:Nat):List bJ:=dM p (l.take j)++l.drop (dM p (l.take j)).length
def wW{p:bJ->Bool}{l:List bJ}{j k:Nat}(h:k<(dM p (l.take j)).length):(mB p l j).getD k []=(dM p (l.take j)).getD k []:=by unfold mB;exact xa
def A2{p:bJ->Bool}{l:List bJ}{j k:Nat}(h:(dM p (l.take j)).length<=k):(mB p l j).getD k []=l.getD k []:=by unfold mB;simp only[fc,Gd h,Ri];rw[show(dM p (l.take j)).length+(k-(dM p (l.take j)).length)=k by omega]
def TI{p:bJ->Bool}{l:List bJ}{j:Nat}(h:j<l.length):dM p (l.take (j+1))=dM p (l.take j)++(bif p (l.getD j [])then []else [l.getD j []]):=by
 unfold dM;rw[Bg,List.getElem?_eq_getElem h,aX h,cw];congr 1
 cases hp:p l[j] <;> simp[hp]
def TJ{p:bJ->Bool}{l:List bJ}(h:l.any p=false):dM p l=l:=by unfold dM;rw[List.filter_eq_self];intro a ha;rw[Tg]at h;simpa using h a ha
def V5{p:bJ->Bool}:∀{l:List bJ},l.any p=true->cL p l<l.length/\dM p (l.take (cL p l+1))=l.take (cL p l)
 |[],h=>by cases h
 |t::l,h=>by
  cases h0:p t with
  |true=>simp[cL,h0,dM]
  |false=>rw[Vg,h0,Ml]at h;obtain⟨h1,h2⟩:=V5 h;simp only[cL,h0,Ua,Rb];refine⟨O,?_⟩;rw[Kn,Kn,<-h2];simp[dM,h0]
def EB(f:Nat->Nat->DV)(i:Nat)(t:bJ):∀c,c<14->eT f i 0 (D9 t) i c=mA t c
 |0,_|1,_|2,_|3,_|4,_|5,_|6,_|7,_|8,_|9,_|10,_|11,_|12,_|13,_=>La rfl
def U3(l:List bJ)(last:Int)(key:bJ)(m:List (ta×Int))(hl:l.length<=1000000)(p:bJ->Bool)(hp:RI last (gW m (bs key))=p):
  bW prog 128 [.s (.own 1001),.s Cp] (ym l::RZ last key m) (.s (.j0 1001 14 0 (dM p l).length)) ((1001,.row 175 l.length 14 (pK (dM p l)))::RZ last key m):=by
 have aCK:=ZX l last key m hl
 rw[hp]at aCK
 cases ha:l.any p with
 |false=>
  have e1:uW p l= -1:=by unfold uW;rw[ha];rfl
  have e2:=TJ ha;rw[e1]at aCK;rw[e2];refine Ah (b1:=ym l::RZ last key m) ?_ Ta ⟨rfl,Bc rfl λi j hi hj=>Wa (by unfold pK;rw[La hi]),rfl,Lf,rfl,Lf,rfl,Lf,rfl,Lf,oO⟩;refine gJ func128 rfl rfl call128 aJ rfl rfl rfl rfl (λR J=>?_);refine sX J (Sa (Sb (rc:=[197]) aJ mix J _ ?_));refine⟨[],_,_,_,_,aCK,rfl,⟨rfl,rfl,rfl,rfl,rfl,oO⟩,rfl,?_⟩;refine Sa (sX J ?_);refine Cb (aI (λ_=>?_) (λg=>absurd g dC));refine sX J (Tb (Nr (e:=175) (n:=l.length) (s:=14) (f:=dW l) 4 1001 rfl rfl) ?_);exact zdv
 |true=>
  have e1:uW p l=(cL p l:Nat):=by unfold uW;rw[ha];rfl
  obtain⟨TY,QW⟩:=V5 ha;rw[e1]at aCK;refine Ah (b1:=(1001,.row 175 l.length 14 (λi j=>if i<(dM p l).length then dW (mB p l l.length) i j else .bL))::RZ last key m) ?_ Ta ⟨rfl,Bc rfl λi j hi hj=>Wa ?_,rfl,Lf,rfl,Lf,rfl,Lf,rfl,Lf,oO⟩;rotate_left
  ·show(if i<(dM p l).length then mA ((mB p l l.length).getD i []) j else .bL)=if i<(dM p l).length then mA ((dM p l).getD i []) j else .bL;split
   ·rename_i h;rw[wW (by rw[Vd];exact h),Vd]
   rfl
  refine gJ func128 rfl rfl call128 aJ rfl rfl rfl rfl (λR J=>?_);refine sX J (Sa (Sb (rc:=[197]) aJ mix J _ ?_));refine⟨[],_,_,_,_,aCK,rfl,⟨rfl,rfl,rfl,rfl,rfl,oO⟩,rfl,?_⟩;refine Sa (sX J ?_);refine Cb (aI (λg=>?_) (λ_=>?_))
  ·have g:(((cL p l:Nat):Int)== -1)=true:=g;simp at g
  refine eX J (Sa (sX J ?_));apply Eb;refine Gb (λj:Nat=>⟨[(0,.s (.own 1001)),(1,.s Cp),(5,vI ((dM p (l.take j)).length:Nat)),(6,vI j)],(1001,some (.row 175 l.length 14 (dW (mB p l j)))):: [(1002,some (.cells [.d (dI last)])),(1003,some (.cells [.mp 1005])),(1004,some (.cells [.d (dT key)])),(1005,some (.smap .int m))]⟩)
   (λj=>j<=l.length/\(dM p (l.take j)).length<j) (λj=>l.length-j) (cL p l+1) ⟨O,by rw[QW,pf];omega⟩ ?_ ?_
  ·refine Lb [] lb rfl ⟨⟨rfl,Bc rfl λi j hi hj=>Wa ?_⟩,Fa⟩ ⟨Z,Z,⟨rfl,Ra ?_⟩,⟨rfl,Ra ?_⟩,oO⟩
   ·show mA (l.getD i []) j=mA ((mB p l (cL p l+1)).getD i []) j;by_cases h1:i<cL p l
    ·rw[wW (by rw[QW,pf];omega),QW];exact zc4
    rw[A2 (by rw[QW,pf];omega)]
   ·rw[QW,pf];congr 1;omega
   exact aG O O
  rintro j ⟨hj,fZ⟩;apply sX J;apply aI<;>intro h
  ·have h:(j:Int)<l.length:=bG h;have qR:j<l.length:=O;have fN:=TI (p:=p) qR;have hLj:(mB p l j).getD j []=l.getD j []:=A2 O;have ew:aW ((j:Int)+1)=((j+1:Nat):Int):=aG O O;have hc:=aNB ((mB p l j).getD j []) last key m;rw[hp,hLj]at hc;refine Sb (rc:=[129]) aJ mix J _ (oi Ha ?_);refine oi (show j<l.length by omega) ?_;refine⟨[],_,_,_,_,hc,by rw[<-hLj];rfl,⟨rfl,rfl,rfl,rfl,oO⟩,rfl,?_⟩;apply aI<;>intro g
   ·have g:(!p (l.getD j []))=true:=g;have g:p (l.getD j [])=false:=by simpa using g
    rw[g]at fN;have hlen:(dM p (l.take (j+1))).length=(dM p (l.take j)).length+1:=by rw[fN];simp
    refine oi (show(0:Int)<=((dM p (l.take j)).length:Nat)/\(((dM p (l.take j)).length:Nat):Int)<l.length by omega) (ob (show(((dM p (l.take j)).length:Nat):Int).toNat<l.length by omega) ?_);refine⟨j+1,Ha,O,?_⟩;refine Lb [] lb rfl ⟨⟨rfl,Bc rfl λk c hk pV=>Wa ?_⟩,Fa⟩ ⟨Z,Z,⟨rfl,Ra ?_⟩,⟨rfl,Ra ew⟩,oO⟩
    ·show eT (dW (mB p l j)) (((dM p (l.take j)).length:Nat):Int).toNat 0 (D9 ((mB p l j).getD j [])) k c=mA ((mB p l (j+1)).getD k []) c;rw[hLj,Rg];by_cases ON:k=(dM p (l.take j)).length
     ·subst ON;rw[EB _ _ _ _ pV,wW O,fN];congr 1;simp
     rw[show eT (dW (mB p l j)) (dM p (l.take j)).length 0 (D9 (l.getD j [])) k c=dW (mB p l j) k c from Ka ON];show mA ((mB p l j).getD k []) c=_;congr 1;by_cases TX:k<(dM p (l.take j)).length
     ·rw[wW TX,wW O,fN];simp only[Ua,fc,Jc TX]
     rw[A2 O,A2 O]
    rw[hlen];exact aG O O
   have g:(!p (l.getD j []))=false:=g;have g:p (l.getD j [])=true:=by simpa using g
   rw[g]at fN;have fN:dM p (l.take (j+1))=dM p (l.take j):=by rw[fN];simp
   refine⟨j+1,⟨O,by rw[fN];omega⟩,O,?_⟩;have e9:mB p l (j+1)=mB p l j:=by unfold mB;rw[fN]
   rw[e9,fN];exact zbJ
  have h:¬(j:Int)<l.length:=bF h;obtain rfl:j=l.length:=O;rw[Vd]at fZ⊢;have hk9:(dM p l).length<=l.length:=O;refine Tb (I':=⟨[(0,.s (.own 1001)),(5,vI ((dM p l).length:Nat))],[(1001,some (.row 175 l.length 14 (dW (mB p l l.length)))),(1002,some (.cells [.d (dI last)])),(1003,some (.cells [.mp 1005])),(1004,some (.cells [.d (dT key)])),(1005,some (.smap .int m))]⟩) ?_ ?_
  ·exact Lb [] lb rfl Fa Fa
  refine Sa (Gj (Sc (Pr (T:=tab) (rc:=[]) (ks:=[1001,1002,1003,1004,1005]) aJ 3 ?_ (λx bc h=>p7 h) (λx h=>by rw[J]at h;exact h) ?_)))
  ·intro x hx;simp only[wb,Sd,Kd]at hx;rcases hx with rfl|rfl|rfl|rfl|rfl <;> exact⟨_,rfl,rfl⟩
  refine oi (show(0:Int)<=((dM p l).length:Nat)/\(((dM p l).length:Nat):Int)<=l.length/\(l.length:Int)<=l.length by omega) (Rc rfl (n9.clear (e:=175) (s:=14) (b:=1001) (f:=dW (mB p l l.length)) (n:=l.length) (lo:=(dM p l).length) rfl rfl ?_ hk9 rfl underlying176 zeroValue175 rfl (λv hv=>Hd.1 (show _=true by rfl) v hv) (mc ?_)))
  ·show AV.s (.j0 1001 14 (((dM p l).length:Nat):Int).toNat ((l.length:Int).toNat-(((dM p l).length:Nat):Int).toNat))=_;rw[Rg,Rg]
  refine eX J (oi (show(0:Int)<=0/\(0:Int)<=((dM p l).length:Nat)/\(((dM p l).length:Nat):Int)<=l.length by omega) ?_);refine⟨Wb ?_,rfl,rfl,rfl,rfl,rfl,oO⟩;show AV.s (.j0 1001 14 (0:Int).toNat ((((dM p l).length:Nat):Int).toNat-(0:Int).toNat))=_;rw[Rg];rfl
def eqC(t u:bJ):aF prog 133 [.g (D9 t),.g (D9 u)] (vB (t==u)):=by
 refine eP func133 rfl rfl call133 rfl rfl λR J=>Ia (Na vB ?_)
 show((bs t).toList==(bs u).toList)=(t==u);rw[nF,nF]
def qd(l:List bJ)(i:Nat):Bool:=i==0|| !(l.getD i []==l.getD (i-1) [])
def zA(l:List bJ)(n:Nat):List bJ:=(List.range n).filterMap λi=>bif qd l i then some (l.getD i [])else none
def q6(l:List bJ)(n:Nat):zA l (n+1)=zA l n++(bif qd l n then [l.getD n []]else []):=by
 unfold zA;rw[c8]
 cases qd l n <;> rfl
def aF6(l:List bJ)(n:Nat):(zA l n).length<=n:=by unfold zA;exact Xb (Qg _ _) sM
def F2{l:List bJ}:∀{n:Nat},n<=l.length->(∀k,k<n->qd l k=true)->zA l n=l.take n
 |0,_,_=>rfl
 |n+1,h,hq=>by rw[q6,F2 (n:=n) O (λk hk=>hq k O),hq n O,Bg,List.getElem?_eq_getElem O,aX (show n<l.length by omega)];rfl
def jZ(l:List bJ)(j:Nat):List bJ:=zA l j++l.drop (zA l j).length
def wX{l:List bJ}{j k:Nat}(h:k<(zA l j).length):(jZ l j).getD k []=(zA l j).getD k []:=by unfold jZ;exact xa
def wY{l:List bJ}{j k:Nat}(h:(zA l j).length<=k):(jZ l j).getD k []=l.getD k []:=by unfold jZ;simp only[fc,Gd h,Ri];rw[show(zA l j).length+(k-(zA l j).length)=k by omega]
def rG(l:List bJ):List bJ:=zA l l.length
def SD(l:List bJ)(hl:l.length<=1000000):
  bW prog 132 [.s (.own 1001),.s (.dZ 133 [])] [ym l] (.s (.j0 1001 14 0 (rG l).length)) [(1001,.row 175 l.length 14 (pK (rG l)))]:=by
 refine gJ func132 rfl rfl call132 aJ rfl rfl rfl rfl (λR J=>?_)
 apply sX J
 refine Sa (sX J ?_)
 apply Cb
 apply aI<;>intro g
 ·have g:((l.length:Nat):Int)<2:=bG g;have e:rG l=l:=by unfold rG;rw[F2 (mb _) (λk hk=>?_),Vd];obtain rfl:k=0:=O;rfl
  exact vh
 have g:¬((l.length:Nat):Int)<2:=bF g
 have n2:2<=l.length:=O
 apply eX J
 refine Sa (sX J ?_)
 apply Eb
 refine Gb (λi:Nat=>⟨[(0,.s (.own 1001)),(1,.s (.dZ 133 [])),(5,vI i)],[(1001,some (.row 175 l.length 14 (dW l)))]⟩)
  (λi=>(1<=i/\i<=l.length)/\∀k,k<i->qd l k=true) (λi=>l.length-i) 1 ⟨⟨mb _,O⟩,λk hk=>by obtain rfl:k=0:=O;rfl⟩ ?_ ?_
 ·exact Lb [] lb rfl Fa Fa
 ·rintro i ⟨⟨OO,hi⟩,hq⟩;apply sX J;apply aI<;>intro h
  ·have h:(i:Int)<l.length:=bG h;have bC:i<l.length:=O;have ew:aW ((i:Int)-1)=((i-1:Nat):Int):=by rw[aG O O];omega
   have ew2:(aW ((i:Int)-1)).toNat=i-1:=by rw[ew];omega
   refine Sa (Eb (sX J ?_));refine oi Ha (oi (show i<l.length by omega) ?_);refine oi (show 0<=aW ((i:Int)-1)/\aW ((i:Int)-1)<l.length by rw[ew];omega) ?_;refine oi (show(aW ((i:Int)-1)).toNat<l.length by rw[ew2];omega) ?_;refine aB (eqC (l.getD i []) (l.getD (aW ((i:Int)-1)).toNat [])) (aD ?_);apply Cb;apply aI<;>intro g2
   ·have g2:(l.getD i []==l.getD (aW ((i:Int)-1)).toNat [])=true:=g2;rw[ew2]at g2;have hqi:qd l i=false:=by unfold qd;rw[g2,show(i==0)=false by simp;omega];rfl
    have hd0:zA l i=l.take i:=F2 hi hq;have hd1:zA l (i+1)=l.take i:=by rw[q6,hqi,hd0];simp
    refine sX J (oi (show(0:Int)<=i/\(i:Int)<=l.length/\(l.length:Int)<=l.length by omega) ?_);refine Sa (sX J ?_);apply Eb;refine Gb (λq:Nat=>⟨[(0,.s (.own 1001)),(1,.s (.dZ 133 [])),(5,vI ((zA l (i+q)).length:Nat)),(6,.s (.j0 1001 14 i (l.length-i))),(7,vI q)],[(1001,some (.row 175 l.length 14 (dW (jZ l (i+q)))))]⟩)
     (λq=>1<=q/\i+q<=l.length/\(zA l (i+q)).length<i+q) (λq=>l.length-q) 1 ⟨mb _,O,by rw[hd1,pf];omega⟩ ?_ ?_
    ·refine Lb [] lb rfl ⟨⟨rfl,Bc rfl λk c hk hc=>Wa ?_⟩,oO⟩ ⟨Z,Z,⟨rfl,Ra ?_⟩,Fa⟩
     ·show mA (l.getD k []) c=mA ((jZ l (i+1)).getD k []) c;by_cases h1:k<i
      ·rw[wX (by rw[hd1,pf];omega),hd1];exact zc4
      rw[wY (by rw[hd1,pf];omega)]
     rw[hd1,pf];omega
    rintro q ⟨hq1,hq2,hq3⟩;apply sX J;apply aI<;>intro h3
    ·have h3:(q:Int)<((l.length-i:Nat):Int):=bG h3;have hj:i+q<l.length:=O;have Ei:aW ((q:Int)-1)=((q-1:Nat):Int):=by rw[aG O O];omega
     have eq2:i+(aW ((q:Int)-1)).toNat=i+q-1:=by rw[Ei];omega
     have ew3:aW ((q:Int)+1)=((q+1:Nat):Int):=aG O O;have a1:(jZ l (i+q)).getD (i+q) []=l.getD (i+q) []:=wY O;have a2:(jZ l (i+q)).getD (i+q-1) []=l.getD (i+q-1) []:=wY O;have hs:=q6 l (i+q);refine Sa (Eb (sX J ?_));refine oi Ha (oi (show i+(q:Int).toNat<l.length by omega) ?_);refine oi (show 0<=aW ((q:Int)-1)/\aW ((q:Int)-1)<((l.length-i:Nat):Int) by rw[Ei];omega) ?_;refine oi (show i+(aW ((q:Int)-1)).toNat<l.length by omega) (aB (eqC ((jZ l (i+q)).getD (i+(q:Int).toNat) []) ((jZ l (i+q)).getD (i+(aW ((q:Int)-1)).toNat) [])) ?_);refine aD (Cb ?_);apply aI<;>intro g4
     ·have g4:(!((jZ l (i+q)).getD (i+(q:Int).toNat) []==(jZ l (i+q)).getD (i+(aW ((q:Int)-1)).toNat) []))=true:=g4;rw[Rg,eq2,a1,a2]at g4;have hq0:qd l (i+q)=true:=by unfold qd;rw[g4,Bool.or_true]
      rw[hq0]at hs;have hlen:(zA l (i+q+1)).length=(zA l (i+q)).length+1:=by rw[hs];simp
      refine eX J (oi Ha ?_);refine oi (show i+(q:Int).toNat<l.length by omega) (oi (show(0:Int)<=((zA l (i+q)).length:Nat)/\(((zA l (i+q)).length:Nat):Int)<l.length by omega) ?_);refine ob (show(((zA l (i+q)).length:Nat):Int).toNat<l.length by omega) (eX J ?_);refine⟨q+1,⟨O,O,by rw[<-Nat.add_assoc];omega⟩,O,?_⟩;refine Lb [] lb rfl ⟨⟨rfl,Bc rfl λk c hk pV=>Wa ?_⟩,oO⟩ ⟨Z,Z,⟨rfl,Ra ?_⟩,Z,⟨rfl,Ra ew3⟩,oO⟩
      ·show eT (dW (jZ l (i+q))) (((zA l (i+q)).length:Nat):Int).toNat 0 (D9 ((jZ l (i+q)).getD (i+(q:Int).toNat) [])) k c=mA ((jZ l (i+q+1)).getD k []) c;rw[Rg,Rg,a1];by_cases ON:k=(zA l (i+q)).length
       ·subst ON;rw[EB _ _ _ _ pV,wX O,hs];congr 1;simp
       rw[show eT (dW (jZ l (i+q))) (zA l (i+q)).length 0 (D9 (l.getD (i+q) [])) k c=dW (jZ l (i+q)) k c from Ka ON];show mA ((jZ l (i+q)).getD k []) c=_;congr 1;by_cases TX:k<(zA l (i+q)).length
       ·rw[wX TX,wX O,hs];simp only[cond_true,fc,Jc TX]
       rw[wY O,wY O]
      show aW _=(((zA l (i+q+1)).length:Nat):Int);rw[hlen];exact aG O O
     have g4:(!((jZ l (i+q)).getD (i+(q:Int).toNat) []==(jZ l (i+q)).getD (i+(aW ((q:Int)-1)).toNat) []))=false:=g4;rw[Rg,eq2,a1,a2]at g4;have hq0:qd l (i+q)=false:=by unfold qd;rw[g4,show(i+q==0)=false by simp;omega];rfl
     rw[hq0]at hs;have hs:zA l (i+q+1)=zA l (i+q):=by rw[hs];simp
     have e9:jZ l (i+q+1)=jZ l (i+q):=by unfold jZ;rw[hs]
     refine eX J (eX J ?_);refine⟨q+1,⟨O,O,by rw[<-Nat.add_assoc,hs];omega⟩,O,?_⟩;refine Lb [] lb rfl ⟨⟨rfl,cc (by rw[<-Nat.add_assoc,e9];rfl)⟩,oO⟩ ⟨Z,Z,⟨rfl,Wb (by rw[<-Nat.add_assoc,hs];rfl)⟩,Z,⟨rfl,Ra ew3⟩,oO⟩
    have h3:¬(q:Int)<((l.length-i:Nat):Int):=bF h3;have hj:i+q=l.length:=O;rw[hj]at hq3⊢;have hk9:(rG l).length<=l.length:=by unfold rG;omega
    refine Tb (I':=⟨[(0,.s (.own 1001)),(5,vI ((rG l).length:Nat))],[(1001,some (.row 175 l.length 14 (dW (jZ l l.length))))]⟩) ?_ ?_
    ·exact Lb [] lb rfl Fa Fa
    refine Sa (Gj (Sc (Pr (T:=tab) (rc:=[]) (ks:=[1001]) aJ 3 ?_ (λx bc h=>p7 h) (λx h=>by rw[J]at h;exact h) ?_)))
    ·intro x hx;simp only[wb,Sd,Kd]at hx;subst hx;exact⟨_,rfl,rfl⟩
    refine oi (show(0:Int)<=((rG l).length:Nat)/\(((rG l).length:Nat):Int)<=l.length/\(l.length:Int)<=l.length by omega) (Rc rfl (n9.clear (e:=175) (s:=14) (b:=1001) (f:=dW (jZ l l.length)) (n:=l.length) (lo:=(rG l).length) rfl rfl ?_ hk9 rfl underlying176 zeroValue175 rfl (λv hv=>Hd.1 (show _=true by rfl) v hv) (mc ?_)))
    ·show AV.s (.j0 1001 14 (((rG l).length:Nat):Int).toNat ((l.length:Int).toNat-(((rG l).length:Nat):Int).toNat))=_;rw[Rg,Rg]
    refine sX J (oi (show(0:Int)<=0/\(0:Int)<=((rG l).length:Nat)/\(((rG l).length:Nat):Int)<=l.length by omega) ?_);refine Tb (I':=⟨[(4,.s (.j0 1001 14 0 (rG l).length))],[(1001,some (.row 175 l.length 14 (pK (rG l))))]⟩) ?_ ?_
    ·refine Lb [] lb rfl ⟨⟨rfl,Bc rfl λk c hk pV=>Wa ?_⟩,oO⟩ ⟨⟨rfl,Wb ?_⟩,oO⟩
     ·show(if k<(rG l).length then mA ((jZ l l.length).getD k []) c else .bL)=if k<(rG l).length then mA ((rG l).getD k []) c else .bL;split
      ·rename_i h;rw[wX h];rfl
      rfl
     show AV.s (.j0 1001 14 (0:Int).toNat ((((rG l).length:Nat):Int).toNat-(0:Int).toNat))=_;rw[Rg];rfl
    exact eX J gj
   have g2:(l.getD i []==l.getD (aW ((i:Int)-1)).toNat [])=false:=g2;rw[ew2]at g2;have hqi:qd l i=true:=by unfold qd;rw[g2];simp
   refine eX J (eX J ?_);have ew3:aW ((i:Int)+1)=((i+1:Nat):Int):=aG O O;refine⟨i+1,⟨Ha,λk hk=>?_⟩,O,?_⟩
   ·rcases Ql k i with h1|h1
    ·exact hq k h1
    obtain rfl:k=i:=O;exact hqi
   exact Lb [] lb rfl Fa ⟨Z,Z,⟨rfl,Ra ew3⟩,oO⟩
  have h:¬(i:Int)<l.length:=bF h;obtain rfl:i=l.length:=O;have e:rG l=l:=by unfold rG;rw[F2 (mb _) hq,Vd]
  exact vh
abbrev gL:=bJ×List bJ×Nat
def rq{a b:bJ}(h:bs a=bs b):a=b:=by have:=Na (λx:ta=>x.data.toList) h;simpa[bs]using this
def sB(a b:bJ):(bs a==bs b)=(a==b):=by rw[Ff,Tf,Tf];exact⟨rq,λh=>by rw[h]⟩
structure wA(r:mX)(ts:List bJ):Prop where
 lo:r.lo=0
 n:r.n=ts.length
 f:∀i j,i<ts.length->j<14->aK (r.f i j) (dW ts i j)
structure Fh(q:bO)(e:gL):Prop where
 key:q.key=bs e.1
 born:q.born=e.2.2
 ne:e.2.1≠[]
 row:∃r,q.row=some r/\wA r e.2.1
def eH:List bO->List gL->Prop
 |[],[]=>True
 |q::r,e::s=>Fh q e/\eH r s
 |_,_=>False
def eH.len:∀{l:List bO} {E:List gL},eH l E->l.length=E.length
 |[],[],_=>rfl
 |_::_,_::_,h=>Na (· +1) (eH.len h.2)
 |[],_::_,h=>h.elim
 |_::_,[],h=>h.elim
def eH.get:∀{l:List bO} {E:List gL} {i:Nat} {q:bO},eH l E->l[i]? =some q->∃e,E[i]? =some e/\Fh q e
 |q::r,e::s,0,q',h,hq=>⟨e,rfl,by
  have:q=q':=by simpa using hq
  exact this▸h.1⟩
 |_::r,_::s,i+1,q',h,hq=>by have:=eH.get (i:=i) h.2 (by simpa using hq);simpa using this
 |[],[],_,_,_,hq=>by simp at hq
 |[],_::_,_,_,h,_=>h.elim
 |_::_,[],_,_,h,_=>h.elim
def eH.append:∀{l m:List bO} {E F:List gL},eH l E->eH m F->eH (l++m) (E++F)
 |[],_,[],_,_,h=>h
 |_::_,_,_::_,_,h,k=>⟨h.1,eH.append h.2 k⟩
 |[],_,_::_,_,h,_=>h.elim
 |_::_,_,[],_,h,_=>h.elim
def Ls:=@eH.append
def eH.modify:∀{l:List bO} {E:List gL} {i:Nat} {g:bO->bO} {g':gL->gL},eH l E->(∀q e,l[i]? =some q->E[i]? =some e->Fh q e->Fh (g q) (g' e))->eH (l.modify i g) (E.modify i g')
 |[],[],_,_,_,_,_=>by simp[eH]
 |q::r,e::s,0,g,g',h,k=>by exact dt
 |q::r,e::s,i+1,g,g',h,k=>by exact zaX
 |[],_::_,_,_,_,h,_=>h.elim
 |_::_,[],_,_,_,h,_=>h.elim
def eH.erase:∀{l:List bO} {E:List gL} {i:Nat},eH l E->eH (l.eraseIdx i) (E.eraseIdx i)
 |[],[],_,_=>by simp[eH]
 |q::r,e::s,0,h=>h.2
 |q::r,e::s,i+1,h=>⟨h.1,eH.erase h.2⟩
 |[],_::_,_,h=>h.elim
 |_::_,[],_,h=>h.elim
def fE:List gL->bJ->Nat->Da (Nat×gL)
 |[],_,_=>none
 |e::r,k,i=>bif k==e.1 then some (i,e)else fE r k (i+1)
def tV:∀{l:List bO} {E:List gL} {k:bJ} {i:Nat},eH l E->fE E k i=none->dD l (bs k) i=none
 |[],[],_,_,_,_=>rfl
 |q::r,e::s,k,i,h,hf=>by exact zbb
 |[],_::_,_,_,h,_=>h.elim
 |_::_,[],_,_,h,_=>h.elim
def p8:∀{l:List bO} {E:List gL} {k:bJ} {i:Nat} {p:Nat×gL},eH l E->fE E k i=some p->∃q,dD l (bs k) i=some (p.1,q)/\Fh q p.2
 |[],[],_,_,_,_,hf=>by cases hf
 |q::r,e::s,k,i,p,h,hf=>by exact xm
 |[],_::_,_,_,_,h,_=>h.elim
 |_::_,[],_,_,_,h,_=>h.elim
def xU:∀{E:List gL} {k:bJ} {i:Nat} {p:Nat×gL},fE E k i=some p->i<=p.1/\E[p.1-i]? =some p.2/\p.2.1=k
 |[],_,_,_,h=>by cases h
 |e::r,k,i,p,h=>by exact qq
def o6(E:List gL)(k t:bJ):List gL:=match fE E k 0 with
 |some (i,_)=>E.modify i λe=>(e.1,e.2.1++ [t],e.2.2)
 |none=>E++ [(k,[t],E.length)]
def tU(l:List bO)(k:ta)(j:Nat):∀i,(dD (cW l j) k i).map (·.1)=(dD l k i).map (·.1):=by
 intro i;unfold cW;induction l generalizing i j with
 |nil=>simp[dD]
 |cons q r ih=>
  cases j with
  |zero=>
   simp only[Wx,dD]
   cases k==q.key <;> rfl
  |succ j=>
   simp only[Jn,dD]
   cases k==q.key with
   |true=>rfl
   |false=>exact ih j (i+1)
def yF{h:HM}{E:List gL}{k:bJ}{j:Nat}{q:bO}{v:wa}{r:mX}{ts:List bJ}(ha:eH h.l E)(hf:dD h.l (bs k) 0=some (j,q))(hr:wA r ts)(fJ:ts≠[]):
  eH (eR {h with l:=cW h.l j} (bs k) v (some r)).l (E.modify j λe=>(e.1,ts,e.2.2))/\(eR {h with l:=cW h.l j} (bs k) v (some r)).bm=h.bm/\(eR {h with l:=cW h.l j} (bs k) v (some r)).clock=h.clock/\(eR {h with l:=cW h.l j} (bs k) v (some r)).it=h.it:=by
 have h1:=tU h.l (bs k) j 0
 rw[hf]at h1
 unfold eR
 simp only
 cases hq:dD (cW h.l j) (bs k) 0 with
 |none=>rw[hq]at h1;cases h1
 |some p=>exact jq
def MA{h:HM}{E:List gL}{k:bJ}{v:wa}{r:mX}{ts:List bJ}(ha:eH h.l E)(hc:h.clock=E.length)(hf:dD h.l (bs k) 0=none)(hr:wA r ts)(fJ:ts≠[]):
  eH (eR h (bs k) v (some r)).l (E++ [(k,ts,E.length)])/\(eR h (bs k) v (some r)).bm=h.bm/\(eR h (bs k) v (some r)).clock=E.length+1/\(eR h (bs k) v (some r)).it=h.it:=by
 unfold eR
 rw[hf]
 refine⟨?_,rfl,by simp only;omega,rfl⟩
 refine ha.append ⟨⟨rfl,by simp only;exact hc,fJ,r,rfl,hr⟩,oO⟩
end Go.Pj
--K19
namespace Go.Ax
def rE(box:aP)(x:Nat):Bool:=match aH box x with
 |some (some b)=>b.real
 |_=>false
def Ao{box:aP}{x:Nat}(h:rE box x=true):∃bc,aH box x=some (some bc)/\bc.real=true:=by
 unfold rE at h;split at h
 ·rename_i b hb;exact⟨b,hb,h⟩
 cases h
section
variable{P:Ba}{R:Cx}{N:Nat}{I:St}{H:Hid}{K:Exit->St->Hid->Prop}
def Js{c:Code}(J:R.ref=[])(ks:List Nat)(h1:(ks.all λx=>rE I.box x)=true)(h2:((cR I.box).all λx=>ks.contains x)=true)
  (h:∀NY:Cx,NY.ref=ks->AW P NY N c I (λe I'=>K e I' H)):bS P R N c I H K:=
 bS.part (ks:=ks) (λx hx=>Ao ze8) (λx bc hx=>by have:=p7 hx;rw[Hd]at h2;simpa using h2 x this) (λx hx=>by rw[J]at hx;cases hx) h
def bM.some{T:List (Nat×bV)}{all l:List Oper}{K:St->Hid->Prop}{rc:List Nat}(hT:cD P T)(n:Nat)(J:R.ref=[])(ks:List Nat)(h1:(ks.all λx=>rE I.box x)=true)(h2:((cR I.box).all λx=>ks.contains x)=true)
  (h:l5 P T N ks rc all (l.take n) I λI'=>bM P R N all (l.drop n) I' H K):bM P R N all l I H K:=
 Pr (ks:=ks) hT n (λx hx=>Ao ze8) (λx bc hx=>by have:=p7 hx;rw[Hd]at h2;simpa using h2 x this) (λx hx=>by rw[J]at hx;cases hx) h
def Kb:=@bM.some
end
end Go.Ax
namespace Go.Pj
open Go Go.Ax Go.Ch Go.Proofs Go.Proofs.Tryz
def W7:bJ:=[119,105,116,104,100,114,97,119,32]
def DN(f:Fact):Bool:=Lib.hasPrefix (bT f) W7
def stepG(G:List (ta×Int))(f:Fact):List (ta×Int):=
 bif DN f then jR G (bs (Lib.trimPrefix (bT f) W7)) (mm true (gW G (bs (Lib.trimPrefix (bT f) W7))) (aW (f.seq+1)))else G
def A3(E:List gL)(f:Fact):List gL:=bif DN f then E else o6 E (bT f) (dR f)
def kL(l:List Fact)(i:Nat):List (ta×Int):=(l.take i).foldl stepG []
def fM(l:List Fact)(i:Nat):List gL:=(l.take i).foldl A3 []
def LH{l:List Fact}{i:Nat}(h:i<l.length):kL l (i+1)=stepG (kL l i) (l.getD i default):=by unfold kL;exact uy
def p9{l:List Fact}{i:Nat}(h:i<l.length):fM l (i+1)=A3 (fM l i) (l.getD i default):=by unfold fM;exact uy
def Mx(f:Fact):∀c,c<14->aK (S1 14 [.d (dI (eQ f).kind),.d (dI (eQ f).seq),.d (dI (eQ f).a8),.d (dI (eQ f).month),.d (dI (eQ f).number),.d (dI (eQ f).aT),.d (dI (eQ f).over),.d (dI (eQ f).Jb),.d (dI (eQ f).target),.d (dS (eQ f).aN),.d (dS (eQ f).dN),.d (dS (eQ f).eS),.d (b5 (eQ f).levels),.d (dT (dR f))] 0 c) (mA (dR f) c)
 |0,_|1,_|2,_|3,_|4,_|5,_|6,_|7,_|8,_|9,_|10,_|11,_|12,_|13,_=>Ja _
def WU{n a c:Nat}{F G:Nat->Nat->DV}(h:a<n):jM n F G a c=F a c:=La h
def WV{n c:Nat}{F G:Nat->Nat->DV}:jM n F G n c=G 0 c:=by unfold jM;rw[Ka (Qn n),Td]
def aED(f:Fact):∀c,c<14->(S1 14 [.d (dI (eQ f).kind),.d (dI (eQ f).seq),.d (dI (eQ f).a8),.d (dI (eQ f).month),.d (dI (eQ f).number),.d (dI (eQ f).aT),.d (dI (eQ f).over),.d (dI (eQ f).Jb),.d (dI (eQ f).target),.d (dS (eQ f).aN),.d (dS (eQ f).dN),.d (dS (eQ f).eS),.d (b5 (eQ f).levels),.d (dT (dR f))] 0 c).fit=true
 |0,_|1,_|2,_|3,_|4,_|5,_|6,_|7,_|8,_|9,_|10,_|11,_|12,_|13,_=>rfl
def AO{E:List gL}{k t:bJ}{m:Nat}(h:∀e∈E,e.2.1.length<=m):∀e∈o6 E k t,e.2.1.length<=m+1:=uo
def oJ{l:List Fact}:∀{i:Nat},∀{e:gL},e∈fM l i->e.2.1.length<=i
 |0,e,he=>by simp[fM]at he
 |i+1,e,he=>by
  by_cases h:i<l.length
  ·rw[p9 h]at he;unfold A3 at he
   cases hw:DN (l.getD i default)with
   |true=>rw[hw]at he;have:=oJ (i:=i) he;omega
   |false=>rw[hw]at he;exact AO (λe he=>oJ (i:=i) he) e he
  have e1:fM l (i+1)=fM l i:=xd
  rw[e1]at he;have:=oJ (i:=i) he;omega
abbrev dQ(b:Nat):AV:=.s (.d (.val (.map (some b))))
def J1(l:List Fact)(s:Nat×HM):Prop:=s.1<=l.length/\eH s.2.l (fM l s.1)/\s.2.clock=(fM l s.1).length/\s.2.it=none
def eA{R:Cx}{N:Nat}{c:Code}{I:St}{H:Hid}{K:Exit->St->Hid->Prop}(J:R.ref=[])(ks:List Nat)(h:∀NY:Cx,NY.ref=ks->ex Tryz.prog tab N ks [] NY c I λe s=>K e s H)(h1:(ks.all λx=>rE I.box x)=true:=by rfl)(h2:((cR I.box).all λx=>ks.contains x)=true:=by rfl):bS Tryz.prog R N c I H K:=Js J ks h1 h2 λNY h'=>Sb (rc:=[]) aJ mix h' _ (h NY h')
def eB{R:Cx}{N:Nat}{c:Code}{I:St}{H:Hid}{K:Exit->St->Hid->Prop}(rc:List Nat)(J:R.ref=[])(ks:List Nat)(h:∀NY:Cx,NY.ref=ks->ex Tryz.prog tab N ks rc NY c I λe s=>K e s H)(h1:(ks.all λx=>rE I.box x)=true:=by rfl)(h2:((cR I.box).all λx=>ks.contains x)=true:=by rfl):bS Tryz.prog R N c I H K:=Js J ks h1 h2 λNY h'=>Sb (rc:=rc) aJ mix h' _ (h NY h')
def sA{R:Cx}{N:Nat}{x y:Code}{I:St}{H:Hid}{K:Exit->St->Hid->Prop}(J:R.ref=[])(ks:List Nat)(h:∀NY:Cx,NY.ref=ks->ex Tryz.prog tab N ks [] NY x I λe s=>rO (λs H=>bS Tryz.prog R N y s H K) K e s H)(h1:(ks.all λx=>rE I.box x)=true:=by rfl)(h2:((cR I.box).all λx=>ks.contains x)=true:=by rfl):bS Tryz.prog R N (.seq x y) I H K:=pb (eA J ks h h1 h2)
def tT(G:List (ta×Int))(k:bJ):Int:=gW G (bs k)
def P8(G:List (ta×Int))(k:bJ)(ts:List bJ):Int:=ts.foldl (λa t=>mm true a (rU t).seq) (aW (tT G k-1))
def fX(G:List (ta×Int))(k:bJ)(ts:List bJ):List bJ:=dM (RI (P8 G k ts) (tT G k)) ts
def rV(G:List (ta×Int))(k:bJ)(ts:List bJ):List bJ:=rG (hV (fX G k ts))
def zQ(G:List (ta×Int))(e:gL):Da gL:=bif (fX G e.1 e.2.1).isEmpty then none else some (e.1,rV G e.1 e.2.1,e.2.2)
def tN(G:List (ta×Int))(sn:List Nat)(e:gL):Da gL:=bif sn.contains e.2.2 then zQ G e else some e
def fO(G:List (ta×Int))(E:List gL)(sn:List Nat):List gL:=E.filterMap (tN G sn)
def DG{G:List (ta×Int)}{sn:List Nat}{b:Nat}{e:gL}(h:e.2.2≠b):tN G (b::sn) e=tN G sn e:=by unfold tN;rw[show(b::sn).contains e.2.2=sn.contains e.2.2 by simp[h]]
def tM{G:List (ta×Int)}{sn:List Nat}{e x:gL}(h:tN G sn e=some x):x.1=e.1/\x.2.2=e.2.2:=by
 unfold tN zQ at h
 cases hc:sn.contains e.2.2 with
 |false=>rw[hc]at h;cases h;exact⟨rfl,rfl⟩
 |true=>
  rw[hc,cond_true]at h
  cases hk:(fX G e.1 e.2.1).isEmpty with
  |true=>rw[hk]at h;cases h
  |false=>rw[hk]at h;cases h;exact⟨rfl,rfl⟩
def oI{G:List (ta×Int)}{E:List gL}{sn:List Nat}{x:gL}(h:x∈fO G E sn):∃e∈E,x.1=e.1/\x.2.2=e.2.2:=by obtain⟨e,he,hx⟩:=lh.1 h;exact⟨e,he,tM hx⟩
def IE{G:List (ta×Int)}{b:Nat}{sn:List Nat}:∀{E:List gL},(∀e∈E,e.2.2≠b)->fO G E (b::sn)=fO G E sn
 |[],_=>rfl
 |e::r,h=>by unfold fO;rw[Qi,Qi,DG (h e (Zd ..))];have:=IE (E:=r) (G:=G) (b:=b) (sn:=sn) (λx hx=>h x (oc _ hx));unfold fO at this;rw[this]
def vH{G:List (ta×Int)}{sn:List Nat}:∀{E:List gL} {j:Nat} {e:gL},(E.map (·.2.2)).Nodup->(fO G E sn)[j]? =some e->sn.contains e.2.2=false->
  fO G E (e.2.2::sn)=match zQ G e with
   |none=>(fO G E sn).eraseIdx j
   |some x=>(fO G E sn).modify j λ_=>x
 |[],j,e,_,h,_=>by simp[fO]at h
 |d::r,j,e,hn,h,hs=>by
  have hn':=Ug.1 (show(d.2.2::r.map (·.2.2)).Nodup from hn);have hr:=hn'.2;unfold fO at h⊢;rw[Qi]at h⊢
  cases hd:tN G sn d with
  |none=>
   rw[hd]at h;have hb:=oI (Dd h);obtain⟨e',DT,_,hb⟩:=hb;have fJ:d.2.2≠e.2.2:=λhc=>hn'.1 ze5
   have:=vH hr h hs;unfold fO at this;rw[DG fJ,Qi,hd];exact this
  |some x=>
   rw[hd]at h;have hx:=tM hd
   cases j with
   |zero=>
    obtain rfl:x=e:=by simpa using h
    have hde:d=x:=by unfold tN at hd;rw[<-hx.2,hs]at hd;exact sc hd
    subst hde;have e1:tN G (d.2.2::sn) d=zQ G d:=by unfold tN;rw[show(d.2.2::sn).contains d.2.2=true by simp];rfl
    have e2:r.filterMap (tN G (d.2.2::sn))=r.filterMap (tN G sn):=IE λe he hc=>hn'.1 (by rw[<-hc];exact Lc.2 ⟨e,he,rfl⟩)
    rw[e1,Qi,hd,e2]
    cases zQ G d <;> rfl
   |succ j=>
    have h':(r.filterMap (tN G sn))[j]? =some e:=by simpa using h
    obtain⟨e',DT,_,hb⟩:=oI (Dd h');have fJ:d.2.2≠e.2.2:=λhc=>hn'.1 ze5
    have:=vH hr h' hs;unfold fO at this;rw[DG fJ,hd,Qi,hd];simp only;rw[this]
    cases zQ G e with
    |none=>rfl
    |some y=>simp
def LN:∀{E:List gL} {j i:Nat} {e:gL},(E.map (·.1)).Nodup->E[j]? =some e->fE E e.1 i=some (i+j,e)
 |[],j,_,_,_,h=>by simp at h
 |d::r,0,i,e,_,h=>by
  obtain rfl:d=e:=by simpa using h
  rw[fE,Ui];rfl
 |d::r,j+1,i,e,hn,h=>by
  have hn':=Ug.1 (show(d.1::r.map (·.1)).Nodup from hn);have h':r[j]? =some e:=by simpa using h
  have fJ:(e.1==d.1)=false:=by rw[Wq];exactλhc=>hn'.1 (by rw[<-hc];exact Lc.2 ⟨e,Dd h',rfl⟩)
  rw[fE,fJ,Ua,LN hn'.2 h'];congr 2;omega
structure CW(E:List gL):Prop where
 keys:(E.map (·.1)).Nodup
 born:∀(i:Nat) (e:gL),E[i]? =some e->e.2.2=i
def CW.nodup{E:List gL}(h:CW E):(E.map (·.2.2)).Nodup:=by
 refine Cz.2 λi j hi hj Z5=>?_
 have hi:i<E.length:=by simpa using hi
 have hj:j<E.length:=by simpa using hj
 rw[On,On,h.born i _ (List.getElem?_eq_getElem hi),h.born j _ (List.getElem?_eq_getElem hj)];omega
def NR:∀{E:List gL} {k:bJ} {i:Nat},fE E k i=none->k∉E.map (·.1)
 |[],_,_,_=>by simp
 |d::r,k,i,h=>by
  rw[fE]at h
  cases hk:k==d.1 with
  |true=>rw[hk]at h;cases h
  |false=>
   rw[hk]at h;have:=NR (i:=i+1) h;have fJ:k≠d.1:=by simpa using hk
   simp only[Le,wb,not_or];exact⟨fJ,this⟩
def CW.add{E:List gL}(h:CW E)(k t:bJ):CW (o6 E k t):=by
 unfold o6
 cases hf:fE E k 0 with
 |some p=>
  obtain⟨i,e⟩:=p;refine⟨?_,λj x hx=>?_⟩
  ·have:(E.modify i λe=>(e.1,e.2.1++ [t],e.2.2)).map (·.1)=E.map (·.1):=by
    apply Si;intro j;rw[ag,se,ag]
    cases E[j]? with
    |none=>rfl
    |some y=>by_cases Z5:i=j <;> simp[Z5]
   simp only;rw[this];exact h.keys
  simp only at hx;rw[se]at hx
  cases hE:E[j]? with
  |none=>rw[hE]at hx;cases hx
  |some y=>
   rw[hE]at hx;have hb:=h.born j y hE;have hx:(if i=j then(y.1,y.2.1++ [t],y.2.2)else y)=x:=by simpa using hx
   split at hx <;> subst hx <;> exact hb
 |none=>
  have hk:=NR hf;refine⟨?_,λj x hx=>?_⟩
  ·simp only[Vi,Le,Vy];rw[List.nodup_append];refine⟨h.keys,sM,λa ha b hb JW=>?_⟩;rw[Ib.1 hb]at JW;exact hk (JW▸ha)
  simp only at hx;rcases Ql j E.length with hj|hj
  ·rw[Jc hj]at hx;exact h.born j x hx
  rw[Gd hj]at hx;obtain⟨h0,h1⟩:j-E.length=0/\(k,[t],E.length)=x:=by
   cases hq:j-E.length with
   |zero=>rw[hq]at hx;exact⟨rfl,by simpa using hx⟩
   |succ n=>rw[hq]at hx;simp at hx
  subst h1;show E.length=j;omega
def rZ(l:List Fact):∀i,CW (fM l i)
 |0=>⟨by simp[fM],λi e h=>by simp[fM]at h⟩
 |i+1=>by
  by_cases h:i<l.length
  ·rw[p9 h];unfold A3
   cases DN (l.getD i default)with
   |true=>exact rZ l i
   |false=>exact(rZ l i).add _ _
  have e1:fM l (i+1)=fM l i:=xd
  rw[e1];exact rZ l i
def AJ{G:List (ta×Int)}{sn:List Nat}:∀{E:List gL},(E.map (·.1)).Nodup->((fO G E sn).map (·.1)).Nodup
 |[],_=>by simp[fO]
 |d::r,h=>by
  have h':=Ug.1 (show(d.1::r.map (·.1)).Nodup from h);have ih:=AJ (G:=G) (sn:=sn) h'.2;unfold fO at ih⊢;rw[Qi]
  cases hd:tN G sn d with
  |none=>exact ih
  |some x=>simp only[Le];refine Ug.2 ⟨λhm=>?_,ih⟩;obtain⟨y,hy,he⟩:=Lc.1 hm;obtain⟨e',DT,h1,_⟩:=oI hy;exact h'.1 (by rw[<-(tM hd).1,<-he,h1];exact Lc.2 ⟨e',DT,rfl⟩)
def xX{G:List (ta×Int)}{sn:List Nat}:∀{E:List gL},(E.map (·.2.2)).Nodup->((fO G E sn).map (·.2.2)).Nodup
 |[],_=>by simp[fO]
 |d::r,h=>by
  have h':=Ug.1 (show(d.2.2::r.map (·.2.2)).Nodup from h);have ih:=xX (G:=G) (sn:=sn) h'.2;unfold fO at ih⊢;rw[Qi]
  cases hd:tN G sn d with
  |none=>exact ih
  |some x=>simp only[Le];refine Ug.2 ⟨λhm=>?_,ih⟩;obtain⟨y,hy,he⟩:=Lc.1 hm;obtain⟨e',DT,_,h1⟩:=oI hy;exact h'.1 (by rw[<-(tM hd).2,<-he,h1];exact Lc.2 ⟨e',DT,rfl⟩)
def Y2(G:List (ta×Int))(E:List gL):fO G E []=E:=by unfold fO;rw[show tN G []=some from funext λe=>rfl];exact List.filterMap_some
def NP(G:List (ta×Int))(E:List gL):List gL:=E.filterMap (zQ G)
def AE{α V:Type}{f g:α->Da V}:∀{l:List α},(∀x∈l,f x=g x)->l.filterMap f=l.filterMap g
 |[],_=>rfl
 |x::r,h=>by rw[Qi,Qi,h x (Zd ..),AE λy hy=>h y (oc _ hy)]
def LR{G:List (ta×Int)}{E:List gL}{sn:List Nat}(h:∀e∈fO G E sn,sn.contains e.2.2=true):fO G E sn=NP G E:=by
 unfold fO NP at*;refine AE λe he=>?_
 unfold tN
 cases hs:sn.contains e.2.2 with
 |true=>rfl
 |false=>have hm:e∈E.filterMap (tN G sn):=lh.2 ⟨e,he,by unfold tN;rw[hs];rfl⟩;have:=h e hm;rw[hs]at this;cases this
end Go.Pj
--K21
namespace Go.Ax
open Go.RowKit
def HSub.shrink{R:Cx}{N:Nat}{H:Hid}{E:List (Nat×AV)}{B:aP}{e m s n:Nat}{f:Nat->Nat->DV}(t x:Nat)(J:R.ref=[])(hE:(E.all λp=>YH (cR B) p.2)=true)(hB:(B.all λp=>aO8 (cR B) p.2)=true)
  (hx:(cR B).contains x=false) (hm:0<m) (hn:n<=m):
  HSub R N ⟨(t,.s (.j0 x s 0 n))::E,(x,some (.row e m s f))::B⟩ H ⟨(t,.s (.own x))::E,(x,some (.row e n s f))::B⟩ H:=by
 intro M V a w i TY
 have hxk:x∉cR B:=by simpa using hx
 have r:=i.env t
 have r:(AV.s (.j0 x s 0 n)).bI M V (a.tmps.getD t undef):=by
  have e1:fL ((t,AV.s (.j0 x s 0 n))::E) t=.s (.j0 x s 0 n):=by rw[gP,La rfl]
  rw[<-e1];exact r
 obtain⟨b,c,o,rJ,hv,ho,hl,hc⟩:=r
 obtain⟨b',c',cur,YR,h1,h2,h3,h4,h5,h6⟩:=i.box x (.row e m s f) (by show aH ((x,_)::B) x=_;rw[aL,La rfl])
 rw[rJ]at YR
 cases YR
 have ho:o=0:=by rw[ho O,Nat.zero_mul]
 subst ho
 let V':Nm:=λy=>if y=x then some (b,(c.1,n))else V y
 have bx:V' x=some (b,(c.1,n)):=by simp[V']
 have bo:∀y,y≠x->V' y=V y:=λy h=>by simp[V',h]
 have keep:∀y,y∈cR B->∀p,V y=some p->V' y=some p:=λy hy p h=>by rw[bo y (λe=>hxk (e▸hy))];exact h
 have back:∀y b1 c1,V' y=some (b1,c1)->∃c2,V y=some (b1,c2):=λy b1 c1 h=>by
  by_cases hy:y=x
  ·subst hy;rw[bx]at h;cases h;exact⟨_,rJ⟩
  rw[bo y hy]at h;exact⟨_,h⟩
 have live:∀y bc,aH ((x,some (.row e n s f))::B) y=some (some bc)->∃bc',aH ((x,some (.row e m s f))::B) y=some (some bc'):=by
  intro y bc h;rw[aL]at h⊢;by_cases hy:x=y
  ·rw[La hy];exact⟨_,rfl⟩
  rw[Ka hy]at h⊢;exact⟨_,h⟩
 refine⟨M,V',⟨i.defers,i.tmps,i.heap,?_,i.mem,?_,?_,?_,?_,?_,?_⟩,⟨TY.holds,TY.low,TY.apart,λy D2 b1 c1 e1 g1=>by obtain⟨_,e1⟩:=live _ _ e1;obtain⟨_,g1⟩:=back _ _ _ g1;exact TY.names y _ b1 _ e1 g1⟩,fb _ _⟩
 ·intro u;show(fL ((t,_)::E) u).bI M V' _;rw[gP];by_cases hu:t=u
  ·subst hu;rw[La rfl];exact⟨b,(c.1,n),bx,by rw[hv];simp,by simp only;omega⟩
  rw[Ka hu];have hi:=i.env u;have hi:(fL E u).bI M V (a.tmps.getD u undef):=by
   have e1:fL ((t,AV.s (.j0 x s 0 n))::E) u=fL E u:=by rw[gP,Ka hu]
   rw[<-e1];exact hi
  rcases Q4 (E:=E) (u:=u)with h|⟨p,hp,h⟩
  ·rw[h];trivial
  rw[h]at hi⊢;exact YH.mono keep (Hd.1 hE p hp) hi
 ·intro y p h;show ∃y',aH ((x,_)::B) y=some y';rw[aL];by_cases hy:x=y
  ·rw[La hy];exact⟨_,rfl⟩
  rw[Ka hy];rw[bo y (λe=>hy e.symm)]at h;obtain⟨z,hz⟩:=i.keys y p h;have hz:aH ((x,some (.row e m s f))::B) y=some z:=hz;rw[aL,Ka hy]at hz;exact⟨z,hz⟩
 ·intro y bc h;have h:aH ((x,some (.row e n s f))::B) y=some (some bc):=h;rw[aL]at h;by_cases hy:x=y
  ·subst hy;rw[La rfl]at h
   cases h
   exact⟨b,(c.1,n),cur,bx,h1,rfl,h3,by simp only;omega,h5,λk j hk hj=>h6 k j O hj⟩
  rw[Ka hy]at h;have hr:=i.box y bc (by show aH ((x,_)::B) y=_;rw[aL,Ka hy];exact h);have hm:=Q6 h;have:=Hd.1 hB _ hm;exact SF.mono keep (aDO hm) this hr
 ·intro y y' D2 bx2 b1 c1 c2 e1 e2 g1 g2;obtain⟨_,e1⟩:=live _ _ e1;obtain⟨_,e2⟩:=live _ _ e2;obtain⟨_,g1⟩:=back _ _ _ g1;obtain⟨_,g2⟩:=back _ _ _ g2;exact i.inj y y' _ _ b1 _ _ e1 e2 g1 g2
 ·intro y D2 b1 c1 e1 g1;obtain⟨_,e1⟩:=live _ _ e1;obtain⟨_,g1⟩:=back _ _ _ g1;exact i.apart y _ b1 _ e1 g1
 ·intro y D2 b1 c1 e1 g1;obtain⟨_,e1⟩:=live _ _ e1;obtain⟨_,g1⟩:=back _ _ _ g1;exact i.low y _ b1 _ e1 g1
 ·intro y hy;rw[J]at hy;cases hy
end Go.Ax
namespace Go.Pj
open Go Go.Ax Go.Ch Go.Proofs Go.Proofs.Tryz
noncomputable def aER:Code:=match f69.body with
 |some (.seq _ (.seq _ (.seq _ (.seq _ c))))=>c
 |_=>.skip
abbrev stS(G:List (ta×Int))(bm bi:Nat):St:=⟨[(3,.s (.ptr 3 0)),(4,dQ bm),(63,.s (.d (.val (.pointer (some ⟨bi,0,none⟩)))))],[(3,some (.cells [.mp 18])),(18,some (.smap .int G))]⟩
structure J2(G:List (ta×Int))(E:List gL)(bm bi:Nat)(s:List Nat×HM):Prop where
 all:eH s.2.l (fO G E s.1)
 bm:s.2.bm=bm
 clock:s.2.clock=E.length
 it:s.2.it=some (bi,s.1)
def VA(E:List gL)(sn:List Nat):Nat:=(E.filter λe=> !sn.contains e.2.2).length
def RE{G:List (ta×Int)}{E:List gL}(hE:CW E){sn:List Nat}{e:gL}(h:e∈fO G E sn):e.2.2<E.length:=by obtain⟨x,hx,_,hb⟩:=oI h;obtain⟨i,hi⟩:=dd hx;rw[hb,hE.born i x hi];exact(Ue.1 hi).1
def RD{G:List (ta×Int)}{E:List gL}(hsm:∀e∈E,e.2.1.length<=200){sn:List Nat}{e:gL}(h:e∈fO G E sn)(hs:sn.contains e.2.2=false):e.2.1.length<=200:=by obtain⟨x,hx,he⟩:=lh.1 h;have hb:=tM he;unfold tN at he;rw[<-hb.2,hs]at he;have he:x=e:=sc he;exact he▸hsm x hx
def OU{E:List gL}(hE:CW E){sn:List Nat}{b:Nat}(hb:b<E.length)(hs:sn.contains b=false):VA E (b::sn)<VA E sn:=by
 unfold VA;have key:∀L:List gL,L.filter (λe=> !(b::sn).contains e.2.2)=(L.filter λe=> !sn.contains e.2.2).filter λe=>e.2.2 !=b:=by
  intro L;rw[List.filter_filter];congr 1;funext e;by_cases h:e.2.2=b
  ·simp[h]
  simp[h]
 rw[key E];have hm:E[b]∈E.filter λe=> !sn.contains e.2.2:=by rw[rf];refine⟨Ce hb,?_⟩;rw[hE.born b _ (List.getElem?_eq_getElem hb),hs];rfl
 refine Nat.lt_of_le_of_ne (Mh _ _) λhe=>?_
 have:=List.length_filter_eq_length_iff.1 he _ hm;rw[hE.born b _ (List.getElem?_eq_getElem hb)]at this;simp at this
def UD(l:List bO)(j:Nat):(cW l j).eraseIdx j=l.eraseIdx j:=by
 unfold cW;apply Si;intro i;rw[Ux,Ux];split
 ·rw[se];have:¬j=i:=O;simp[this]
 rw[se];have:¬j=i+1:=O;simp[this]
def aC9{l:List bJ}(h:l≠[]):rG l≠[]:=by
 have hl:=Nh.2 h;unfold rG;obtain⟨n,hn⟩:∃n,l.length=n+1:=⟨l.length-1,O⟩;rw[hn];clear hn hl;induction n with
 |zero=>rw[q6];simp[qd]
 |succ n ih=>rw[q6];intro h;exact ih (List.append_eq_nil_iff.1 h).1
def Y7{h:HM}{k:bJ}{j:Nat}{q:bO}(hf:dD h.l (bs k) 0=some (j,q)):
  (y9 {h with l:=cW h.l j} (bs k)).l=h.l.eraseIdx j/\(y9 {h with l:=cW h.l j} (bs k)).bm=h.bm/\(y9 {h with l:=cW h.l j} (bs k)).clock=h.clock/\(y9 {h with l:=cW h.l j} (bs k)).it=h.it:=by
 have h1:=tU h.l (bs k) j 0
 rw[hf]at h1
 unfold y9
 simp only
 cases hq:dD (cW h.l j) (bs k) 0 with
 |none=>rw[hq]at h1;cases h1
 |some p=>
  obtain⟨i,q'⟩:=p;rw[hq]at h1;obtain rfl:i=j:=by simpa using h1
  exact⟨UD h.l i,rfl,rfl,rfl⟩
def XI{R:Cx}(J:R.ref=[])(G:List (ta×Int))(E:List gL)(hE:CW E)(hsm:∀e∈E,e.2.1.length<=200)(h:HM)(ha:eH h.l E)(jL:h.clock=E.length)(K:Exit->St->Hid->Prop)
  (hK:∀h':HM,eH h'.l (NP G E)->h'.clock=E.length->bS prog R f69.ntmps .ret ⟨[(2,dQ h'.bm)],[]⟩ (hid 175 14 h') K):
  bS prog R f69.ntmps aER ⟨[(3,.s (.ptr 3 0)),(4,dQ h.bm)],[(3,some (.cells [.mp 18])),(18,some (.smap .int G))]⟩ (hid 175 14 h) K:=by
 refine pb (pb (Sc (Kb (rc:=[]) aJ 1 J [3,18] rfl rfl (Rc rfl (n9.range rfl rfl dC rfl underlying171 λbi=>mc ?_)))))
 apply od
 refine Hg (S:=List Nat×HM) (λs=>stS G s.2.bm bi) (λs=>hid 175 14 s.2) (J2 G E h.bm bi) (λs=>VA E s.1) ([],{h with it:=some (bi,[])}) ⟨by rw[Y2];exact ha,rfl,jL,rfl⟩ ?_ ?_
 ·exact Za (ab [] lb rfl Fa Fa)
 ·rintro⟨sn,h⟩ ⟨ha,FX,jL,hit⟩;have ha:eH h.l (fO G E sn):=ha;have jL:h.clock=E.length:=jL;have hit:h.it=some (bi,sn):=hit;refine pb (Sc (Rc rfl (n9.next (bi:=bi) (sn:=sn) rfl rfl dC rfl hit ?_ (λlC=>?_) (λq hq YO=>?_))))
  ·intro q hq;obtain⟨j,hj⟩:=dd hq;obtain⟨e,he,hqe⟩:=ha.get hj;show q.born<h.clock;rw[hqe.born,jL];exact RE hE (Dd he)
  ·refine Kb (rc:=[]) aJ 1 J [3,18] rfl rfl (mc ?_);refine pb (Nc (Oe ?_));refine sA J [3,18] λ_ h'=>Pb (I':=⟨[(2,dQ h.bm)],[]⟩) (Za (ab [] lb rfl trivial Fa)) (hK h ?_ jL)
   rw[<-LR (G:=G) (E:=E) (sn:=sn)]
   ·exact ha
   intro e he;obtain⟨j,hj⟩:=dd he;have tC:j<h.l.length:=by rw[ha.len];exact(Ue.1 hj).1
   obtain⟨e',DT,hq⟩:=ha.get (List.getElem?_eq_getElem tC);rw[hj]at DT;obtain rfl:e=e':=sc DT;have:=lC _ (Ce tC);rw[hq.born]at this;simpa using this
  obtain⟨j,hj⟩:=dd hq;obtain⟨e,he,hqe⟩:=ha.get hj;have kK:=Dd he;have qT:=RE hE kK;have hns:sn.contains e.2.2=false:=by rw[<-hqe.born];simpa using YO
  have uX:=RD hsm kK hns;obtain⟨k,ts,b⟩:=e;have tR:q.key=bs k:=hqe.key;have aG7:q.born=b:=hqe.born;have uX:ts.length<=200:=uX;have hns:sn.contains b=false:=hns;obtain⟨r,YM,pE⟩:=hqe.row;have hrn:r.n=ts.length:=pE.n;have hrf:∀i c,i<ts.length->c<14->aK (r.f i c) (dW ts i c):=pE.f;refine Kb (rc:=[]) aJ 1 J [3,18] rfl rfl (mc ?_);refine pb (Nc (gd ?_));apply od;have uZ:=LN (i:=0) (AJ (G:=G) (sn:=sn) hE.keys) he;rw[Ec]at uZ;obtain⟨q0,oL,_⟩:=p8 ha uZ;have oL:dD h.l (bs k) 0=some (j,q0):=oL;have YP:(h.l.map (·.born)).Nodup:=by
   have:h.l.map (·.born)=(fO G E sn).map (·.2.2):=by
    apply Si;intro i;rw[ag,ag]
    cases hi:h.l[i]? with
    |none=>have:h.l.length<=i:=List.getElem?_eq_none_iff.1 hi;rw[Xx (by rw[<-ha.len];exact this)];rfl
    |some x=>obtain⟨e',DT,hx⟩:=ha.get hi;rw[DT];simp[hx.born]
   rw[this];exact xX hE.nodup
  refine pb (Sc (Rc rfl (n9.entry (bi:=bi) (j:=j) (sn:=sn) rfl rfl dC rfl rfl hj rfl YP YM pE.lo (Kb (rc:=[]) aJ 5 J [3,18,66] rfl rfl (mc ?_)))));refine Pb (I':=⟨[(3,.s (.ptr 3 0)),(4,dQ h.bm),(13,.s (.ptr 13 0)),(14,.s (.own 66)),(63,.s (.d (.val (.pointer (some ⟨bi,0,none⟩)))))],[(3,some (.cells [.mp 18])),(18,some (.smap .int G)),(13,some (.cells [.d (dT k)])),(66,some (.row 175 ts.length 14 (dW ts)))]⟩) (Za (ab [] lb rfl ⟨bQ,bQ,⟨rfl,cc (by rw[tR];rfl)⟩,⟨rfl,Bc hrn λi c hi hc=>hrf i c O hc⟩,oO⟩ Fa)) ?_;refine sA J [3,18,13,66] λ_ h'=>Pb (I':=⟨[(3,.s (.ptr 3 0)),(4,dQ h.bm),(13,.s (.ptr 13 0)),(14,.s (.own 66)),(15,.s (.ptr 15 0)),(63,.s (.d (.val (.pointer (some ⟨bi,0,none⟩)))))],[(3,some (.cells [.mp 18])),(18,some (.smap .int G)),(13,some (.cells [.d (dT k)])),(66,some (.row 175 ts.length 14 (dW ts))),(15,some (.cells [.d (dI (aW (tT G k-1)))]))]⟩) (Za (ab [] lb rfl Fa Fa)) (pb (Js J [3,18,13,66,15] rfl rfl λNY h'=>?_))
  refine Sa (Sb (rc:=[]) aJ mix h' _ ?_);apply Eb;refine Gb (λi:Nat=>⟨[(3,.s (.ptr 3 0)),(4,dQ h.bm),(13,.s (.ptr 13 0)),(14,.s (.own 66)),(15,.s (.ptr 15 0)),(63,.s (.d (.val (.pointer (some ⟨bi,0,none⟩))))),(73,.s (.own 66)),(74,vI ts.length),(75,vI i)],[(3,some (.cells [.mp 18])),(18,some (.smap .int G)),(13,some (.cells [.d (dT k)])),(66,some (.row 175 ts.length 14 (dW ts))),(15,some (.cells [.d (dI ((ts.take i).foldl (λa t=>mm true a (rU t).seq) (aW (tT G k-1))))]))]⟩)
   (λi=>i<=ts.length) (λi=>ts.length-i) 0 (Nat.zero_le _) ?_ ?_
  ·exact Lb [] (by rw[h'];rfl) rfl Fa Fa
  intro i hi;refine Sb (rc:=[]) aJ mix h' _ (aI (λg=>?_) (λg=>?_))
  ·have g:(i:Int)<ts.length:=bG g;have bC:i<ts.length:=O;have ew:aW ((i:Int)+1)=((i+1:Nat):Int):=aG O O;refine oi Ha (oi (show i<ts.length by omega) ?_);refine⟨i+1,O,O,?_⟩;refine Lb [] (by rw[h'];rfl) rfl ⟨bQ,bQ,bQ,bQ,⟨rfl,cc ?_⟩,oO⟩ ⟨Z,Z,Z,Z,Z,Z,Z,Z,⟨rfl,Ra ew⟩,oO⟩;show jK.cells [.d (dI (mm true ((ts.take i).foldl (λa t=>mm true a (rU t).seq) (aW (tT G k-1))) (rU (ts.getD i [])).seq))]=jK.cells [.d (dI ((ts.take (i+1)).foldl (λa t=>mm true a (rU t).seq) (aW (tT G k-1))))];rw[Bg,List.getElem?_eq_getElem bC,iw,aX bC];rfl
  have g:¬(i:Int)<ts.length:=bF g;obtain rfl:i=ts.length:=O;rw[Vd];refine Pb (I':=⟨[(3,.s (.ptr 3 0)),(4,dQ h.bm),(13,.s (.ptr 13 0)),(14,.s (.own 66)),(15,.s (.ptr 15 0)),(63,.s (.d (.val (.pointer (some ⟨bi,0,none⟩)))))],[(3,some (.cells [.mp 18])),(18,some (.smap .int G)),(13,some (.cells [.d (dT k)])),(66,some (.row 175 ts.length 14 (dW ts))),(15,some (.cells [.d (dI (P8 G k ts))]))]⟩) (Za (ab [] lb rfl Fa Fa)) (pb (eB [128] J [3,18,13,66,15] λ_ h'=>?_));refine⟨[(1001,66),(1002,15),(1003,3),(1004,13),(1005,18)],_,_,_,_,U3 ts (P8 G k ts) k G O _ rfl,rfl,⟨rfl,rfl,rfl,rfl,rfl,oO⟩,rfl,?_⟩;have SK:fX G k ts=dM (RI (P8 G k ts) (gW G (bs k))) ts:=rfl;rw[<-SK];refine Pb (I':=⟨[(14,.s (.j0 66 14 0 (fX G k ts).length)),(3,.s (.ptr 3 0)),(4,dQ h.bm),(13,.s (.ptr 13 0)),(63,.s (.d (.val (.pointer (some ⟨bi,0,none⟩)))))],[(66,some (.row 175 ts.length 14 (pK (fX G k ts)))),(3,some (.cells [.mp 18])),(18,some (.smap .int G)),(13,some (.cells [.d (dT k)]))]⟩) (Za (ab [] lb rfl Fa Fa)) (pb (sA J [66,3,18,13] λ_ h'=>?_));apply Nc;apply aI<;>intro g2
  ·have g2:(((fX G k ts).length:Int)==0)=true:=g2;have hz:fX G k ts=[]:=fh (by simpa using g2);refine pb (Sc (Kb (rc:=[]) aJ 2 J [66,3,18,13] rfl rfl (Rc rfl (n9.del (k:=bs k) rfl rfl rfl rfl underlying171 underlying9 (mc ?_)))));apply Oe;have aIU:zQ G (k,ts,b)=none:=by unfold zQ;rw[show(k,ts,b).1=k from rfl,show(k,ts,b).2.1=ts from rfl,hz];rfl
   have jO:=vH (G:=G) hE.nodup he hns;rw[aIU]at jO;have jO:fO G E (b::sn)=(fO G E sn).eraseIdx j:=jO;obtain⟨d1,d2,d3,d4⟩:=Y7 (h:={h with it:=some (bi,q.born::sn)}) oL;refine⟨(b::sn,y9 {h with l:=cW h.l j,it:=some (bi,q.born::sn)} (bs k)),⟨?_,d2.trans FX,d3.trans jL,d4.trans (by rw[aG7])⟩,OU hE qT hns,?_⟩
   ·show eH (y9 {h with l:=cW h.l j,it:=some (bi,q.born::sn)} (bs k)).l (fO G E (b::sn));rw[jO,d1];exact ha.erase
   exact zbl
  have g2:(((fX G k ts).length:Int)==0)=false:=g2;have hnz:fX G k ts≠[]:=λhz=>by rw[hz]at g2;cases g2
  have ND:(fX G k ts).length<=ts.length:=Mh _ _;have lB:0<(fX G k ts).length:=Nh.2 hnz;refine gd (Pb (I':=⟨[(14,.s (.j0 66 14 0 (fX G k ts).length)),(3,.s (.ptr 3 0)),(4,dQ h.bm),(13,.s (.ptr 13 0)),(63,.s (.d (.val (.pointer (some ⟨bi,0,none⟩)))))],[(66,some (.row 175 ts.length 14 (pK (fX G k ts)))),(3,some (.cells [.mp 18])),(18,some (.smap .int G)),(13,some (.cells [.d (dT k)]))]⟩) (Za (ab [] lb rfl Fa Fa)) ?_);refine Pb (HSub.shrink 14 66 J rfl rfl rfl O ND) (pb (eB [130] J [66,3,18,13] λ_ h'=>?_));refine⟨[(1001,66)],_,_,_,_,aD3 (fX G k ts) (pK (fX G k ts)) (λi c hi hc=>Wa (by unfold pK;rw[La hi])) O,rfl,⟨rfl,oO⟩,rfl,?_⟩;have hsl:(hV (fX G k ts)).length=(fX G k ts).length:=List.length_mergeSort _;refine Pb (I':=⟨[(3,.s (.ptr 3 0)),(4,dQ h.bm),(13,.s (.ptr 13 0)),(14,.s (.own 66)),(63,.s (.d (.val (.pointer (some ⟨bi,0,none⟩)))))],[(3,some (.cells [.mp 18])),(18,some (.smap .int G)),(13,some (.cells [.d (dT k)])),(66,some (.row 175 (hV (fX G k ts)).length 14 (dW (hV (fX G k ts)))))]⟩) (Za (ab [] lb rfl ⟨bQ,bQ,bQ,⟨rfl,cc (by rw[hsl];rfl)⟩,oO⟩ Fa)) ?_;refine bS.aC4 (ks:=[3,18,13,66]) (T:=tab) (rc:=[1500132]) aJ (λf hf=>?_) mix (λx hx=>Ao ?_) (λx bc hx=>p7 hx) (λx hx=>by rw[J]at hx;cases hx) 4 rfl rfl rfl (λc hc=>by cases hc) ?_
  ·have hf:[1500132].contains (f+2000000)=true:=hf;simp at hf
  ·simp only[wb,Sd,Kd]at hx;rcases hx with rfl|rfl|rfl|rfl <;> rfl
  refine⟨[(1001,66)],_,_,_,_,SD (hV (fX G k ts)) O,rfl,⟨rfl,oO⟩,rfl,?_⟩;refine⟨kR,?_⟩;refine Xh (b:=66) (k:=bs k) (n:=(hV (fX G k ts)).length) (n':=(rG (hV (fX G k ts))).length) (lo:=0) J rfl rfl rfl rfl (.inr rfl) rfl O underlying171 underlying9 (λhn=>?_) (λg3 aP7 v=>?_)
  ·have:=tU h.l (bs k) j 0;rw[oL]at this;have hn:dD (cW h.l j) (bs k) 0=none:=hn;rw[hn]at this
   cases this
  generalize pD:(⟨g3,0+(rG (hV (fX G k ts))).length,aP7,0,_⟩:mX)=row;have hpt:rV G k ts=rG (hV (fX G k ts)):=rfl;have aPD:rV G k ts≠[]:=aC9 (by rw[Ne,<-List.length_eq_zero_iff,hsl];omega);have QS:wA row (rV G k ts):=by subst pD;refine⟨rfl,by rw[hpt];simp,λi c hi hc=>Wa ?_⟩;show pK (rG (hV (fX G k ts))) i c=_;unfold pK;rw[<-hpt,La hi]
  have aIU:zQ G (k,ts,b)=some (k,rV G k ts,b):=by
   unfold zQ;rw[show(fX G (k,ts,b).1 (k,ts,b).2.1).isEmpty=false by
    show(fX G k ts).isEmpty=false
    cases hq:fX G k ts with
    |nil=>exact absurd hq hnz
    |cons _ _=>rfl]
   rfl
  have jO:=vH (G:=G) hE.nodup he hns;rw[aIU]at jO;have jO:fO G E (b::sn)=(fO G E sn).modify j λ_=>(k,rV G k ts,b):=jO
  obtain⟨d1,d2,d3,d4⟩:=yF (h:={h with it:=some (bi,q.born::sn)}) (v:=v) ha oL QS aPD;have aIX:(fO G E sn).modify j (λe=>(e.1,rV G k ts,e.2.2))=(fO G E sn).modify j λ_=>(k,rV G k ts,b):=by
   apply Si;intro i;rw[se,se];by_cases y7:j=i
   ·subst y7;rw[he];rfl
   simp[y7]
  refine⟨(b::sn,eR {h with l:=cW h.l j,it:=some (bi,q.born::sn)} (bs k) v (some row)),⟨?_,d2.trans FX,d3.trans jL,d4.trans (by rw[aG7])⟩,OU hE qT hns,?_⟩
  ·show eH (eR {h with l:=cW h.l j,it:=some (bi,q.born::sn)} (bs k) v (some row)).l (fO G E (b::sn));rw[jO,<-aIX];exact d1
  exact zbl
end Go.Pj
--K22
namespace Go.Ax
def Ji:List (ta×Nat×DV)->List (ta×Nat×DV)->Prop
 |[],[]=>True
 |(k,b,x)::r,(k',b',y)::s=>k=k'/\b=b'/\aK x y/\Ji r s
 |_,_=>False
def Ji.iN:∀{l m:List (ta×Nat×DV)} {vs:List wa},Ji l m->lY l vs=lY m vs
 |[],[],_,_=>rfl
 |(_,_,_)::_,(_,_,_)::_,[],⟨_,_,_,_⟩=>rfl
 |(k,b,x)::r,(k',b',y)::s,v::vs,⟨h1,h2,_,h⟩=>by subst h1 h2;simp only[lY];rw[Ji.iN h]
 |[],_::_,_,h=>h.elim
 |_::_,[],_,h=>h.elim
def Ji.rep{M:Mem}:∀{l m:List (ta×Nat×DV)} {vs:List wa},Ji l m->wO M l vs->wO M m vs
 |[],[],_,_,r=>r
 |(_,_,_)::_,(_,_,_)::_,v::_,⟨_,_,h3,h⟩,hr=>⟨h3 M v hr.1,Ji.rep h hr.2⟩
 |(_,_,_)::_,(_,_,_)::_,[],_,hr=>hr.elim
 |[],_::_,_,h,_=>h.elim
 |_::_,[],_,h,_=>h.elim
def aY.dm{l m:List (ta×Nat×DV)}{n n':Nat}(hn:n=n')(h:Ji l m):aY (.dm l n) (.dm m n'):=by subst hn;rintro M V w x ⟨b,c,vs,h1,h2,h3⟩;exact⟨b,c,vs,h1,by rw[<-h.iN];exact h2,h.rep h3⟩
end Go.Ax
namespace Go.Pj
open Go Go.Ax Go.Ch Go.Proofs Go.Proofs.Tryz
def mu(ts:List bJ):DV:=.fU ts.length 14 (dW ts)
def NO(E:List gL):List (ta×Nat×DV):=E.map λe=>(bs e.1,e.2.2,mu e.2.1)
def pT(l:List Fact):List gL:=NP (kL l l.length) (fM l l.length)
def GI(l:List Fact):List (ta×Nat×DV):=NO (pT l)
def eH.le:∀{l:List bO} {E:List gL},eH l E->Ji (ml 14 l) (NO E)
 |[],[],_=>trivial
 |q::r,e::s,h=>by obtain⟨hq,ht⟩:=h;obtain⟨r0,hr,gF⟩:=hq.row;refine⟨hq.key,hq.born,?_,eH.le ht⟩;unfold Wk;rw[hr];exact Qe gF.n λi j hi hj=>gF.f i j (by rw[<-gF.n];exact hi) hj
 |[],_::_,h=>h.elim
 |_::_,[],h=>h.elim
def eH.rows:∀{l:List bO} {E:List gL},eH l E->∀q∈l,(∃r,q.row=some r/\r.lo=0)\/(q.row=none/\q.val=.slice none 0 0)
 |[],[],_,q,hq=>by cases hq
 |q::r,e::s,h,x,hx=>by
  rcases wb.1 hx with rfl|hx
  ·obtain⟨r0,hr,gF⟩:=h.1.row;exact .inl ⟨r0,hr,gF.lo⟩
  exact eH.rows h.2 x hx
 |[],_::_,h,_,_=>h.elim
 |_::_,[],h,_,_=>h.elim
def aAM(l:List Fact)(hf:∀f∈l,f.fits)(hv:∀f∈l,fR f=0)(hl:l.length<=200):bW prog 69 [cJ l] [] (.s (.mp 99)) [(99,.dm (GI l) (fM l l.length).length)]:=by
 refine gJ func69 rfl rfl call69 aJ rfl rfl rfl rfl (λR J=>Gj ?_);have J:R.ref=[]:=J;refine sA J [] λ_ h'=>sA J [] λ_ h'=>pb (Sc (Rc rfl (n9.mk (e:=175) (s:=14) rfl rfl dC λbm=>Kb (rc:=[]) aJ 1 J [18,3] rfl rfl (mc ?_))))
 refine pb (sA J [18,3] λ_ h'=>?_);refine od (Hg (S:=Nat×HM) (λs=>⟨[(3,.s (.ptr 3 0)),(4,dQ s.2.bm),(20,cJ l),(21,vI l.length),(22,vI s.1)],[(3,some (.cells [.mp 18])),(18,some (.smap .int (kL l s.1)))]⟩) (λs=>hid 175 14 s.2) (J1 l) (λs=>l.length-s.1) (0,⟨bm,[],0,none⟩) ⟨Nat.zero_le _,trivial,rfl,rfl⟩ ?_ ?_)
 ·exact Za (ab [] lb rfl Fa Fa)
 rintro⟨i,h⟩ ⟨hi,ha,jL,hit⟩;have hi:i<=l.length:=hi;have ha:eH h.l (fM l i):=ha;have jL:h.clock=(fM l i).length:=jL;have hit:h.it=none:=hit;refine sA J [3,18] λ_ h'=>pb (Nc ?_)
 refine aI (λg=>gd ?_) (λg=>Oe ?_)
 ·have g:(i:Int)<l.length:=bG g;have bC:i<l.length:=O;have hg:l.getD i default=l[i]:=aX bC;have oW:(l.getD i default).fits:=by rw[hg];exact hf _ (Ce bC)
  have aCB:fR (l.getD i default)=0:=by rw[hg];exact hv _ (Ce bC)
  have hG:=LH bC;have hE:=p9 bC;have ew:aW ((i:Int)+1)=((i+1:Nat):Int):=aG O O;generalize hF:l.getD i default=f at oW aCB hG hE;refine pb (od ?_);refine sA J [3,18] λ_ h'=>oi Ha ?_
  refine Pb (I':=⟨[(3,.s (.ptr 3 0)),(4,dQ h.bm),(6,.s (.ptr 6 0)),(20,cJ l),(21,vI l.length),(22,vI i)],[(3,some (.cells [.mp 18])),(18,some (.smap .int (kL l i))),(6,some (.cells (xT f)))]⟩) (Za (ab [] lb rfl ⟨bQ,bQ,⟨rfl,cc (by rw[<-hF];rfl)⟩,oO⟩ Fa)) ?_;refine sA J [3,18,6] λ_ h'=>aB (Key f oW) (pb (sA J [3,18,6] λ_ h'=>?_))
  refine aB (ZZ (bT f) W7) (sA J [3,18,6] λ_ h'=>?_);apply Nc;apply aI<;>intro g2
  ·have g2:DN f=true:=g2;have hG2:kL l (i+1)=jR (kL l i) (bs (Lib.trimPrefix (bT f) W7)) (mm true (gW (kL l i) (bs (Lib.trimPrefix (bT f) W7))) (aW (f.seq+1))):=by rw[hG];unfold stepG;rw[g2];rfl
   have T6:fM l (i+1)=fM l i:=by rw[hE];unfold A3;rw[g2];rfl
   refine eA J [3,18,6] λ_ h'=>eA J [3,18,6] λ_ h'=>?_
   refine⟨(i+1,h),⟨by show i+1<=l.length;omega,by rw[T6];exact ha,by rw[T6];exact jL,hit⟩,by show l.length-(i+1)<l.length-i;omega,?_⟩;exact(Za (ab [] lb rfl ⟨bQ,⟨rfl,cc Us⟩,oO⟩ ⟨Z,Z,Z,Z,⟨rfl,Ra ew⟩,oO⟩))
  have g2:DN f=false:=g2;have hG2:kL l (i+1)=kL l i:=by rw[hG];unfold stepG;rw[g2];rfl
  have T6:fM l (i+1)=o6 (fM l i) (bT f) (dR f):=by rw[hE];unfold A3;rw[g2];rfl
  refine gd (sA J [3,18,6] λ_ h'=>?_);refine aB (aGD f oW) (Pb (I':=⟨[(3,.s (.ptr 3 0)),(4,dQ h.bm),(7,vT (bT f)),(11,.s (.ptr 11 0)),(12,vT (dR f)),(20,cJ l),(21,vI l.length),(22,vI i)],[(3,some (.cells [.mp 18])),(18,some (.smap .int (kL l i))),(11,some (.cells (xT (eQ f))))]⟩) (Za (ab [] lb rfl Fa Fa)) ?_);refine Sc (Kb (rc:=[]) aJ 4 J [3,18,11] rfl rfl (Rc rfl (Vl (k:=bs (bT f)) rfl rfl dC rfl rfl rfl underlying171 underlying9 zeroValue176 ?_)))
  cases uZ:fE (fM l i) (bT f) 0 with
  |none=>
   have uY:=tV ha uZ;rw[uY];refine Kb (rc:=[]) aJ 5 J [3,18,11] rfl rfl (ob dC ?_);refine ob dC (Rc rfl (Xh (b:=60) (k:=bs (bT f)) (n:=1) (n':=1) (lo:=0) J rfl rfl rfl rfl (.inl ⟨rfl,rfl,rfl⟩) rfl dC underlying171 underlying9 (λ_=>hit) (λg cap v=>mc ?_)));generalize pD:(⟨g,0+1,cap,0,_⟩:mX)=row;have pE:wA row [dR f]:=by
    subst pD;refine⟨rfl,rfl,λa c ha hc=>?_⟩;obtain rfl:a=0:=by have:a<1:=ha;omega
    exact Mx f c hc
   obtain⟨s1,s2,s3,s4⟩:=MA (v:=v) ha jL uY pE sM;have H3:o6 (fM l i) (bT f) (dR f)=fM l i++ [(bT f,[dR f],(fM l i).length)]:=by unfold o6;rw[uZ]
   refine Pb (I':=⟨[(3,.s (.ptr 3 0)),(4,dQ h.bm),(20,cJ l),(21,vI l.length),(22,vI i)],[(3,some (.cells [.mp 18])),(18,some (.smap .int (kL l i)))]⟩) (Za (ab [] lb rfl Fa Fa)) (eA J [3,18] λ_ h'=>?_);refine⟨(i+1,eR h (bs (bT f)) v (some row)),⟨by show i+1<=l.length;omega,by rw[T6,H3];exact s1,by rw[T6,H3,ed];exact s3,s4.trans hit⟩,by show l.length-(i+1)<l.length-i;omega,?_⟩;exact(Za (ab [] lb rfl ⟨bQ,⟨rfl,cc Us⟩,oO⟩ ⟨Z,⟨rfl,Wb (by show dQ h.bm=dQ (eR h (bs (bT f)) v (some row)).bm;rw[s2])⟩,Z,Z,⟨rfl,Ra ew⟩,oO⟩))
  |some p=>
   obtain⟨j,e⟩:=p;obtain⟨q,uY,hq⟩:=p8 ha uZ;have uY:dD h.l (bs (bT f)) 0=some (j,q):=uY;obtain⟨_,FK,hek⟩:=xU uZ;have FK:(fM l i)[j]? =some e:=FK;obtain⟨r,YM,pE⟩:=hq.row;have hsm:=oJ (l:=l) (i:=i) (Dd FK);rw[uY];show match q.row with|some r=>_|none=>_
   rw[YM];obtain⟨g,n,cap,lo,F⟩:=r;obtain rfl:lo=0:=pE.lo;obtain rfl:n=e.2.1.length:=pE.n;have hFF:∀a c,a<e.2.1.length->c<14->aK (F a c) (dW e.2.1 a c):=pE.f;refine Kb (rc:=[]) aJ 5 J [3,18,11,55] rfl rfl (ob (show(e.2.1.length+1)*160<=140737488355328 by omega) ?_);refine ob (nJ λc hc=>aED f c hc) (Rc rfl (Xh (b:=60) (k:=bs (bT f)) (n:=e.2.1.length+1) (n':=e.2.1.length+1) (lo:=0) J rfl rfl rfl rfl (.inl ⟨rfl,rfl,rfl⟩) rfl (Nat.succ_pos _) underlying171 underlying9 (λ_=>hit) (λg2 R0 v=>mc ?_)));generalize pD:(⟨g2,0+(e.2.1.length+1),R0,0,_⟩:mX)=row;have QS:wA row (e.2.1++ [dR f]):=by
    subst pD;refine⟨rfl,sM,λa c hA hc=>?_⟩;by_cases hae:a<e.2.1.length
    ·rw[show dW (e.2.1++ [dR f]) a c=dW e.2.1 a c by unfold dW;simp only[fc,Jc hae]];exact zcY
    obtain rfl:a=e.2.1.length:=by simp at hA;omega
    rw[show dW (e.2.1++ [dR f]) e.2.1.length c=mA (dR f) c by unfold dW;simp];show aK (jM e.2.1.length F _ e.2.1.length c) _;rw[WV];exact Mx f c hc
   obtain⟨s1,s2,s3,s4⟩:=yF (v:=v) ha uY QS sM;have H3:o6 (fM l i) (bT f) (dR f)=(fM l i).modify j λe'=>(e'.1,e.2.1++ [dR f],e'.2.2):=by unfold o6;rw[uZ];show(fM l i).modify j _=(fM l i).modify j _;exact zaE
   refine Pb (I':=⟨[(3,.s (.ptr 3 0)),(4,dQ h.bm),(20,cJ l),(21,vI l.length),(22,vI i)],[(3,some (.cells [.mp 18])),(18,some (.smap .int (kL l i)))]⟩) (Za (ab [] lb rfl Fa Fa)) (eA J [3,18] λ_ h'=>?_);refine⟨(i+1,eR {h with l:=cW h.l j} (bs (bT f)) v (some row)),⟨by show i+1<=l.length;omega,by rw[T6,H3];exact s1,by rw[T6,H3,Zq];exact s3.trans jL,s4.trans hit⟩,by show l.length-(i+1)<l.length-i;omega,?_⟩;exact(Za (ab [] lb rfl ⟨bQ,⟨rfl,cc Us⟩,oO⟩ ⟨Z,⟨rfl,Wb (by show dQ h.bm=dQ (eR {h with l:=cW h.l j} (bs (bT f)) v (some row)).bm;rw[s2])⟩,Z,Z,⟨rfl,Ra ew⟩,oO⟩))
 have g:¬(i:Int)<l.length:=bF g;obtain rfl:i=l.length:=O;refine Pb (I':=⟨[(3,.s (.ptr 3 0)),(4,dQ h.bm)],[(3,some (.cells [.mp 18])),(18,some (.smap .int (kL l l.length)))]⟩) (Za (ab [] lb rfl Fa Fa)) (XI J (kL l l.length) (fM l l.length) (rZ l _) (λe he=>Xb (oJ he) hl) h ha jL _ (λh2 ha2 JA=>?_));refine Pb (HSub.aE3 (x:=99) (t:=2) ha2.rows rfl rfl) (Pb (I':=⟨[(2,.s (.mp 99))],[(99,some (.dm (GI l) (fM l l.length).length))]⟩) (Za (ab [] lb rfl ⟨⟨rfl,aY.dm JA ha2.le⟩,oO⟩ Fa)) ?_);exact Yi gj
end Go.Pj
namespace Go.Pj
open Go Go.Ax Go.Ch Go.Proofs Go.Proofs.Tryz Go.Sort Go.RowKit
def NF{w:Aa}{g n:Nat}{os:Array Obj}{cur:Array wa}{e:Ea}{fr:Nat×Nat}(d:Array bJ)(hb:w.heap[g]? =some (.cells cur e fr)):
  (grow (putRow encStr (Sort.ahead w n) g 0 d) os).heap[g]? =some (.cells (putCells encStr 0 d cur) e fr):=by
 have hg:g<w.heap.size:=(Lh.1 hb).1
 rw[heap_grow_old _ _ (by simpa using hg)]
 simp[putRow,mapBlock,Sort.ahead,Vq,hb,onCells]
def z8{w:Aa}{g n k:Nat}{os:Array Obj}(d:Array bJ)(hk:k<w.heap.size)(h:k≠g):
  (grow (putRow encStr (Sort.ahead w n) g 0 d) os).heap[k]? =w.heap[k]? :=by
 rw[heap_grow_old _ _ (by simpa using hk)]
 simp[putRow,mapBlock,Sort.ahead,Vq,Ne.symm h]
def JO{cur:Array wa}{m:List bJ}{i:Nat}(hi:i<m.length)(hc:i<cur.size):(putCells encStr 0 m.toArray cur)[i]? =some (.string (bs (m.getD i []))):=by unfold putCells;rw[Array.getElem?_mapIdx];simp[hc,hi,encStr,bs]
def qF(l:List bJ):(hV l).length=l.length:=by unfold hV;simp
def aNX(l:List bJ)(f0:Nat->Nat->DV)(SO:∀i j,i<l.length->j<1->aK (f0 i j) (uJ l i j))(hl:l.length<=1000000):
  bW prog 134 [.s (.own 1001)] [(1001,.row 9 l.length 1 f0)] (.t []) [(1001,.row 9 l.length 1 (uJ (hV l)))]:=by
 refine⟨call134,λM V w vs _ hr hM rJ hβ=>?_⟩
 obtain⟨b,c,cur,hx,h1,h2,h3,h4,h5,h6⟩:=rJ.rep 1001 _ (Ib.2 rfl)
 match vs,hr with
 |[v],⟨hv,_⟩=>
  obtain⟨b',c',QO,V8,Q1⟩:=hv;rw[hx]at QO
  cases QO
  subst V8;have mL:cur.size=c.1:=by rw[h3,oh]
  have cY:∀j,j<l.length->cur[j]? =some (.string (bs (l.getD j []))):=by intro j hj;obtain⟨u,e1,e2⟩:=h6 j 0 hj dC;rw[oh,nh]at e1;have:u=.string (bs (l.getD j [])):=SO j 0 hj dC M u e2;rw[e1,this]
  have hH:Holds encStr w b 0 l.toArray:=by
   intro j hj;have hj:j<l.length:=by simpa using hj
   refine⟨?_,by simp[World.frozen?,h1]⟩;simp only[World.cell?,h1,Ec,Option.isSome_none,Xj,rh];rw[cY j hj];simp[hj,encStr,bs]
  have hb:b<w.heap.size:=(Lh.1 h1).1;rw[h2];refine(Tryz.slices_Sort_string b 0 c.1 l w hH hb O).mono ?_;rintro e w' ⟨he,n,os,hw⟩;have hw:w'=grow (putRow encStr (Sort.ahead w n) b 0 (hV l).toArray) os:=hw;have hlen:(hV l).length=l.length:=qF l;have pD:=NF (w:=w) (n:=n) (os:=os) (hV l).toArray h1;have aCG:∀k,k<w.heap.size->k≠b->w'.heap[k]? =w.heap[k]? :=λk hk fJ=>by rw[hw];exact z8 _ hk fJ
  rw[<-hw]at pD;have hs:w.heap.size<=w'.heap.size:=by rw[hw];simp[putRow,mapBlock,Sort.ahead]
  have jA:∀x,x∈names [(1001,jK.row 9 l.length 1 (uJ (hV l)))]->x=1001:=λx hx=>Ib.1 hx
  refine⟨.tuple #[],M,V,he,Kf V,⟨[],rfl,oO⟩,fb _ _,?_,⟨?_,?_,?_,?_⟩,?_,?_,?_,?_,hs,?_,oO⟩
  ·exact qt
  ·intro x h;rw[jA x h];exact⟨b,c,hx⟩
  ·intro x bx h;obtain⟨rfl,rfl⟩:=Prod.mk.inj (Ib.1 h);refine⟨b,c,_,hx,pD,h2,by simp[putCells,h3],h4,h5,λi j hi hj=>?_⟩;obtain rfl:j=0:=O;refine⟨.string (bs ((hV l).getD i [])),?_,rfl⟩;rw[oh,nh];exact JO O O
  ·exact zdK
  ·exact zbn
  ·exact zdn
  ·rw[hw];rfl
  ·rw[hw];rfl
  ·rw[hw];rfl
  intro k hk fJ;exact aCG k hk (λh=>fJ 1001 c (by rw[h];exact hx))
 |[],h=>exact h.elim
 |_::_::_,h=>exact h.2.elim
def aD4:aF prog 134 [.s (.d (.val (.slice none 0 0)))] (.t []):=by
 refine⟨call134,λM w vs _ hr hM=>?_⟩
 match vs,hr with
 |[v],⟨hv,_⟩=>have hv:v=.slice none 0 0:=hv;subst hv;exact(Tryz.slices_Sort_string_none none 0 w).mono zat
 |[],h=>exact h.elim
 |_::_::_,h=>exact h.2.elim
abbrev OL:=ta×Nat×DV
def kT(q:OL):bJ:=q.1.data.toList
def QC(L:List OL):List bJ:=hV (L.map kT)
structure DOK(L:List OL)(n:Nat):Prop where
 lt:∀q∈L,q.2.1<n
 nd:(L.map (·.2.1)).Nodup
def born_inj{L:List OL}(hn:(L.map (·.2.1)).Nodup){q v:OL}(hq:q∈L)(hv:v∈L)(h:q.2.1=v.2.1):q=v:=by
 induction L with
 |nil=>cases hq
 |cons a r ih=>
  have hn':=Ug.1 (show(a.2.1::r.map (·.2.1)).Nodup from hn);rcases wb.1 hq with rfl|hq'
  ·rcases wb.1 hv with rfl|V8
   ·rfl
   exact absurd (Lc.2 ⟨v,V8,h.symm⟩) hn'.1
  rcases wb.1 hv with rfl|V8
  ·exact absurd (Lc.2 ⟨q,hq',h⟩) hn'.1
  exact ih hn'.2 hq' V8
def G6{L:List OL}(hn:(L.map (·.2.1)).Nodup):L.Nodup:=by have:=gw.1 hn;exact this.imp λ{a b} h e=>h (by rw[e])
def all_seen{L vs:List OL}(hn:(L.map (·.2.1)).Nodup)(hv:(vs.map (·.2.1)).Nodup)(hs:∀v∈vs,v∈L)(ha:∀q∈L,q.2.1∈vs.map (·.2.1)):vs.Perm L:=by
 have n1:vs.Nodup:=G6 hv;have n2:L.Nodup:=G6 hn;refine(Px n1 n2).2 λq=>⟨hs q,λhq=>?_⟩
 obtain⟨v,V8,e⟩:=Lc.1 (ha q hq);rw[born_inj hn hq (hs v V8) e.symm];exact V8
def XJ{a b:List bJ}(h:a.Perm b):hV a=hV b:=by
 refine(rP b (hV a) ((Oi _ _).trans h) ?_);have:=Rv (le:=λx y:bJ=>decide (x<=y)) (λa b c h1 h2=>by
  simp only[ae]at*;exact tr h1 h2) (λa b=>by
  simp only[Sh,ae];exact List.le_total a b) a
 refine this.imp λ{x y} h=>?_
 rw[Kk,Qd];exact Dj.2 ai
def SX(L:List OL)(n:Nat)(h:DOK L n)(hl:L.length<=1000000):bW prog 70 [.s (.mp 1001)] [(1001,.dm L n)] (.s (.d (J4 (QC L)))) [(1001,.dm L n)]:=by
 refine lH func70 rfl rfl call70 aJ rfl rfl rfl rfl (λR J=>?_);refine sX J (sX J ?_);refine Sa (sX J ?_);apply Eb;refine Gb (λvs:List OL=>⟨[(3,.s (.mo (vs.reverse.map kT).isEmpty 100)),(6,.s (.ptr 6 0))],[(1001,some (.dm L n)),(6,some (.iter 1001 n (vs.map (·.2.1)))),(100,some (.b8 9 (vs.reverse.map kT).length 1 (uJ (vs.reverse.map kT))))]⟩)
  (λvs=>(vs.map (·.2.1)).Nodup/\∀v∈vs,v∈L) (λvs=>L.length-vs.length) [] ⟨Py,λ_ h=>by cases h⟩ ?_ ?_
 ·exact Lb [(100,1000)] lb rfl ⟨bQ,bQ,⟨rfl,rfl⟩,oO⟩ ⟨⟨rfl,fg rfl⟩,Fa⟩
 rintro vs ⟨hv,hs⟩;refine sX J ⟨rfl,h.lt,λlC=>?_,λq hq hns=>?_⟩
 ·have hp:=all_seen h.nd hv hs lC;have he:hV (vs.reverse.map kT)=QC L:=XJ (((List.reverse_perm vs).trans hp).map kT);have hlen:(vs.reverse.map kT).length=L.length:=by simp[hp.length_eq]
  apply sX J;generalize hks:vs.reverse.map kT=ks at he hlen
  cases hz:ks.isEmpty with
  |true=>
   refine Tb (I':=⟨[(3,.s (.d (.val (.slice none 0 0))))],[(1001,some (.dm L n))]⟩) (Lb [] lb rfl Fa ⟨⟨rfl,nx rfl⟩,oO⟩) (sX J ?_);refine aB aD4 (eX J ?_);have:ks=[]:=by simpa using hz
   refine⟨?_,rfl,oO⟩;rw[<-he,this,show hV []=[] by simp[hV]];exactλM u r=>(Xc Nd:aU (.s (.d eO)) (.s (.d (J4 [])))) M nb u r
  |false=>refine Tb (aM.own (z:=false) (e:=9) (n:=ks.length) (s:=1) (f:=uJ ks) 3 100 rfl rfl rfl) (Tb (I':=⟨[(3,.s (.own 100))],[(1001,some (.dm L n)),(100,some (.row 9 ks.length 1 (uJ ks)))]⟩) (Lb [] lb rfl Fa Fa) ?_);refine Sa (Sb (rc:=[134]) aJ mix J _ ?_);refine⟨[(1001,100)],_,_,_,_,aNX ks (uJ ks) (λ_ _ _ _=>λ_ _ r=>r) O,rfl,⟨rfl,oO⟩,rfl,?_⟩;refine eX J ⟨Ia ?_,rfl,oO⟩;rw[he,show ks.length=(QC L).length by rw[<-he,qF]];rfl
 have fZ:vs.length<L.length:=by
  have h1:(q::vs).Nodup:=G6 (L:=q::vs) (Ug.2 ⟨hns,hv⟩);have:=wz h1 (λx hx=>by
   rcases wb.1 hx with rfl|hx
   ·exact hq
   exact hs x hx:q::vs⊆L)
  simp at this;omega
 refine sX J (Eb (sX J ?_));refine⟨rfl,h.nd,q,hq,rfl,?_⟩;refine eX J (ob dC ?_);refine ob (by rw[dK];show((vs.reverse.map kT).length+1)*16<=_;simp;omega) ?_;refine ob (nJ (AS rfl)) ?_;refine⟨q::vs,⟨Ug.2 ⟨hns,hv⟩,λx hx=>?_⟩,by show L.length-(vs.length+1)<L.length-vs.length;omega,?_⟩
 ·rcases wb.1 hx with rfl|hx
  ·exact hq
  exact hs x hx
 have e:(q::vs).reverse.map kT=vs.reverse.map kT++ [kT q]:=sM;refine Lb [(100,14)] lb rfl ⟨bQ,bQ,⟨rfl,?_⟩,oO⟩ ⟨⟨rfl,Ye ?_⟩,Fa⟩
 ·show aY _ (.b8 9 ((q::vs).reverse.map kT).length 1 (uJ ((q::vs).reverse.map kT)));rw[e];exact Nf (el:=λn _=>dT n) (x:=kT q) (AS rfl)
 rw[e];exact cA _ _
end Go.Pj
namespace Go.Pj
open Go Go.Ax Go.Ch Go.Proofs Go.Proofs.Tryz
def WG(G:List (ta×Int))(E:List gL):NP G E=fO G E (E.map (·.2.2)):=by refine(LR λe he=>?_).symm;obtain⟨e',DT,_,hb⟩:=oI he;rw[hb];simpa using⟨_,_,DT⟩
def C9(l:List Fact):((pT l).map (·.1)).Nodup:=by unfold pT;rw[WG];exact AJ (rZ l _).keys
def aEJ(l:List Fact):((pT l).map (·.2.2)).Nodup:=by unfold pT;rw[WG];exact xX (rZ l _).nodup
def A4{l:List Fact}{x:gL}(h:x∈pT l):∃e∈fM l l.length,x.1=e.1/\x.2.2=e.2.2/\x.2.1=rV (kL l l.length) e.1 e.2.1/\x.2.1≠[]:=by
 obtain⟨e,he,hx⟩:=lh.1 h;unfold zQ at hx
 cases hk:(fX (kL l l.length) e.1 e.2.1).isEmpty with
 |true=>rw[hk]at hx;cases hx
 |false=>
  rw[hk]at hx
  cases hx
  refine⟨e,he,rfl,rfl,rfl,aC9 λhz=>?_⟩;have:fX (kL l l.length) e.1 e.2.1=[]:=by rw[<-List.length_eq_zero_iff,<-qF,hz];rfl
  rw[this]at hk;cases hk
def O0{l:List Fact}{x:gL}(h:x∈pT l):0<x.2.1.length/\x.2.1.length<=l.length:=by obtain⟨e,he,_,_,hp,fJ⟩:=A4 h;refine⟨Nh.2 fJ,?_⟩;rw[hp];refine Xb (aF6 _ _) ?_;rw[qF];exact Xb (Mh _ _) (oJ he)
def aEG(l:List Fact):DOK (GI l) (fM l l.length).length:=by
 refine⟨λq hq=>?_,?_⟩
 ·obtain⟨x,hx,rfl⟩:=Lc.1 hq;obtain⟨e,he,_,hb,_⟩:=A4 hx;obtain⟨i,hi⟩:=dd he;show x.2.2<_;rw[hb,(rZ l _).born i e hi];exact(Ue.1 hi).1
 unfold GI NO;rw[Rn];exact aEJ l
def YV(E:List gL):(NO E).map kT=E.map (·.1):=by unfold NO;rw[Rn];exact Xv λe _=>CK e.1
def LM:∀(E:List gL) (k:bJ) (i:Nat),ah (NO E) (bs k)=(fE E k i).map λp=>mu p.2.2.1
 |[],_,_=>rfl
 |e::r,k,i=>by
  show(bif bs k==bs e.1 then _ else _)=_;rw[fE];have:(bs k==bs e.1)=(k==e.1):=sB k e.1;rw[this]
  cases k==e.1 with
  |true=>rfl
  |false=>exact LM r k (i+1)
def zH(E:List gL)(k:bJ):bJ:=match fE E k 0 with
 |some p=>p.2.2.1.getD (p.2.2.1.length-1) []
 |none=>[]
def pS(l:List Fact):List bJ:=hV ((pT l).map (·.1))
def aEH(l:List Fact):QC (GI l)=pS l:=by unfold QC pS GI;rw[YV]
def cntF(l:List Fact):List Fact:=(pS l).map λk=>rU (zH (pT l) k)
def KO{l:List Fact}{k:bJ}(h:k∈pS l):∃j e,fE (pT l) k 0=some (j,e)/\e∈pT l:=by have h1:k∈(pT l).map (·.1):=(Oi _ _).mem_iff.1 h;obtain⟨e,he,rfl⟩:=Lc.1 h1;obtain⟨j,hj⟩:=dd he;exact⟨_,e,LN (C9 l) hj,he⟩
def aD1(E:List gL)(k t:bJ):(o6 E k t).length<=E.length+1:=by unfold o6;split <;> simp
def AK(l:List Fact):∀i,(fM l i).length<=i
 |0=>mb _
 |i+1=>by
  have ih:=AK l i;by_cases h:i<l.length
  ·rw[p9 h];unfold A3
   cases DN (l.getD i default)with
   |true=>exact Xb ih (Nat.le_succ _)
   |false=>exact Xb (aD1 _ _ _) O
  have:fM l (i+1)=fM l i:=xd
  rw[this];omega
def OZ(l:List Fact):(pS l).length<=l.length:=by unfold pS;rw[qF,bg];refine Xb (Qg _ _) (AK l l.length)
def aF8(l:List Fact)(hf:∀f∈l,f.fits)(hv:∀f∈l,fR f=0)(hl:l.length<=200):aF prog 35 [cJ l] (cJ (cntF l)):=by
 refine eW func35 rfl rfl call35 rfl rfl (λR J=>?_);refine sX J (Sa (Sb (rc:=[69]) aJ mix J _ ?_));refine⟨[(99,8)],_,_,_,_,aAM l hf hv hl,rfl,trivial,rfl,?_⟩;refine sX J (Sa (Sa (Sb (rc:=[70]) aJ mix J _ ?_)));refine⟨[(1001,8)],_,_,_,_,SX (GI l) _ (aEG l) (by show(NO (pT l)).length<=_;unfold NO;rw[bg];have:=AK l l.length;have:=Qg (zQ (kL l l.length)) (fM l l.length);show(NP _ _).length<=_;unfold NP;omega),rfl,⟨rfl,oO⟩,rfl,?_⟩;rw[aEH];have ND:=OZ l;apply Eb;refine Gb (λi:Nat=>⟨[(3,.s (.mp 8)),(4,.s (.mo ((cntF l).take i).isEmpty 100)),(10,.s (.d (J4 (pS l)))),(11,vI (pS l).length),(12,vI i)],[(8,some (.dm (GI l) (fM l l.length).length)),(100,some (.b8 67 ((cntF l).take i).length 13 (nE ((cntF l).take i))))]⟩)
  (λi=>i<=(pS l).length) (λi=>(pS l).length-i) 0 (Nat.zero_le _) ?_ ?_
 ·exact Qa J [(100,1000)] rfl ⟨bQ,⟨rfl,rfl⟩,oO⟩ ⟨Z,⟨rfl,fg rfl⟩,Fa⟩
 intro i hi;refine sX J (Sa (Cb ?_));refine aI (λg=>Qb ?_) (λg=>Ld ?_)
 ·have g:(i:Int)<(pS l).length:=bG g;have bC:i<(pS l).length:=O;generalize hk:(pS l).getD i []=k;have kK:k∈pS l:=by rw[<-hk,aX bC];exact Ce bC
  obtain⟨j,e,uZ,he⟩:=KO kK;have hfd:ah (GI l) (bs k)=some (mu e.2.1):=by show ah (NO (pT l)) (bs k)=_;rw[LM _ _ 0,uZ];rfl
  obtain⟨hl1,hl2⟩:=O0 he;have ew:aW ((e.2.1.length:Int)-1)=((e.2.1.length-1:Nat):Int):=by rw[aG O O];omega
  have vA:(cntF l).length=(pS l).length:=by unfold cntF;simp
  have qP:(cntF l).getD i default=rU (e.2.1.getD (e.2.1.length-1) []):=by rw[aX O];unfold cntF;rw[On,<-aX (d:=[]) bC,hk];unfold zH;rw[uZ]
  have ht1:(cntF l).take (i+1)=(cntF l).take i++ [(cntF l).getD i default]:=by rw[Bg,List.getElem?_eq_getElem O,aX O];rfl
  have e1:aW ((i:Int)+1)=((i+1:Nat):Int):=aG O O;refine Sa (Eb (sX J ?_));refine oi Ha (eX J ?_);refineλr hr=>?_
  have hr:ah (GI l) (bs ((pS l).getD i []))=r:=hr;rw[hk,hfd]at hr;subst hr;refineλr hr=>?_
  have hr:ah (GI l) (bs ((pS l).getD i []))=r:=hr;rw[hk,hfd]at hr;subst hr;refine oi (show 0<=aW ((e.2.1.length:Int)-1)/\aW ((e.2.1.length:Int)-1)<e.2.1.length by rw[ew];omega) ?_;apply ob dC;refine ob (by rw[dK];show(((cntF l).take i).length+1)*144<=_;rw[pf];omega) ?_;refine ob (nJ λc hc=>by match c,hc with|0,_|1,_|2,_|3,_|4,_|5,_|6,_|7,_|8,_|9,_|10,_|11,_|12,_=>rfl) (eX J ?_);refine⟨i+1,O,O,?_⟩;refine Qa J [(100,29)] rfl ⟨bQ,⟨rfl,?_⟩,oO⟩ ⟨Z,⟨rfl,Ye ?_⟩,Z,Z,⟨rfl,Ra e1⟩,oO⟩
  ·show aY _ (.b8 67 ((cntF l).take (i+1)).length 13 (nE ((cntF l).take (i+1))));rw[ht1,qP];have ewn:(aW ((e.2.1.length:Int)-1)).toNat=e.2.1.length-1:=by rw[ew];omega
   refine Nf (el:=J0) (x:=rU (e.2.1.getD (e.2.1.length-1) [])) λc hc=>?_
   rw[<-ewn];exact qz
  rw[ht1];exact cA _ _
 have g:¬(i:Int)<(pS l).length:=bF g;obtain rfl:i=(pS l).length:=O;refine sX J (eX J ?_);have vA:(cntF l).length=(pS l).length:=by unfold cntF;simp
 rw[<-vA,Vd];exact aC.mo
abbrev l0(p:Proj)(Y:List Fact):List SV:=[.d (dS p.name),.d (dI p.aT.x),.d (dI p.aT.y),.d (dI p.aT.side),.d (dI p.aT.dO),.d (dI p.aT.rows),.d (b5 p.aT.levels),.d (dS p.chan.name),.d (x3 p.chan.aZ),.d (dI p.chan.over),.d (dI p.chan.buffer),.d (zM p.chan.Ya),.d (kV p.gr.bK),.d (pN p.gr.cC),.d (dI p.agree),.d (dI p.fG),.d (CG p.cO),.d (RL p.cU),.d (q7 p.aQ),.d (oY p.bA),.d (RN Y)]
abbrev SR(p:Proj)(Y:List Fact):AV:=.g (l0 p Y)
def E2{f:Fact->Int}:∀{l:List Fact},oH f l=0->∀x∈l,f x=0
 |[],_,x,h=>by cases h
 |a::r,he,x,h=>by
  rw[xS]at he
  cases h0:(f a !=0)with
  |true=>rw[h0]at he;have he:f a=0:=he;rw[he]at h0;cases h0
  |false=>
   rw[h0]at he;rcases wb.1 h with rfl|h
   ·simpa using h0
   exact E2 he x h
def WT{p:Proj}{f:Fact}(h:JB p f=0):fR f=0/\uM p f=false:=by
 unfold JB at h
 cases h1:(fR f !=0)with
 |true=>rw[h1]at h;have h:fR f=0:=h;rw[h]at h1;cases h1
 |false=>
  rw[h1]at h;refine⟨by simpa using h1,?_⟩
  cases h2:uM p f with
  |false=>rfl
  |true=>rw[h2]at h;cases h
structure Ci(p:Proj)(l:List Fact):Prop where
 proj:iG p=0
 len:l.length<=200
 fmt:∀f∈l,fR f=0
 shape:∀f∈l,uM p f=false
def YW{p:Proj}{l:List Fact}(h:iI p l=0):Ci p l:=by
 unfold iI at h
 cases h1:(iG p !=0)with
 |true=>rw[h1]at h;have h:iG p=0:=h;rw[h]at h1;cases h1
 |false=>
  rw[h1]at h
  cases h2:decide ((l.length:Int)>200)with
  |true=>rw[h2]at h;cases h
  |false=>
   rw[h2]at h;have hz:=E2 (f:=JB p) (l:=l) h;have h2:¬(l.length:Int)>200:=by simpa using h2
   exact⟨by simpa using h1,O,λf hf=>(WT (hz f hf)).1,λf hf=>(WT (hz f hf)).2⟩
def j6(p:Proj)(l:List Fact)(month first:Int):Int:=bif iI p l !=0 then iI p l else bif !within month first 24 then 2 else 0
def tL{p:Proj}{l:List Fact}{m f:Int}(h:j6 p l m f=0):Ci p l/\within m f 24=true:=by
 unfold j6 at h
 cases h1:(iI p l !=0)with
 |true=>rw[h1]at h;have h:iI p l=0:=h;rw[h]at h1;cases h1
 |false=>
  rw[h1]at h;refine⟨YW (by simpa using h1),?_⟩
  cases h2:within m f 24 with
  |true=>rfl
  |false=>rw[h2]at h;cases h
def MP(p:Proj)(l:List Fact)(month first:Int)(hp:p.fits)(hf:∀f∈l,f.fits)(hl:l.length<=9223372036854775807)(he:j6 p l month first=0):
  aF prog 13 [oR p,cJ l,vI month,vI first] (.t [.g (l0 p (cntF l)),.s (.d (dI 0))]):=by
 obtain⟨hk,hw⟩:=tL he
 have h1:iI p l=0:=by
  unfold j6 at he
  cases h1:(iI p l !=0)with
  |true=>rw[h1]at he;exact he
  |false=>simpa using h1
 refine eP func13 rfl rfl call13 rfl rfl λR J=>?_
 refine aB (IS p l hp hf hl) ?_
 refine aI (λh2=>?_) (λ_=>?_)
 ·have h2:(iI p l !=0)=true:=h2;rw[h1]at h2;cases h2
 refine aB (lV first 24 month rfl) ?_
 refine aI (λh2=>?_) (λ_=>?_)
 ·have h2:within month first 24=false:=by simpa using h2
  rw[hw]at h2;cases h2
 refine aB (aF8 l hf hk.fmt hk.len) ?_
 refine aD ?_
 exact db _
def XC(a8 month:Int)(f:Fact):Bool:=f.kind==0&&f.a8==a8&&f.month==month
def OM(Y:List Fact)(a8 month:Int):Int:=Ch.cL (XC a8 month) Y 0
def lT(Y:List Fact)(a8 month:Int)(cell:Nat):Int:=
 bif decide (OM Y a8 month<0)then 30000 else(Y.getD (OM Y a8 month).toNat default).levels.getD cell 0
def aKS(f:Fact)(a8 month:Int)(c d:Nat->DV)(hc:c 0=dI a8)(hd:d 0=dI month):aF prog 150 [pX f,.s (.d (.rp 1 c)),.s (.d (.rp 1 d))] (vB (XC a8 month f)):=by refine Ze (args:=[pX f,.s (.d (.rp 1 λ_=>dI a8)),.s (.d (.rp 1 λ_=>dI month))]) ?_ ⟨⟨Ja _,Ja _,Ja _,Ja _,Ja _,Ja _,Ja _,Ja _,Ja _,Ja _,Ja _,Ja _,Ja _,oO⟩,Zc λj hj=>Wa (by rw[show j=0 by omega];exact hc),Zc λj hj=>Wa (by rw[show j=0 by omega];exact hd),oO⟩;exact eP func150 rfl rfl call150 rfl rfl λR J=>Gm
def yN{α:Type} [Inhabited α] (q:α->Bool):∀(l:List α) (k:Nat),0<=Ch.cL q l k->k<=(Ch.cL q l k).toNat/\(Ch.cL q l k).toNat-k<l.length/\q (l.getD ((Ch.cL q l k).toNat-k) default)=true
 |[],k,h=>by simp[Ch.cL]at h
 |x::r,k,h=>by
  unfold Ch.cL at h⊢
  cases hx:q x with
  |true=>simp[hx]
  |false=>rw[hx]at h;obtain⟨h1,h2,h3⟩:=yN q r (k+1) h;simp only[Ua]at h⊢;refine⟨O,by simp;omega,?_⟩;rw[show(Ch.cL q r (k+1)).toNat-k=((Ch.cL q r (k+1)).toNat-(k+1))+1 by omega];exact h3
def aAK{Y:List Fact}{a8 month:Int}(h:0<=OM Y a8 month):(OM Y a8 month).toNat<Y.length/\(Y.getD (OM Y a8 month).toNat default).kind=0:=by obtain⟨_,h2,h3⟩:=yN (XC a8 month) Y 0 h;refine⟨h2,?_⟩;have h3:XC a8 month (Y.getD (OM Y a8 month).toNat default)=true:=h3;unfold XC at h3;simp only[Bool.and_eq_true,Tf]at h3;exact h3.1.1
def GC(p:Proj)(Y:List Fact)(a8 month:Int)(cell:Nat)(hl:Y.length<=9223372036854775807)
  (hc:∀f∈Y,f.kind=0->cell<f.levels.length):aF prog 77 [SR p Y,vI a8,vI month,vI cell] (vI (lT Y a8 month cell)):=by
 refine eP func77 rfl rfl call77 rfl rfl λR J=>?_
 refine aB (YF Y hl 150 2 _ (XC a8 month) (λx _=>aKS x a8 month _ _ rfl rfl)) ?_
 apply aI<;>intro h1
 ·have h1:decide (OM Y a8 month<0)=true:=h1;exact Ia (by unfold lT;rw[h1];rfl)
 ·have h1:decide (OM Y a8 month<0)=false:=h1;have JX:¬OM Y a8 month<0:=by simpa using h1
  have fZ:=aAK (Y:=Y) (a8:=a8) (month:=month) O;refine oi ⟨by show 0<=OM Y a8 month;omega,by show OM Y a8 month<Y.length;omega⟩ ?_;have hk:=hc _ (by rw[aX fZ.1];exact Ce fZ.1) fZ.2;refine oi (show(0:Int)<=(cell:Int)/\(cell:Int)<((Y.getD (OM Y a8 month).toNat default).levels.length:Int) by omega) ?_;exact Ia (by unfold lT;rw[h1];rfl)
def X4(a b c:Int):Int:=mm true (mm false a b) (mm false (mm true a b) c)
def median(a b c:Int):aF prog 78 [vI a,vI b,vI c] (vI (X4 a b c)):=by exact eP func78 rfl rfl call78 rfl rfl λR J=>db _
def fF(p:Proj)(Y:List Fact)(month:Int)(cell:Nat):Int×Bool:=
 let a:=lT Y 0 month cell
 let b:=lT Y 1 month cell
 let c:=lT Y 2 month cell
 bif a==30000 then(b,false)else bif b==30000 then(a,false)
 else bif decide (aW (mm true a b-mm false a b)<=p.agree)then(aW (aW (Int.tdiv (aW (aW (aW (a+b)+40000)+1)) 2)-20000),false)
 else bif c==30000 then(c,true)else(X4 a b c,false)
def uP(p:Proj)(Y:List Fact)(month:Int)(cell:Nat)(hl:Y.length<=9223372036854775807)
  (hc:∀f∈Y,f.kind=0->cell<f.levels.length):aF prog 43 [SR p Y,vI month,vI cell] (.t [.s (.d (dI (fF p Y month cell).1)),.s (.d (.val (.bool (fF p Y month cell).2)))]):=by
 refine eP func43 rfl rfl call43 rfl rfl λR J=>?_
 refine aB (GC p Y 0 month cell hl hc) ?_
 refine aB (GC p Y 1 month cell hl hc) ?_
 refine aD ?_
 generalize ha:lT Y 0 month cell=a
 generalize hb:lT Y 1 month cell=b
 generalize pV:lT Y 2 month cell=c
 apply aI<;>intro h1
 ·have h1:(a==30000)=true:=h1;have e:fF p Y month cell=(b,false):=by unfold fF;simp only[ha,hb,h1,cond_true]
  exact Wm
 have h1:(a==30000)=false:=h1
 apply aI<;>intro h2
 ·have h2:(b==30000)=true:=h2;have e:fF p Y month cell=(a,false):=by unfold fF;simp only[ha,hb,h1,h2,cond_true,Ua]
  exact Wm
 have h2:(b==30000)=false:=h2
 apply aI<;>intro h3
 ·have h3:decide (aW (mm true a b-mm false a b)<=p.agree)=true:=h3;have e:fF p Y month cell=(aW (aW (Int.tdiv (aW (aW (aW (a+b)+40000)+1)) 2)-20000),false):=by unfold fF;simp only[ha,hb,h1,h2,h3,cond_true,Ua]
  exact oi dC Wm
 have h3:decide (aW (mm true a b-mm false a b)<=p.agree)=false:=h3
 refine aB (GC p Y 2 month cell hl hc) ?_
 rw[pV]
 apply aI<;>intro h4
 ·have h4:(c==30000)=true:=h4;have e:fF p Y month cell=(c,true):=by unfold fF;simp only[ha,hb,pV,h1,h2,h3,h4,cond_true,Ua]
  exact Wm
 ·have h4:(c==30000)=false:=h4;refine aB (median a b c) ?_;have e:fF p Y month cell=(X4 a b c,false):=by unfold fF;simp only[ha,hb,pV,h1,h2,h3,h4,Ua]
  exact Wm
end Go.Pj
