/- Part 4: lemmas that the proofs of this seat share; by itself it claims nothing. -/
import Derived.Test.YtmmfnloidfibkaaGreatDoorChecked
import Derived.Test.YtmmfnloidfibkaaGreatDoorPt3
set_option maxRecDepth 100000
set_option linter.defProp false
--TyZ
namespace Go.Ax
abbrev zi:wa:=.int .i64 0
abbrev zt:wa:=.string ⟨#[]⟩
abbrev zl:wa:=.slice none 0 0
def aO5:TypeDesc->Bool
 |.struct _=>true
 |_=>false
def Sb{P:Ba}{t:Ea}{i:bV}{d:TypeDesc}(h:P.underlying t=some d)(ti:TypeInfo)(hi:P.info? t=some ti:=by kernel_rfl)(hd:Ck d=i.j7/\ti.size=i.size/\ti.bytes=i.bytes/\(match i.j7 with|.struct=>true|.array _ _=>true|_=>false)=i.agg/\aO5 d=false/\i.ints=false:=by exact⟨rfl,rfl,rfl,rfl,rfl,rfl⟩)(hz:∃z,ti.zero=some z/\z.cells.toList=i.zero/\(i.agg=false->i.zero=[z]):=by exact⟨_,rfl,rfl,λh=>by first|(cases h;done)|rfl⟩):b6 P t i:=by
 obtain⟨a,b,c,e,f,g⟩:=hd;obtain⟨z,u,v,w⟩:=hz
 exact⟨⟨d,h,a⟩,⟨ti,hi,b,c,z,u,v⟩,e,λY q=>(by rw[h]at q;cases q;cases f),λq=>⟨ti,z,hi,u,w q⟩,λq=>(by rw[g]at q;cases q),λq=>(by rw[g]at q;cases q)⟩
def EZ(P:Ba):List Field->List (Nat×Nat)->Bool
 |[],[]=>true
 |f::Y,(o,z)::r=>Nat.beq f.offset o&&(match P.info? f.type with|some ti=>Nat.beq ti.size z|none=>false)&&EZ P Y r
 |_,_=>false
def EZ.ok{P:Ba}:∀{Y:List Field}{l:List (Nat×Nat)},EZ P Y l=true->sY P Y l
 |[],[],_=>trivial
 |f::Y,(o,z)::r,h=>by
  simp only[EZ,lb]at h;obtain⟨⟨h1,h2⟩,h3⟩:=h
  cases hi:P.info? f.type with
  |none=>rw[hi]at h2;cases h2
  |some ti=>rw[hi]at h2;exact⟨Qb h1,⟨ti,hi,Qb h2⟩,EZ.ok h3⟩
 |[],_::_,h=>by cases h
 |_::_,[],h=>by cases h
def Bc{P:Ba}{t:Ea}{i:bV}{Y:Array Field}(h:P.underlying t=some (.struct Y))(ti:TypeInfo)(hx:i.ints=true->∃n,n<=9999/\Qf P n Y.toList i.zero 0:=by exactλh=>by cases h)(hi:P.info? t=some ti:=by kernel_rfl)(hd:SP.struct=i.j7/\ti.size=i.zero.length/\ti.size=i.size/\ti.bytes=i.bytes/\i.agg=true:=by exact⟨rfl,rfl,rfl,rfl,rfl⟩)(hz:∃z,ti.zero=some z/\z.cells.toList=i.zero:=by exact⟨_,rfl,rfl⟩)(hf:EZ P Y.toList i.wJ=true:=by kernel_rfl)(he:i.ints=true->P.eqGuardType P.depth t=false/\P.stoodInHeld t=false:=by intro h;first|(cases h;done)|exact⟨kR,kR⟩):b6 P t i:=by
 obtain⟨a,y,b,c,e⟩:=hd;obtain⟨z,u,v⟩:=hz
 exact⟨⟨_,h,a⟩,⟨ti,hi,b,c,z,u,v⟩,(by rw[<-a,e]),λfs' e=>(by rw[h]at e;cases e;exact EZ.ok hf),λq=>(by rw[e]at q;cases q),λq=>(he q).1,λq=>by obtain⟨n,hn,k⟩:=hx q;exact cX (dJ h (he q).2 (iK hi y) k) (by omega)⟩
def mf{P:Ba}{q:Prop}{Y:List Field}{zs:List wa}(h:Qf P 1 Y zs 0)(_:q):∃n,n<=9999/\Qf P n Y zs 0:=⟨1,by decide,h⟩
def qTd{P:Ba}{q:Prop}{Y:List Field}{zs:List wa}(h:Qf P 2 Y zs 0)(_:q):∃n,n<=9999/\Qf P n Y zs 0:=⟨2,by decide,h⟩
def mY.Gq{P:Ba}{t:Ea}{a:Bool}{zs:List wa}(h:mY P 1 t a zs):∀n,mY P (n+1) t a zs
 |0=>h
 |n+1=>(h.Gq n).up
section
variable{P:Ba}{n j:Nat}{f:Field}{Y:List Field}{zs:List wa}
def af:Qf P n [] [] j:=rfl
def ic{k:IntKind}{z:Int}(u:P.underlying f.type=some (.int k))(r:Qf P (n+1) Y zs (j+1))(h:f.name≠ "_"/\f.offset=j:=by exact⟨by decide,rfl⟩):Qf P (n+1) (f::Y) (.int k z::zs) j:=⟨h.1,h.2,false,[.int k z],zs,rfl,(cB z u).Gq n,r⟩
def Cf{z:ta}(u:P.underlying f.type=some .string)(r:Qf P (n+1) Y zs (j+1))(h:f.name≠ "_"/\f.offset=j:=by exact⟨by decide,rfl⟩):Qf P (n+1) (f::Y) (.string z::zs) j:=⟨h.1,h.2,false,[.string z],zs,rfl,(gA z u).Gq n,r⟩
def qTf{z:Bool}(u:P.underlying f.type=some .bool)(r:Qf P (n+1) Y zs (j+1))(h:f.name≠ "_"/\f.offset=j:=by exact⟨by decide,rfl⟩):Qf P (n+1) (f::Y) (.bool z::zs) j:=⟨h.1,h.2,false,[.bool z],zs,rfl,(aDG z u).Gq n,r⟩
end
abbrev Ad(k:Nat):bV:=⟨.slice k,1,24,false,[zl],[],false⟩
end Go.Ax
namespace Go.Proofs.Tryz
open Go Go.Ax
open Tryz
def UK:mY prog 2 105 true [.int .i64 0,.int .i64 0]:=dJ underlying105 kR (iK (ti:=t105) kR rfl) ⟨by decide,rfl,false,[.int .i64 0],[.int .i64 0],rfl,(cB 0 underlying3),by decide,rfl,false,[.int .i64 0],[],rfl,(cB 0 underlying3),rfl⟩
def lp:bV:=⟨.int .i64,1,8,false,[zi],[],false⟩
def Qk:bV:=⟨.struct,6,64,true,[zi,zi,zi,zi,zi,zl],[(0,1),(1,1),(2,1),(3,1),(4,1),(5,1)],false⟩
def Gh:bV:=⟨.struct,20,320,true,[zt,zi,zi,zi,zi,zi,zl,zt,zl,zi,zi,zl,zl,zl,zi,zi,zl,zl,zl,zl],[(0,1),(1,6),(7,5),(12,2),(14,1),(15,1),(16,1),(17,1),(18,1),(19,1)],false⟩
def ci:bV:=⟨.struct,7,104,true,[zi,zi,zi,zi,zl,zl,zl],[(0,1),(1,1),(2,1),(3,1),(4,1),(5,1),(6,1)],false⟩
def Gg:bV:=⟨.struct,13,144,true,[zi,zi,zi,zi,zi,zi,zi,zi,zi,zt,zt,zt,zl],[(0,1),(1,1),(2,1),(3,1),(4,1),(5,1),(6,1),(7,1),(8,1),(9,1),(10,1),(11,1),(12,1)],false⟩
def He:bV:=⟨.struct,4,96,true,[zl,zl,zl,zl],[(0,1),(1,1),(2,1),(3,1)],false⟩
def Nq:bV:=⟨.struct,3,32,true,[zi,zt,zi],[(0,1),(1,1),(2,1)],true⟩
def Oo:bV:=⟨.struct,6,72,true,[zt,zi,zi,zi,zl,zi],[(0,1),(1,1),(2,1),(3,1),(4,1),(5,1)],false⟩
def Lx:bV:=⟨.struct,3,32,true,[zt,zi,zi],[(0,1),(1,2)],true⟩
def tab:List (Nat×bV):=[(1,⟨.func,1,8,false,[.nilFunc],[],false⟩),(2,⟨.int .i64,1,8,false,[zi],[],false⟩),(3,lp),(4,⟨.bool,1,1,false,[.bool false],[],false⟩),(5,⟨.int .u8,1,1,false,[.int .u8 0],[],false⟩),(6,⟨.int .u8,1,1,false,[.int .u8 0],[],false⟩),(7,⟨.struct,4,24,true,[zi,zi,.bool false,.int .u8 0],[(0,1),(1,1),(2,1),(3,1)],true⟩),(9,⟨.string,1,16,false,[zt],[],false⟩),(22,Ad 3),(24,Qk),(25,Ad 103),(26,Ad 157),(28,⟨.struct,5,80,true,[zt,zl,zi,zi,zl],[(0,1),(1,1),(2,1),(3,1),(4,1)],false⟩),(29,Ad 107),(30,Ad 112),(32,⟨.struct,2,48,true,[zl,zl],[(0,1),(1,1)],false⟩),(33,Ad 114),(34,Ad 143),(35,Ad 116),(36,Ad 118),(38,Gh),(39,Ad 67),(43,Ad 61),(44,Ad 85),(46,ci),(47,⟨.int .i64,1,8,false,[zi],[],false⟩),(67,Gg),(163,Ad 224),(165,He),(224,Nq),(147,Ad 9),(75,Ad 82),(82,⟨.struct,7,72,true,[zi,zi,zt,zi,zi,zi,zt],[(0,1),(1,1),(2,1),(3,1),(4,1),(5,1),(6,1)],true⟩),(52,Ad 51),(57,⟨.struct,3,40,true,[zi,zl,zi],[(0,1),(1,1),(2,1)],false⟩),(51,⟨.struct,4,48,true,[zi,zt,zi,zt],[(0,1),(1,1),(2,1),(3,1)],true⟩),(53,Ad 59),(59,⟨.struct,2,24,true,[zt,zi],[(0,1),(1,1)],true⟩),(61,⟨.struct,4,40,true,[zt,zi,zi,zi],[(0,1),(1,1),(2,1),(3,1)],true⟩),(155,Ad 127),(157,⟨.struct,3,48,true,[zt,zi,zl],[(0,1),(1,1),(2,1)],false⟩),(110,Ad 109),(112,⟨.struct,4,56,true,[zt,zi,zi,zl],[(0,1),(1,1),(2,1),(3,1)],false⟩),(116,Oo),(70,⟨.struct,21,344,true,[zt,zi,zi,zi,zi,zi,zl,zt,zl,zi,zi,zl,zl,zl,zi,zi,zl,zl,zl,zl,zl],[(0,20),(20,1)],false⟩),(73,Ad 24),(85,⟨.struct,2,24,true,[zt,zi],[(0,1),(1,1)],true⟩),(105,⟨.struct,2,16,true,[zi,zi],[(0,1),(1,1)],true⟩),(107,⟨.struct,5,48,true,[zt,zi,zi,zi,zi],[(0,1),(1,1),(2,1),(3,2)],true⟩),(143,⟨.struct,3,32,true,[zt,zi,zi],[(0,1),(1,1),(2,1)],true⟩),(300,⟨.struct,2,32,true,[zl,.bool false],[(0,1),(1,1)],false⟩),(255,⟨.struct,5,48,true,[zi,zi,zi,zt,zi],[(0,1),(1,1),(2,1),(3,1),(4,1)],true⟩),(171,⟨.map 9 176,1,8,false,[.map none],[],false⟩),(176,Ad 175),(122,⟨.map 9 135,1,8,false,[.map none],[],false⟩),(135,Ad 180),(180,⟨.struct,14,152,true,[zi,zi,zi,zi,zi,zi,zi,zi,zi,zt,zt,zt,zl,zi],[(0,13),(13,1)],false⟩),(88,⟨.map 90 3,1,8,false,[.map none],[],false⟩),(90,⟨.struct,2,24,true,[zi,zt],[(0,1),(1,1)],true⟩),(94,Ad 90),(195,Ad 5),(200,⟨.iface,1,16,false,[.nilIface],[],false⟩),(130,Ad 134),(186,⟨.struct,2,48,true,[zl,zl],[(0,2)],false⟩),(127,⟨.struct,2,16,true,[zi,zi],[(0,1),(1,1)],true⟩),(134,⟨.struct,3,32,true,[zt,zi,zi],[(0,1),(1,1),(2,1)],true⟩),(103,⟨.struct,5,40,true,[zi,zi,zi,zi,zi],[(0,1),(1,1),(2,1),(3,1),(4,1)],true⟩),(109,⟨.struct,2,24,true,[zi,zt],[(0,1),(1,1)],true⟩),(114,⟨.struct,2,24,true,[zt,zi],[(0,1),(1,1)],true⟩),(118,Lx),(283,⟨.func,1,8,false,[.nilFunc],[],false⟩),(175,⟨.struct,14,160,true,[zi,zi,zi,zi,zi,zi,zi,zi,zi,zt,zt,zt,zl,zt],[(0,13),(13,1)],false⟩),(238,⟨.map 9 3,1,8,false,[.map none],[],false⟩),(153,⟨.int .u64,1,8,false,[.int .u64 0],[],false⟩),(339,⟨.func,1,8,false,[.nilFunc],[],false⟩),(205,⟨.int .i64,1,8,false,[zi],[],false⟩),(212,⟨.int .u32,1,4,false,[.int .u32 0],[],false⟩),(214,⟨.int .u64,1,8,false,[.int .u64 0],[],false⟩),(312,Ad 315),(315,⟨.struct,4,32,true,[zi,zi,zi,zi],[(0,1),(1,1),(2,1),(3,1)],true⟩),(318,⟨.func,1,8,false,[.nilFunc],[],false⟩),(320,⟨.struct,2,16,true,[zi,.nilFunc],[(0,1),(1,1)],false⟩),(321,⟨.array 4 320,8,64,true,[zi,.nilFunc,zi,.nilFunc,zi,.nilFunc,zi,.nilFunc],[],false⟩),(393,⟨.map 9 4,1,8,false,[.map none],[],false⟩),(394,⟨.map 3 4,1,8,false,[.map none],[],false⟩),(267,⟨.int .u64,1,8,false,[.int .u64 0],[],false⟩),(430,⟨.float .f64,1,8,false,[.float .f64 0],[],false⟩)]
def aJ:cD prog tab:=⟨Sb underlying1 t1,Sb underlying2 t2,Sb underlying3 t3,Sb underlying4 t4,Sb underlying5 t5,Sb underlying6 t6,Bc underlying7 t7 (mf (ic underlying2 (ic underlying3 (qTf underlying4 (ic underlying6 af))))),Sb underlying9 t9,Sb underlying22 t22,Bc underlying24 t24,Sb underlying25 t25,Sb underlying26 t26,Bc underlying28 t28,Sb underlying29 t29,Sb underlying30 t30,Bc underlying32 t32,Sb underlying33 t33,Sb underlying34 t34,Sb underlying35 t35,Sb underlying36 t36,Bc underlying38 t38,Sb underlying39 t39,Sb underlying43 t43,Sb underlying44 t44,Bc underlying46 t46,Sb underlying47 t47,Bc underlying67 t67,Sb underlying163 t163,Bc underlying165 t165,Bc underlying224 t224 (mf (ic underlying3 (Cf underlying9 (ic underlying3 af)))),Sb underlying147 t147,Sb underlying75 t75,Bc underlying82 t82 (mf (ic underlying3 (ic underlying3 (Cf underlying9 (ic underlying3 (ic underlying3 (ic underlying3 (Cf underlying9 af)))))))),Sb underlying52 t52,Bc underlying57 t57,Bc underlying51 t51 (mf (ic underlying3 (Cf underlying9 (ic underlying3 (Cf underlying9 af))))),Sb underlying53 t53,Bc underlying59 t59 (mf (Cf underlying9 (ic underlying3 af))),Bc underlying61 t61 (mf (Cf underlying9 (ic underlying3 (ic underlying3 (ic underlying3 af))))),Sb underlying155 t155,Bc underlying157 t157,Sb underlying110 t110,Bc underlying112 t112,Bc underlying116 t116,Bc underlying70 t70,Sb underlying73 t73,Bc underlying85 t85 (mf (Cf underlying9 (ic underlying3 af))),Bc underlying105 t105 (mf (ic underlying3 (ic underlying3 af))),Bc underlying107 t107 (qTd (Cf underlying9 (ic underlying3 (ic underlying3 ⟨by decide,rfl,true,[.int .i64 0,.int .i64 0],[],rfl,UK,rfl⟩)))),Bc underlying143 t143 (mf (Cf underlying9 (ic underlying3 (ic underlying3 af)))),Bc underlying300 t300,Bc underlying255 t255 (mf (ic underlying3 (ic underlying3 (ic underlying3 (Cf underlying9 (ic underlying3 af)))))),Sb underlying171 t171,Sb underlying176 t176,Sb underlying122 t122,Sb underlying135 t135,Bc underlying180 t180,Sb underlying88 t88,Bc underlying90 t90 (mf (ic underlying3 (Cf underlying9 af))),Sb underlying94 t94,Sb underlying195 t195,Sb underlying200 t200,Sb underlying130 t130,Bc underlying186 t186,Bc underlying127 t127 (mf (ic underlying3 (ic underlying3 af))),Bc underlying134 t134 (mf (Cf underlying9 (ic underlying3 (ic underlying3 af)))),Bc underlying103 t103 (mf (ic underlying3 (ic underlying3 (ic underlying3 (ic underlying3 (ic underlying3 af)))))),Bc underlying109 t109 (mf (ic underlying3 (Cf underlying9 af))),Bc underlying114 t114 (mf (Cf underlying9 (ic underlying3 af))),Bc underlying118 t118 (qTd (Cf underlying9 ⟨by decide,rfl,true,[.int .i64 0,.int .i64 0],[],rfl,UK,rfl⟩)),Sb underlying283 t283,Bc underlying175 t175,Sb underlying238 t238,Sb underlying153 t153,Sb underlying339 t339,Sb underlying205 t205,Sb underlying212 t212,Sb underlying214 t214,Sb underlying312 t312,Bc underlying315 t315 (mf (ic underlying3 (ic underlying3 (ic underlying3 (ic underlying3 af))))),Sb underlying318 t318,Bc underlying320 t320,Sb underlying321 t321,Sb underlying393 t393,Sb underlying394 t394,Sb underlying267 t267,Sb underlying430 t430,trivial⟩
end Go.Proofs.Tryz
