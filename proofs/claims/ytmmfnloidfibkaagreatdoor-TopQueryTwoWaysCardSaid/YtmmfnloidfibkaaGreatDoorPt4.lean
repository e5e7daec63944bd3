/- Part 4: lemmas that the proofs of this seat share; by itself it claims nothing. -/
import Derived.Test.YtmmfnloidfibkaaGreatDoorChecked
import Derived.Test.YtmmfnloidfibkaaGreatDoorPt3
set_option maxRecDepth 100000
set_option linter.defProp false
--TyZ
namespace Go.Ax
abbrev zi:wa:=.int .i64 0
abbrev zt:wa:=.string ⟨#[]⟩
abbrev zl:wa:=.slice none 0 0
def aO5:TypeDesc->Bool
 |.struct _=>true
 |_=>false
def Ob{P:Ba}{t:Ea}{i:bV}{d:TypeDesc}(h:P.underlying t=some d)(ti:TypeInfo)(hi:P.info? t=some ti:=by kernel_rfl)(hd:rk d=i.j7/\ti.size=i.size/\ti.bytes=i.bytes/\(match i.j7 with|.struct=>true|.array _ _=>true|_=>false)=i.agg/\aO5 d=false/\i.ints=false:=by exact⟨rfl,rfl,rfl,rfl,rfl,rfl⟩)(hz:∃z,ti.zero=some z/\z.cells.toList=i.zero/\(i.agg=false->i.zero=[z]):=by exact⟨_,rfl,rfl,λh=>by first|(cases h;done)|rfl⟩):b6 P t i:=by
 obtain⟨a,b,c,e,f,g⟩:=hd;obtain⟨z,u,v,w⟩:=hz
 exact⟨⟨d,h,a⟩,⟨ti,hi,b,c,z,u,v⟩,e,λY q=>(by rw[h]at q;cases q;cases f),λq=>⟨ti,z,hi,u,w q⟩,λq=>(by rw[g]at q;cases q),λq=>(by rw[g]at q;cases q)⟩
def EZ(P:Ba):List Field->List (Nat×Nat)->Bool
 |[],[]=>true
 |f::Y,(o,z)::r=>Nat.beq f.offset o&&(match P.info? f.type with|some ti=>Nat.beq ti.size z|none=>false)&&EZ P Y r
 |_,_=>false
def EZ.ok{P:Ba}:∀{Y:List Field}{l:List (Nat×Nat)},EZ P Y l=true->sY P Y l
 |[],[],_=>trivial
 |f::Y,(o,z)::r,h=>by
  simp only[EZ,Bool.and_eq_true]at h;obtain⟨⟨h1,h2⟩,h3⟩:=h
  cases hi:P.info? f.type with
  |none=>rw[hi]at h2;cases h2
  |some ti=>rw[hi]at h2;exact⟨Mb h1,⟨ti,hi,Mb h2⟩,EZ.ok h3⟩
 |[],_::_,h=>by cases h
 |_::_,[],h=>by cases h
def tc{P:Ba}{t:Ea}{i:bV}{Y:Array Field}(h:P.underlying t=some (.struct Y))(ti:TypeInfo)(hx:i.ints=true->∃n,n<=9999/\Rf P n Y.toList i.zero 0:=by exactλh=>by cases h)(hi:P.info? t=some ti:=by kernel_rfl)(hd:SP.struct=i.j7/\ti.size=i.zero.length/\ti.size=i.size/\ti.bytes=i.bytes/\i.agg=true:=by exact⟨rfl,rfl,rfl,rfl,rfl⟩)(hz:∃z,ti.zero=some z/\z.cells.toList=i.zero:=by exact⟨_,rfl,rfl⟩)(hf:EZ P Y.toList i.wJ=true:=by kernel_rfl)(he:i.ints=true->P.eqGuardType P.depth t=false/\P.stoodInHeld t=false:=by intro h;first|(cases h;done)|exact⟨kR,kR⟩):b6 P t i:=by
 obtain⟨a,y,b,c,e⟩:=hd;obtain⟨z,u,v⟩:=hz
 exact⟨⟨_,h,a⟩,⟨ti,hi,b,c,z,u,v⟩,(by rw[<-a,e]),λfs' e=>(by rw[h]at e;cases e;exact EZ.ok hf),λq=>(by rw[e]at q;cases q),λq=>(he q).1,λq=>by obtain⟨n,hn,k⟩:=hx q;exact cX (dJ h (he q).2 (iK hi y) k) (by omega)⟩
def mf{P:Ba}{q:Prop}{Y:List Field}{zs:List wa}(h:Rf P 1 Y zs 0)(_:q):∃n,n<=9999/\Rf P n Y zs 0:=⟨1,by decide,h⟩
def qTd{P:Ba}{q:Prop}{Y:List Field}{zs:List wa}(h:Rf P 2 Y zs 0)(_:q):∃n,n<=9999/\Rf P n Y zs 0:=⟨2,by decide,h⟩
def mY.Oq{P:Ba}{t:Ea}{a:Bool}{zs:List wa}(h:mY P 1 t a zs):∀n,mY P (n+1) t a zs
 |0=>h
 |n+1=>(h.Oq n).up
section
variable{P:Ba}{n j:Nat}{f:Field}{Y:List Field}{zs:List wa}
def bf:Rf P n [] [] j:=rfl
def ac{k:IntKind}{z:Int}(u:P.underlying f.type=some (.int k))(r:Rf P (n+1) Y zs (j+1))(h:f.name≠ "_"/\f.offset=j:=by exact⟨by decide,rfl⟩):Rf P (n+1) (f::Y) (.int k z::zs) j:=⟨h.1,h.2,false,[.int k z],zs,rfl,(cB z u).Oq n,r⟩
def Df{z:ta}(u:P.underlying f.type=some .string)(r:Rf P (n+1) Y zs (j+1))(h:f.name≠ "_"/\f.offset=j:=by exact⟨by decide,rfl⟩):Rf P (n+1) (f::Y) (.string z::zs) j:=⟨h.1,h.2,false,[.string z],zs,rfl,(gA z u).Oq n,r⟩
def qTf{z:Bool}(u:P.underlying f.type=some .bool)(r:Rf P (n+1) Y zs (j+1))(h:f.name≠ "_"/\f.offset=j:=by exact⟨by decide,rfl⟩):Rf P (n+1) (f::Y) (.bool z::zs) j:=⟨h.1,h.2,false,[.bool z],zs,rfl,(aDG z u).Oq n,r⟩
end
abbrev Cd(k:Nat):bV:=⟨.slice k,1,24,false,[zl],[],false⟩
end Go.Ax
namespace Go.Proofs.Tryz
open Go Go.Ax
open Tryz
def UK:mY prog 2 105 true [.int .i64 0,.int .i64 0]:=dJ underlying105 kR (iK (ti:=t105) kR rfl) ⟨by decide,rfl,false,[.int .i64 0],[.int .i64 0],rfl,(cB 0 underlying3),by decide,rfl,false,[.int .i64 0],[],rfl,(cB 0 underlying3),rfl⟩
def lp:bV:=⟨.int .i64,1,8,false,[zi],[],false⟩
def Xk:bV:=⟨.struct,6,64,true,[zi,zi,zi,zi,zi,zl],[(0,1),(1,1),(2,1),(3,1),(4,1),(5,1)],false⟩
def Eh:bV:=⟨.struct,20,320,true,[zt,zi,zi,zi,zi,zi,zl,zt,zl,zi,zi,zl,zl,zl,zi,zi,zl,zl,zl,zl],[(0,1),(1,6),(7,5),(12,2),(14,1),(15,1),(16,1),(17,1),(18,1),(19,1)],false⟩
def gi:bV:=⟨.struct,7,104,true,[zi,zi,zi,zi,zl,zl,zl],[(0,1),(1,1),(2,1),(3,1),(4,1),(5,1),(6,1)],false⟩
def Mg:bV:=⟨.struct,13,144,true,[zi,zi,zi,zi,zi,zi,zi,zi,zi,zt,zt,zt,zl],[(0,1),(1,1),(2,1),(3,1),(4,1),(5,1),(6,1),(7,1),(8,1),(9,1),(10,1),(11,1),(12,1)],false⟩
def Fe:bV:=⟨.struct,4,96,true,[zl,zl,zl,zl],[(0,1),(1,1),(2,1),(3,1)],false⟩
def nq:bV:=⟨.struct,3,32,true,[zi,zt,zi],[(0,1),(1,1),(2,1)],true⟩
def Uo:bV:=⟨.struct,6,72,true,[zt,zi,zi,zi,zl,zi],[(0,1),(1,1),(2,1),(3,1),(4,1),(5,1)],false⟩
def Nx:bV:=⟨.struct,3,32,true,[zt,zi,zi],[(0,1),(1,2)],true⟩
def tab:List (Nat×bV):=[(1,⟨.func,1,8,false,[.nilFunc],[],false⟩),(2,⟨.int .i64,1,8,false,[zi],[],false⟩),(3,lp),(4,⟨.bool,1,1,false,[.bool false],[],false⟩),(5,⟨.int .u8,1,1,false,[.int .u8 0],[],false⟩),(6,⟨.int .u8,1,1,false,[.int .u8 0],[],false⟩),(7,⟨.struct,4,24,true,[zi,zi,.bool false,.int .u8 0],[(0,1),(1,1),(2,1),(3,1)],true⟩),(9,⟨.string,1,16,false,[zt],[],false⟩),(22,Cd 3),(24,Xk),(25,Cd 103),(26,Cd 157),(28,⟨.struct,5,80,true,[zt,zl,zi,zi,zl],[(0,1),(1,1),(2,1),(3,1),(4,1)],false⟩),(29,Cd 107),(30,Cd 112),(32,⟨.struct,2,48,true,[zl,zl],[(0,1),(1,1)],false⟩),(33,Cd 114),(34,Cd 143),(35,Cd 116),(36,Cd 118),(38,Eh),(39,Cd 67),(43,Cd 61),(44,Cd 85),(46,gi),(47,⟨.int .i64,1,8,false,[zi],[],false⟩),(67,Mg),(163,Cd 224),(165,Fe),(224,nq),(147,Cd 9),(75,Cd 82),(82,⟨.struct,7,72,true,[zi,zi,zt,zi,zi,zi,zt],[(0,1),(1,1),(2,1),(3,1),(4,1),(5,1),(6,1)],true⟩),(52,Cd 51),(57,⟨.struct,3,40,true,[zi,zl,zi],[(0,1),(1,1),(2,1)],false⟩),(51,⟨.struct,4,48,true,[zi,zt,zi,zt],[(0,1),(1,1),(2,1),(3,1)],true⟩),(53,Cd 59),(59,⟨.struct,2,24,true,[zt,zi],[(0,1),(1,1)],true⟩),(61,⟨.struct,4,40,true,[zt,zi,zi,zi],[(0,1),(1,1),(2,1),(3,1)],true⟩),(155,Cd 127),(157,⟨.struct,3,48,true,[zt,zi,zl],[(0,1),(1,1),(2,1)],false⟩),(110,Cd 109),(112,⟨.struct,4,56,true,[zt,zi,zi,zl],[(0,1),(1,1),(2,1),(3,1)],false⟩),(116,Uo),(70,⟨.struct,21,344,true,[zt,zi,zi,zi,zi,zi,zl,zt,zl,zi,zi,zl,zl,zl,zi,zi,zl,zl,zl,zl,zl],[(0,20),(20,1)],false⟩),(73,Cd 24),(85,⟨.struct,2,24,true,[zt,zi],[(0,1),(1,1)],true⟩),(105,⟨.struct,2,16,true,[zi,zi],[(0,1),(1,1)],true⟩),(107,⟨.struct,5,48,true,[zt,zi,zi,zi,zi],[(0,1),(1,1),(2,1),(3,2)],true⟩),(143,⟨.struct,3,32,true,[zt,zi,zi],[(0,1),(1,1),(2,1)],true⟩),(300,⟨.struct,2,32,true,[zl,.bool false],[(0,1),(1,1)],false⟩),(255,⟨.struct,5,48,true,[zi,zi,zi,zt,zi],[(0,1),(1,1),(2,1),(3,1),(4,1)],true⟩),(171,⟨.map 9 176,1,8,false,[.map none],[],false⟩),(176,Cd 175),(122,⟨.map 9 135,1,8,false,[.map none],[],false⟩),(135,Cd 180),(180,⟨.struct,14,152,true,[zi,zi,zi,zi,zi,zi,zi,zi,zi,zt,zt,zt,zl,zi],[(0,13),(13,1)],false⟩),(88,⟨.map 90 3,1,8,false,[.map none],[],false⟩),(90,⟨.struct,2,24,true,[zi,zt],[(0,1),(1,1)],true⟩),(94,Cd 90),(195,Cd 5),(200,⟨.iface,1,16,false,[.nilIface],[],false⟩),(130,Cd 134),(186,⟨.struct,2,48,true,[zl,zl],[(0,2)],false⟩),(127,⟨.struct,2,16,true,[zi,zi],[(0,1),(1,1)],true⟩),(134,⟨.struct,3,32,true,[zt,zi,zi],[(0,1),(1,1),(2,1)],true⟩),(103,⟨.struct,5,40,true,[zi,zi,zi,zi,zi],[(0,1),(1,1),(2,1),(3,1),(4,1)],true⟩),(109,⟨.struct,2,24,true,[zi,zt],[(0,1),(1,1)],true⟩),(114,⟨.struct,2,24,true,[zt,zi],[(0,1),(1,1)],true⟩),(118,Nx),(283,⟨.func,1,8,false,[.nilFunc],[],false⟩),(175,⟨.struct,14,160,true,[zi,zi,zi,zi,zi,zi,zi,zi,zi,zt,zt,zt,zl,zt],[(0,13),(13,1)],false⟩),(238,⟨.map 9 3,1,8,false,[.map none],[],false⟩),(153,⟨.int .u64,1,8,false,[.int .u64 0],[],false⟩),(339,⟨.func,1,8,false,[.nilFunc],[],false⟩),(205,⟨.int .i64,1,8,false,[zi],[],false⟩),(212,⟨.int .u32,1,4,false,[.int .u32 0],[],false⟩),(214,⟨.int .u64,1,8,false,[.int .u64 0],[],false⟩),(312,Cd 315),(315,⟨.struct,4,32,true,[zi,zi,zi,zi],[(0,1),(1,1),(2,1),(3,1)],true⟩),(318,⟨.func,1,8,false,[.nilFunc],[],false⟩),(320,⟨.struct,2,16,true,[zi,.nilFunc],[(0,1),(1,1)],false⟩),(321,⟨.array 4 320,8,64,true,[zi,.nilFunc,zi,.nilFunc,zi,.nilFunc,zi,.nilFunc],[],false⟩),(393,⟨.map 9 4,1,8,false,[.map none],[],false⟩),(394,⟨.map 3 4,1,8,false,[.map none],[],false⟩),(267,⟨.int .u64,1,8,false,[.int .u64 0],[],false⟩),(430,⟨.float .f64,1,8,false,[.float .f64 0],[],false⟩)]
def aJ:cD prog tab:=⟨Ob underlying1 t1,Ob underlying2 t2,Ob underlying3 t3,Ob underlying4 t4,Ob underlying5 t5,Ob underlying6 t6,tc underlying7 t7 (mf (ac underlying2 (ac underlying3 (qTf underlying4 (ac underlying6 bf))))),Ob underlying9 t9,Ob underlying22 t22,tc underlying24 t24,Ob underlying25 t25,Ob underlying26 t26,tc underlying28 t28,Ob underlying29 t29,Ob underlying30 t30,tc underlying32 t32,Ob underlying33 t33,Ob underlying34 t34,Ob underlying35 t35,Ob underlying36 t36,tc underlying38 t38,Ob underlying39 t39,Ob underlying43 t43,Ob underlying44 t44,tc underlying46 t46,Ob underlying47 t47,tc underlying67 t67,Ob underlying163 t163,tc underlying165 t165,tc underlying224 t224 (mf (ac underlying3 (Df underlying9 (ac underlying3 bf)))),Ob underlying147 t147,Ob underlying75 t75,tc underlying82 t82 (mf (ac underlying3 (ac underlying3 (Df underlying9 (ac underlying3 (ac underlying3 (ac underlying3 (Df underlying9 bf)))))))),Ob underlying52 t52,tc underlying57 t57,tc underlying51 t51 (mf (ac underlying3 (Df underlying9 (ac underlying3 (Df underlying9 bf))))),Ob underlying53 t53,tc underlying59 t59 (mf (Df underlying9 (ac underlying3 bf))),tc underlying61 t61 (mf (Df underlying9 (ac underlying3 (ac underlying3 (ac underlying3 bf))))),Ob underlying155 t155,tc underlying157 t157,Ob underlying110 t110,tc underlying112 t112,tc underlying116 t116,tc underlying70 t70,Ob underlying73 t73,tc underlying85 t85 (mf (Df underlying9 (ac underlying3 bf))),tc underlying105 t105 (mf (ac underlying3 (ac underlying3 bf))),tc underlying107 t107 (qTd (Df underlying9 (ac underlying3 (ac underlying3 ⟨by decide,rfl,true,[.int .i64 0,.int .i64 0],[],rfl,UK,rfl⟩)))),tc underlying143 t143 (mf (Df underlying9 (ac underlying3 (ac underlying3 bf)))),tc underlying300 t300,tc underlying255 t255 (mf (ac underlying3 (ac underlying3 (ac underlying3 (Df underlying9 (ac underlying3 bf)))))),Ob underlying171 t171,Ob underlying176 t176,Ob underlying122 t122,Ob underlying135 t135,tc underlying180 t180,Ob underlying88 t88,tc underlying90 t90 (mf (ac underlying3 (Df underlying9 bf))),Ob underlying94 t94,Ob underlying195 t195,Ob underlying200 t200,Ob underlying130 t130,tc underlying186 t186,tc underlying127 t127 (mf (ac underlying3 (ac underlying3 bf))),tc underlying134 t134 (mf (Df underlying9 (ac underlying3 (ac underlying3 bf)))),tc underlying103 t103 (mf (ac underlying3 (ac underlying3 (ac underlying3 (ac underlying3 (ac underlying3 bf)))))),tc underlying109 t109 (mf (ac underlying3 (Df underlying9 bf))),tc underlying114 t114 (mf (Df underlying9 (ac underlying3 bf))),tc underlying118 t118 (qTd (Df underlying9 ⟨by decide,rfl,true,[.int .i64 0,.int .i64 0],[],rfl,UK,rfl⟩)),Ob underlying283 t283,tc underlying175 t175,Ob underlying238 t238,Ob underlying153 t153,Ob underlying339 t339,Ob underlying205 t205,Ob underlying212 t212,Ob underlying214 t214,Ob underlying312 t312,tc underlying315 t315 (mf (ac underlying3 (ac underlying3 (ac underlying3 (ac underlying3 bf))))),Ob underlying318 t318,tc underlying320 t320,Ob underlying321 t321,Ob underlying393 t393,Ob underlying394 t394,Ob underlying267 t267,Ob underlying430 t430,trivial⟩
end Go.Proofs.Tryz
