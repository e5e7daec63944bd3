/- Part 4: lemmas that the proofs of this seat share; by itself it claims nothing. -/
import Derived.Test.YtmfjekdekmhebaaGreatDoorChecked
import Derived.Test.YtmfjekdekmhebaaGreatDoorPt3
set_option maxRecDepth 100000
set_option linter.defProp false
--TyZ
namespace Go.Ax
abbrev zi:Aa:=.int .i64 0
abbrev zt:Aa:=.string ⟨#[]⟩
abbrev zl:Aa:=.slice none 0 0
def aO5:TypeDesc->Bool
 |.struct _=>true
 |_=>false
def Qb{P:Ca}{t:Fa}{i:bV}{d:TypeDesc}(h:P.underlying t=some d)(ti:TypeInfo)(hi:P.info? t=some ti:=by kernel_rfl)(hd:Ej d=i.j7/\ti.size=i.size/\ti.bytes=i.bytes/\(match i.j7 with|.struct=>true|.array _ _=>true|_=>false)=i.agg/\aO5 d=false/\i.ints=false:=by exact⟨rfl,rfl,rfl,rfl,rfl,rfl⟩)(hz:∃z,ti.zero=some z/\z.cells.toList=i.zero/\(i.agg=false->i.zero=[z]):=by exact⟨_,rfl,rfl,λh=>by first|(cases h;done)|rfl⟩):b6 P t i:=by
 obtain⟨a,b,c,e,f,g⟩:=hd;obtain⟨z,u,v,w⟩:=hz
 exact⟨⟨d,h,a⟩,⟨ti,hi,b,c,z,u,v⟩,e,λY q=>(by rw[h]at q;cases q;cases f),λq=>⟨ti,z,hi,u,w q⟩,λq=>(by rw[g]at q;cases q),λq=>(by rw[g]at q;cases q)⟩
def EZ(P:Ca):List Field->List (Nat×Nat)->Bool
 |[],[]=>true
 |f::Y,(o,z)::r=>Nat.beq f.offset o&&(match P.info? f.type with|some ti=>Nat.beq ti.size z|none=>false)&&EZ P Y r
 |_,_=>false
def EZ.ok{P:Ca}:∀{Y:List Field}{l:List (Nat×Nat)},EZ P Y l=true->sY P Y l
 |[],[],_=>trivial
 |f::Y,(o,z)::r,h=>by
  simp only[EZ,cb]at h;obtain⟨⟨h1,h2⟩,h3⟩:=h
  cases hi:P.info? f.type with
  |none=>rw[hi]at h2;cases h2
  |some ti=>rw[hi]at h2;exact⟨Ob h1,⟨ti,hi,Ob h2⟩,EZ.ok h3⟩
 |[],_::_,h=>by cases h
 |_::_,[],h=>by cases h
def mc{P:Ca}{t:Fa}{i:bV}{Y:Array Field}(h:P.underlying t=some (.struct Y))(ti:TypeInfo)(hx:i.ints=true->∃n,n<=9999/\Ye P n Y.toList i.zero 0:=by exactλh=>by cases h)(hi:P.info? t=some ti:=by kernel_rfl)(hd:SP.struct=i.j7/\ti.size=i.zero.length/\ti.size=i.size/\ti.bytes=i.bytes/\i.agg=true:=by exact⟨rfl,rfl,rfl,rfl,rfl⟩)(hz:∃z,ti.zero=some z/\z.cells.toList=i.zero:=by exact⟨_,rfl,rfl⟩)(hf:EZ P Y.toList i.wJ=true:=by kernel_rfl)(he:i.ints=true->P.eqGuardType P.depth t=false/\P.stoodInHeld t=false:=by intro h;first|(cases h;done)|exact⟨kR,kR⟩):b6 P t i:=by
 obtain⟨a,y,b,c,e⟩:=hd;obtain⟨z,u,v⟩:=hz
 exact⟨⟨_,h,a⟩,⟨ti,hi,b,c,z,u,v⟩,(by rw[<-a,e]),λfs' e=>(by rw[h]at e;cases e;exact EZ.ok hf),λq=>(by rw[e]at q;cases q),λq=>(he q).1,λq=>by obtain⟨n,hn,k⟩:=hx q;exact cX (dJ h (he q).2 (iK hi y) k) (by omega)⟩
def Ke{P:Ca}{q:Prop}{Y:List Field}{zs:List Aa}(h:Ye P 1 Y zs 0)(_:q):∃n,n<=9999/\Ye P n Y zs 0:=⟨1,by decide,h⟩
def qTd{P:Ca}{q:Prop}{Y:List Field}{zs:List Aa}(h:Ye P 2 Y zs 0)(_:q):∃n,n<=9999/\Ye P n Y zs 0:=⟨2,by decide,h⟩
def mY.Ep{P:Ca}{t:Fa}{a:Bool}{zs:List Aa}(h:mY P 1 t a zs):∀n,mY P (n+1) t a zs
 |0=>h
 |n+1=>(h.Ep n).up
section
variable{P:Ca}{n j:Nat}{f:Field}{Y:List Field}{zs:List Aa}
def Ie:Ye P n [] [] j:=rfl
def Ub{k:IntKind}{z:Int}(u:P.underlying f.type=some (.int k))(r:Ye P (n+1) Y zs (j+1))(h:f.name≠ "_"/\f.offset=j:=by exact⟨by decide,rfl⟩):Ye P (n+1) (f::Y) (.int k z::zs) j:=⟨h.1,h.2,false,[.int k z],zs,rfl,(cB z u).Ep n,r⟩
def Hf{z:wa}(u:P.underlying f.type=some .string)(r:Ye P (n+1) Y zs (j+1))(h:f.name≠ "_"/\f.offset=j:=by exact⟨by decide,rfl⟩):Ye P (n+1) (f::Y) (.string z::zs) j:=⟨h.1,h.2,false,[.string z],zs,rfl,(gA z u).Ep n,r⟩
def qTf{z:Bool}(u:P.underlying f.type=some .bool)(r:Ye P (n+1) Y zs (j+1))(h:f.name≠ "_"/\f.offset=j:=by exact⟨by decide,rfl⟩):Ye P (n+1) (f::Y) (.bool z::zs) j:=⟨h.1,h.2,false,[.bool z],zs,rfl,(aDG z u).Ep n,r⟩
end
abbrev cd(k:Nat):bV:=⟨.slice k,1,24,false,[zl],[],false⟩
end Go.Ax
namespace Go.Proofs.Tryz
open Go Go.Ax
open Tryz
def UK:mY prog 2 80 true [.int .i64 0,.int .i64 0]:=dJ underlying80 kR (iK (ti:=t80) kR rfl) ⟨by decide,rfl,false,[.int .i64 0],[.int .i64 0],rfl,(cB 0 underlying3),by decide,rfl,false,[.int .i64 0],[],rfl,(cB 0 underlying3),rfl⟩
def Co:bV:=⟨.int .i64,1,8,false,[zi],[],false⟩
def Xj:bV:=⟨.struct,6,64,true,[zi,zi,zi,zi,zi,zl],[(0,1),(1,1),(2,1),(3,1),(4,1),(5,1)],false⟩
def bh:bV:=⟨.struct,20,320,true,[zt,zi,zi,zi,zi,zi,zl,zt,zl,zi,zi,zl,zl,zl,zi,zi,zl,zl,zl,zl],[(0,1),(1,6),(7,5),(12,2),(14,1),(15,1),(16,1),(17,1),(18,1),(19,1)],false⟩
def Nh:bV:=⟨.struct,7,104,true,[zi,zi,zi,zi,zl,zl,zl],[(0,1),(1,1),(2,1),(3,1),(4,1),(5,1),(6,1)],false⟩
def Sf:bV:=⟨.struct,13,144,true,[zi,zi,zi,zi,zi,zi,zi,zi,zi,zt,zt,zt,zl],[(0,1),(1,1),(2,1),(3,1),(4,1),(5,1),(6,1),(7,1),(8,1),(9,1),(10,1),(11,1),(12,1)],false⟩
def Pd:bV:=⟨.struct,4,96,true,[zl,zl,zl,zl],[(0,1),(1,1),(2,1),(3,1)],false⟩
def Bp:bV:=⟨.struct,3,32,true,[zi,zt,zi],[(0,1),(1,1),(2,1)],true⟩
def io:bV:=⟨.struct,6,72,true,[zt,zi,zi,zi,zl,zi],[(0,1),(1,1),(2,1),(3,1),(4,1),(5,1)],false⟩
def sw:bV:=⟨.struct,3,32,true,[zt,zi,zi],[(0,1),(1,2)],true⟩
def tab:List (Nat×bV):=[(1,⟨.func,1,8,false,[.nilFunc],[],false⟩),(2,⟨.int .i64,1,8,false,[zi],[],false⟩),(3,Co),(4,⟨.bool,1,1,false,[.bool false],[],false⟩),(5,⟨.int .u8,1,1,false,[.int .u8 0],[],false⟩),(7,⟨.struct,4,24,true,[zi,zi,.bool false,.int .u8 0],[(0,1),(1,1),(2,1),(3,1)],true⟩),(9,⟨.string,1,16,false,[zt],[],false⟩),(22,cd 3),(24,Xj),(25,cd 112),(26,cd 156),(28,⟨.struct,5,80,true,[zt,zl,zi,zi,zl],[(0,1),(1,1),(2,1),(3,1),(4,1)],false⟩),(29,cd 82),(30,cd 117),(32,⟨.struct,2,48,true,[zl,zl],[(0,1),(1,1)],false⟩),(33,cd 119),(34,cd 171),(35,cd 121),(36,cd 123),(38,bh),(39,cd 65),(66,cd 108),(67,cd 110),(69,Nh),(45,⟨.int .i64,1,8,false,[zi],[],false⟩),(65,Sf),(163,cd 214),(165,Pd),(214,Bp),(196,cd 9),(53,cd 57),(57,⟨.struct,7,72,true,[zi,zi,zt,zi,zi,zi,zt],[(0,1),(1,1),(2,1),(3,1),(4,1),(5,1),(6,1)],true⟩),(50,cd 59),(59,⟨.struct,2,24,true,[zt,zi],[(0,1),(1,1)],true⟩),(108,⟨.struct,4,40,true,[zt,zi,zi,zi],[(0,1),(1,1),(2,1),(3,1)],true⟩),(154,cd 88),(156,⟨.struct,3,48,true,[zt,zi,zl],[(0,1),(1,1),(2,1)],false⟩),(115,cd 114),(117,⟨.struct,4,56,true,[zt,zi,zi,zl],[(0,1),(1,1),(2,1),(3,1)],false⟩),(121,io),(94,⟨.struct,21,344,true,[zt,zi,zi,zi,zi,zi,zl,zt,zl,zi,zi,zl,zl,zl,zi,zi,zl,zl,zl,zl,zl],[(0,20),(20,1)],false⟩),(98,cd 24),(110,⟨.struct,2,24,true,[zt,zi],[(0,1),(1,1)],true⟩),(80,⟨.struct,2,16,true,[zi,zi],[(0,1),(1,1)],true⟩),(82,⟨.struct,5,48,true,[zt,zi,zi,zi,zi],[(0,1),(1,1),(2,1),(3,2)],true⟩),(171,⟨.struct,3,32,true,[zt,zi,zi],[(0,1),(1,1),(2,1)],true⟩),(297,⟨.struct,2,32,true,[zl,.bool false],[(0,1),(1,1)],false⟩),(260,⟨.struct,5,48,true,[zi,zi,zi,zt,zi],[(0,1),(1,1),(2,1),(3,1),(4,1)],true⟩),(194,⟨.map 9 200,1,8,false,[.map none],[],false⟩),(200,cd 199),(146,⟨.map 9 150,1,8,false,[.map none],[],false⟩),(150,cd 204),(204,⟨.struct,14,152,true,[zi,zi,zi,zi,zi,zi,zi,zi,zi,zt,zt,zt,zl,zi],[(0,13),(13,1)],false⟩),(282,cd 5),(340,⟨.iface,1,16,false,[.nilIface],[],false⟩),(77,⟨.func,1,8,false,[.nilFunc],[],false⟩),(83,cd 91),(85,⟨.struct,2,48,true,[zl,zl],[(0,2)],false⟩),(88,⟨.struct,2,16,true,[zi,zi],[(0,1),(1,1)],true⟩),(91,⟨.struct,3,32,true,[zt,zi,zi],[(0,1),(1,1),(2,1)],true⟩),(112,⟨.struct,5,40,true,[zi,zi,zi,zi,zi],[(0,1),(1,1),(2,1),(3,1),(4,1)],true⟩),(114,⟨.struct,2,24,true,[zi,zt],[(0,1),(1,1)],true⟩),(119,⟨.struct,2,24,true,[zt,zi],[(0,1),(1,1)],true⟩),(123,sw),(186,⟨.func,1,8,false,[.nilFunc],[],false⟩),(199,⟨.struct,14,160,true,[zi,zi,zi,zi,zi,zi,zi,zi,zi,zt,zt,zt,zl,zt],[(0,13),(13,1)],false⟩),(242,⟨.map 9 3,1,8,false,[.map none],[],false⟩),(225,⟨.int .u64,1,8,false,[.int .u64 0],[],false⟩),(231,⟨.func,1,8,false,[.nilFunc],[],false⟩),(351,⟨.int .i64,1,8,false,[zi],[],false⟩),(270,⟨.int .u32,1,4,false,[.int .u32 0],[],false⟩),(273,⟨.int .u64,1,8,false,[.int .u64 0],[],false⟩),(175,⟨.struct,5,40,true,[zi,zi,zi,zi,zi],[(0,1),(1,1),(2,1),(3,1),(4,1)],true⟩),(179,cd 182),(182,⟨.struct,4,32,true,[zi,zi,zi,zi],[(0,1),(1,1),(2,1),(3,1)],true⟩),(312,⟨.func,1,8,false,[.nilFunc],[],false⟩),(314,⟨.struct,2,16,true,[zi,.nilFunc],[(0,1),(1,1)],false⟩),(315,⟨.array 4 314,8,64,true,[zi,.nilFunc,zi,.nilFunc,zi,.nilFunc,zi,.nilFunc],[],false⟩),(377,⟨.map 9 4,1,8,false,[.map none],[],false⟩),(378,⟨.map 3 4,1,8,false,[.map none],[],false⟩),(375,⟨.float .f64,1,8,false,[.float .f64 0],[],false⟩)]
def aJ:cD prog tab:=⟨Qb underlying1 t1,Qb underlying2 t2,Qb underlying3 t3,Qb underlying4 t4,Qb underlying5 t5,mc underlying7 t7 (Ke (Ub underlying2 (Ub underlying3 (qTf underlying4 (Ub underlying6 Ie))))),Qb underlying9 t9,Qb underlying22 t22,mc underlying24 t24,Qb underlying25 t25,Qb underlying26 t26,mc underlying28 t28,Qb underlying29 t29,Qb underlying30 t30,mc underlying32 t32,Qb underlying33 t33,Qb underlying34 t34,Qb underlying35 t35,Qb underlying36 t36,mc underlying38 t38,Qb underlying39 t39,Qb underlying66 t66,Qb underlying67 t67,mc underlying69 t69,Qb underlying45 t45,mc underlying65 t65,Qb underlying163 t163,mc underlying165 t165,mc underlying214 t214 (Ke (Ub underlying3 (Hf underlying9 (Ub underlying3 Ie)))),Qb underlying196 t196,Qb underlying53 t53,mc underlying57 t57 (Ke (Ub underlying3 (Ub underlying3 (Hf underlying9 (Ub underlying3 (Ub underlying3 (Ub underlying3 (Hf underlying9 Ie)))))))),Qb underlying50 t50,mc underlying59 t59 (Ke (Hf underlying9 (Ub underlying3 Ie))),mc underlying108 t108 (Ke (Hf underlying9 (Ub underlying3 (Ub underlying3 (Ub underlying3 Ie))))),Qb underlying154 t154,mc underlying156 t156,Qb underlying115 t115,mc underlying117 t117,mc underlying121 t121,mc underlying94 t94,Qb underlying98 t98,mc underlying110 t110 (Ke (Hf underlying9 (Ub underlying3 Ie))),mc underlying80 t80 (Ke (Ub underlying3 (Ub underlying3 Ie))),mc underlying82 t82 (qTd (Hf underlying9 (Ub underlying3 (Ub underlying3 ⟨by decide,rfl,true,[.int .i64 0,.int .i64 0],[],rfl,UK,rfl⟩)))),mc underlying171 t171 (Ke (Hf underlying9 (Ub underlying3 (Ub underlying3 Ie)))),mc underlying297 t297,mc underlying260 t260 (Ke (Ub underlying3 (Ub underlying3 (Ub underlying3 (Hf underlying9 (Ub underlying3 Ie)))))),Qb underlying194 t194,Qb underlying200 t200,Qb underlying146 t146,Qb underlying150 t150,mc underlying204 t204,Qb underlying282 t282,Qb underlying340 t340,Qb underlying77 t77,Qb underlying83 t83,mc underlying85 t85,mc underlying88 t88 (Ke (Ub underlying3 (Ub underlying3 Ie))),mc underlying91 t91 (Ke (Hf underlying9 (Ub underlying3 (Ub underlying3 Ie)))),mc underlying112 t112 (Ke (Ub underlying3 (Ub underlying3 (Ub underlying3 (Ub underlying3 (Ub underlying3 Ie)))))),mc underlying114 t114 (Ke (Ub underlying3 (Hf underlying9 Ie))),mc underlying119 t119 (Ke (Hf underlying9 (Ub underlying3 Ie))),mc underlying123 t123 (qTd (Hf underlying9 ⟨by decide,rfl,true,[.int .i64 0,.int .i64 0],[],rfl,UK,rfl⟩)),Qb underlying186 t186,mc underlying199 t199,Qb underlying242 t242,Qb underlying225 t225,Qb underlying231 t231,Qb underlying351 t351,Qb underlying270 t270,Qb underlying273 t273,mc underlying175 t175 (Ke (Ub underlying3 (Ub underlying3 (Ub underlying3 (Ub underlying3 (Ub underlying3 Ie)))))),Qb underlying179 t179,mc underlying182 t182 (Ke (Ub underlying3 (Ub underlying3 (Ub underlying3 (Ub underlying3 Ie))))),Qb underlying312 t312,mc underlying314 t314,Qb underlying315 t315,Qb underlying377 t377,Qb underlying378 t378,Qb underlying375 t375,trivial⟩
end Go.Proofs.Tryz
