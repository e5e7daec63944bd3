/- Part 4: lemmas that the proofs of this seat share; by itself it claims nothing. -/
import Derived.Test.YtonkbmnkoabhnaaGreatDoorChecked
import Derived.Test.YtonkbmnkoabhnaaGreatDoorPt3
set_option maxRecDepth 100000
set_option linter.defProp false
--TyZ
namespace Go.Ax
abbrev zi:qa:=.int .i64 0
abbrev zt:qa:=.string ⟨#[]⟩
abbrev zl:qa:=.slice none 0 0
def aO5:TypeDesc->Bool
 |.struct _=>true
 |_=>false
def Pb{P:ta}{t:Ba}{i:bV}{d:TypeDesc}(h:P.underlying t=some d)(ti:TypeInfo)(hi:P.info? t=some ti:=by kernel_rfl)(hd:Ui d=i.j7/\ti.size=i.size/\ti.bytes=i.bytes/\(match i.j7 with|.struct=>true|.array _ _=>true|_=>false)=i.agg/\aO5 d=false/\i.ints=false:=by exact⟨rfl,rfl,rfl,rfl,rfl,rfl⟩)(hz:∃z,ti.zero=some z/\z.cells.toList=i.zero/\(i.agg=false->i.zero=[z]):=by exact⟨_,rfl,rfl,λh=>by first|(cases h;done)|rfl⟩):b6 P t i:=by
 obtain⟨a,b,c,e,f,g⟩:=hd;obtain⟨z,u,v,w⟩:=hz
 exact⟨⟨d,h,a⟩,⟨ti,hi,b,c,z,u,v⟩,e,λY q=>(by rw[h]at q;cases q;cases f),λq=>⟨ti,z,hi,u,w q⟩,λq=>(by rw[g]at q;cases q),λq=>(by rw[g]at q;cases q)⟩
def EZ(P:ta):List Field->List (Nat×Nat)->Bool
 |[],[]=>true
 |f::Y,(o,z)::r=>Nat.beq f.offset o&&(match P.info? f.type with|some ti=>Nat.beq ti.size z|none=>false)&&EZ P Y r
 |_,_=>false
def EZ.ok{P:ta}:∀{Y:List Field}{l:List (Nat×Nat)},EZ P Y l=true->sY P Y l
 |[],[],_=>trivial
 |f::Y,(o,z)::r,h=>by
  simp only[EZ,Va]at h;obtain⟨⟨h1,h2⟩,h3⟩:=h
  cases hi:P.info? f.type with
  |none=>rw[hi]at h2;cases h2
  |some ti=>rw[hi]at h2;exact⟨Lb h1,⟨ti,hi,Lb h2⟩,EZ.ok h3⟩
 |[],_::_,h=>by cases h
 |_::_,[],h=>by cases h
def mc{P:ta}{t:Ba}{i:bV}{Y:Array Field}(h:P.underlying t=some (.struct Y))(ti:TypeInfo)(hx:i.ints=true->∃n,n<=9999/\Ie P n Y.toList i.zero 0:=by exactλh=>by cases h)(hi:P.info? t=some ti:=by kernel_rfl)(hd:SP.struct=i.j7/\ti.size=i.zero.length/\ti.size=i.size/\ti.bytes=i.bytes/\i.agg=true:=by exact⟨rfl,rfl,rfl,rfl,rfl⟩)(hz:∃z,ti.zero=some z/\z.cells.toList=i.zero:=by exact⟨_,rfl,rfl⟩)(hf:EZ P Y.toList i.wJ=true:=by kernel_rfl)(he:i.ints=true->P.eqGuardType P.depth t=false/\P.stoodInHeld t=false:=by intro h;first|(cases h;done)|exact⟨kR,kR⟩):b6 P t i:=by
 obtain⟨a,y,b,c,e⟩:=hd;obtain⟨z,u,v⟩:=hz
 exact⟨⟨_,h,a⟩,⟨ti,hi,b,c,z,u,v⟩,(by rw[<-a,e]),λfs' e=>(by rw[h]at e;cases e;exact EZ.ok hf),λq=>(by rw[e]at q;cases q),λq=>(he q).1,λq=>by obtain⟨n,hn,k⟩:=hx q;exact cX (dJ h (he q).2 (iK hi y) k) (by omega)⟩
def Re{P:ta}{q:Prop}{Y:List Field}{zs:List qa}(h:Ie P 1 Y zs 0)(_:q):∃n,n<=9999/\Ie P n Y zs 0:=⟨1,by decide,h⟩
def qTd{P:ta}{q:Prop}{Y:List Field}{zs:List qa}(h:Ie P 2 Y zs 0)(_:q):∃n,n<=9999/\Ie P n Y zs 0:=⟨2,by decide,h⟩
def mY.kn{P:ta}{t:Ba}{a:Bool}{zs:List qa}(h:mY P 1 t a zs):∀n,mY P (n+1) t a zs
 |0=>h
 |n+1=>(h.kn n).up
section
variable{P:ta}{n j:Nat}{f:Field}{Y:List Field}{zs:List qa}
def Se:Ie P n [] [] j:=rfl
def Vb{k:IntKind}{z:Int}(u:P.underlying f.type=some (.int k))(r:Ie P (n+1) Y zs (j+1))(h:f.name≠ "_"/\f.offset=j:=by exact⟨by decide,rfl⟩):Ie P (n+1) (f::Y) (.int k z::zs) j:=⟨h.1,h.2,false,[.int k z],zs,rfl,(cB z u).kn n,r⟩
def nf{z:oa}(u:P.underlying f.type=some .string)(r:Ie P (n+1) Y zs (j+1))(h:f.name≠ "_"/\f.offset=j:=by exact⟨by decide,rfl⟩):Ie P (n+1) (f::Y) (.string z::zs) j:=⟨h.1,h.2,false,[.string z],zs,rfl,(gA z u).kn n,r⟩
def qTf{z:Bool}(u:P.underlying f.type=some .bool)(r:Ie P (n+1) Y zs (j+1))(h:f.name≠ "_"/\f.offset=j:=by exact⟨by decide,rfl⟩):Ie P (n+1) (f::Y) (.bool z::zs) j:=⟨h.1,h.2,false,[.bool z],zs,rfl,(aDG z u).kn n,r⟩
end
abbrev Uc(k:Nat):bV:=⟨.slice k,1,24,false,[zl],[],false⟩
end Go.Ax
namespace Go.Proofs.Tryz
open Go Go.Ax
open Tryz
def UK:mY prog 2 119 true [.int .i64 0,.int .i64 0]:=dJ underlying119 kR (iK (ti:=t119) kR rfl) ⟨by decide,rfl,false,[.int .i64 0],[.int .i64 0],rfl,(cB 0 underlying3),by decide,rfl,false,[.int .i64 0],[],rfl,(cB 0 underlying3),rfl⟩
def Gn:bV:=⟨.int .i64,1,8,false,[zi],[],false⟩
def nj:bV:=⟨.struct,6,64,true,[zi,zi,zi,zi,zi,zl],[(0,1),(1,1),(2,1),(3,1),(4,1),(5,1)],false⟩
def fg:bV:=⟨.struct,20,320,true,[zt,zi,zi,zi,zi,zi,zl,zt,zl,zi,zi,zl,zl,zl,zi,zi,zl,zl,zl,zl],[(0,1),(1,6),(7,5),(12,2),(14,1),(15,1),(16,1),(17,1),(18,1),(19,1)],false⟩
def lh:bV:=⟨.struct,7,104,true,[zi,zi,zi,zi,zl,zl,zl],[(0,1),(1,1),(2,1),(3,1),(4,1),(5,1),(6,1)],false⟩
def se:bV:=⟨.struct,13,144,true,[zi,zi,zi,zi,zi,zi,zi,zi,zi,zt,zt,zt,zl],[(0,1),(1,1),(2,1),(3,1),(4,1),(5,1),(6,1),(7,1),(8,1),(9,1),(10,1),(11,1),(12,1)],false⟩
def Cd:bV:=⟨.struct,4,96,true,[zl,zl,zl,zl],[(0,1),(1,1),(2,1),(3,1)],false⟩
def On:bV:=⟨.struct,3,32,true,[zi,zt,zi],[(0,1),(1,1),(2,1)],true⟩
def Qn:bV:=⟨.struct,6,72,true,[zt,zi,zi,zi,zl,zi],[(0,1),(1,1),(2,1),(3,1),(4,1),(5,1)],false⟩
def Gu:bV:=⟨.struct,3,32,true,[zt,zi,zi],[(0,1),(1,2)],true⟩
def tab:List (Nat×bV):=[(1,⟨.func,1,8,false,[.nilFunc],[],false⟩),(2,⟨.int .i64,1,8,false,[zi],[],false⟩),(3,Gn),(4,⟨.bool,1,1,false,[.bool false],[],false⟩),(5,⟨.int .u8,1,1,false,[.int .u8 0],[],false⟩),(7,⟨.struct,4,24,true,[zi,zi,.bool false,.int .u8 0],[(0,1),(1,1),(2,1),(3,1)],true⟩),(9,⟨.string,1,16,false,[zt],[],false⟩),(22,Uc 3),(24,nj),(25,Uc 117),(26,Uc 64),(28,⟨.struct,5,80,true,[zt,zl,zi,zi,zl],[(0,1),(1,1),(2,1),(3,1),(4,1)],false⟩),(29,Uc 121),(30,Uc 67),(32,⟨.struct,2,48,true,[zl,zl],[(0,1),(1,1)],false⟩),(33,Uc 125),(34,Uc 171),(35,Uc 69),(36,Uc 127),(38,fg),(39,Uc 72),(75,Uc 86),(76,Uc 115),(78,lh),(45,⟨.int .i64,1,8,false,[zi],[],false⟩),(72,se),(53,Uc 175),(55,Cd),(175,On),(93,Uc 9),(49,Uc 59),(59,⟨.struct,7,72,true,[zi,zi,zt,zi,zi,zi,zt],[(0,1),(1,1),(2,1),(3,1),(4,1),(5,1),(6,1)],true⟩),(86,⟨.struct,4,40,true,[zt,zi,zi,zi],[(0,1),(1,1),(2,1),(3,1)],true⟩),(62,Uc 144),(64,⟨.struct,3,48,true,[zt,zi,zl],[(0,1),(1,1),(2,1)],false⟩),(65,Uc 123),(67,⟨.struct,4,56,true,[zt,zi,zi,zl],[(0,1),(1,1),(2,1),(3,1)],false⟩),(69,Qn),(88,⟨.struct,21,344,true,[zt,zi,zi,zi,zi,zi,zl,zt,zl,zi,zi,zl,zl,zl,zi,zi,zl,zl,zl,zl,zl],[(0,20),(20,1)],false⟩),(91,Uc 24),(115,⟨.struct,2,24,true,[zt,zi],[(0,1),(1,1)],true⟩),(119,⟨.struct,2,16,true,[zi,zi],[(0,1),(1,1)],true⟩),(121,⟨.struct,5,48,true,[zt,zi,zi,zi,zi],[(0,1),(1,1),(2,1),(3,2)],true⟩),(171,⟨.struct,3,32,true,[zt,zi,zi],[(0,1),(1,1),(2,1)],true⟩),(312,⟨.struct,2,32,true,[zl,.bool false],[(0,1),(1,1)],false⟩),(162,⟨.struct,5,48,true,[zi,zi,zi,zt,zi],[(0,1),(1,1),(2,1),(3,1),(4,1)],true⟩),(202,⟨.map 9 207,1,8,false,[.map none],[],false⟩),(207,Uc 206),(140,⟨.map 9 152,1,8,false,[.map none],[],false⟩),(152,Uc 209),(209,⟨.struct,14,152,true,[zi,zi,zi,zi,zi,zi,zi,zi,zi,zt,zt,zt,zl,zi],[(0,13),(13,1)],false⟩),(191,Uc 5),(196,⟨.iface,1,16,false,[.nilIface],[],false⟩),(147,Uc 151),(215,⟨.struct,2,48,true,[zl,zl],[(0,2)],false⟩),(144,⟨.struct,2,16,true,[zi,zi],[(0,1),(1,1)],true⟩),(151,⟨.struct,3,32,true,[zt,zi,zi],[(0,1),(1,1),(2,1)],true⟩),(117,⟨.struct,5,40,true,[zi,zi,zi,zi,zi],[(0,1),(1,1),(2,1),(3,1),(4,1)],true⟩),(123,⟨.struct,2,24,true,[zi,zt],[(0,1),(1,1)],true⟩),(125,⟨.struct,2,24,true,[zt,zi],[(0,1),(1,1)],true⟩),(127,Gu),(301,⟨.func,1,8,false,[.nilFunc],[],false⟩),(206,⟨.struct,14,160,true,[zi,zi,zi,zi,zi,zi,zi,zi,zi,zt,zt,zt,zl,zt],[(0,13),(13,1)],false⟩),(240,⟨.map 9 3,1,8,false,[.map none],[],false⟩),(219,⟨.int .u64,1,8,false,[.int .u64 0],[],false⟩),(349,⟨.func,1,8,false,[.nilFunc],[],false⟩),(258,⟨.int .i64,1,8,false,[zi],[],false⟩),(265,⟨.int .u32,1,4,false,[.int .u32 0],[],false⟩),(267,⟨.int .u64,1,8,false,[.int .u64 0],[],false⟩),(318,Uc 321),(321,⟨.struct,4,32,true,[zi,zi,zi,zi],[(0,1),(1,1),(2,1),(3,1)],true⟩),(337,⟨.func,1,8,false,[.nilFunc],[],false⟩),(339,⟨.struct,2,16,true,[zi,.nilFunc],[(0,1),(1,1)],false⟩),(340,⟨.array 4 339,8,64,true,[zi,.nilFunc,zi,.nilFunc,zi,.nilFunc,zi,.nilFunc],[],false⟩),(330,⟨.map 9 4,1,8,false,[.map none],[],false⟩),(331,⟨.map 3 4,1,8,false,[.map none],[],false⟩),(410,⟨.float .f64,1,8,false,[.float .f64 0],[],false⟩)]
def aJ:cD prog tab:=⟨Pb underlying1 t1,Pb underlying2 t2,Pb underlying3 t3,Pb underlying4 t4,Pb underlying5 t5,mc underlying7 t7 (Re (Vb underlying2 (Vb underlying3 (qTf underlying4 (Vb underlying6 Se))))),Pb underlying9 t9,Pb underlying22 t22,mc underlying24 t24,Pb underlying25 t25,Pb underlying26 t26,mc underlying28 t28,Pb underlying29 t29,Pb underlying30 t30,mc underlying32 t32,Pb underlying33 t33,Pb underlying34 t34,Pb underlying35 t35,Pb underlying36 t36,mc underlying38 t38,Pb underlying39 t39,Pb underlying75 t75,Pb underlying76 t76,mc underlying78 t78,Pb underlying45 t45,mc underlying72 t72,Pb underlying53 t53,mc underlying55 t55,mc underlying175 t175 (Re (Vb underlying3 (nf underlying9 (Vb underlying3 Se)))),Pb underlying93 t93,Pb underlying49 t49,mc underlying59 t59 (Re (Vb underlying3 (Vb underlying3 (nf underlying9 (Vb underlying3 (Vb underlying3 (Vb underlying3 (nf underlying9 Se)))))))),mc underlying86 t86 (Re (nf underlying9 (Vb underlying3 (Vb underlying3 (Vb underlying3 Se))))),Pb underlying62 t62,mc underlying64 t64,Pb underlying65 t65,mc underlying67 t67,mc underlying69 t69,mc underlying88 t88,Pb underlying91 t91,mc underlying115 t115 (Re (nf underlying9 (Vb underlying3 Se))),mc underlying119 t119 (Re (Vb underlying3 (Vb underlying3 Se))),mc underlying121 t121 (qTd (nf underlying9 (Vb underlying3 (Vb underlying3 ⟨by decide,rfl,true,[.int .i64 0,.int .i64 0],[],rfl,UK,rfl⟩)))),mc underlying171 t171 (Re (nf underlying9 (Vb underlying3 (Vb underlying3 Se)))),mc underlying312 t312,mc underlying162 t162 (Re (Vb underlying3 (Vb underlying3 (Vb underlying3 (nf underlying9 (Vb underlying3 Se)))))),Pb underlying202 t202,Pb underlying207 t207,Pb underlying140 t140,Pb underlying152 t152,mc underlying209 t209,Pb underlying191 t191,Pb underlying196 t196,Pb underlying147 t147,mc underlying215 t215,mc underlying144 t144 (Re (Vb underlying3 (Vb underlying3 Se))),mc underlying151 t151 (Re (nf underlying9 (Vb underlying3 (Vb underlying3 Se)))),mc underlying117 t117 (Re (Vb underlying3 (Vb underlying3 (Vb underlying3 (Vb underlying3 (Vb underlying3 Se)))))),mc underlying123 t123 (Re (Vb underlying3 (nf underlying9 Se))),mc underlying125 t125 (Re (nf underlying9 (Vb underlying3 Se))),mc underlying127 t127 (qTd (nf underlying9 ⟨by decide,rfl,true,[.int .i64 0,.int .i64 0],[],rfl,UK,rfl⟩)),Pb underlying301 t301,mc underlying206 t206,Pb underlying240 t240,Pb underlying219 t219,Pb underlying349 t349,Pb underlying258 t258,Pb underlying265 t265,Pb underlying267 t267,Pb underlying318 t318,mc underlying321 t321 (Re (Vb underlying3 (Vb underlying3 (Vb underlying3 (Vb underlying3 Se))))),Pb underlying337 t337,mc underlying339 t339,Pb underlying340 t340,Pb underlying330 t330,Pb underlying331 t331,Pb underlying410 t410,trivial⟩
end Go.Proofs.Tryz
