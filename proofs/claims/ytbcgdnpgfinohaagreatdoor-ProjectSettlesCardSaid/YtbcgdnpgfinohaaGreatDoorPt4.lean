/- Part 4: lemmas that the proofs of this seat share; by itself it claims nothing. -/
import Derived.Test.YtbcgdnpgfinohaaGreatDoorChecked
import Derived.Test.YtbcgdnpgfinohaaGreatDoorPt3
set_option maxRecDepth 100000
set_option linter.defProp false
--TyZ
namespace Go.Ax
abbrev zi:Aa:=.int .i64 0
abbrev zt:Aa:=.string ⟨#[]⟩
abbrev zl:Aa:=.slice none 0 0
def aO5:TypeDesc->Bool
 |.struct _=>true
 |_=>false
def Xb{P:Ca}{t:Fa}{i:bV}{d:TypeDesc}(h:P.underlying t=some d)(ti:TypeInfo)(hi:P.info? t=some ti:=by kernel_rfl)(hd:Zk d=i.j7/\ti.size=i.size/\ti.bytes=i.bytes/\(match i.j7 with|.struct=>true|.array _ _=>true|_=>false)=i.agg/\aO5 d=false/\i.ints=false:=by exact⟨rfl,rfl,rfl,rfl,rfl,rfl⟩)(hz:∃z,ti.zero=some z/\z.cells.toList=i.zero/\(i.agg=false->i.zero=[z]):=by exact⟨_,rfl,rfl,λh=>by first|(cases h;done)|rfl⟩):b6 P t i:=by
 obtain⟨a,b,c,e,f,g⟩:=hd;obtain⟨z,u,v,w⟩:=hz
 exact⟨⟨d,h,a⟩,⟨ti,hi,b,c,z,u,v⟩,e,λY q=>(by rw[h]at q;cases q;cases f),λq=>⟨ti,z,hi,u,w q⟩,λq=>(by rw[g]at q;cases q),λq=>(by rw[g]at q;cases q)⟩
def EZ(P:Ca):List Field->List (Nat×Nat)->Bool
 |[],[]=>true
 |f::Y,(o,z)::r=>Nat.beq f.offset o&&(match P.info? f.type with|some ti=>Nat.beq ti.size z|none=>false)&&EZ P Y r
 |_,_=>false
def EZ.ok{P:Ca}:∀{Y:List Field}{l:List (Nat×Nat)},EZ P Y l=true->sY P Y l
 |[],[],_=>trivial
 |f::Y,(o,z)::r,h=>by
  simp only[EZ,fb]at h;obtain⟨⟨h1,h2⟩,h3⟩:=h
  cases hi:P.info? f.type with
  |none=>rw[hi]at h2;cases h2
  |some ti=>rw[hi]at h2;exact⟨Sb h1,⟨ti,hi,Sb h2⟩,EZ.ok h3⟩
 |[],_::_,h=>by cases h
 |_::_,[],h=>by cases h
def Lc{P:Ca}{t:Fa}{i:bV}{Y:Array Field}(h:P.underlying t=some (.struct Y))(ti:TypeInfo)(hx:i.ints=true->∃n,n<=9999/\Yf P n Y.toList i.zero 0:=by exactλh=>by cases h)(hi:P.info? t=some ti:=by kernel_rfl)(hd:SP.struct=i.j7/\ti.size=i.zero.length/\ti.size=i.size/\ti.bytes=i.bytes/\i.agg=true:=by exact⟨rfl,rfl,rfl,rfl,rfl⟩)(hz:∃z,ti.zero=some z/\z.cells.toList=i.zero:=by exact⟨_,rfl,rfl⟩)(hf:EZ P Y.toList i.wJ=true:=by kernel_rfl)(he:i.ints=true->P.eqGuardType P.depth t=false/\P.stoodInHeld t=false:=by intro h;first|(cases h;done)|exact⟨kR,kR⟩):b6 P t i:=by
 obtain⟨a,y,b,c,e⟩:=hd;obtain⟨z,u,v⟩:=hz
 exact⟨⟨_,h,a⟩,⟨ti,hi,b,c,z,u,v⟩,(by rw[<-a,e]),λfs' e=>(by rw[h]at e;cases e;exact EZ.ok hf),λq=>(by rw[e]at q;cases q),λq=>(he q).1,λq=>by obtain⟨n,hn,k⟩:=hx q;exact cX (dJ h (he q).2 (iK hi y) k) (by omega)⟩
def Vf{P:Ca}{q:Prop}{Y:List Field}{zs:List Aa}(h:Yf P 1 Y zs 0)(_:q):∃n,n<=9999/\Yf P n Y zs 0:=⟨1,by decide,h⟩
def qTd{P:Ca}{q:Prop}{Y:List Field}{zs:List Aa}(h:Yf P 2 Y zs 0)(_:q):∃n,n<=9999/\Yf P n Y zs 0:=⟨2,by decide,h⟩
def mY.oq{P:Ca}{t:Fa}{a:Bool}{zs:List Aa}(h:mY P 1 t a zs):∀n,mY P (n+1) t a zs
 |0=>h
 |n+1=>(h.oq n).up
section
variable{P:Ca}{n j:Nat}{f:Field}{Y:List Field}{zs:List Aa}
def Pf:Yf P n [] [] j:=rfl
def fc{k:IntKind}{z:Int}(u:P.underlying f.type=some (.int k))(r:Yf P (n+1) Y zs (j+1))(h:f.name≠ "_"/\f.offset=j:=by exact⟨by decide,rfl⟩):Yf P (n+1) (f::Y) (.int k z::zs) j:=⟨h.1,h.2,false,[.int k z],zs,rfl,(cB z u).oq n,r⟩
def Yg{z:wa}(u:P.underlying f.type=some .string)(r:Yf P (n+1) Y zs (j+1))(h:f.name≠ "_"/\f.offset=j:=by exact⟨by decide,rfl⟩):Yf P (n+1) (f::Y) (.string z::zs) j:=⟨h.1,h.2,false,[.string z],zs,rfl,(gA z u).oq n,r⟩
def qTf{z:Bool}(u:P.underlying f.type=some .bool)(r:Yf P (n+1) Y zs (j+1))(h:f.name≠ "_"/\f.offset=j:=by exact⟨by decide,rfl⟩):Yf P (n+1) (f::Y) (.bool z::zs) j:=⟨h.1,h.2,false,[.bool z],zs,rfl,(aDG z u).oq n,r⟩
end
abbrev Qd(k:Nat):bV:=⟨.slice k,1,24,false,[zl],[],false⟩
end Go.Ax
namespace Go.Proofs.Tryz
open Go Go.Ax
open Tryz
def UK:mY prog 2 95 true [.int .i64 0,.int .i64 0]:=dJ underlying95 kR (iK (ti:=t95) kR rfl) ⟨by decide,rfl,false,[.int .i64 0],[.int .i64 0],rfl,(cB 0 underlying3),by decide,rfl,false,[.int .i64 0],[],rfl,(cB 0 underlying3),rfl⟩
def km:bV:=⟨.int .i64,1,8,false,[zi],[],false⟩
def Aj:bV:=⟨.struct,6,64,true,[zi,zi,zi,zi,zi,zl],[(0,1),(1,1),(2,1),(3,1),(4,1),(5,1)],false⟩
def di:bV:=⟨.struct,20,320,true,[zt,zi,zi,zi,zi,zi,zl,zt,zl,zi,zi,zl,zl,zl,zi,zi,zl,zl,zl,zl],[(0,1),(1,6),(7,5),(12,2),(14,1),(15,1),(16,1),(17,1),(18,1),(19,1)],false⟩
def Kg:bV:=⟨.struct,7,104,true,[zi,zi,zi,zi,zl,zl,zl],[(0,1),(1,1),(2,1),(3,1),(4,1),(5,1),(6,1)],false⟩
def Df:bV:=⟨.struct,13,144,true,[zi,zi,zi,zi,zi,zi,zi,zi,zi,zt,zt,zt,zl],[(0,1),(1,1),(2,1),(3,1),(4,1),(5,1),(6,1),(7,1),(8,1),(9,1),(10,1),(11,1),(12,1)],false⟩
def ze:bV:=⟨.struct,4,96,true,[zl,zl,zl,zl],[(0,1),(1,1),(2,1),(3,1)],false⟩
def rq:bV:=⟨.struct,3,32,true,[zi,zt,zi],[(0,1),(1,1),(2,1)],true⟩
def tr:bV:=⟨.struct,6,72,true,[zt,zi,zi,zi,zl,zi],[(0,1),(1,1),(2,1),(3,1),(4,1),(5,1)],false⟩
def Ny:bV:=⟨.struct,21,344,true,[zt,zi,zi,zi,zi,zi,zl,zt,zl,zi,zi,zl,zl,zl,zi,zi,zl,zl,zl,zl,zl],[(0,20),(20,1)],false⟩
def My:bV:=⟨.struct,3,32,true,[zt,zi,zi],[(0,1),(1,2)],true⟩
def tab:List (Nat×bV):=[(1,⟨.func,1,8,false,[.nilFunc],[],false⟩),(2,⟨.int .i64,1,8,false,[zi],[],false⟩),(3,km),(4,⟨.bool,1,1,false,[.bool false],[],false⟩),(5,⟨.int .u8,1,1,false,[.int .u8 0],[],false⟩),(7,⟨.struct,4,24,true,[zi,zi,.bool false,.int .u8 0],[(0,1),(1,1),(2,1),(3,1)],true⟩),(9,⟨.string,1,16,false,[zt],[],false⟩),(22,Qd 3),(24,Aj),(25,Qd 111),(26,Qd 58),(28,⟨.struct,5,80,true,[zt,zl,zi,zi,zl],[(0,1),(1,1),(2,1),(3,1),(4,1)],false⟩),(29,Qd 97),(30,Qd 61),(32,⟨.struct,2,48,true,[zl,zl],[(0,1),(1,1)],false⟩),(33,Qd 115),(34,Qd 100),(35,Qd 63),(36,Qd 117),(38,di),(39,Qd 66),(43,Qd 72),(44,Qd 89),(46,Kg),(47,⟨.int .i64,1,8,false,[zi],[],false⟩),(66,Df),(150,Qd 260),(152,ze),(260,rq),(104,Qd 9),(79,Qd 86),(86,⟨.struct,7,72,true,[zi,zi,zt,zi,zi,zi,zt],[(0,1),(1,1),(2,1),(3,1),(4,1),(5,1),(6,1)],true⟩),(72,⟨.struct,4,40,true,[zt,zi,zi,zi],[(0,1),(1,1),(2,1),(3,1)],true⟩),(56,Qd 131),(58,⟨.struct,3,48,true,[zt,zi,zl],[(0,1),(1,1),(2,1)],false⟩),(59,Qd 113),(61,⟨.struct,4,56,true,[zt,zi,zi,zl],[(0,1),(1,1),(2,1),(3,1)],false⟩),(63,tr),(74,Ny),(77,Qd 24),(89,⟨.struct,2,24,true,[zt,zi],[(0,1),(1,1)],true⟩),(95,⟨.struct,2,16,true,[zi,zi],[(0,1),(1,1)],true⟩),(97,⟨.struct,5,48,true,[zt,zi,zi,zi,zi],[(0,1),(1,1),(2,1),(3,2)],true⟩),(100,⟨.struct,3,32,true,[zt,zi,zi],[(0,1),(1,1),(2,1)],true⟩),(303,⟨.struct,2,32,true,[zl,.bool false],[(0,1),(1,1)],false⟩),(212,⟨.struct,5,48,true,[zi,zi,zi,zt,zi],[(0,1),(1,1),(2,1),(3,1),(4,1)],true⟩),(186,⟨.map 9 191,1,8,false,[.map none],[],false⟩),(191,Qd 190),(126,⟨.map 9 139,1,8,false,[.map none],[],false⟩),(139,Qd 194),(194,⟨.struct,14,152,true,[zi,zi,zi,zi,zi,zi,zi,zi,zi,zt,zt,zt,zl,zi],[(0,13),(13,1)],false⟩),(175,Qd 5),(180,⟨.iface,1,16,false,[.nilIface],[],false⟩),(134,Qd 138),(200,⟨.struct,2,48,true,[zl,zl],[(0,2)],false⟩),(131,⟨.struct,2,16,true,[zi,zi],[(0,1),(1,1)],true⟩),(138,⟨.struct,3,32,true,[zt,zi,zi],[(0,1),(1,1),(2,1)],true⟩),(111,⟨.struct,5,40,true,[zi,zi,zi,zi,zi],[(0,1),(1,1),(2,1),(3,1),(4,1)],true⟩),(113,⟨.struct,2,24,true,[zi,zt],[(0,1),(1,1)],true⟩),(115,⟨.struct,2,24,true,[zt,zi],[(0,1),(1,1)],true⟩),(117,My),(290,⟨.func,1,8,false,[.nilFunc],[],false⟩),(190,⟨.struct,14,160,true,[zi,zi,zi,zi,zi,zi,zi,zi,zi,zt,zt,zt,zl,zt],[(0,13),(13,1)],false⟩),(228,⟨.map 9 3,1,8,false,[.map none],[],false⟩),(308,⟨.int .u64,1,8,false,[.int .u64 0],[],false⟩),(340,⟨.func,1,8,false,[.nilFunc],[],false⟩),(363,⟨.int .i64,1,8,false,[zi],[],false⟩),(336,⟨.int .u32,1,4,false,[.int .u32 0],[],false⟩),(279,⟨.int .u64,1,8,false,[.int .u64 0],[],false⟩),(317,Qd 320),(320,⟨.struct,4,32,true,[zi,zi,zi,zi],[(0,1),(1,1),(2,1),(3,1)],true⟩),(270,Qd 274),(274,⟨.struct,4,32,true,[zi,zi,zi,zi],[(0,1),(1,1),(2,1),(3,1)],true⟩),(323,⟨.func,1,8,false,[.nilFunc],[],false⟩),(325,⟨.struct,2,16,true,[zi,.nilFunc],[(0,1),(1,1)],false⟩),(326,⟨.array 4 325,8,64,true,[zi,.nilFunc,zi,.nilFunc,zi,.nilFunc,zi,.nilFunc],[],false⟩),(393,⟨.map 9 4,1,8,false,[.map none],[],false⟩),(394,⟨.map 3 4,1,8,false,[.map none],[],false⟩),(436,⟨.float .f64,1,8,false,[.float .f64 0],[],false⟩)]
def aJ:cD prog tab:=⟨Xb underlying1 t1,Xb underlying2 t2,Xb underlying3 t3,Xb underlying4 t4,Xb underlying5 t5,Lc underlying7 t7 (Vf (fc underlying2 (fc underlying3 (qTf underlying4 (fc underlying6 Pf))))),Xb underlying9 t9,Xb underlying22 t22,Lc underlying24 t24,Xb underlying25 t25,Xb underlying26 t26,Lc underlying28 t28,Xb underlying29 t29,Xb underlying30 t30,Lc underlying32 t32,Xb underlying33 t33,Xb underlying34 t34,Xb underlying35 t35,Xb underlying36 t36,Lc underlying38 t38,Xb underlying39 t39,Xb underlying43 t43,Xb underlying44 t44,Lc underlying46 t46,Xb underlying47 t47,Lc underlying66 t66,Xb underlying150 t150,Lc underlying152 t152,Lc underlying260 t260 (Vf (fc underlying3 (Yg underlying9 (fc underlying3 Pf)))),Xb underlying104 t104,Xb underlying79 t79,Lc underlying86 t86 (Vf (fc underlying3 (fc underlying3 (Yg underlying9 (fc underlying3 (fc underlying3 (fc underlying3 (Yg underlying9 Pf)))))))),Lc underlying72 t72 (Vf (Yg underlying9 (fc underlying3 (fc underlying3 (fc underlying3 Pf))))),Xb underlying56 t56,Lc underlying58 t58,Xb underlying59 t59,Lc underlying61 t61,Lc underlying63 t63,Lc underlying74 t74,Xb underlying77 t77,Lc underlying89 t89 (Vf (Yg underlying9 (fc underlying3 Pf))),Lc underlying95 t95 (Vf (fc underlying3 (fc underlying3 Pf))),Lc underlying97 t97 (qTd (Yg underlying9 (fc underlying3 (fc underlying3 ⟨by decide,rfl,true,[.int .i64 0,.int .i64 0],[],rfl,UK,rfl⟩)))),Lc underlying100 t100 (Vf (Yg underlying9 (fc underlying3 (fc underlying3 Pf)))),Lc underlying303 t303,Lc underlying212 t212 (Vf (fc underlying3 (fc underlying3 (fc underlying3 (Yg underlying9 (fc underlying3 Pf)))))),Xb underlying186 t186,Xb underlying191 t191,Xb underlying126 t126,Xb underlying139 t139,Lc underlying194 t194,Xb underlying175 t175,Xb underlying180 t180,Xb underlying134 t134,Lc underlying200 t200,Lc underlying131 t131 (Vf (fc underlying3 (fc underlying3 Pf))),Lc underlying138 t138 (Vf (Yg underlying9 (fc underlying3 (fc underlying3 Pf)))),Lc underlying111 t111 (Vf (fc underlying3 (fc underlying3 (fc underlying3 (fc underlying3 (fc underlying3 Pf)))))),Lc underlying113 t113 (Vf (fc underlying3 (Yg underlying9 Pf))),Lc underlying115 t115 (Vf (Yg underlying9 (fc underlying3 Pf))),Lc underlying117 t117 (qTd (Yg underlying9 ⟨by decide,rfl,true,[.int .i64 0,.int .i64 0],[],rfl,UK,rfl⟩)),Xb underlying290 t290,Lc underlying190 t190,Xb underlying228 t228,Xb underlying308 t308,Xb underlying340 t340,Xb underlying363 t363,Xb underlying336 t336,Xb underlying279 t279,Xb underlying317 t317,Lc underlying320 t320 (Vf (fc underlying3 (fc underlying3 (fc underlying3 (fc underlying3 Pf))))),Xb underlying270 t270,Lc underlying274 t274 (Vf (fc underlying3 (fc underlying3 (fc underlying3 (fc underlying3 Pf))))),Xb underlying323 t323,Lc underlying325 t325,Xb underlying326 t326,Xb underlying393 t393,Xb underlying394 t394,Xb underlying436 t436,trivial⟩
end Go.Proofs.Tryz
