/- Part 4: lemmas that the proofs of this seat share; by itself it claims nothing. -/
import Derived.Test.YthpblceoeonkbaaGreatDoorChecked
import Derived.Test.YthpblceoeonkbaaGreatDoorPt3
--TyZ
namespace Go.Ax
abbrev zi:Value:=.int .i64 0
abbrev zt:Value:=.string ⟨#[]⟩
abbrev zl:Value:=.slice none 0 0
def aO5:TypeDesc→Bool
 |.struct _=>true
 |_=>false
theorem qTa{P:Program}{t:TypeId}{i:bV}{d:TypeDesc}(h:P.underlying t=some d)(ti:TypeInfo)(hi:P.info? t=some ti:=by kernel_rfl)(hd:SP.qJ d=i.j7∧ti.size=i.size∧ti.bytes=i.bytes∧(match i.j7 with|.struct=>true|.array _ _=>true|_=>false)=i.agg∧aO5 d=false∧i.ints=false:=by exact⟨rfl,rfl,rfl,rfl,rfl,rfl⟩)(hz:∃z,ti.zero=some z∧z.cells.toList=i.zero∧(i.agg=false→i.zero=[z]):=by exact⟨_,rfl,rfl,fun h=>by first|(cases h;done)|rfl⟩):b6 P t i:=by
 obtain⟨a,b,c,e,f,g⟩:=hd;obtain⟨z,u,v,w⟩:=hz
 exact⟨⟨d,h,a⟩,⟨ti,hi,b,c,z,u,v⟩,e,fun fs q=>(by rw[h]at q;cases q;cases f),fun q=>⟨ti,z,hi,u,w q⟩,fun q=>(by rw[g]at q;cases q),fun q=>(by rw[g]at q;cases q)⟩
def EZ(P:Program):List Field→List (Nat×Nat)→Bool
 |[],[]=>true
 |f::fs,(o,z)::r=>Nat.beq f.offset o&&(match P.info? f.type with|some ti=>Nat.beq ti.size z|none=>false)&&EZ P fs r
 |_,_=>false
theorem EZ.ok{P:Program}:∀{fs:List Field}{l:List (Nat×Nat)},EZ P fs l=true→sY P fs l
 |[],[],_=>trivial
 |f::fs,(o,z)::r,h=>by
  simp only[EZ,Bool.and_eq_true]at h;obtain⟨⟨h1,h2⟩,h3⟩:=h
  cases hi:P.info? f.type with
  |none=>rw[hi]at h2;cases h2
  |some ti=>rw[hi]at h2;exact⟨Nat.eq_of_beq_eq_true h1,⟨ti,hi,Nat.eq_of_beq_eq_true h2⟩,EZ.ok h3⟩
 |[],_::_,h=>by cases h
 |_::_,[],h=>by cases h
theorem qTb{P:Program}{t:TypeId}{i:bV}{fs:Array Field}(h:P.underlying t=some (.struct fs))(ti:TypeInfo)(hx:i.ints=true→∃n,n≤9999∧aKL P n fs.toList i.zero 0:=by exact fun h=>by cases h)(hi:P.info? t=some ti:=by kernel_rfl)(hd:SP.struct=i.j7∧ti.size=i.zero.length∧ti.size=i.size∧ti.bytes=i.bytes∧i.agg=true:=by exact⟨rfl,rfl,rfl,rfl,rfl⟩)(hz:∃z,ti.zero=some z∧z.cells.toList=i.zero:=by exact⟨_,rfl,rfl⟩)(hf:EZ P fs.toList i.wJ=true:=by kernel_rfl)(he:i.ints=true→P.eqGuardType P.depth t=false∧P.stoodInHeld t=false:=by intro h;first|(cases h;done)|exact⟨kR,kR⟩):b6 P t i:=by
 obtain⟨a,y,b,c,e⟩:=hd;obtain⟨z,u,v⟩:=hz
 exact⟨⟨_,h,a⟩,⟨ti,hi,b,c,z,u,v⟩,(by rw[←a,e]),fun fs' e=>(by rw[h]at e;cases e;exact EZ.ok hf),fun q=>(by rw[e]at q;cases q),fun q=>(he q).1,fun q=>by obtain⟨n,hn,k⟩:=hx q;exact cX (dJ h (he q).2 (iK hi y) k) (by omega)⟩
theorem qTc{P:Program}{q:Prop}{fs:List Field}{zs:List Value}(h:aKL P 1 fs zs 0)(_:q):∃n,n≤9999∧aKL P n fs zs 0:=⟨1,by decide,h⟩
theorem qTd{P:Program}{q:Prop}{fs:List Field}{zs:List Value}(h:aKL P 2 fs zs 0)(_:q):∃n,n≤9999∧aKL P n fs zs 0:=⟨2,by decide,h⟩
theorem mY.qTu{P:Program}{t:TypeId}{a:Bool}{zs:List Value}(h:mY P 1 t a zs):∀n,mY P (n+1) t a zs
 |0=>h
 |n+1=>(h.qTu n).up
section
variable{P:Program}{n j:Nat}{f:Field}{fs:List Field}{zs:List Value}
theorem qTe:aKL P n [] [] j:=rfl
theorem qTi{k:IntKind}{z:Int}(u:P.underlying f.type=some (.int k))(r:aKL P (n+1) fs zs (j+1))(h:f.name≠ "_"∧f.offset=j:=by exact⟨by decide,rfl⟩):aKL P (n+1) (f::fs) (.int k z::zs) j:=⟨h.1,h.2,false,[.int k z],zs,rfl,(cB z u).qTu n,r⟩
theorem qTs{z:ByteArray}(u:P.underlying f.type=some .string)(r:aKL P (n+1) fs zs (j+1))(h:f.name≠ "_"∧f.offset=j:=by exact⟨by decide,rfl⟩):aKL P (n+1) (f::fs) (.string z::zs) j:=⟨h.1,h.2,false,[.string z],zs,rfl,(gA z u).qTu n,r⟩
theorem qTf{z:Bool}(u:P.underlying f.type=some .bool)(r:aKL P (n+1) fs zs (j+1))(h:f.name≠ "_"∧f.offset=j:=by exact⟨by decide,rfl⟩):aKL P (n+1) (f::fs) (.bool z::zs) j:=⟨h.1,h.2,false,[.bool z],zs,rfl,(aDG z u).qTu n,r⟩
end
abbrev qTl(k:Nat):bV:=⟨.slice k,1,24,false,[zl],[],false⟩
end Go.Ax
namespace Go.Proofs.Tryz
open Go Go.Ax
open Tryz
set_option maxRecDepth 100000
theorem UK:mY prog 2 116 true [.int .i64 0,.int .i64 0]:=dJ underlying116 kR (iK (ti:=t116) kR rfl) ⟨by decide,rfl,false,[.int .i64 0],[.int .i64 0],rfl,(cB 0 underlying3),by decide,rfl,false,[.int .i64 0],[],rfl,(cB 0 underlying3),rfl⟩
def ty3:bV:=⟨.int .i64,1,8,false,[zi],[],false⟩
def ty24:bV:=⟨.struct,6,64,true,[zi,zi,zi,zi,zi,zl],[(0,1),(1,1),(2,1),(3,1),(4,1),(5,1)],false⟩
def ty38:bV:=⟨.struct,20,320,true,[zt,zi,zi,zi,zi,zi,zl,zt,zl,zi,zi,zl,zl,zl,zi,zi,zl,zl,zl,zl],[(0,1),(1,6),(7,5),(12,2),(14,1),(15,1),(16,1),(17,1),(18,1),(19,1)],false⟩
def ty72:bV:=⟨.struct,7,104,true,[zi,zi,zi,zi,zl,zl,zl],[(0,1),(1,1),(2,1),(3,1),(4,1),(5,1),(6,1)],false⟩
def ty55:bV:=⟨.struct,13,144,true,[zi,zi,zi,zi,zi,zi,zi,zi,zi,zt,zt,zt,zl],[(0,1),(1,1),(2,1),(3,1),(4,1),(5,1),(6,1),(7,1),(8,1),(9,1),(10,1),(11,1),(12,1)],false⟩
def ty45:bV:=⟨.struct,4,96,true,[zl,zl,zl,zl],[(0,1),(1,1),(2,1),(3,1)],false⟩
def ty57:bV:=⟨.struct,3,32,true,[zi,zt,zi],[(0,1),(1,1),(2,1)],true⟩
def ty67:bV:=⟨.struct,6,72,true,[zt,zi,zi,zi,zl,zi],[(0,1),(1,1),(2,1),(3,1),(4,1),(5,1)],false⟩
def ty82:bV:=⟨.struct,21,344,true,[zt,zi,zi,zi,zi,zi,zl,zt,zl,zi,zi,zl,zl,zl,zi,zi,zl,zl,zl,zl,zl],[(0,20),(20,1)],false⟩
def ty124:bV:=⟨.struct,3,32,true,[zt,zi,zi],[(0,1),(1,2)],true⟩
def tab:List (Nat×bV):=[(1,⟨.func,1,8,false,[.nilFunc],[],false⟩),(2,⟨.int .i64,1,8,false,[zi],[],false⟩),(3,ty3),(4,⟨.bool,1,1,false,[.bool false],[],false⟩),(5,⟨.int .u8,1,1,false,[.int .u8 0],[],false⟩),(7,⟨.struct,4,24,true,[zi,zi,.bool false,.int .u8 0],[(0,1),(1,1),(2,1),(3,1)],true⟩),(9,⟨.string,1,16,false,[zt],[],false⟩),(22,qTl 3),(24,ty24),(25,qTl 114),(26,qTl 62),(28,⟨.struct,5,80,true,[zt,zl,zi,zi,zl],[(0,1),(1,1),(2,1),(3,1),(4,1)],false⟩),(29,qTl 118),(30,qTl 65),(32,⟨.struct,2,48,true,[zl,zl],[(0,1),(1,1)],false⟩),(33,qTl 122),(34,qTl 173),(35,qTl 67),(36,qTl 124),(38,ty38),(39,qTl 55),(69,qTl 80),(70,qTl 112),(72,ty72),(46,⟨.int .i64,1,8,false,[zi],[],false⟩),(55,ty55),(43,qTl 57),(45,ty45),(57,ty57),(94,qTl 9),(102,qTl 109),(109,⟨.struct,7,72,true,[zi,zi,zt,zi,zi,zi,zt],[(0,1),(1,1),(2,1),(3,1),(4,1),(5,1),(6,1)],true⟩),(80,⟨.struct,4,40,true,[zt,zi,zi,zi],[(0,1),(1,1),(2,1),(3,1)],true⟩),(60,qTl 157),(62,⟨.struct,3,48,true,[zt,zi,zl],[(0,1),(1,1),(2,1)],false⟩),(63,qTl 120),(65,⟨.struct,4,56,true,[zt,zi,zi,zl],[(0,1),(1,1),(2,1),(3,1)],false⟩),(67,ty67),(82,ty82),(100,qTl 24),(112,⟨.struct,2,24,true,[zt,zi],[(0,1),(1,1)],true⟩),(116,⟨.struct,2,16,true,[zi,zi],[(0,1),(1,1)],true⟩),(118,⟨.struct,5,48,true,[zt,zi,zi,zi,zi],[(0,1),(1,1),(2,1),(3,2)],true⟩),(173,⟨.struct,3,32,true,[zt,zi,zi],[(0,1),(1,1),(2,1)],true⟩),(313,⟨.struct,2,32,true,[zl,.bool false],[(0,1),(1,1)],false⟩),(90,⟨.struct,5,48,true,[zi,zi,zi,zt,zi],[(0,1),(1,1),(2,1),(3,1),(4,1)],true⟩),(194,⟨.map 9 199,1,8,false,[.map none],[],false⟩),(199,qTl 198),(152,⟨.map 9 165,1,8,false,[.map none],[],false⟩),(165,qTl 217),(217,⟨.struct,14,152,true,[zi,zi,zi,zi,zi,zi,zi,zi,zi,zt,zt,zt,zl,zi],[(0,13),(13,1)],false⟩),(183,qTl 5),(188,⟨.iface,1,16,false,[.nilIface],[],false⟩),(160,qTl 164),(223,⟨.struct,2,48,true,[zl,zl],[(0,2)],false⟩),(157,⟨.struct,2,16,true,[zi,zi],[(0,1),(1,1)],true⟩),(164,⟨.struct,3,32,true,[zt,zi,zi],[(0,1),(1,1),(2,1)],true⟩),(114,⟨.struct,5,40,true,[zi,zi,zi,zi,zi],[(0,1),(1,1),(2,1),(3,1),(4,1)],true⟩),(120,⟨.struct,2,24,true,[zi,zt],[(0,1),(1,1)],true⟩),(122,⟨.struct,2,24,true,[zt,zi],[(0,1),(1,1)],true⟩),(124,ty124),(302,⟨.func,1,8,false,[.nilFunc],[],false⟩),(198,⟨.struct,14,160,true,[zi,zi,zi,zi,zi,zi,zi,zi,zi,zt,zt,zt,zl,zt],[(0,13),(13,1)],false⟩),(236,⟨.map 9 3,1,8,false,[.map none],[],false⟩),(202,⟨.int .u64,1,8,false,[.int .u64 0],[],false⟩),(351,⟨.func,1,8,false,[.nilFunc],[],false⟩),(250,⟨.int .i64,1,8,false,[zi],[],false⟩),(257,⟨.int .u32,1,4,false,[.int .u32 0],[],false⟩),(259,⟨.int .u64,1,8,false,[.int .u64 0],[],false⟩),(333,qTl 336),(336,⟨.struct,4,32,true,[zi,zi,zi,zi],[(0,1),(1,1),(2,1),(3,1)],true⟩),(339,⟨.func,1,8,false,[.nilFunc],[],false⟩),(341,⟨.struct,2,16,true,[zi,.nilFunc],[(0,1),(1,1)],false⟩),(342,⟨.array 4 341,8,64,true,[zi,.nilFunc,zi,.nilFunc,zi,.nilFunc,zi,.nilFunc],[],false⟩),(324,⟨.map 9 4,1,8,false,[.map none],[],false⟩),(325,⟨.map 3 4,1,8,false,[.map none],[],false⟩),(415,⟨.float .f64,1,8,false,[.float .f64 0],[],false⟩)]
theorem aJ:cD prog tab:=⟨qTa underlying1 t1,qTa underlying2 t2,qTa underlying3 t3,qTa underlying4 t4,qTa underlying5 t5,qTb underlying7 t7 (qTc (qTi underlying2 (qTi underlying3 (qTf underlying4 (qTi underlying6 qTe))))),qTa underlying9 t9,qTa underlying22 t22,qTb underlying24 t24,qTa underlying25 t25,qTa underlying26 t26,qTb underlying28 t28,qTa underlying29 t29,qTa underlying30 t30,qTb underlying32 t32,qTa underlying33 t33,qTa underlying34 t34,qTa underlying35 t35,qTa underlying36 t36,qTb underlying38 t38,qTa underlying39 t39,qTa underlying69 t69,qTa underlying70 t70,qTb underlying72 t72,qTa underlying46 t46,qTb underlying55 t55,qTa underlying43 t43,qTb underlying45 t45,qTb underlying57 t57 (qTc (qTi underlying3 (qTs underlying9 (qTi underlying3 qTe)))),qTa underlying94 t94,qTa underlying102 t102,qTb underlying109 t109 (qTc (qTi underlying3 (qTi underlying3 (qTs underlying9 (qTi underlying3 (qTi underlying3 (qTi underlying3 (qTs underlying9 qTe)))))))),qTb underlying80 t80 (qTc (qTs underlying9 (qTi underlying3 (qTi underlying3 (qTi underlying3 qTe))))),qTa underlying60 t60,qTb underlying62 t62,qTa underlying63 t63,qTb underlying65 t65,qTb underlying67 t67,qTb underlying82 t82,qTa underlying100 t100,qTb underlying112 t112 (qTc (qTs underlying9 (qTi underlying3 qTe))),qTb underlying116 t116 (qTc (qTi underlying3 (qTi underlying3 qTe))),qTb underlying118 t118 (qTd (qTs underlying9 (qTi underlying3 (qTi underlying3 ⟨by decide,rfl,true,[.int .i64 0,.int .i64 0],[],rfl,UK,rfl⟩)))),qTb underlying173 t173 (qTc (qTs underlying9 (qTi underlying3 (qTi underlying3 qTe)))),qTb underlying313 t313,qTb underlying90 t90 (qTc (qTi underlying3 (qTi underlying3 (qTi underlying3 (qTs underlying9 (qTi underlying3 qTe)))))),qTa underlying194 t194,qTa underlying199 t199,qTa underlying152 t152,qTa underlying165 t165,qTb underlying217 t217,qTa underlying183 t183,qTa underlying188 t188,qTa underlying160 t160,qTb underlying223 t223,qTb underlying157 t157 (qTc (qTi underlying3 (qTi underlying3 qTe))),qTb underlying164 t164 (qTc (qTs underlying9 (qTi underlying3 (qTi underlying3 qTe)))),qTb underlying114 t114 (qTc (qTi underlying3 (qTi underlying3 (qTi underlying3 (qTi underlying3 (qTi underlying3 qTe)))))),qTb underlying120 t120 (qTc (qTi underlying3 (qTs underlying9 qTe))),qTb underlying122 t122 (qTc (qTs underlying9 (qTi underlying3 qTe))),qTb underlying124 t124 (qTd (qTs underlying9 ⟨by decide,rfl,true,[.int .i64 0,.int .i64 0],[],rfl,UK,rfl⟩)),qTa underlying302 t302,qTb underlying198 t198,qTa underlying236 t236,qTa underlying202 t202,qTa underlying351 t351,qTa underlying250 t250,qTa underlying257 t257,qTa underlying259 t259,qTa underlying333 t333,qTb underlying336 t336 (qTc (qTi underlying3 (qTi underlying3 (qTi underlying3 (qTi underlying3 qTe))))),qTa underlying339 t339,qTb underlying341 t341,qTa underlying342 t342,qTa underlying324 t324,qTa underlying325 t325,qTa underlying415 t415,trivial⟩
end Go.Proofs.Tryz
