/- Part 4: lemmas that the proofs of this seat share; by itself it claims nothing. -/
import Derived.Test.YtplioigfcjbbiaaGreatDoorChecked
import Derived.Test.YtplioigfcjbbiaaGreatDoorPt3
set_option maxRecDepth 100000
set_option linter.defProp false
--TyZ
namespace Go.Ax
abbrev zi:wa:=.int .i64 0
abbrev zt:wa:=.string ⟨#[]⟩
abbrev zl:wa:=.slice none 0 0
def aO5:TypeDesc->Bool
 |.struct _=>true
 |_=>false
def Ub{P:Ba}{t:Ea}{i:bV}{d:TypeDesc}(h:P.underlying t=some d)(ti:TypeInfo)(hi:P.info? t=some ti:=by kernel_rfl)(hd:Ck d=i.j7/\ti.size=i.size/\ti.bytes=i.bytes/\(match i.j7 with|.struct=>true|.array _ _=>true|_=>false)=i.agg/\aO5 d=false/\i.ints=false:=by exact⟨rfl,rfl,rfl,rfl,rfl,rfl⟩)(hz:∃z,ti.zero=some z/\z.cells.toList=i.zero/\(i.agg=false->i.zero=[z]):=by exact⟨_,rfl,rfl,λh=>by first|(cases h;done)|rfl⟩):b6 P t i:=by
 obtain⟨a,b,c,e,f,g⟩:=hd;obtain⟨z,u,v,w⟩:=hz
 exact⟨⟨d,h,a⟩,⟨ti,hi,b,c,z,u,v⟩,e,λY q=>(by rw[h]at q;cases q;cases f),λq=>⟨ti,z,hi,u,w q⟩,λq=>(by rw[g]at q;cases q),λq=>(by rw[g]at q;cases q)⟩
def EZ(P:Ba):List Field->List (Nat×Nat)->Bool
 |[],[]=>true
 |f::Y,(o,z)::r=>Nat.beq f.offset o&&(match P.info? f.type with|some ti=>Nat.beq ti.size z|none=>false)&&EZ P Y r
 |_,_=>false
def EZ.ok{P:Ba}:∀{Y:List Field}{l:List (Nat×Nat)},EZ P Y l=true->sY P Y l
 |[],[],_=>trivial
 |f::Y,(o,z)::r,h=>by
  simp only[EZ,Ya]at h;obtain⟨⟨h1,h2⟩,h3⟩:=h
  cases hi:P.info? f.type with
  |none=>rw[hi]at h2;cases h2
  |some ti=>rw[hi]at h2;exact⟨Rb h1,⟨ti,hi,Rb h2⟩,EZ.ok h3⟩
 |[],_::_,h=>by cases h
 |_::_,[],h=>by cases h
def Ac{P:Ba}{t:Ea}{i:bV}{Y:Array Field}(h:P.underlying t=some (.struct Y))(ti:TypeInfo)(hx:i.ints=true->∃n,n<=9999/\Df P n Y.toList i.zero 0:=by exactλh=>by cases h)(hi:P.info? t=some ti:=by kernel_rfl)(hd:SP.struct=i.j7/\ti.size=i.zero.length/\ti.size=i.size/\ti.bytes=i.bytes/\i.agg=true:=by exact⟨rfl,rfl,rfl,rfl,rfl⟩)(hz:∃z,ti.zero=some z/\z.cells.toList=i.zero:=by exact⟨_,rfl,rfl⟩)(hf:EZ P Y.toList i.wJ=true:=by kernel_rfl)(he:i.ints=true->P.eqGuardType P.depth t=false/\P.stoodInHeld t=false:=by intro h;first|(cases h;done)|exact⟨kR,kR⟩):b6 P t i:=by
 obtain⟨a,y,b,c,e⟩:=hd;obtain⟨z,u,v⟩:=hz
 exact⟨⟨_,h,a⟩,⟨ti,hi,b,c,z,u,v⟩,(by rw[<-a,e]),λfs' e=>(by rw[h]at e;cases e;exact EZ.ok hf),λq=>(by rw[e]at q;cases q),λq=>(he q).1,λq=>by obtain⟨n,hn,k⟩:=hx q;exact cX (dJ h (he q).2 (iK hi y) k) (by omega)⟩
def ff{P:Ba}{q:Prop}{Y:List Field}{zs:List wa}(h:Df P 1 Y zs 0)(_:q):∃n,n<=9999/\Df P n Y zs 0:=⟨1,by decide,h⟩
def qTd{P:Ba}{q:Prop}{Y:List Field}{zs:List wa}(h:Df P 2 Y zs 0)(_:q):∃n,n<=9999/\Df P n Y zs 0:=⟨2,by decide,h⟩
def mY.Lp{P:Ba}{t:Ea}{a:Bool}{zs:List wa}(h:mY P 1 t a zs):∀n,mY P (n+1) t a zs
 |0=>h
 |n+1=>(h.Lp n).up
section
variable{P:Ba}{n j:Nat}{f:Field}{Y:List Field}{zs:List wa}
def ef:Df P n [] [] j:=rfl
def Yb{k:IntKind}{z:Int}(u:P.underlying f.type=some (.int k))(r:Df P (n+1) Y zs (j+1))(h:f.name≠ "_"/\f.offset=j:=by exact⟨by decide,rfl⟩):Df P (n+1) (f::Y) (.int k z::zs) j:=⟨h.1,h.2,false,[.int k z],zs,rfl,(cB z u).Lp n,r⟩
def Yf{z:ta}(u:P.underlying f.type=some .string)(r:Df P (n+1) Y zs (j+1))(h:f.name≠ "_"/\f.offset=j:=by exact⟨by decide,rfl⟩):Df P (n+1) (f::Y) (.string z::zs) j:=⟨h.1,h.2,false,[.string z],zs,rfl,(gA z u).Lp n,r⟩
def qTf{z:Bool}(u:P.underlying f.type=some .bool)(r:Df P (n+1) Y zs (j+1))(h:f.name≠ "_"/\f.offset=j:=by exact⟨by decide,rfl⟩):Df P (n+1) (f::Y) (.bool z::zs) j:=⟨h.1,h.2,false,[.bool z],zs,rfl,(aDG z u).Lp n,r⟩
end
abbrev Ad(k:Nat):bV:=⟨.slice k,1,24,false,[zl],[],false⟩
end Go.Ax
namespace Go.Proofs.Tryz
open Go Go.Ax
open Tryz
def UK:mY prog 2 92 true [.int .i64 0,.int .i64 0]:=dJ underlying92 kR (iK (ti:=t92) kR rfl) ⟨by decide,rfl,false,[.int .i64 0],[.int .i64 0],rfl,(cB 0 underlying3),by decide,rfl,false,[.int .i64 0],[],rfl,(cB 0 underlying3),rfl⟩
def tl:bV:=⟨.int .i64,1,8,false,[zi],[],false⟩
def Fi:bV:=⟨.struct,6,64,true,[zi,zi,zi,zi,zi,zl],[(0,1),(1,1),(2,1),(3,1),(4,1),(5,1)],false⟩
def Ah:bV:=⟨.struct,20,320,true,[zt,zi,zi,zi,zi,zi,zl,zt,zl,zi,zi,zl,zl,zl,zi,zi,zl,zl,zl,zl],[(0,1),(1,6),(7,5),(12,2),(14,1),(15,1),(16,1),(17,1),(18,1),(19,1)],false⟩
def Ai:bV:=⟨.struct,7,104,true,[zi,zi,zi,zi,zl,zl,zl],[(0,1),(1,1),(2,1),(3,1),(4,1),(5,1),(6,1)],false⟩
def lf:bV:=⟨.struct,13,144,true,[zi,zi,zi,zi,zi,zi,zi,zi,zi,zt,zt,zt,zl],[(0,1),(1,1),(2,1),(3,1),(4,1),(5,1),(6,1),(7,1),(8,1),(9,1),(10,1),(11,1),(12,1)],false⟩
def ae:bV:=⟨.struct,4,96,true,[zl,zl,zl,zl],[(0,1),(1,1),(2,1),(3,1)],false⟩
def nq:bV:=⟨.struct,3,32,true,[zi,zt,zi],[(0,1),(1,1),(2,1)],true⟩
def aq:bV:=⟨.struct,6,72,true,[zt,zi,zi,zi,zl,zi],[(0,1),(1,1),(2,1),(3,1),(4,1),(5,1)],false⟩
def Jx:bV:=⟨.struct,21,344,true,[zt,zi,zi,zi,zi,zi,zl,zt,zl,zi,zi,zl,zl,zl,zi,zi,zl,zl,zl,zl,zl],[(0,20),(20,1)],false⟩
def Lx:bV:=⟨.struct,3,32,true,[zt,zi,zi],[(0,1),(1,2)],true⟩
def tab:List (Nat×bV):=[(1,⟨.func,1,8,false,[.nilFunc],[],false⟩),(2,⟨.int .i64,1,8,false,[zi],[],false⟩),(3,tl),(4,⟨.bool,1,1,false,[.bool false],[],false⟩),(5,⟨.int .u8,1,1,false,[.int .u8 0],[],false⟩),(7,⟨.struct,4,24,true,[zi,zi,.bool false,.int .u8 0],[(0,1),(1,1),(2,1),(3,1)],true⟩),(9,⟨.string,1,16,false,[zt],[],false⟩),(22,Ad 3),(24,Fi),(25,Ad 123),(26,Ad 61),(28,⟨.struct,5,80,true,[zt,zl,zi,zi,zl],[(0,1),(1,1),(2,1),(3,1),(4,1)],false⟩),(29,Ad 94),(30,Ad 64),(32,⟨.struct,2,48,true,[zl,zl],[(0,1),(1,1)],false⟩),(33,Ad 127),(34,Ad 174),(35,Ad 66),(36,Ad 129),(38,Ah),(39,Ad 69),(70,Ad 81),(71,Ad 121),(73,Ai),(44,⟨.int .i64,1,8,false,[zi],[],false⟩),(69,lf),(102,Ad 224),(104,ae),(224,nq),(107,Ad 9),(43,Ad 96),(96,⟨.struct,7,72,true,[zi,zi,zt,zi,zi,zi,zt],[(0,1),(1,1),(2,1),(3,1),(4,1),(5,1),(6,1)],true⟩),(47,Ad 56),(56,⟨.struct,2,24,true,[zt,zi],[(0,1),(1,1)],true⟩),(81,⟨.struct,4,40,true,[zt,zi,zi,zi],[(0,1),(1,1),(2,1),(3,1)],true⟩),(59,Ad 141),(61,⟨.struct,3,48,true,[zt,zi,zl],[(0,1),(1,1),(2,1)],false⟩),(62,Ad 125),(64,⟨.struct,4,56,true,[zt,zi,zi,zl],[(0,1),(1,1),(2,1),(3,1)],false⟩),(66,aq),(83,Jx),(87,Ad 24),(121,⟨.struct,2,24,true,[zt,zi],[(0,1),(1,1)],true⟩),(92,⟨.struct,2,16,true,[zi,zi],[(0,1),(1,1)],true⟩),(94,⟨.struct,5,48,true,[zt,zi,zi,zi,zi],[(0,1),(1,1),(2,1),(3,2)],true⟩),(174,⟨.struct,3,32,true,[zt,zi,zi],[(0,1),(1,1),(2,1)],true⟩),(310,⟨.struct,2,32,true,[zl,.bool false],[(0,1),(1,1)],false⟩),(156,⟨.struct,5,48,true,[zi,zi,zi,zt,zi],[(0,1),(1,1),(2,1),(3,1),(4,1)],true⟩),(195,⟨.map 9 200,1,8,false,[.map none],[],false⟩),(200,Ad 199),(89,⟨.map 9 97,1,8,false,[.map none],[],false⟩),(97,Ad 99),(99,⟨.struct,14,152,true,[zi,zi,zi,zi,zi,zi,zi,zi,zi,zt,zt,zt,zl,zi],[(0,13),(13,1)],false⟩),(184,Ad 5),(189,⟨.iface,1,16,false,[.nilIface],[],false⟩),(144,Ad 148),(205,⟨.struct,2,48,true,[zl,zl],[(0,2)],false⟩),(141,⟨.struct,2,16,true,[zi,zi],[(0,1),(1,1)],true⟩),(148,⟨.struct,3,32,true,[zt,zi,zi],[(0,1),(1,1),(2,1)],true⟩),(123,⟨.struct,5,40,true,[zi,zi,zi,zi,zi],[(0,1),(1,1),(2,1),(3,1),(4,1)],true⟩),(125,⟨.struct,2,24,true,[zi,zt],[(0,1),(1,1)],true⟩),(127,⟨.struct,2,24,true,[zt,zi],[(0,1),(1,1)],true⟩),(129,Lx),(299,⟨.func,1,8,false,[.nilFunc],[],false⟩),(199,⟨.struct,14,160,true,[zi,zi,zi,zi,zi,zi,zi,zi,zi,zt,zt,zt,zl,zt],[(0,13),(13,1)],false⟩),(240,⟨.map 9 3,1,8,false,[.map none],[],false⟩),(258,⟨.int .u64,1,8,false,[.int .u64 0],[],false⟩),(363,⟨.func,1,8,false,[.nilFunc],[],false⟩),(322,⟨.int .i64,1,8,false,[zi],[],false⟩),(329,⟨.int .u32,1,4,false,[.int .u32 0],[],false⟩),(288,⟨.int .u64,1,8,false,[.int .u64 0],[],false⟩),(316,Ad 319),(319,⟨.struct,4,32,true,[zi,zi,zi,zi],[(0,1),(1,1),(2,1),(3,1)],true⟩),(276,Ad 280),(280,⟨.struct,4,32,true,[zi,zi,zi,zi],[(0,1),(1,1),(2,1),(3,1)],true⟩),(351,⟨.func,1,8,false,[.nilFunc],[],false⟩),(353,⟨.struct,2,16,true,[zi,.nilFunc],[(0,1),(1,1)],false⟩),(354,⟨.array 4 353,8,64,true,[zi,.nilFunc,zi,.nilFunc,zi,.nilFunc,zi,.nilFunc],[],false⟩),(396,⟨.map 9 4,1,8,false,[.map none],[],false⟩),(397,⟨.map 3 4,1,8,false,[.map none],[],false⟩),(438,⟨.float .f64,1,8,false,[.float .f64 0],[],false⟩)]
def aJ:cD prog tab:=⟨Ub underlying1 t1,Ub underlying2 t2,Ub underlying3 t3,Ub underlying4 t4,Ub underlying5 t5,Ac underlying7 t7 (ff (Yb underlying2 (Yb underlying3 (qTf underlying4 (Yb underlying6 ef))))),Ub underlying9 t9,Ub underlying22 t22,Ac underlying24 t24,Ub underlying25 t25,Ub underlying26 t26,Ac underlying28 t28,Ub underlying29 t29,Ub underlying30 t30,Ac underlying32 t32,Ub underlying33 t33,Ub underlying34 t34,Ub underlying35 t35,Ub underlying36 t36,Ac underlying38 t38,Ub underlying39 t39,Ub underlying70 t70,Ub underlying71 t71,Ac underlying73 t73,Ub underlying44 t44,Ac underlying69 t69,Ub underlying102 t102,Ac underlying104 t104,Ac underlying224 t224 (ff (Yb underlying3 (Yf underlying9 (Yb underlying3 ef)))),Ub underlying107 t107,Ub underlying43 t43,Ac underlying96 t96 (ff (Yb underlying3 (Yb underlying3 (Yf underlying9 (Yb underlying3 (Yb underlying3 (Yb underlying3 (Yf underlying9 ef)))))))),Ub underlying47 t47,Ac underlying56 t56 (ff (Yf underlying9 (Yb underlying3 ef))),Ac underlying81 t81 (ff (Yf underlying9 (Yb underlying3 (Yb underlying3 (Yb underlying3 ef))))),Ub underlying59 t59,Ac underlying61 t61,Ub underlying62 t62,Ac underlying64 t64,Ac underlying66 t66,Ac underlying83 t83,Ub underlying87 t87,Ac underlying121 t121 (ff (Yf underlying9 (Yb underlying3 ef))),Ac underlying92 t92 (ff (Yb underlying3 (Yb underlying3 ef))),Ac underlying94 t94 (qTd (Yf underlying9 (Yb underlying3 (Yb underlying3 ⟨by decide,rfl,true,[.int .i64 0,.int .i64 0],[],rfl,UK,rfl⟩)))),Ac underlying174 t174 (ff (Yf underlying9 (Yb underlying3 (Yb underlying3 ef)))),Ac underlying310 t310,Ac underlying156 t156 (ff (Yb underlying3 (Yb underlying3 (Yb underlying3 (Yf underlying9 (Yb underlying3 ef)))))),Ub underlying195 t195,Ub underlying200 t200,Ub underlying89 t89,Ub underlying97 t97,Ac underlying99 t99,Ub underlying184 t184,Ub underlying189 t189,Ub underlying144 t144,Ac underlying205 t205,Ac underlying141 t141 (ff (Yb underlying3 (Yb underlying3 ef))),Ac underlying148 t148 (ff (Yf underlying9 (Yb underlying3 (Yb underlying3 ef)))),Ac underlying123 t123 (ff (Yb underlying3 (Yb underlying3 (Yb underlying3 (Yb underlying3 (Yb underlying3 ef)))))),Ac underlying125 t125 (ff (Yb underlying3 (Yf underlying9 ef))),Ac underlying127 t127 (ff (Yf underlying9 (Yb underlying3 ef))),Ac underlying129 t129 (qTd (Yf underlying9 ⟨by decide,rfl,true,[.int .i64 0,.int .i64 0],[],rfl,UK,rfl⟩)),Ub underlying299 t299,Ac underlying199 t199,Ub underlying240 t240,Ub underlying258 t258,Ub underlying363 t363,Ub underlying322 t322,Ub underlying329 t329,Ub underlying288 t288,Ub underlying316 t316,Ac underlying319 t319 (ff (Yb underlying3 (Yb underlying3 (Yb underlying3 (Yb underlying3 ef))))),Ub underlying276 t276,Ac underlying280 t280 (ff (Yb underlying3 (Yb underlying3 (Yb underlying3 (Yb underlying3 ef))))),Ub underlying351 t351,Ac underlying353 t353,Ub underlying354 t354,Ub underlying396 t396,Ub underlying397 t397,Ub underlying438 t438,trivial⟩
end Go.Proofs.Tryz
