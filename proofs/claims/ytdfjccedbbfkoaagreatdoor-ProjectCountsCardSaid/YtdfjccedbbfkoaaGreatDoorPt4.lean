/- Part 4: lemmas that the proofs of this seat share; by itself it claims nothing. -/
import Derived.Test.YtdfjccedbbfkoaaGreatDoorChecked
import Derived.Test.YtdfjccedbbfkoaaGreatDoorPt3
--TyZ
namespace Go.Ax
abbrev zi:Value:=.int .i64 0
abbrev zt:Value:=.string ⟨#[]⟩
abbrev zl:Value:=.slice none 0 0
def aO5:TypeDesc→Bool
 |.struct _=>true
 |_=>false
theorem o1{P:Program}{t:TypeId}{i:bV}{d:TypeDesc}{ti:TypeInfo}{z:Value}(h:P.underlying t=some d)(hi:P.info? t=some ti)(hz:ti.zero=some z)(hd:SP.qJ d=i.j7)(hs:ti.size=i.size)(hb:ti.bytes=i.bytes)(hc:z.cells.toList=i.zero)(ha:(match i.j7 with|.struct=>true|.array _ _=>true|_=>false)=i.agg)(h1:i.zero=[z])(hn:aO5 d=false)(hx:i.ints=false):b6 P t i:=
 ⟨⟨d,h,hd⟩,⟨ti,hi,hs,hb,z,hz,hc⟩,ha,fun fs e=>(by rw[h]at e;cases e;cases hn),fun _=>⟨ti,z,hi,hz,h1⟩,fun e=>(by rw[hx]at e;cases e),fun e=>(by rw[hx]at e;cases e)⟩
def EZ(P:Program):List Field→List (Nat×Nat)→Bool
 |[],[]=>true
 |f::fs,(o,z)::r=>Nat.beq f.offset o&&(match P.info? f.type with|some ti=>Nat.beq ti.size z|none=>false)&&EZ P fs r
 |_,_=>false
theorem EZ.ok{P:Program}:∀{fs:List Field}{l:List (Nat×Nat)},EZ P fs l=true→sY P fs l
 |[],[],_=>trivial
 |f::fs,(o,z)::r,h=>by
  simp only[EZ,Bool.and_eq_true]at h;obtain⟨⟨h1,h2⟩,h3⟩:=h
  cases hi:P.info? f.type with
  |none=>rw[hi]at h2;cases h2
  |some ti=>rw[hi]at h2;exact⟨Nat.eq_of_beq_eq_true h1,⟨ti,hi,Nat.eq_of_beq_eq_true h2⟩,EZ.ok h3⟩
 |[],_::_,h=>by cases h
 |_::_,[],h=>by cases h
theorem o3{P:Program}{t:TypeId}{i:bV}{fs:Array Field}{ti:TypeInfo}{z:Value}(h:P.underlying t=some (.struct fs))(hi:P.info? t=some ti)(hz:ti.zero=some z)(hd:SP.struct=i.j7)(hs:ti.size=i.size)(hb:ti.bytes=i.bytes)(hc:z.cells.toList=i.zero)(ha:i.agg=true)(hf:EZ P fs.toList i.wJ=true)(he:i.ints=true→P.eqGuardType P.depth t=false)(hx:i.ints=true→∀(w:World)(xs ys:List SV)(vs us:List Value)(b:Bool),gT i.zero xs=true→gT i.zero ys=true→uG xs ys=some b→cV (fun _ _=>none) (fun _=>none) xs vs→cV (fun _ _=>none) (fun _=>none) ys us→(Op.equal t (.agg vs.toArray) (.agg us.toArray)).run P w=.ok b w):b6 P t i:=
 ⟨⟨_,h,hd⟩,⟨ti,hi,hs,hb,z,hz,hc⟩,(by rw[←hd,ha]),fun fs' e=>(by rw[h]at e;cases e;exact EZ.ok hf),fun e=>(by rw[ha]at e;cases e),he,hx⟩
theorem o2{P:Program}{t:TypeId}{i:bV}{fs:Array Field}{ti:TypeInfo}{z:Value}(h:P.underlying t=some (.struct fs))(hi:P.info? t=some ti)(hz:ti.zero=some z)(hd:SP.struct=i.j7)(hs:ti.size=i.size)(hb:ti.bytes=i.bytes)(hc:z.cells.toList=i.zero)(ha:i.agg=true)(hf:EZ P fs.toList i.wJ=true)(hx:i.ints=false):b6 P t i:=
 o3 h hi hz hd hs hb hc ha hf (fun e=>by rw[hx]at e;cases e) (fun e=>by rw[hx]at e;cases e)
end Go.Ax
namespace Go.Proofs.Tryz
open Go Go.Ax
def ty1:bV:=⟨.func,1,8,false,[.nilFunc],[],false⟩
theorem ty1_ok:b6 Tryz.prog 1 ty1:=o1 Tryz.underlying1 (ti:=Tryz.t1) kR rfl rfl rfl rfl rfl rfl rfl rfl rfl
def ty2:bV:=⟨.int .i64,1,8,false,[zi],[],false⟩
theorem ty2_ok:b6 Tryz.prog 2 ty2:=o1 Tryz.underlying2 (ti:=Tryz.t2) kR rfl rfl rfl rfl rfl rfl rfl rfl rfl
def ty3:bV:=⟨.int .i64,1,8,false,[zi],[],false⟩
theorem ty3_ok:b6 Tryz.prog 3 ty3:=o1 Tryz.underlying3 (ti:=Tryz.t3) kR rfl rfl rfl rfl rfl rfl rfl rfl rfl
def ty4:bV:=⟨.bool,1,1,false,[.bool false],[],false⟩
theorem ty4_ok:b6 Tryz.prog 4 ty4:=o1 Tryz.underlying4 (ti:=Tryz.t4) kR rfl rfl rfl rfl rfl rfl rfl rfl rfl
def ty5:bV:=⟨.int .u8,1,1,false,[.int .u8 0],[],false⟩
theorem ty5_ok:b6 Tryz.prog 5 ty5:=o1 Tryz.underlying5 (ti:=Tryz.t5) kR rfl rfl rfl rfl rfl rfl rfl rfl rfl
theorem aP6:mY Tryz.prog 2 7 true [.int .i64 0,.int .i64 0,.bool false,.int .u8 0]:=dJ Tryz.underlying7 kR (iK (ti:=Tryz.t7) kR rfl) ⟨by decide,rfl,false,[.int .i64 0],[.int .i64 0,.bool false,.int .u8 0],rfl,(cB 0 Tryz.underlying2),by decide,rfl,false,[.int .i64 0],[.bool false,.int .u8 0],rfl,(cB 0 Tryz.underlying3),by decide,rfl,false,[.bool false],[.int .u8 0],rfl,(aDG false Tryz.underlying4),by decide,rfl,false,[.int .u8 0],[],rfl,(cB 0 Tryz.underlying6),rfl⟩
def ty7:bV:=⟨.struct,4,24,true,[zi,zi,.bool false,.int .u8 0],[(0,1),(1,1),(2,1),(3,1)],true⟩
theorem ty7_ok:b6 Tryz.prog 7 ty7:=o3 Tryz.underlying7 (ti:=Tryz.t7) kR rfl rfl rfl rfl rfl rfl kR (fun _=>by kernel_rfl) (fun _=>cX aP6 zeE)
def ty9:bV:=⟨.string,1,16,false,[zt],[],false⟩
theorem ty9_ok:b6 Tryz.prog 9 ty9:=o1 Tryz.underlying9 (ti:=Tryz.t9) kR rfl rfl rfl rfl rfl rfl rfl rfl rfl
def ty21:bV:=⟨.int .i32,1,4,false,[.int .i32 0],[],false⟩
theorem ty21_ok:b6 Tryz.prog 21 ty21:=o1 Tryz.underlying21 (ti:=Tryz.t21) kR rfl rfl rfl rfl rfl rfl rfl rfl rfl
def ty22:bV:=⟨.slice 3,1,24,false,[zl],[],false⟩
theorem ty22_ok:b6 Tryz.prog 22 ty22:=o1 Tryz.underlying22 (ti:=Tryz.t22) kR rfl rfl rfl rfl rfl rfl rfl rfl rfl
def ty24:bV:=⟨.struct,6,64,true,[zi,zi,zi,zi,zi,zl],[(0,1),(1,1),(2,1),(3,1),(4,1),(5,1)],false⟩
theorem ty24_ok:b6 Tryz.prog 24 ty24:=o2 Tryz.underlying24 (ti:=Tryz.t24) kR rfl rfl rfl rfl rfl rfl kR rfl
def ty25:bV:=⟨.slice 112,1,24,false,[zl],[],false⟩
theorem ty25_ok:b6 Tryz.prog 25 ty25:=o1 Tryz.underlying25 (ti:=Tryz.t25) kR rfl rfl rfl rfl rfl rfl rfl rfl rfl
def ty26:bV:=⟨.slice 58,1,24,false,[zl],[],false⟩
theorem ty26_ok:b6 Tryz.prog 26 ty26:=o1 Tryz.underlying26 (ti:=Tryz.t26) kR rfl rfl rfl rfl rfl rfl rfl rfl rfl
def ty28:bV:=⟨.struct,5,80,true,[zt,zl,zi,zi,zl],[(0,1),(1,1),(2,1),(3,1),(4,1)],false⟩
theorem ty28_ok:b6 Tryz.prog 28 ty28:=o2 Tryz.underlying28 (ti:=Tryz.t28) kR rfl rfl rfl rfl rfl rfl kR rfl
def ty29:bV:=⟨.slice 116,1,24,false,[zl],[],false⟩
theorem ty29_ok:b6 Tryz.prog 29 ty29:=o1 Tryz.underlying29 (ti:=Tryz.t29) kR rfl rfl rfl rfl rfl rfl rfl rfl rfl
def ty30:bV:=⟨.slice 61,1,24,false,[zl],[],false⟩
theorem ty30_ok:b6 Tryz.prog 30 ty30:=o1 Tryz.underlying30 (ti:=Tryz.t30) kR rfl rfl rfl rfl rfl rfl rfl rfl rfl
def ty32:bV:=⟨.struct,2,48,true,[zl,zl],[(0,1),(1,1)],false⟩
theorem ty32_ok:b6 Tryz.prog 32 ty32:=o2 Tryz.underlying32 (ti:=Tryz.t32) kR rfl rfl rfl rfl rfl rfl kR rfl
def ty33:bV:=⟨.slice 120,1,24,false,[zl],[],false⟩
theorem ty33_ok:b6 Tryz.prog 33 ty33:=o1 Tryz.underlying33 (ti:=Tryz.t33) kR rfl rfl rfl rfl rfl rfl rfl rfl rfl
def ty34:bV:=⟨.slice 182,1,24,false,[zl],[],false⟩
theorem ty34_ok:b6 Tryz.prog 34 ty34:=o1 Tryz.underlying34 (ti:=Tryz.t34) kR rfl rfl rfl rfl rfl rfl rfl rfl rfl
def ty35:bV:=⟨.slice 63,1,24,false,[zl],[],false⟩
theorem ty35_ok:b6 Tryz.prog 35 ty35:=o1 Tryz.underlying35 (ti:=Tryz.t35) kR rfl rfl rfl rfl rfl rfl rfl rfl rfl
def ty36:bV:=⟨.slice 122,1,24,false,[zl],[],false⟩
theorem ty36_ok:b6 Tryz.prog 36 ty36:=o1 Tryz.underlying36 (ti:=Tryz.t36) kR rfl rfl rfl rfl rfl rfl rfl rfl rfl
def ty38:bV:=⟨.struct,20,320,true,[zt,zi,zi,zi,zi,zi,zl,zt,zl,zi,zi,zl,zl,zl,zi,zi,zl,zl,zl,zl],[(0,1),(1,6),(7,5),(12,2),(14,1),(15,1),(16,1),(17,1),(18,1),(19,1)],false⟩
theorem ty38_ok:b6 Tryz.prog 38 ty38:=o2 Tryz.underlying38 (ti:=Tryz.t38) kR rfl rfl rfl rfl rfl rfl kR rfl
def ty39:bV:=⟨.slice 66,1,24,false,[zl],[],false⟩
theorem ty39_ok:b6 Tryz.prog 39 ty39:=o1 Tryz.underlying39 (ti:=Tryz.t39) kR rfl rfl rfl rfl rfl rfl rfl rfl rfl
def ty67:bV:=⟨.slice 78,1,24,false,[zl],[],false⟩
theorem ty67_ok:b6 Tryz.prog 67 ty67:=o1 Tryz.underlying67 (ti:=Tryz.t67) kR rfl rfl rfl rfl rfl rfl rfl rfl rfl
def ty68:bV:=⟨.slice 110,1,24,false,[zl],[],false⟩
theorem ty68_ok:b6 Tryz.prog 68 ty68:=o1 Tryz.underlying68 (ti:=Tryz.t68) kR rfl rfl rfl rfl rfl rfl rfl rfl rfl
def ty70:bV:=⟨.struct,7,104,true,[zi,zi,zi,zi,zl,zl,zl],[(0,1),(1,1),(2,1),(3,1),(4,1),(5,1),(6,1)],false⟩
theorem ty70_ok:b6 Tryz.prog 70 ty70:=o2 Tryz.underlying70 (ti:=Tryz.t70) kR rfl rfl rfl rfl rfl rfl kR rfl
def ty43:bV:=⟨.int .i64,1,8,false,[zi],[],false⟩
theorem ty43_ok:b6 Tryz.prog 43 ty43:=o1 Tryz.underlying43 (ti:=Tryz.t43) kR rfl rfl rfl rfl rfl rfl rfl rfl rfl
def ty66:bV:=⟨.struct,13,144,true,[zi,zi,zi,zi,zi,zi,zi,zi,zi,zt,zt,zt,zl],[(0,1),(1,1),(2,1),(3,1),(4,1),(5,1),(6,1),(7,1),(8,1),(9,1),(10,1),(11,1),(12,1)],false⟩
theorem ty66_ok:b6 Tryz.prog 66 ty66:=o2 Tryz.underlying66 (ti:=Tryz.t66) kR rfl rfl rfl rfl rfl rfl kR rfl
def ty151:bV:=⟨.slice 223,1,24,false,[zl],[],false⟩
theorem ty151_ok:b6 Tryz.prog 151 ty151:=o1 Tryz.underlying151 (ti:=Tryz.t151) kR rfl rfl rfl rfl rfl rfl rfl rfl rfl
def ty153:bV:=⟨.struct,4,96,true,[zl,zl,zl,zl],[(0,1),(1,1),(2,1),(3,1)],false⟩
theorem ty153_ok:b6 Tryz.prog 153 ty153:=o2 Tryz.underlying153 (ti:=Tryz.t153) kR rfl rfl rfl rfl rfl rfl kR rfl
theorem aJT:mY Tryz.prog 2 223 true [.int .i64 0,.string ⟨#[]⟩,.int .i64 0]:=dJ Tryz.underlying223 kR (iK (ti:=Tryz.t223) kR rfl) ⟨by decide,rfl,false,[.int .i64 0],[.string ⟨#[]⟩,.int .i64 0],rfl,(cB 0 Tryz.underlying3),by decide,rfl,false,[.string ⟨#[]⟩],[.int .i64 0],rfl,(gA ⟨#[]⟩ Tryz.underlying9),by decide,rfl,false,[.int .i64 0],[],rfl,(cB 0 Tryz.underlying3),rfl⟩
def ty223:bV:=⟨.struct,3,32,true,[zi,zt,zi],[(0,1),(1,1),(2,1)],true⟩
theorem ty223_ok:b6 Tryz.prog 223 ty223:=o3 Tryz.underlying223 (ti:=Tryz.t223) kR rfl rfl rfl rfl rfl rfl kR (fun _=>by kernel_rfl) (fun _=>cX aJT zeE)
def ty46:bV:=⟨.slice 9,1,24,false,[zl],[],false⟩
theorem ty46_ok:b6 Tryz.prog 46 ty46:=o1 Tryz.underlying46 (ti:=Tryz.t46) kR rfl rfl rfl rfl rfl rfl rfl rfl rfl
def ty100:bV:=⟨.slice 107,1,24,false,[zl],[],false⟩
theorem ty100_ok:b6 Tryz.prog 100 ty100:=o1 Tryz.underlying100 (ti:=Tryz.t100) kR rfl rfl rfl rfl rfl rfl rfl rfl rfl
theorem aJ3:mY Tryz.prog 2 107 true [.int .i64 0,.int .i64 0,.string ⟨#[]⟩,.int .i64 0,.int .i64 0,.int .i64 0,.string ⟨#[]⟩]:=dJ Tryz.underlying107 kR (iK (ti:=Tryz.t107) kR rfl) ⟨by decide,rfl,false,[.int .i64 0],[.int .i64 0,.string ⟨#[]⟩,.int .i64 0,.int .i64 0,.int .i64 0,.string ⟨#[]⟩],rfl,(cB 0 Tryz.underlying3),by decide,rfl,false,[.int .i64 0],[.string ⟨#[]⟩,.int .i64 0,.int .i64 0,.int .i64 0,.string ⟨#[]⟩],rfl,(cB 0 Tryz.underlying3),by decide,rfl,false,[.string ⟨#[]⟩],[.int .i64 0,.int .i64 0,.int .i64 0,.string ⟨#[]⟩],rfl,(gA ⟨#[]⟩ Tryz.underlying9),by decide,rfl,false,[.int .i64 0],[.int .i64 0,.int .i64 0,.string ⟨#[]⟩],rfl,(cB 0 Tryz.underlying3),by decide,rfl,false,[.int .i64 0],[.int .i64 0,.string ⟨#[]⟩],rfl,(cB 0 Tryz.underlying3),by decide,rfl,false,[.int .i64 0],[.string ⟨#[]⟩],rfl,(cB 0 Tryz.underlying3),by decide,rfl,false,[.string ⟨#[]⟩],[],rfl,(gA ⟨#[]⟩ Tryz.underlying9),rfl⟩
def ty107:bV:=⟨.struct,7,72,true,[zi,zi,zt,zi,zi,zi,zt],[(0,1),(1,1),(2,1),(3,1),(4,1),(5,1),(6,1)],true⟩
theorem ty107_ok:b6 Tryz.prog 107 ty107:=o3 Tryz.underlying107 (ti:=Tryz.t107) kR rfl rfl rfl rfl rfl rfl kR (fun _=>by kernel_rfl) (fun _=>cX aJ3 zeE)
theorem aNJ:mY Tryz.prog 2 78 true [.string ⟨#[]⟩,.int .i64 0,.int .i64 0,.int .i64 0]:=dJ Tryz.underlying78 kR (iK (ti:=Tryz.t78) kR rfl) ⟨by decide,rfl,false,[.string ⟨#[]⟩],[.int .i64 0,.int .i64 0,.int .i64 0],rfl,(gA ⟨#[]⟩ Tryz.underlying9),by decide,rfl,false,[.int .i64 0],[.int .i64 0,.int .i64 0],rfl,(cB 0 Tryz.underlying3),by decide,rfl,false,[.int .i64 0],[.int .i64 0],rfl,(cB 0 Tryz.underlying3),by decide,rfl,false,[.int .i64 0],[],rfl,(cB 0 Tryz.underlying3),rfl⟩
def ty78:bV:=⟨.struct,4,40,true,[zt,zi,zi,zi],[(0,1),(1,1),(2,1),(3,1)],true⟩
theorem ty78_ok:b6 Tryz.prog 78 ty78:=o3 Tryz.underlying78 (ti:=Tryz.t78) kR rfl rfl rfl rfl rfl rfl kR (fun _=>by kernel_rfl) (fun _=>cX aNJ zeE)
def ty56:bV:=⟨.slice 166,1,24,false,[zl],[],false⟩
theorem ty56_ok:b6 Tryz.prog 56 ty56:=o1 Tryz.underlying56 (ti:=Tryz.t56) kR rfl rfl rfl rfl rfl rfl rfl rfl rfl
def ty58:bV:=⟨.struct,3,48,true,[zt,zi,zl],[(0,1),(1,1),(2,1)],false⟩
theorem ty58_ok:b6 Tryz.prog 58 ty58:=o2 Tryz.underlying58 (ti:=Tryz.t58) kR rfl rfl rfl rfl rfl rfl kR rfl
def ty59:bV:=⟨.slice 118,1,24,false,[zl],[],false⟩
theorem ty59_ok:b6 Tryz.prog 59 ty59:=o1 Tryz.underlying59 (ti:=Tryz.t59) kR rfl rfl rfl rfl rfl rfl rfl rfl rfl
def ty61:bV:=⟨.struct,4,56,true,[zt,zi,zi,zl],[(0,1),(1,1),(2,1),(3,1)],false⟩
theorem ty61_ok:b6 Tryz.prog 61 ty61:=o2 Tryz.underlying61 (ti:=Tryz.t61) kR rfl rfl rfl rfl rfl rfl kR rfl
def ty63:bV:=⟨.struct,6,72,true,[zt,zi,zi,zi,zl,zi],[(0,1),(1,1),(2,1),(3,1),(4,1),(5,1)],false⟩
theorem ty63_ok:b6 Tryz.prog 63 ty63:=o2 Tryz.underlying63 (ti:=Tryz.t63) kR rfl rfl rfl rfl rfl rfl kR rfl
def ty95:bV:=⟨.struct,21,344,true,[zt,zi,zi,zi,zi,zi,zl,zt,zl,zi,zi,zl,zl,zl,zi,zi,zl,zl,zl,zl,zl],[(0,20),(20,1)],false⟩
theorem ty95_ok:b6 Tryz.prog 95 ty95:=o2 Tryz.underlying95 (ti:=Tryz.t95) kR rfl rfl rfl rfl rfl rfl kR rfl
def ty98:bV:=⟨.slice 24,1,24,false,[zl],[],false⟩
theorem ty98_ok:b6 Tryz.prog 98 ty98:=o1 Tryz.underlying98 (ti:=Tryz.t98) kR rfl rfl rfl rfl rfl rfl rfl rfl rfl
theorem aJ2:mY Tryz.prog 2 110 true [.string ⟨#[]⟩,.int .i64 0]:=dJ Tryz.underlying110 kR (iK (ti:=Tryz.t110) kR rfl) ⟨by decide,rfl,false,[.string ⟨#[]⟩],[.int .i64 0],rfl,(gA ⟨#[]⟩ Tryz.underlying9),by decide,rfl,false,[.int .i64 0],[],rfl,(cB 0 Tryz.underlying3),rfl⟩
def ty110:bV:=⟨.struct,2,24,true,[zt,zi],[(0,1),(1,1)],true⟩
theorem ty110_ok:b6 Tryz.prog 110 ty110:=o3 Tryz.underlying110 (ti:=Tryz.t110) kR rfl rfl rfl rfl rfl rfl kR (fun _=>by kernel_rfl) (fun _=>cX aJ2 zeE)
theorem UK:mY Tryz.prog 2 114 true [.int .i64 0,.int .i64 0]:=dJ Tryz.underlying114 kR (iK (ti:=Tryz.t114) kR rfl) ⟨by decide,rfl,false,[.int .i64 0],[.int .i64 0],rfl,(cB 0 Tryz.underlying3),by decide,rfl,false,[.int .i64 0],[],rfl,(cB 0 Tryz.underlying3),rfl⟩
def ty114:bV:=⟨.struct,2,16,true,[zi,zi],[(0,1),(1,1)],true⟩
theorem ty114_ok:b6 Tryz.prog 114 ty114:=o3 Tryz.underlying114 (ti:=Tryz.t114) kR rfl rfl rfl rfl rfl rfl kR (fun _=>by kernel_rfl) (fun _=>cX UK zeE)
theorem aJ0:mY Tryz.prog 3 116 true [.string ⟨#[]⟩,.int .i64 0,.int .i64 0,.int .i64 0,.int .i64 0]:=dJ Tryz.underlying116 kR (iK (ti:=Tryz.t116) kR rfl) ⟨by decide,rfl,false,[.string ⟨#[]⟩],[.int .i64 0,.int .i64 0,.int .i64 0,.int .i64 0],rfl,(mY.up (gA ⟨#[]⟩ Tryz.underlying9)),by decide,rfl,false,[.int .i64 0],[.int .i64 0,.int .i64 0,.int .i64 0],rfl,(mY.up (cB 0 Tryz.underlying3)),by decide,rfl,false,[.int .i64 0],[.int .i64 0,.int .i64 0],rfl,(mY.up (cB 0 Tryz.underlying3)),by decide,rfl,true,[.int .i64 0,.int .i64 0],[],rfl,UK,rfl⟩
def ty116:bV:=⟨.struct,5,48,true,[zt,zi,zi,zi,zi],[(0,1),(1,1),(2,1),(3,2)],true⟩
theorem ty116_ok:b6 Tryz.prog 116 ty116:=o3 Tryz.underlying116 (ti:=Tryz.t116) kR rfl rfl rfl rfl rfl rfl kR (fun _=>by kernel_rfl) (fun _=>cX aJ0 zeE)
theorem aJU:mY Tryz.prog 2 182 true [.string ⟨#[]⟩,.int .i64 0,.int .i64 0]:=dJ Tryz.underlying182 kR (iK (ti:=Tryz.t182) kR rfl) ⟨by decide,rfl,false,[.string ⟨#[]⟩],[.int .i64 0,.int .i64 0],rfl,(gA ⟨#[]⟩ Tryz.underlying9),by decide,rfl,false,[.int .i64 0],[.int .i64 0],rfl,(cB 0 Tryz.underlying3),by decide,rfl,false,[.int .i64 0],[],rfl,(cB 0 Tryz.underlying3),rfl⟩
def ty182:bV:=⟨.struct,3,32,true,[zt,zi,zi],[(0,1),(1,1),(2,1)],true⟩
theorem ty182_ok:b6 Tryz.prog 182 ty182:=o3 Tryz.underlying182 (ti:=Tryz.t182) kR rfl rfl rfl rfl rfl rfl kR (fun _=>by kernel_rfl) (fun _=>cX aJU zeE)
def ty207:bV:=⟨.struct,2,32,true,[zl,.bool false],[(0,1),(1,1)],false⟩
theorem ty207_ok:b6 Tryz.prog 207 ty207:=o2 Tryz.underlying207 (ti:=Tryz.t207) kR rfl rfl rfl rfl rfl rfl kR rfl
theorem aJS:mY Tryz.prog 2 289 true [.int .i64 0,.int .i64 0,.int .i64 0,.string ⟨#[]⟩,.int .i64 0]:=dJ Tryz.underlying289 kR (iK (ti:=Tryz.t289) kR rfl) ⟨by decide,rfl,false,[.int .i64 0],[.int .i64 0,.int .i64 0,.string ⟨#[]⟩,.int .i64 0],rfl,(cB 0 Tryz.underlying3),by decide,rfl,false,[.int .i64 0],[.int .i64 0,.string ⟨#[]⟩,.int .i64 0],rfl,(cB 0 Tryz.underlying3),by decide,rfl,false,[.int .i64 0],[.string ⟨#[]⟩,.int .i64 0],rfl,(cB 0 Tryz.underlying3),by decide,rfl,false,[.string ⟨#[]⟩],[.int .i64 0],rfl,(gA ⟨#[]⟩ Tryz.underlying9),by decide,rfl,false,[.int .i64 0],[],rfl,(cB 0 Tryz.underlying3),rfl⟩
def ty289:bV:=⟨.struct,5,48,true,[zi,zi,zi,zt,zi],[(0,1),(1,1),(2,1),(3,1),(4,1)],true⟩
theorem ty289_ok:b6 Tryz.prog 289 ty289:=o3 Tryz.underlying289 (ti:=Tryz.t289) kR rfl rfl rfl rfl rfl rfl kR (fun _=>by kernel_rfl) (fun _=>cX aJS zeE)
def ty80:bV:=⟨.map 9 84,1,8,false,[.map none],[],false⟩
theorem ty80_ok:b6 Tryz.prog 80 ty80:=o1 Tryz.underlying80 (ti:=Tryz.t80) kR rfl rfl rfl rfl rfl rfl rfl rfl rfl
def ty84:bV:=⟨.slice 131,1,24,false,[zl],[],false⟩
theorem ty84_ok:b6 Tryz.prog 84 ty84:=o1 Tryz.underlying84 (ti:=Tryz.t84) kR rfl rfl rfl rfl rfl rfl rfl rfl rfl
def ty161:bV:=⟨.map 9 174,1,8,false,[.map none],[],false⟩
theorem ty161_ok:b6 Tryz.prog 161 ty161:=o1 Tryz.underlying161 (ti:=Tryz.t161) kR rfl rfl rfl rfl rfl rfl rfl rfl rfl
def ty174:bV:=⟨.slice 231,1,24,false,[zl],[],false⟩
theorem ty174_ok:b6 Tryz.prog 174 ty174:=o1 Tryz.underlying174 (ti:=Tryz.t174) kR rfl rfl rfl rfl rfl rfl rfl rfl rfl
def ty231:bV:=⟨.struct,14,152,true,[zi,zi,zi,zi,zi,zi,zi,zi,zi,zt,zt,zt,zl,zi],[(0,13),(13,1)],false⟩
theorem ty231_ok:b6 Tryz.prog 231 ty231:=o2 Tryz.underlying231 (ti:=Tryz.t231) kR rfl rfl rfl rfl rfl rfl kR rfl
def ty189:bV:=⟨.pointer,1,8,false,[.pointer none],[],false⟩
theorem ty189_ok:b6 Tryz.prog 189 ty189:=o1 Tryz.underlying189 (ti:=Tryz.t189) kR rfl rfl rfl rfl rfl rfl rfl rfl rfl
def ty190:bV:=⟨.slice 5,1,24,false,[zl],[],false⟩
theorem ty190_ok:b6 Tryz.prog 190 ty190:=o1 Tryz.underlying190 (ti:=Tryz.t190) kR rfl rfl rfl rfl rfl rfl rfl rfl rfl
def ty192:bV:=⟨.struct,2,32,true,[.pointer none,zl],[(0,1),(1,1)],false⟩
theorem ty192_ok:b6 Tryz.prog 192 ty192:=o2 Tryz.underlying192 (ti:=Tryz.t192) kR rfl rfl rfl rfl rfl rfl kR rfl
def ty195:bV:=⟨.iface,1,16,false,[.nilIface],[],false⟩
theorem ty195_ok:b6 Tryz.prog 195 ty195:=o1 Tryz.underlying195 (ti:=Tryz.t195) kR rfl rfl rfl rfl rfl rfl rfl rfl rfl
def ty169:bV:=⟨.slice 173,1,24,false,[zl],[],false⟩
theorem ty169_ok:b6 Tryz.prog 169 ty169:=o1 Tryz.underlying169 (ti:=Tryz.t169) kR rfl rfl rfl rfl rfl rfl rfl rfl rfl
def ty237:bV:=⟨.struct,2,48,true,[zl,zl],[(0,2)],false⟩
theorem ty237_ok:b6 Tryz.prog 237 ty237:=o2 Tryz.underlying237 (ti:=Tryz.t237) kR rfl rfl rfl rfl rfl rfl kR rfl
theorem aJW:mY Tryz.prog 2 166 true [.int .i64 0,.int .i64 0]:=dJ Tryz.underlying166 kR (iK (ti:=Tryz.t166) kR rfl) ⟨by decide,rfl,false,[.int .i64 0],[.int .i64 0],rfl,(cB 0 Tryz.underlying3),by decide,rfl,false,[.int .i64 0],[],rfl,(cB 0 Tryz.underlying3),rfl⟩
def ty166:bV:=⟨.struct,2,16,true,[zi,zi],[(0,1),(1,1)],true⟩
theorem ty166_ok:b6 Tryz.prog 166 ty166:=o3 Tryz.underlying166 (ti:=Tryz.t166) kR rfl rfl rfl rfl rfl rfl kR (fun _=>by kernel_rfl) (fun _=>cX aJW zeE)
theorem aJV:mY Tryz.prog 2 173 true [.string ⟨#[]⟩,.int .i64 0,.int .i64 0]:=dJ Tryz.underlying173 kR (iK (ti:=Tryz.t173) kR rfl) ⟨by decide,rfl,false,[.string ⟨#[]⟩],[.int .i64 0,.int .i64 0],rfl,(gA ⟨#[]⟩ Tryz.underlying9),by decide,rfl,false,[.int .i64 0],[.int .i64 0],rfl,(cB 0 Tryz.underlying3),by decide,rfl,false,[.int .i64 0],[],rfl,(cB 0 Tryz.underlying3),rfl⟩
def ty173:bV:=⟨.struct,3,32,true,[zt,zi,zi],[(0,1),(1,1),(2,1)],true⟩
theorem ty173_ok:b6 Tryz.prog 173 ty173:=o3 Tryz.underlying173 (ti:=Tryz.t173) kR rfl rfl rfl rfl rfl rfl kR (fun _=>by kernel_rfl) (fun _=>cX aJV zeE)
theorem aJ1:mY Tryz.prog 2 112 true [.int .i64 0,.int .i64 0,.int .i64 0,.int .i64 0,.int .i64 0]:=dJ Tryz.underlying112 kR (iK (ti:=Tryz.t112) kR rfl) ⟨by decide,rfl,false,[.int .i64 0],[.int .i64 0,.int .i64 0,.int .i64 0,.int .i64 0],rfl,(cB 0 Tryz.underlying3),by decide,rfl,false,[.int .i64 0],[.int .i64 0,.int .i64 0,.int .i64 0],rfl,(cB 0 Tryz.underlying3),by decide,rfl,false,[.int .i64 0],[.int .i64 0,.int .i64 0],rfl,(cB 0 Tryz.underlying3),by decide,rfl,false,[.int .i64 0],[.int .i64 0],rfl,(cB 0 Tryz.underlying3),by decide,rfl,false,[.int .i64 0],[],rfl,(cB 0 Tryz.underlying3),rfl⟩
def ty112:bV:=⟨.struct,5,40,true,[zi,zi,zi,zi,zi],[(0,1),(1,1),(2,1),(3,1),(4,1)],true⟩
theorem ty112_ok:b6 Tryz.prog 112 ty112:=o3 Tryz.underlying112 (ti:=Tryz.t112) kR rfl rfl rfl rfl rfl rfl kR (fun _=>by kernel_rfl) (fun _=>cX aJ1 zeE)
theorem aJZ:mY Tryz.prog 2 118 true [.int .i64 0,.string ⟨#[]⟩]:=dJ Tryz.underlying118 kR (iK (ti:=Tryz.t118) kR rfl) ⟨by decide,rfl,false,[.int .i64 0],[.string ⟨#[]⟩],rfl,(cB 0 Tryz.underlying3),by decide,rfl,false,[.string ⟨#[]⟩],[],rfl,(gA ⟨#[]⟩ Tryz.underlying9),rfl⟩
def ty118:bV:=⟨.struct,2,24,true,[zi,zt],[(0,1),(1,1)],true⟩
theorem ty118_ok:b6 Tryz.prog 118 ty118:=o3 Tryz.underlying118 (ti:=Tryz.t118) kR rfl rfl rfl rfl rfl rfl kR (fun _=>by kernel_rfl) (fun _=>cX aJZ zeE)
theorem aJY:mY Tryz.prog 2 120 true [.string ⟨#[]⟩,.int .i64 0]:=dJ Tryz.underlying120 kR (iK (ti:=Tryz.t120) kR rfl) ⟨by decide,rfl,false,[.string ⟨#[]⟩],[.int .i64 0],rfl,(gA ⟨#[]⟩ Tryz.underlying9),by decide,rfl,false,[.int .i64 0],[],rfl,(cB 0 Tryz.underlying3),rfl⟩
def ty120:bV:=⟨.struct,2,24,true,[zt,zi],[(0,1),(1,1)],true⟩
theorem ty120_ok:b6 Tryz.prog 120 ty120:=o3 Tryz.underlying120 (ti:=Tryz.t120) kR rfl rfl rfl rfl rfl rfl kR (fun _=>by kernel_rfl) (fun _=>cX aJY zeE)
theorem aJX:mY Tryz.prog 3 122 true [.string ⟨#[]⟩,.int .i64 0,.int .i64 0]:=dJ Tryz.underlying122 kR (iK (ti:=Tryz.t122) kR rfl) ⟨by decide,rfl,false,[.string ⟨#[]⟩],[.int .i64 0,.int .i64 0],rfl,(mY.up (gA ⟨#[]⟩ Tryz.underlying9)),by decide,rfl,true,[.int .i64 0,.int .i64 0],[],rfl,UK,rfl⟩
def ty122:bV:=⟨.struct,3,32,true,[zt,zi,zi],[(0,1),(1,2)],true⟩
theorem ty122_ok:b6 Tryz.prog 122 ty122:=o3 Tryz.underlying122 (ti:=Tryz.t122) kR rfl rfl rfl rfl rfl rfl kR (fun _=>by kernel_rfl) (fun _=>cX aJX zeE)
def ty249:bV:=⟨.func,1,8,false,[.nilFunc],[],false⟩
theorem ty249_ok:b6 Tryz.prog 249 ty249:=o1 Tryz.underlying249 (ti:=Tryz.t249) kR rfl rfl rfl rfl rfl rfl rfl rfl rfl
def ty131:bV:=⟨.struct,14,160,true,[zi,zi,zi,zi,zi,zi,zi,zi,zi,zt,zt,zt,zl,zt],[(0,13),(13,1)],false⟩
theorem ty131_ok:b6 Tryz.prog 131 ty131:=o2 Tryz.underlying131 (ti:=Tryz.t131) kR rfl rfl rfl rfl rfl rfl kR rfl
def ty132:bV:=⟨.map 9 3,1,8,false,[.map none],[],false⟩
theorem ty132_ok:b6 Tryz.prog 132 ty132:=o1 Tryz.underlying132 (ti:=Tryz.t132) kR rfl rfl rfl rfl rfl rfl rfl rfl rfl
def ty212:bV:=⟨.int .u64,1,8,false,[.int .u64 0],[],false⟩
theorem ty212_ok:b6 Tryz.prog 212 ty212:=o1 Tryz.underlying212 (ti:=Tryz.t212) kR rfl rfl rfl rfl rfl rfl rfl rfl rfl
def ty245:bV:=⟨.pointer,1,8,false,[.pointer none],[],false⟩
theorem ty245_ok:b6 Tryz.prog 245 ty245:=o1 Tryz.underlying245 (ti:=Tryz.t245) kR rfl rfl rfl rfl rfl rfl rfl rfl rfl
def ty308:bV:=⟨.func,1,8,false,[.nilFunc],[],false⟩
theorem ty308_ok:b6 Tryz.prog 308 ty308:=o1 Tryz.underlying308 (ti:=Tryz.t308) kR rfl rfl rfl rfl rfl rfl rfl rfl rfl
def ty266:bV:=⟨.int .i64,1,8,false,[zi],[],false⟩
theorem ty266_ok:b6 Tryz.prog 266 ty266:=o1 Tryz.underlying266 (ti:=Tryz.t266) kR rfl rfl rfl rfl rfl rfl rfl rfl rfl
def ty273:bV:=⟨.int .u32,1,4,false,[.int .u32 0],[],false⟩
theorem ty273_ok:b6 Tryz.prog 273 ty273:=o1 Tryz.underlying273 (ti:=Tryz.t273) kR rfl rfl rfl rfl rfl rfl rfl rfl rfl
def ty275:bV:=⟨.int .u64,1,8,false,[.int .u64 0],[],false⟩
theorem ty275_ok:b6 Tryz.prog 275 ty275:=o1 Tryz.underlying275 (ti:=Tryz.t275) kR rfl rfl rfl rfl rfl rfl rfl rfl rfl
def ty303:bV:=⟨.other,1,8,false,[.pointer none],[],false⟩
theorem ty303_ok:b6 Tryz.prog 303 ty303:=o1 Tryz.underlying303 (ti:=Tryz.t303) kR rfl rfl rfl rfl rfl rfl rfl rfl rfl
def ty344:bV:=⟨.slice 347,1,24,false,[zl],[],false⟩
theorem ty344_ok:b6 Tryz.prog 344 ty344:=o1 Tryz.underlying344 (ti:=Tryz.t344) kR rfl rfl rfl rfl rfl rfl rfl rfl rfl
theorem aJR:mY Tryz.prog 2 347 true [.int .i64 0,.int .i64 0,.int .i64 0,.int .i64 0]:=dJ Tryz.underlying347 kR (iK (ti:=Tryz.t347) kR rfl) ⟨by decide,rfl,false,[.int .i64 0],[.int .i64 0,.int .i64 0,.int .i64 0],rfl,(cB 0 Tryz.underlying3),by decide,rfl,false,[.int .i64 0],[.int .i64 0,.int .i64 0],rfl,(cB 0 Tryz.underlying3),by decide,rfl,false,[.int .i64 0],[.int .i64 0],rfl,(cB 0 Tryz.underlying3),by decide,rfl,false,[.int .i64 0],[],rfl,(cB 0 Tryz.underlying3),rfl⟩
def ty347:bV:=⟨.struct,4,32,true,[zi,zi,zi,zi],[(0,1),(1,1),(2,1),(3,1)],true⟩
theorem ty347_ok:b6 Tryz.prog 347 ty347:=o3 Tryz.underlying347 (ti:=Tryz.t347) kR rfl rfl rfl rfl rfl rfl kR (fun _=>by kernel_rfl) (fun _=>cX aJR zeE)
def ty350:bV:=⟨.func,1,8,false,[.nilFunc],[],false⟩
theorem ty350_ok:b6 Tryz.prog 350 ty350:=o1 Tryz.underlying350 (ti:=Tryz.t350) kR rfl rfl rfl rfl rfl rfl rfl rfl rfl
def ty352:bV:=⟨.struct,2,16,true,[zi,.nilFunc],[(0,1),(1,1)],false⟩
theorem ty352_ok:b6 Tryz.prog 352 ty352:=o2 Tryz.underlying352 (ti:=Tryz.t352) kR rfl rfl rfl rfl rfl rfl kR rfl
def ty353:bV:=⟨.array 4 352,8,64,true,[zi,.nilFunc,zi,.nilFunc,zi,.nilFunc,zi,.nilFunc],[],false⟩
theorem ty353_ok:b6 Tryz.prog 353 ty353 where
 j7:=⟨_,Tryz.underlying353,rfl⟩
 info:=⟨Tryz.t353,by kernel_rfl,rfl,rfl,_,rfl,rfl⟩
 agg:=rfl
 one:=fun h=>by cases h
 wJ:=fun fs h=>by rw[Tryz.underlying353]at h;cases h
 eqg:=fun h=>by cases h
 ints:=fun h=>by cases h
def ty361:bV:=⟨.map 9 4,1,8,false,[.map none],[],false⟩
theorem ty361_ok:b6 Tryz.prog 361 ty361:=o1 Tryz.underlying361 (ti:=Tryz.t361) kR rfl rfl rfl rfl rfl rfl rfl rfl rfl
def ty362:bV:=⟨.map 3 4,1,8,false,[.map none],[],false⟩
theorem ty362_ok:b6 Tryz.prog 362 ty362:=o1 Tryz.underlying362 (ti:=Tryz.t362) kR rfl rfl rfl rfl rfl rfl rfl rfl rfl
def ty299:bV:=⟨.array 24 5,24,24,true,[.int .u8 0,.int .u8 0,.int .u8 0,.int .u8 0,.int .u8 0,.int .u8 0,.int .u8 0,.int .u8 0,.int .u8 0,.int .u8 0,.int .u8 0,.int .u8 0,.int .u8 0,.int .u8 0,.int .u8 0,.int .u8 0,.int .u8 0,.int .u8 0,.int .u8 0,.int .u8 0,.int .u8 0,.int .u8 0,.int .u8 0,.int .u8 0],[],false⟩
theorem ty299_ok:b6 Tryz.prog 299 ty299 where
 j7:=⟨_,Tryz.underlying299,rfl⟩
 info:=⟨Tryz.t299,by kernel_rfl,rfl,rfl,_,rfl,rfl⟩
 agg:=rfl
 one:=fun h=>by cases h
 wJ:=fun fs h=>by rw[Tryz.underlying299]at h;cases h
 eqg:=fun h=>by cases h
 ints:=fun h=>by cases h
def ty326:bV:=⟨.int .u64,1,8,false,[.int .u64 0],[],false⟩
theorem ty326_ok:b6 Tryz.prog 326 ty326:=o1 Tryz.underlying326 (ti:=Tryz.t326) kR rfl rfl rfl rfl rfl rfl rfl rfl rfl
def ty358:bV:=⟨.array 20 275,20,160,true,[.int .u64 0,.int .u64 0,.int .u64 0,.int .u64 0,.int .u64 0,.int .u64 0,.int .u64 0,.int .u64 0,.int .u64 0,.int .u64 0,.int .u64 0,.int .u64 0,.int .u64 0,.int .u64 0,.int .u64 0,.int .u64 0,.int .u64 0,.int .u64 0,.int .u64 0,.int .u64 0],[],false⟩
theorem ty358_ok:b6 Tryz.prog 358 ty358 where
 j7:=⟨_,Tryz.underlying358,rfl⟩
 info:=⟨Tryz.t358,by kernel_rfl,rfl,rfl,_,rfl,rfl⟩
 agg:=rfl
 one:=fun h=>by cases h
 wJ:=fun fs h=>by rw[Tryz.underlying358]at h;cases h
 eqg:=fun h=>by cases h
 ints:=fun h=>by cases h
def ty359:bV:=⟨.array 65 5,65,65,true,[.int .u8 0,.int .u8 0,.int .u8 0,.int .u8 0,.int .u8 0,.int .u8 0,.int .u8 0,.int .u8 0,.int .u8 0,.int .u8 0,.int .u8 0,.int .u8 0,.int .u8 0,.int .u8 0,.int .u8 0,.int .u8 0,.int .u8 0,.int .u8 0,.int .u8 0,.int .u8 0,.int .u8 0,.int .u8 0,.int .u8 0,.int .u8 0,.int .u8 0,.int .u8 0,.int .u8 0,.int .u8 0,.int .u8 0,.int .u8 0,.int .u8 0,.int .u8 0,.int .u8 0,.int .u8 0,.int .u8 0,.int .u8 0,.int .u8 0,.int .u8 0,.int .u8 0,.int .u8 0,.int .u8 0,.int .u8 0,.int .u8 0,.int .u8 0,.int .u8 0,.int .u8 0,.int .u8 0,.int .u8 0,.int .u8 0,.int .u8 0,.int .u8 0,.int .u8 0,.int .u8 0,.int .u8 0,.int .u8 0,.int .u8 0,.int .u8 0,.int .u8 0,.int .u8 0,.int .u8 0,.int .u8 0,.int .u8 0,.int .u8 0,.int .u8 0,.int .u8 0],[],false⟩
theorem ty359_ok:b6 Tryz.prog 359 ty359 where
 j7:=⟨_,Tryz.underlying359,rfl⟩
 info:=⟨Tryz.t359,by kernel_rfl,rfl,rfl,_,rfl,rfl⟩
 agg:=rfl
 one:=fun h=>by cases h
 wJ:=fun fs h=>by rw[Tryz.underlying359]at h;cases h
 eqg:=fun h=>by cases h
 ints:=fun h=>by cases h
def ty410:bV:=⟨.array 256 5,256,256,true,[.int .u8 0,.int .u8 0,.int .u8 0,.int .u8 0,.int .u8 0,.int .u8 0,.int .u8 0,.int .u8 0,.int .u8 0,.int .u8 0,.int .u8 0,.int .u8 0,.int .u8 0,.int .u8 0,.int .u8 0,.int .u8 0,.int .u8 0,.int .u8 0,.int .u8 0,.int .u8 0,.int .u8 0,.int .u8 0,.int .u8 0,.int .u8 0,.int .u8 0,.int .u8 0,.int .u8 0,.int .u8 0,.int .u8 0,.int .u8 0,.int .u8 0,.int .u8 0,.int .u8 0,.int .u8 0,.int .u8 0,.int .u8 0,.int .u8 0,.int .u8 0,.int .u8 0,.int .u8 0,.int .u8 0,.int .u8 0,.int .u8 0,.int .u8 0,.int .u8 0,.int .u8 0,.int .u8 0,.int .u8 0,.int .u8 0,.int .u8 0,.int .u8 0,.int .u8 0,.int .u8 0,.int .u8 0,.int .u8 0,.int .u8 0,.int .u8 0,.int .u8 0,.int .u8 0,.int .u8 0,.int .u8 0,.int .u8 0,.int .u8 0,.int .u8 0,.int .u8 0,.int .u8 0,.int .u8 0,.int .u8 0,.int .u8 0,.int .u8 0,.int .u8 0,.int .u8 0,.int .u8 0,.int .u8 0,.int .u8 0,.int .u8 0,.int .u8 0,.int .u8 0,.int .u8 0,.int .u8 0,.int .u8 0,.int .u8 0,.int .u8 0,.int .u8 0,.int .u8 0,.int .u8 0,.int .u8 0,.int .u8 0,.int .u8 0,.int .u8 0,.int .u8 0,.int .u8 0,.int .u8 0,.int .u8 0,.int .u8 0,.int .u8 0,.int .u8 0,.int .u8 0,.int .u8 0,.int .u8 0,.int .u8 0,.int .u8 0,.int .u8 0,.int .u8 0,.int .u8 0,.int .u8 0,.int .u8 0,.int .u8 0,.int .u8 0,.int .u8 0,.int .u8 0,.int .u8 0,.int .u8 0,.int .u8 0,.int .u8 0,.int .u8 0,.int .u8 0,.int .u8 0,.int .u8 0,.int .u8 0,.int .u8 0,.int .u8 0,.int .u8 0,.int .u8 0,.int .u8 0,.int .u8 0,.int .u8 0,.int .u8 0,.int .u8 0,.int .u8 0,.int .u8 0,.int .u8 0,.int .u8 0,.int .u8 0,.int .u8 0,.int .u8 0,.int .u8 0,.int .u8 0,.int .u8 0,.int .u8 0,.int .u8 0,.int .u8 0,.int .u8 0,.int .u8 0,.int .u8 0,.int .u8 0,.int .u8 0,.int .u8 0,.int .u8 0,.int .u8 0,.int .u8 0,.int .u8 0,.int .u8 0,.int .u8 0,.int .u8 0,.int .u8 0,.int .u8 0,.int .u8 0,.int .u8 0,.int .u8 0,.int .u8 0,.int .u8 0,.int .u8 0,.int .u8 0,.int .u8 0,.int .u8 0,.int .u8 0,.int .u8 0,.int .u8 0,.int .u8 0,.int .u8 0,.int .u8 0,.int .u8 0,.int .u8 0,.int .u8 0,.int .u8 0,.int .u8 0,.int .u8 0,.int .u8 0,.int .u8 0,.int .u8 0,.int .u8 0,.int .u8 0,.int .u8 0,.int .u8 0,.int .u8 0,.int .u8 0,.int .u8 0,.int .u8 0,.int .u8 0,.int .u8 0,.int .u8 0,.int .u8 0,.int .u8 0,.int .u8 0,.int .u8 0,.int .u8 0,.int .u8 0,.int .u8 0,.int .u8 0,.int .u8 0,.int .u8 0,.int .u8 0,.int .u8 0,.int .u8 0,.int .u8 0,.int .u8 0,.int .u8 0,.int .u8 0,.int .u8 0,.int .u8 0,.int .u8 0,.int .u8 0,.int .u8 0,.int .u8 0,.int .u8 0,.int .u8 0,.int .u8 0,.int .u8 0,.int .u8 0,.int .u8 0,.int .u8 0,.int .u8 0,.int .u8 0,.int .u8 0,.int .u8 0,.int .u8 0,.int .u8 0,.int .u8 0,.int .u8 0,.int .u8 0,.int .u8 0,.int .u8 0,.int .u8 0,.int .u8 0,.int .u8 0,.int .u8 0,.int .u8 0,.int .u8 0,.int .u8 0,.int .u8 0,.int .u8 0,.int .u8 0,.int .u8 0,.int .u8 0,.int .u8 0,.int .u8 0,.int .u8 0,.int .u8 0,.int .u8 0,.int .u8 0,.int .u8 0,.int .u8 0,.int .u8 0,.int .u8 0,.int .u8 0],[],false⟩
theorem ty410_ok:b6 Tryz.prog 410 ty410 where
 j7:=⟨_,Tryz.underlying410,rfl⟩
 info:=⟨Tryz.t410,by kernel_rfl,rfl,rfl,_,rfl,rfl⟩
 agg:=rfl
 one:=fun h=>by cases h
 wJ:=fun fs h=>by rw[Tryz.underlying410]at h;cases h
 eqg:=fun h=>by cases h
 ints:=fun h=>by cases h
theorem aJQ:mY Tryz.prog 2 412 true [.int .u8 0,.int .u8 0]:=dJ Tryz.underlying412 kR (iK (ti:=Tryz.t412) kR rfl) ⟨by decide,rfl,false,[.int .u8 0],[.int .u8 0],rfl,(cB 0 Tryz.underlying5),by decide,rfl,false,[.int .u8 0],[],rfl,(cB 0 Tryz.underlying5),rfl⟩
def ty412:bV:=⟨.struct,2,2,true,[.int .u8 0,.int .u8 0],[(0,1),(1,1)],true⟩
theorem ty412_ok:b6 Tryz.prog 412 ty412:=o3 Tryz.underlying412 (ti:=Tryz.t412) kR rfl rfl rfl rfl rfl rfl kR (fun _=>by kernel_rfl) (fun _=>cX aJQ zeE)
def ty413:bV:=⟨.array 16 412,32,32,true,[.int .u8 0,.int .u8 0,.int .u8 0,.int .u8 0,.int .u8 0,.int .u8 0,.int .u8 0,.int .u8 0,.int .u8 0,.int .u8 0,.int .u8 0,.int .u8 0,.int .u8 0,.int .u8 0,.int .u8 0,.int .u8 0,.int .u8 0,.int .u8 0,.int .u8 0,.int .u8 0,.int .u8 0,.int .u8 0,.int .u8 0,.int .u8 0,.int .u8 0,.int .u8 0,.int .u8 0,.int .u8 0,.int .u8 0,.int .u8 0,.int .u8 0,.int .u8 0],[],false⟩
theorem ty413_ok:b6 Tryz.prog 413 ty413 where
 j7:=⟨_,Tryz.underlying413,rfl⟩
 info:=⟨Tryz.t413,by kernel_rfl,rfl,rfl,_,rfl,rfl⟩
 agg:=rfl
 one:=fun h=>by cases h
 wJ:=fun fs h=>by rw[Tryz.underlying413]at h;cases h
 eqg:=fun h=>by cases h
 ints:=fun h=>by cases h
def ty419:bV:=⟨.struct,3,48,true,[zt,zt,.nilIface],[(0,1),(1,1),(2,1)],false⟩
theorem ty419_ok:b6 Tryz.prog 419 ty419:=o2 Tryz.underlying419 (ti:=Tryz.t419) kR rfl rfl rfl rfl rfl rfl kR rfl
def ty408:bV:=⟨.array 32 5,32,32,true,[.int .u8 0,.int .u8 0,.int .u8 0,.int .u8 0,.int .u8 0,.int .u8 0,.int .u8 0,.int .u8 0,.int .u8 0,.int .u8 0,.int .u8 0,.int .u8 0,.int .u8 0,.int .u8 0,.int .u8 0,.int .u8 0,.int .u8 0,.int .u8 0,.int .u8 0,.int .u8 0,.int .u8 0,.int .u8 0,.int .u8 0,.int .u8 0,.int .u8 0,.int .u8 0,.int .u8 0,.int .u8 0,.int .u8 0,.int .u8 0,.int .u8 0,.int .u8 0],[],false⟩
theorem ty408_ok:b6 Tryz.prog 408 ty408 where
 j7:=⟨_,Tryz.underlying408,rfl⟩
 info:=⟨Tryz.t408,by kernel_rfl,rfl,rfl,_,rfl,rfl⟩
 agg:=rfl
 one:=fun h=>by cases h
 wJ:=fun fs h=>by rw[Tryz.underlying408]at h;cases h
 eqg:=fun h=>by cases h
 ints:=fun h=>by cases h
def ty409:bV:=⟨.array 64 5,64,64,true,[.int .u8 0,.int .u8 0,.int .u8 0,.int .u8 0,.int .u8 0,.int .u8 0,.int .u8 0,.int .u8 0,.int .u8 0,.int .u8 0,.int .u8 0,.int .u8 0,.int .u8 0,.int .u8 0,.int .u8 0,.int .u8 0,.int .u8 0,.int .u8 0,.int .u8 0,.int .u8 0,.int .u8 0,.int .u8 0,.int .u8 0,.int .u8 0,.int .u8 0,.int .u8 0,.int .u8 0,.int .u8 0,.int .u8 0,.int .u8 0,.int .u8 0,.int .u8 0,.int .u8 0,.int .u8 0,.int .u8 0,.int .u8 0,.int .u8 0,.int .u8 0,.int .u8 0,.int .u8 0,.int .u8 0,.int .u8 0,.int .u8 0,.int .u8 0,.int .u8 0,.int .u8 0,.int .u8 0,.int .u8 0,.int .u8 0,.int .u8 0,.int .u8 0,.int .u8 0,.int .u8 0,.int .u8 0,.int .u8 0,.int .u8 0,.int .u8 0,.int .u8 0,.int .u8 0,.int .u8 0,.int .u8 0,.int .u8 0,.int .u8 0,.int .u8 0],[],false⟩
theorem ty409_ok:b6 Tryz.prog 409 ty409 where
 j7:=⟨_,Tryz.underlying409,rfl⟩
 info:=⟨Tryz.t409,by kernel_rfl,rfl,rfl,_,rfl,rfl⟩
 agg:=rfl
 one:=fun h=>by cases h
 wJ:=fun fs h=>by rw[Tryz.underlying409]at h;cases h
 eqg:=fun h=>by cases h
 ints:=fun h=>by cases h
theorem aJP:mY Tryz.prog 2 426 true [.string ⟨#[]⟩]:=dJ Tryz.underlying426 kR (iK (ti:=Tryz.t426) kR rfl) ⟨by decide,rfl,false,[.string ⟨#[]⟩],[],rfl,(gA ⟨#[]⟩ Tryz.underlying9),rfl⟩
def ty426:bV:=⟨.struct,1,16,true,[zt],[(0,1)],true⟩
theorem ty426_ok:b6 Tryz.prog 426 ty426:=o3 Tryz.underlying426 (ti:=Tryz.t426) kR rfl rfl rfl rfl rfl rfl kR (fun _=>by kernel_rfl) (fun _=>cX aJP zeE)
def ty427:bV:=⟨.float .f64,1,8,false,[.float .f64 0],[],false⟩
theorem ty427_ok:b6 Tryz.prog 427 ty427:=o1 Tryz.underlying427 (ti:=Tryz.t427) kR rfl rfl rfl rfl rfl rfl rfl rfl rfl
def tab:List (Nat×bV):=[(1,ty1),(2,ty2),(3,ty3),(4,ty4),(5,ty5),(7,ty7),(9,ty9),(21,ty21),(22,ty22),(24,ty24),(25,ty25),(26,ty26),(28,ty28),(29,ty29),(30,ty30),(32,ty32),(33,ty33),(34,ty34),(35,ty35),(36,ty36),(38,ty38),(39,ty39),(67,ty67),(68,ty68),(70,ty70),(43,ty43),(66,ty66),(151,ty151),(153,ty153),(223,ty223),(46,ty46),(100,ty100),(107,ty107),(78,ty78),(56,ty56),(58,ty58),(59,ty59),(61,ty61),(63,ty63),(95,ty95),(98,ty98),(110,ty110),(114,ty114),(116,ty116),(182,ty182),(207,ty207),(289,ty289),(80,ty80),(84,ty84),(161,ty161),(174,ty174),(231,ty231),(189,ty189),(190,ty190),(192,ty192),(195,ty195),(169,ty169),(237,ty237),(166,ty166),(173,ty173),(112,ty112),(118,ty118),(120,ty120),(122,ty122),(249,ty249),(131,ty131),(132,ty132),(212,ty212),(245,ty245),(308,ty308),(266,ty266),(273,ty273),(275,ty275),(303,ty303),(344,ty344),(347,ty347),(350,ty350),(352,ty352),(353,ty353),(361,ty361),(362,ty362),(299,ty299),(326,ty326),(358,ty358),(359,ty359),(410,ty410),(412,ty412),(413,ty413),(419,ty419),(408,ty408),(409,ty409),(426,ty426),(427,ty427)]
theorem aJ:cD Tryz.prog tab:=⟨ty1_ok,ty2_ok,ty3_ok,ty4_ok,ty5_ok,ty7_ok,ty9_ok,ty21_ok,ty22_ok,ty24_ok,ty25_ok,ty26_ok,ty28_ok,ty29_ok,ty30_ok,ty32_ok,ty33_ok,ty34_ok,ty35_ok,ty36_ok,ty38_ok,ty39_ok,ty67_ok,ty68_ok,ty70_ok,ty43_ok,ty66_ok,ty151_ok,ty153_ok,ty223_ok,ty46_ok,ty100_ok,ty107_ok,ty78_ok,ty56_ok,ty58_ok,ty59_ok,ty61_ok,ty63_ok,ty95_ok,ty98_ok,ty110_ok,ty114_ok,ty116_ok,ty182_ok,ty207_ok,ty289_ok,ty80_ok,ty84_ok,ty161_ok,ty174_ok,ty231_ok,ty189_ok,ty190_ok,ty192_ok,ty195_ok,ty169_ok,ty237_ok,ty166_ok,ty173_ok,ty112_ok,ty118_ok,ty120_ok,ty122_ok,ty249_ok,ty131_ok,ty132_ok,ty212_ok,ty245_ok,ty308_ok,ty266_ok,ty273_ok,ty275_ok,ty303_ok,ty344_ok,ty347_ok,ty350_ok,ty352_ok,ty353_ok,ty361_ok,ty362_ok,ty299_ok,ty326_ok,ty358_ok,ty359_ok,ty410_ok,ty412_ok,ty413_ok,ty419_ok,ty408_ok,ty409_ok,ty426_ok,ty427_ok,trivial⟩
end Go.Proofs.Tryz
