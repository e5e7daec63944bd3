/- Part 4: lemmas that the proofs of this seat share; by itself it claims nothing. -/
import Derived.Test.YtiohpadmabpecaaGreatDoorChecked
import Derived.Test.YtiohpadmabpecaaGreatDoorPt3
--TyZ
namespace Go.Ax
abbrev zi:Value:=.int .i64 0
abbrev zt:Value:=.string ⟨#[]⟩
abbrev zl:Value:=.slice none 0 0
def aO5:TypeDesc→Bool
 |.struct _=>true
 |_=>false
theorem o1{P:Program}{t:TypeId}{i:bV}{d:TypeDesc}{ti:TypeInfo}{z:Value}(h:P.underlying t=some d)(hi:P.info? t=some ti)(hz:ti.zero=some z)(hd:SP.qJ d=i.j7)(hs:ti.size=i.size)(hb:ti.bytes=i.bytes)(hc:z.cells.toList=i.zero)(ha:(match i.j7 with|.struct=>true|.array _ _=>true|_=>false)=i.agg)(h1:i.zero=[z])(hn:aO5 d=false)(hx:i.ints=false):b6 P t i:=
 ⟨⟨d,h,hd⟩,⟨ti,hi,hs,hb,z,hz,hc⟩,ha,fun fs e=>(by rw[h]at e;cases e;cases hn),fun _=>⟨ti,z,hi,hz,h1⟩,fun e=>(by rw[hx]at e;cases e),fun e=>(by rw[hx]at e;cases e)⟩
def EZ(P:Program):List Field→List (Nat×Nat)→Bool
 |[],[]=>true
 |f::fs,(o,z)::r=>Nat.beq f.offset o&&(match P.info? f.type with|some ti=>Nat.beq ti.size z|none=>false)&&EZ P fs r
 |_,_=>false
theorem EZ.ok{P:Program}:∀{fs:List Field}{l:List (Nat×Nat)},EZ P fs l=true→sY P fs l
 |[],[],_=>trivial
 |f::fs,(o,z)::r,h=>by
  simp only[EZ,Bool.and_eq_true]at h;obtain⟨⟨h1,h2⟩,h3⟩:=h
  cases hi:P.info? f.type with
  |none=>rw[hi]at h2;cases h2
  |some ti=>rw[hi]at h2;exact⟨Nat.eq_of_beq_eq_true h1,⟨ti,hi,Nat.eq_of_beq_eq_true h2⟩,EZ.ok h3⟩
 |[],_::_,h=>by cases h
 |_::_,[],h=>by cases h
theorem o3{P:Program}{t:TypeId}{i:bV}{fs:Array Field}{ti:TypeInfo}{z:Value}(h:P.underlying t=some (.struct fs))(hi:P.info? t=some ti)(hz:ti.zero=some z)(hd:SP.struct=i.j7)(hs:ti.size=i.size)(hb:ti.bytes=i.bytes)(hc:z.cells.toList=i.zero)(ha:i.agg=true)(hf:EZ P fs.toList i.wJ=true)(he:i.ints=true→P.eqGuardType P.depth t=false)(hx:i.ints=true→∀(w:World)(xs ys:List SV)(vs us:List Value)(b:Bool),gT i.zero xs=true→gT i.zero ys=true→uG xs ys=some b→cV (fun _ _=>none) (fun _=>none) xs vs→cV (fun _ _=>none) (fun _=>none) ys us→(Op.equal t (.agg vs.toArray) (.agg us.toArray)).run P w=.ok b w):b6 P t i:=
 ⟨⟨_,h,hd⟩,⟨ti,hi,hs,hb,z,hz,hc⟩,(by rw[←hd,ha]),fun fs' e=>(by rw[h]at e;cases e;exact EZ.ok hf),fun e=>(by rw[ha]at e;cases e),he,hx⟩
theorem o2{P:Program}{t:TypeId}{i:bV}{fs:Array Field}{ti:TypeInfo}{z:Value}(h:P.underlying t=some (.struct fs))(hi:P.info? t=some ti)(hz:ti.zero=some z)(hd:SP.struct=i.j7)(hs:ti.size=i.size)(hb:ti.bytes=i.bytes)(hc:z.cells.toList=i.zero)(ha:i.agg=true)(hf:EZ P fs.toList i.wJ=true)(hx:i.ints=false):b6 P t i:=
 o3 h hi hz hd hs hb hc ha hf (fun e=>by rw[hx]at e;cases e) (fun e=>by rw[hx]at e;cases e)
end Go.Ax
namespace Go.Proofs.Tryz
open Go Go.Ax
def ty1:bV:=⟨.func,1,8,false,[.nilFunc],[],false⟩
theorem ty1_ok:b6 Tryz.prog 1 ty1:=o1 Tryz.underlying1 (ti:=Tryz.t1) kR rfl rfl rfl rfl rfl rfl rfl rfl rfl
def ty2:bV:=⟨.int .i64,1,8,false,[zi],[],false⟩
theorem ty2_ok:b6 Tryz.prog 2 ty2:=o1 Tryz.underlying2 (ti:=Tryz.t2) kR rfl rfl rfl rfl rfl rfl rfl rfl rfl
def ty3:bV:=⟨.int .i64,1,8,false,[zi],[],false⟩
theorem ty3_ok:b6 Tryz.prog 3 ty3:=o1 Tryz.underlying3 (ti:=Tryz.t3) kR rfl rfl rfl rfl rfl rfl rfl rfl rfl
def ty4:bV:=⟨.bool,1,1,false,[.bool false],[],false⟩
theorem ty4_ok:b6 Tryz.prog 4 ty4:=o1 Tryz.underlying4 (ti:=Tryz.t4) kR rfl rfl rfl rfl rfl rfl rfl rfl rfl
def ty5:bV:=⟨.int .u8,1,1,false,[.int .u8 0],[],false⟩
theorem ty5_ok:b6 Tryz.prog 5 ty5:=o1 Tryz.underlying5 (ti:=Tryz.t5) kR rfl rfl rfl rfl rfl rfl rfl rfl rfl
theorem aP6:mY Tryz.prog 2 7 true [.int .i64 0,.int .i64 0,.bool false,.int .u8 0]:=dJ Tryz.underlying7 kR (iK (ti:=Tryz.t7) kR rfl) ⟨by decide,rfl,false,[.int .i64 0],[.int .i64 0,.bool false,.int .u8 0],rfl,(cB 0 Tryz.underlying2),by decide,rfl,false,[.int .i64 0],[.bool false,.int .u8 0],rfl,(cB 0 Tryz.underlying3),by decide,rfl,false,[.bool false],[.int .u8 0],rfl,(aDG false Tryz.underlying4),by decide,rfl,false,[.int .u8 0],[],rfl,(cB 0 Tryz.underlying6),rfl⟩
def ty7:bV:=⟨.struct,4,24,true,[zi,zi,.bool false,.int .u8 0],[(0,1),(1,1),(2,1),(3,1)],true⟩
theorem ty7_ok:b6 Tryz.prog 7 ty7:=o3 Tryz.underlying7 (ti:=Tryz.t7) kR rfl rfl rfl rfl rfl rfl kR (fun _=>by kernel_rfl) (fun _=>cX aP6 zeE)
def ty9:bV:=⟨.string,1,16,false,[zt],[],false⟩
theorem ty9_ok:b6 Tryz.prog 9 ty9:=o1 Tryz.underlying9 (ti:=Tryz.t9) kR rfl rfl rfl rfl rfl rfl rfl rfl rfl
def ty21:bV:=⟨.int .i32,1,4,false,[.int .i32 0],[],false⟩
theorem ty21_ok:b6 Tryz.prog 21 ty21:=o1 Tryz.underlying21 (ti:=Tryz.t21) kR rfl rfl rfl rfl rfl rfl rfl rfl rfl
def ty22:bV:=⟨.slice 3,1,24,false,[zl],[],false⟩
theorem ty22_ok:b6 Tryz.prog 22 ty22:=o1 Tryz.underlying22 (ti:=Tryz.t22) kR rfl rfl rfl rfl rfl rfl rfl rfl rfl
def ty24:bV:=⟨.struct,6,64,true,[zi,zi,zi,zi,zi,zl],[(0,1),(1,1),(2,1),(3,1),(4,1),(5,1)],false⟩
theorem ty24_ok:b6 Tryz.prog 24 ty24:=o2 Tryz.underlying24 (ti:=Tryz.t24) kR rfl rfl rfl rfl rfl rfl kR rfl
def ty25:bV:=⟨.slice 109,1,24,false,[zl],[],false⟩
theorem ty25_ok:b6 Tryz.prog 25 ty25:=o1 Tryz.underlying25 (ti:=Tryz.t25) kR rfl rfl rfl rfl rfl rfl rfl rfl rfl
def ty26:bV:=⟨.slice 63,1,24,false,[zl],[],false⟩
theorem ty26_ok:b6 Tryz.prog 26 ty26:=o1 Tryz.underlying26 (ti:=Tryz.t26) kR rfl rfl rfl rfl rfl rfl rfl rfl rfl
def ty28:bV:=⟨.struct,5,80,true,[zt,zl,zi,zi,zl],[(0,1),(1,1),(2,1),(3,1),(4,1)],false⟩
theorem ty28_ok:b6 Tryz.prog 28 ty28:=o2 Tryz.underlying28 (ti:=Tryz.t28) kR rfl rfl rfl rfl rfl rfl kR rfl
def ty29:bV:=⟨.slice 113,1,24,false,[zl],[],false⟩
theorem ty29_ok:b6 Tryz.prog 29 ty29:=o1 Tryz.underlying29 (ti:=Tryz.t29) kR rfl rfl rfl rfl rfl rfl rfl rfl rfl
def ty30:bV:=⟨.slice 66,1,24,false,[zl],[],false⟩
theorem ty30_ok:b6 Tryz.prog 30 ty30:=o1 Tryz.underlying30 (ti:=Tryz.t30) kR rfl rfl rfl rfl rfl rfl rfl rfl rfl
def ty32:bV:=⟨.struct,2,48,true,[zl,zl],[(0,1),(1,1)],false⟩
theorem ty32_ok:b6 Tryz.prog 32 ty32:=o2 Tryz.underlying32 (ti:=Tryz.t32) kR rfl rfl rfl rfl rfl rfl kR rfl
def ty33:bV:=⟨.slice 117,1,24,false,[zl],[],false⟩
theorem ty33_ok:b6 Tryz.prog 33 ty33:=o1 Tryz.underlying33 (ti:=Tryz.t33) kR rfl rfl rfl rfl rfl rfl rfl rfl rfl
def ty34:bV:=⟨.slice 157,1,24,false,[zl],[],false⟩
theorem ty34_ok:b6 Tryz.prog 34 ty34:=o1 Tryz.underlying34 (ti:=Tryz.t34) kR rfl rfl rfl rfl rfl rfl rfl rfl rfl
def ty35:bV:=⟨.slice 68,1,24,false,[zl],[],false⟩
theorem ty35_ok:b6 Tryz.prog 35 ty35:=o1 Tryz.underlying35 (ti:=Tryz.t35) kR rfl rfl rfl rfl rfl rfl rfl rfl rfl
def ty36:bV:=⟨.slice 119,1,24,false,[zl],[],false⟩
theorem ty36_ok:b6 Tryz.prog 36 ty36:=o1 Tryz.underlying36 (ti:=Tryz.t36) kR rfl rfl rfl rfl rfl rfl rfl rfl rfl
def ty38:bV:=⟨.struct,20,320,true,[zt,zi,zi,zi,zi,zi,zl,zt,zl,zi,zi,zl,zl,zl,zi,zi,zl,zl,zl,zl],[(0,1),(1,6),(7,5),(12,2),(14,1),(15,1),(16,1),(17,1),(18,1),(19,1)],false⟩
theorem ty38_ok:b6 Tryz.prog 38 ty38:=o2 Tryz.underlying38 (ti:=Tryz.t38) kR rfl rfl rfl rfl rfl rfl kR rfl
def ty39:bV:=⟨.slice 46,1,24,false,[zl],[],false⟩
theorem ty39_ok:b6 Tryz.prog 39 ty39:=o1 Tryz.underlying39 (ti:=Tryz.t39) kR rfl rfl rfl rfl rfl rfl rfl rfl rfl
def ty51:bV:=⟨.slice 77,1,24,false,[zl],[],false⟩
theorem ty51_ok:b6 Tryz.prog 51 ty51:=o1 Tryz.underlying51 (ti:=Tryz.t51) kR rfl rfl rfl rfl rfl rfl rfl rfl rfl
def ty52:bV:=⟨.slice 95,1,24,false,[zl],[],false⟩
theorem ty52_ok:b6 Tryz.prog 52 ty52:=o1 Tryz.underlying52 (ti:=Tryz.t52) kR rfl rfl rfl rfl rfl rfl rfl rfl rfl
def ty54:bV:=⟨.struct,7,104,true,[zi,zi,zi,zi,zl,zl,zl],[(0,1),(1,1),(2,1),(3,1),(4,1),(5,1),(6,1)],false⟩
theorem ty54_ok:b6 Tryz.prog 54 ty54:=o2 Tryz.underlying54 (ti:=Tryz.t54) kR rfl rfl rfl rfl rfl rfl kR rfl
def ty47:bV:=⟨.int .i64,1,8,false,[zi],[],false⟩
theorem ty47_ok:b6 Tryz.prog 47 ty47:=o1 Tryz.underlying47 (ti:=Tryz.t47) kR rfl rfl rfl rfl rfl rfl rfl rfl rfl
def ty46:bV:=⟨.struct,13,144,true,[zi,zi,zi,zi,zi,zi,zi,zi,zi,zt,zt,zt,zl],[(0,1),(1,1),(2,1),(3,1),(4,1),(5,1),(6,1),(7,1),(8,1),(9,1),(10,1),(11,1),(12,1)],false⟩
theorem ty46_ok:b6 Tryz.prog 46 ty46:=o2 Tryz.underlying46 (ti:=Tryz.t46) kR rfl rfl rfl rfl rfl rfl kR rfl
def ty103:bV:=⟨.slice 170,1,24,false,[zl],[],false⟩
theorem ty103_ok:b6 Tryz.prog 103 ty103:=o1 Tryz.underlying103 (ti:=Tryz.t103) kR rfl rfl rfl rfl rfl rfl rfl rfl rfl
def ty105:bV:=⟨.struct,4,96,true,[zl,zl,zl,zl],[(0,1),(1,1),(2,1),(3,1)],false⟩
theorem ty105_ok:b6 Tryz.prog 105 ty105:=o2 Tryz.underlying105 (ti:=Tryz.t105) kR rfl rfl rfl rfl rfl rfl kR rfl
theorem aJT:mY Tryz.prog 2 170 true [.int .i64 0,.string ⟨#[]⟩,.int .i64 0]:=dJ Tryz.underlying170 kR (iK (ti:=Tryz.t170) kR rfl) ⟨by decide,rfl,false,[.int .i64 0],[.string ⟨#[]⟩,.int .i64 0],rfl,(cB 0 Tryz.underlying3),by decide,rfl,false,[.string ⟨#[]⟩],[.int .i64 0],rfl,(gA ⟨#[]⟩ Tryz.underlying9),by decide,rfl,false,[.int .i64 0],[],rfl,(cB 0 Tryz.underlying3),rfl⟩
def ty170:bV:=⟨.struct,3,32,true,[zi,zt,zi],[(0,1),(1,1),(2,1)],true⟩
theorem ty170_ok:b6 Tryz.prog 170 ty170:=o3 Tryz.underlying170 (ti:=Tryz.t170) kR rfl rfl rfl rfl rfl rfl kR (fun _=>by kernel_rfl) (fun _=>cX aJT zeE)
def ty120:bV:=⟨.slice 9,1,24,false,[zl],[],false⟩
theorem ty120_ok:b6 Tryz.prog 120 ty120:=o1 Tryz.underlying120 (ti:=Tryz.t120) kR rfl rfl rfl rfl rfl rfl rfl rfl rfl
def ty86:bV:=⟨.slice 93,1,24,false,[zl],[],false⟩
theorem ty86_ok:b6 Tryz.prog 86 ty86:=o1 Tryz.underlying86 (ti:=Tryz.t86) kR rfl rfl rfl rfl rfl rfl rfl rfl rfl
theorem aJ3:mY Tryz.prog 2 93 true [.int .i64 0,.int .i64 0,.string ⟨#[]⟩,.int .i64 0,.int .i64 0,.int .i64 0,.string ⟨#[]⟩]:=dJ Tryz.underlying93 kR (iK (ti:=Tryz.t93) kR rfl) ⟨by decide,rfl,false,[.int .i64 0],[.int .i64 0,.string ⟨#[]⟩,.int .i64 0,.int .i64 0,.int .i64 0,.string ⟨#[]⟩],rfl,(cB 0 Tryz.underlying3),by decide,rfl,false,[.int .i64 0],[.string ⟨#[]⟩,.int .i64 0,.int .i64 0,.int .i64 0,.string ⟨#[]⟩],rfl,(cB 0 Tryz.underlying3),by decide,rfl,false,[.string ⟨#[]⟩],[.int .i64 0,.int .i64 0,.int .i64 0,.string ⟨#[]⟩],rfl,(gA ⟨#[]⟩ Tryz.underlying9),by decide,rfl,false,[.int .i64 0],[.int .i64 0,.int .i64 0,.string ⟨#[]⟩],rfl,(cB 0 Tryz.underlying3),by decide,rfl,false,[.int .i64 0],[.int .i64 0,.string ⟨#[]⟩],rfl,(cB 0 Tryz.underlying3),by decide,rfl,false,[.int .i64 0],[.string ⟨#[]⟩],rfl,(cB 0 Tryz.underlying3),by decide,rfl,false,[.string ⟨#[]⟩],[],rfl,(gA ⟨#[]⟩ Tryz.underlying9),rfl⟩
def ty93:bV:=⟨.struct,7,72,true,[zi,zi,zt,zi,zi,zi,zt],[(0,1),(1,1),(2,1),(3,1),(4,1),(5,1),(6,1)],true⟩
theorem ty93_ok:b6 Tryz.prog 93 ty93:=o3 Tryz.underlying93 (ti:=Tryz.t93) kR rfl rfl rfl rfl rfl rfl kR (fun _=>by kernel_rfl) (fun _=>cX aJ3 zeE)
theorem aNJ:mY Tryz.prog 2 77 true [.string ⟨#[]⟩,.int .i64 0,.int .i64 0,.int .i64 0]:=dJ Tryz.underlying77 kR (iK (ti:=Tryz.t77) kR rfl) ⟨by decide,rfl,false,[.string ⟨#[]⟩],[.int .i64 0,.int .i64 0,.int .i64 0],rfl,(gA ⟨#[]⟩ Tryz.underlying9),by decide,rfl,false,[.int .i64 0],[.int .i64 0,.int .i64 0],rfl,(cB 0 Tryz.underlying3),by decide,rfl,false,[.int .i64 0],[.int .i64 0],rfl,(cB 0 Tryz.underlying3),by decide,rfl,false,[.int .i64 0],[],rfl,(cB 0 Tryz.underlying3),rfl⟩
def ty77:bV:=⟨.struct,4,40,true,[zt,zi,zi,zi],[(0,1),(1,1),(2,1),(3,1)],true⟩
theorem ty77_ok:b6 Tryz.prog 77 ty77:=o3 Tryz.underlying77 (ti:=Tryz.t77) kR rfl rfl rfl rfl rfl rfl kR (fun _=>by kernel_rfl) (fun _=>cX aNJ zeE)
def ty61:bV:=⟨.slice 141,1,24,false,[zl],[],false⟩
theorem ty61_ok:b6 Tryz.prog 61 ty61:=o1 Tryz.underlying61 (ti:=Tryz.t61) kR rfl rfl rfl rfl rfl rfl rfl rfl rfl
def ty63:bV:=⟨.struct,3,48,true,[zt,zi,zl],[(0,1),(1,1),(2,1)],false⟩
theorem ty63_ok:b6 Tryz.prog 63 ty63:=o2 Tryz.underlying63 (ti:=Tryz.t63) kR rfl rfl rfl rfl rfl rfl kR rfl
def ty64:bV:=⟨.slice 115,1,24,false,[zl],[],false⟩
theorem ty64_ok:b6 Tryz.prog 64 ty64:=o1 Tryz.underlying64 (ti:=Tryz.t64) kR rfl rfl rfl rfl rfl rfl rfl rfl rfl
def ty66:bV:=⟨.struct,4,56,true,[zt,zi,zi,zl],[(0,1),(1,1),(2,1),(3,1)],false⟩
theorem ty66_ok:b6 Tryz.prog 66 ty66:=o2 Tryz.underlying66 (ti:=Tryz.t66) kR rfl rfl rfl rfl rfl rfl kR rfl
def ty68:bV:=⟨.struct,6,72,true,[zt,zi,zi,zi,zl,zi],[(0,1),(1,1),(2,1),(3,1),(4,1),(5,1)],false⟩
theorem ty68_ok:b6 Tryz.prog 68 ty68:=o2 Tryz.underlying68 (ti:=Tryz.t68) kR rfl rfl rfl rfl rfl rfl kR rfl
def ty81:bV:=⟨.struct,21,344,true,[zt,zi,zi,zi,zi,zi,zl,zt,zl,zi,zi,zl,zl,zl,zi,zi,zl,zl,zl,zl,zl],[(0,20),(20,1)],false⟩
theorem ty81_ok:b6 Tryz.prog 81 ty81:=o2 Tryz.underlying81 (ti:=Tryz.t81) kR rfl rfl rfl rfl rfl rfl kR rfl
def ty84:bV:=⟨.slice 24,1,24,false,[zl],[],false⟩
theorem ty84_ok:b6 Tryz.prog 84 ty84:=o1 Tryz.underlying84 (ti:=Tryz.t84) kR rfl rfl rfl rfl rfl rfl rfl rfl rfl
theorem aJ2:mY Tryz.prog 2 95 true [.string ⟨#[]⟩,.int .i64 0]:=dJ Tryz.underlying95 kR (iK (ti:=Tryz.t95) kR rfl) ⟨by decide,rfl,false,[.string ⟨#[]⟩],[.int .i64 0],rfl,(gA ⟨#[]⟩ Tryz.underlying9),by decide,rfl,false,[.int .i64 0],[],rfl,(cB 0 Tryz.underlying3),rfl⟩
def ty95:bV:=⟨.struct,2,24,true,[zt,zi],[(0,1),(1,1)],true⟩
theorem ty95_ok:b6 Tryz.prog 95 ty95:=o3 Tryz.underlying95 (ti:=Tryz.t95) kR rfl rfl rfl rfl rfl rfl kR (fun _=>by kernel_rfl) (fun _=>cX aJ2 zeE)
theorem UK:mY Tryz.prog 2 111 true [.int .i64 0,.int .i64 0]:=dJ Tryz.underlying111 kR (iK (ti:=Tryz.t111) kR rfl) ⟨by decide,rfl,false,[.int .i64 0],[.int .i64 0],rfl,(cB 0 Tryz.underlying3),by decide,rfl,false,[.int .i64 0],[],rfl,(cB 0 Tryz.underlying3),rfl⟩
def ty111:bV:=⟨.struct,2,16,true,[zi,zi],[(0,1),(1,1)],true⟩
theorem ty111_ok:b6 Tryz.prog 111 ty111:=o3 Tryz.underlying111 (ti:=Tryz.t111) kR rfl rfl rfl rfl rfl rfl kR (fun _=>by kernel_rfl) (fun _=>cX UK zeE)
theorem aJ0:mY Tryz.prog 3 113 true [.string ⟨#[]⟩,.int .i64 0,.int .i64 0,.int .i64 0,.int .i64 0]:=dJ Tryz.underlying113 kR (iK (ti:=Tryz.t113) kR rfl) ⟨by decide,rfl,false,[.string ⟨#[]⟩],[.int .i64 0,.int .i64 0,.int .i64 0,.int .i64 0],rfl,(mY.up (gA ⟨#[]⟩ Tryz.underlying9)),by decide,rfl,false,[.int .i64 0],[.int .i64 0,.int .i64 0,.int .i64 0],rfl,(mY.up (cB 0 Tryz.underlying3)),by decide,rfl,false,[.int .i64 0],[.int .i64 0,.int .i64 0],rfl,(mY.up (cB 0 Tryz.underlying3)),by decide,rfl,true,[.int .i64 0,.int .i64 0],[],rfl,UK,rfl⟩
def ty113:bV:=⟨.struct,5,48,true,[zt,zi,zi,zi,zi],[(0,1),(1,1),(2,1),(3,2)],true⟩
theorem ty113_ok:b6 Tryz.prog 113 ty113:=o3 Tryz.underlying113 (ti:=Tryz.t113) kR rfl rfl rfl rfl rfl rfl kR (fun _=>by kernel_rfl) (fun _=>cX aJ0 zeE)
theorem aJU:mY Tryz.prog 2 157 true [.string ⟨#[]⟩,.int .i64 0,.int .i64 0]:=dJ Tryz.underlying157 kR (iK (ti:=Tryz.t157) kR rfl) ⟨by decide,rfl,false,[.string ⟨#[]⟩],[.int .i64 0,.int .i64 0],rfl,(gA ⟨#[]⟩ Tryz.underlying9),by decide,rfl,false,[.int .i64 0],[.int .i64 0],rfl,(cB 0 Tryz.underlying3),by decide,rfl,false,[.int .i64 0],[],rfl,(cB 0 Tryz.underlying3),rfl⟩
def ty157:bV:=⟨.struct,3,32,true,[zt,zi,zi],[(0,1),(1,1),(2,1)],true⟩
theorem ty157_ok:b6 Tryz.prog 157 ty157:=o3 Tryz.underlying157 (ti:=Tryz.t157) kR rfl rfl rfl rfl rfl rfl kR (fun _=>by kernel_rfl) (fun _=>cX aJU zeE)
def ty246:bV:=⟨.struct,2,32,true,[zl,.bool false],[(0,1),(1,1)],false⟩
theorem ty246_ok:b6 Tryz.prog 246 ty246:=o2 Tryz.underlying246 (ti:=Tryz.t246) kR rfl rfl rfl rfl rfl rfl kR rfl
theorem aJS:mY Tryz.prog 2 258 true [.int .i64 0,.int .i64 0,.int .i64 0,.string ⟨#[]⟩,.int .i64 0]:=dJ Tryz.underlying258 kR (iK (ti:=Tryz.t258) kR rfl) ⟨by decide,rfl,false,[.int .i64 0],[.int .i64 0,.int .i64 0,.string ⟨#[]⟩,.int .i64 0],rfl,(cB 0 Tryz.underlying3),by decide,rfl,false,[.int .i64 0],[.int .i64 0,.string ⟨#[]⟩,.int .i64 0],rfl,(cB 0 Tryz.underlying3),by decide,rfl,false,[.int .i64 0],[.string ⟨#[]⟩,.int .i64 0],rfl,(cB 0 Tryz.underlying3),by decide,rfl,false,[.string ⟨#[]⟩],[.int .i64 0],rfl,(gA ⟨#[]⟩ Tryz.underlying9),by decide,rfl,false,[.int .i64 0],[],rfl,(cB 0 Tryz.underlying3),rfl⟩
def ty258:bV:=⟨.struct,5,48,true,[zi,zi,zi,zt,zi],[(0,1),(1,1),(2,1),(3,1),(4,1)],true⟩
theorem ty258_ok:b6 Tryz.prog 258 ty258:=o3 Tryz.underlying258 (ti:=Tryz.t258) kR rfl rfl rfl rfl rfl rfl kR (fun _=>by kernel_rfl) (fun _=>cX aJS zeE)
def ty129:bV:=⟨.map 9 134,1,8,false,[.map none],[],false⟩
theorem ty129_ok:b6 Tryz.prog 129 ty129:=o1 Tryz.underlying129 (ti:=Tryz.t129) kR rfl rfl rfl rfl rfl rfl rfl rfl rfl
def ty134:bV:=⟨.slice 133,1,24,false,[zl],[],false⟩
theorem ty134_ok:b6 Tryz.prog 134 ty134:=o1 Tryz.underlying134 (ti:=Tryz.t134) kR rfl rfl rfl rfl rfl rfl rfl rfl rfl
def ty136:bV:=⟨.map 9 149,1,8,false,[.map none],[],false⟩
theorem ty136_ok:b6 Tryz.prog 136 ty136:=o1 Tryz.underlying136 (ti:=Tryz.t136) kR rfl rfl rfl rfl rfl rfl rfl rfl rfl
def ty149:bV:=⟨.slice 212,1,24,false,[zl],[],false⟩
theorem ty149_ok:b6 Tryz.prog 149 ty149:=o1 Tryz.underlying149 (ti:=Tryz.t149) kR rfl rfl rfl rfl rfl rfl rfl rfl rfl
def ty212:bV:=⟨.struct,14,152,true,[zi,zi,zi,zi,zi,zi,zi,zi,zi,zt,zt,zt,zl,zi],[(0,13),(13,1)],false⟩
theorem ty212_ok:b6 Tryz.prog 212 ty212:=o2 Tryz.underlying212 (ti:=Tryz.t212) kR rfl rfl rfl rfl rfl rfl kR rfl
def ty181:bV:=⟨.pointer,1,8,false,[.pointer none],[],false⟩
theorem ty181_ok:b6 Tryz.prog 181 ty181:=o1 Tryz.underlying181 (ti:=Tryz.t181) kR rfl rfl rfl rfl rfl rfl rfl rfl rfl
def ty182:bV:=⟨.slice 5,1,24,false,[zl],[],false⟩
theorem ty182_ok:b6 Tryz.prog 182 ty182:=o1 Tryz.underlying182 (ti:=Tryz.t182) kR rfl rfl rfl rfl rfl rfl rfl rfl rfl
def ty184:bV:=⟨.struct,2,32,true,[.pointer none,zl],[(0,1),(1,1)],false⟩
theorem ty184_ok:b6 Tryz.prog 184 ty184:=o2 Tryz.underlying184 (ti:=Tryz.t184) kR rfl rfl rfl rfl rfl rfl kR rfl
def ty187:bV:=⟨.iface,1,16,false,[.nilIface],[],false⟩
theorem ty187_ok:b6 Tryz.prog 187 ty187:=o1 Tryz.underlying187 (ti:=Tryz.t187) kR rfl rfl rfl rfl rfl rfl rfl rfl rfl
def ty144:bV:=⟨.slice 148,1,24,false,[zl],[],false⟩
theorem ty144_ok:b6 Tryz.prog 144 ty144:=o1 Tryz.underlying144 (ti:=Tryz.t144) kR rfl rfl rfl rfl rfl rfl rfl rfl rfl
def ty218:bV:=⟨.struct,2,48,true,[zl,zl],[(0,2)],false⟩
theorem ty218_ok:b6 Tryz.prog 218 ty218:=o2 Tryz.underlying218 (ti:=Tryz.t218) kR rfl rfl rfl rfl rfl rfl kR rfl
theorem aJW:mY Tryz.prog 2 141 true [.int .i64 0,.int .i64 0]:=dJ Tryz.underlying141 kR (iK (ti:=Tryz.t141) kR rfl) ⟨by decide,rfl,false,[.int .i64 0],[.int .i64 0],rfl,(cB 0 Tryz.underlying3),by decide,rfl,false,[.int .i64 0],[],rfl,(cB 0 Tryz.underlying3),rfl⟩
def ty141:bV:=⟨.struct,2,16,true,[zi,zi],[(0,1),(1,1)],true⟩
theorem ty141_ok:b6 Tryz.prog 141 ty141:=o3 Tryz.underlying141 (ti:=Tryz.t141) kR rfl rfl rfl rfl rfl rfl kR (fun _=>by kernel_rfl) (fun _=>cX aJW zeE)
theorem aJV:mY Tryz.prog 2 148 true [.string ⟨#[]⟩,.int .i64 0,.int .i64 0]:=dJ Tryz.underlying148 kR (iK (ti:=Tryz.t148) kR rfl) ⟨by decide,rfl,false,[.string ⟨#[]⟩],[.int .i64 0,.int .i64 0],rfl,(gA ⟨#[]⟩ Tryz.underlying9),by decide,rfl,false,[.int .i64 0],[.int .i64 0],rfl,(cB 0 Tryz.underlying3),by decide,rfl,false,[.int .i64 0],[],rfl,(cB 0 Tryz.underlying3),rfl⟩
def ty148:bV:=⟨.struct,3,32,true,[zt,zi,zi],[(0,1),(1,1),(2,1)],true⟩
theorem ty148_ok:b6 Tryz.prog 148 ty148:=o3 Tryz.underlying148 (ti:=Tryz.t148) kR rfl rfl rfl rfl rfl rfl kR (fun _=>by kernel_rfl) (fun _=>cX aJV zeE)
theorem aJ1:mY Tryz.prog 2 109 true [.int .i64 0,.int .i64 0,.int .i64 0,.int .i64 0,.int .i64 0]:=dJ Tryz.underlying109 kR (iK (ti:=Tryz.t109) kR rfl) ⟨by decide,rfl,false,[.int .i64 0],[.int .i64 0,.int .i64 0,.int .i64 0,.int .i64 0],rfl,(cB 0 Tryz.underlying3),by decide,rfl,false,[.int .i64 0],[.int .i64 0,.int .i64 0,.int .i64 0],rfl,(cB 0 Tryz.underlying3),by decide,rfl,false,[.int .i64 0],[.int .i64 0,.int .i64 0],rfl,(cB 0 Tryz.underlying3),by decide,rfl,false,[.int .i64 0],[.int .i64 0],rfl,(cB 0 Tryz.underlying3),by decide,rfl,false,[.int .i64 0],[],rfl,(cB 0 Tryz.underlying3),rfl⟩
def ty109:bV:=⟨.struct,5,40,true,[zi,zi,zi,zi,zi],[(0,1),(1,1),(2,1),(3,1),(4,1)],true⟩
theorem ty109_ok:b6 Tryz.prog 109 ty109:=o3 Tryz.underlying109 (ti:=Tryz.t109) kR rfl rfl rfl rfl rfl rfl kR (fun _=>by kernel_rfl) (fun _=>cX aJ1 zeE)
theorem aJZ:mY Tryz.prog 2 115 true [.int .i64 0,.string ⟨#[]⟩]:=dJ Tryz.underlying115 kR (iK (ti:=Tryz.t115) kR rfl) ⟨by decide,rfl,false,[.int .i64 0],[.string ⟨#[]⟩],rfl,(cB 0 Tryz.underlying3),by decide,rfl,false,[.string ⟨#[]⟩],[],rfl,(gA ⟨#[]⟩ Tryz.underlying9),rfl⟩
def ty115:bV:=⟨.struct,2,24,true,[zi,zt],[(0,1),(1,1)],true⟩
theorem ty115_ok:b6 Tryz.prog 115 ty115:=o3 Tryz.underlying115 (ti:=Tryz.t115) kR rfl rfl rfl rfl rfl rfl kR (fun _=>by kernel_rfl) (fun _=>cX aJZ zeE)
theorem aJY:mY Tryz.prog 2 117 true [.string ⟨#[]⟩,.int .i64 0]:=dJ Tryz.underlying117 kR (iK (ti:=Tryz.t117) kR rfl) ⟨by decide,rfl,false,[.string ⟨#[]⟩],[.int .i64 0],rfl,(gA ⟨#[]⟩ Tryz.underlying9),by decide,rfl,false,[.int .i64 0],[],rfl,(cB 0 Tryz.underlying3),rfl⟩
def ty117:bV:=⟨.struct,2,24,true,[zt,zi],[(0,1),(1,1)],true⟩
theorem ty117_ok:b6 Tryz.prog 117 ty117:=o3 Tryz.underlying117 (ti:=Tryz.t117) kR rfl rfl rfl rfl rfl rfl kR (fun _=>by kernel_rfl) (fun _=>cX aJY zeE)
theorem aJX:mY Tryz.prog 3 119 true [.string ⟨#[]⟩,.int .i64 0,.int .i64 0]:=dJ Tryz.underlying119 kR (iK (ti:=Tryz.t119) kR rfl) ⟨by decide,rfl,false,[.string ⟨#[]⟩],[.int .i64 0,.int .i64 0],rfl,(mY.up (gA ⟨#[]⟩ Tryz.underlying9)),by decide,rfl,true,[.int .i64 0,.int .i64 0],[],rfl,UK,rfl⟩
def ty119:bV:=⟨.struct,3,32,true,[zt,zi,zi],[(0,1),(1,2)],true⟩
theorem ty119_ok:b6 Tryz.prog 119 ty119:=o3 Tryz.underlying119 (ti:=Tryz.t119) kR rfl rfl rfl rfl rfl rfl kR (fun _=>by kernel_rfl) (fun _=>cX aJX zeE)
def ty233:bV:=⟨.func,1,8,false,[.nilFunc],[],false⟩
theorem ty233_ok:b6 Tryz.prog 233 ty233:=o1 Tryz.underlying233 (ti:=Tryz.t233) kR rfl rfl rfl rfl rfl rfl rfl rfl rfl
def ty133:bV:=⟨.struct,14,160,true,[zi,zi,zi,zi,zi,zi,zi,zi,zi,zt,zt,zt,zl,zt],[(0,13),(13,1)],false⟩
theorem ty133_ok:b6 Tryz.prog 133 ty133:=o2 Tryz.underlying133 (ti:=Tryz.t133) kR rfl rfl rfl rfl rfl rfl kR rfl
def ty196:bV:=⟨.map 9 3,1,8,false,[.map none],[],false⟩
theorem ty196_ok:b6 Tryz.prog 196 ty196:=o1 Tryz.underlying196 (ti:=Tryz.t196) kR rfl rfl rfl rfl rfl rfl rfl rfl rfl
def ty251:bV:=⟨.int .u64,1,8,false,[.int .u64 0],[],false⟩
theorem ty251_ok:b6 Tryz.prog 251 ty251:=o1 Tryz.underlying251 (ti:=Tryz.t251) kR rfl rfl rfl rfl rfl rfl rfl rfl rfl
def ty229:bV:=⟨.pointer,1,8,false,[.pointer none],[],false⟩
theorem ty229_ok:b6 Tryz.prog 229 ty229:=o1 Tryz.underlying229 (ti:=Tryz.t229) kR rfl rfl rfl rfl rfl rfl rfl rfl rfl
def ty282:bV:=⟨.func,1,8,false,[.nilFunc],[],false⟩
theorem ty282_ok:b6 Tryz.prog 282 ty282:=o1 Tryz.underlying282 (ti:=Tryz.t282) kR rfl rfl rfl rfl rfl rfl rfl rfl rfl
def ty306:bV:=⟨.int .i64,1,8,false,[zi],[],false⟩
theorem ty306_ok:b6 Tryz.prog 306 ty306:=o1 Tryz.underlying306 (ti:=Tryz.t306) kR rfl rfl rfl rfl rfl rfl rfl rfl rfl
def ty313:bV:=⟨.int .u32,1,4,false,[.int .u32 0],[],false⟩
theorem ty313_ok:b6 Tryz.prog 313 ty313:=o1 Tryz.underlying313 (ti:=Tryz.t313) kR rfl rfl rfl rfl rfl rfl rfl rfl rfl
def ty272:bV:=⟨.int .u64,1,8,false,[.int .u64 0],[],false⟩
theorem ty272_ok:b6 Tryz.prog 272 ty272:=o1 Tryz.underlying272 (ti:=Tryz.t272) kR rfl rfl rfl rfl rfl rfl rfl rfl rfl
def ty277:bV:=⟨.other,1,8,false,[.pointer none],[],false⟩
theorem ty277_ok:b6 Tryz.prog 277 ty277:=o1 Tryz.underlying277 (ti:=Tryz.t277) kR rfl rfl rfl rfl rfl rfl rfl rfl rfl
def ty326:bV:=⟨.slice 329,1,24,false,[zl],[],false⟩
theorem ty326_ok:b6 Tryz.prog 326 ty326:=o1 Tryz.underlying326 (ti:=Tryz.t326) kR rfl rfl rfl rfl rfl rfl rfl rfl rfl
theorem aJR:mY Tryz.prog 2 329 true [.int .i64 0,.int .i64 0,.int .i64 0,.int .i64 0]:=dJ Tryz.underlying329 kR (iK (ti:=Tryz.t329) kR rfl) ⟨by decide,rfl,false,[.int .i64 0],[.int .i64 0,.int .i64 0,.int .i64 0],rfl,(cB 0 Tryz.underlying3),by decide,rfl,false,[.int .i64 0],[.int .i64 0,.int .i64 0],rfl,(cB 0 Tryz.underlying3),by decide,rfl,false,[.int .i64 0],[.int .i64 0],rfl,(cB 0 Tryz.underlying3),by decide,rfl,false,[.int .i64 0],[],rfl,(cB 0 Tryz.underlying3),rfl⟩
def ty329:bV:=⟨.struct,4,32,true,[zi,zi,zi,zi],[(0,1),(1,1),(2,1),(3,1)],true⟩
theorem ty329_ok:b6 Tryz.prog 329 ty329:=o3 Tryz.underlying329 (ti:=Tryz.t329) kR rfl rfl rfl rfl rfl rfl kR (fun _=>by kernel_rfl) (fun _=>cX aJR zeE)
def ty332:bV:=⟨.func,1,8,false,[.nilFunc],[],false⟩
theorem ty332_ok:b6 Tryz.prog 332 ty332:=o1 Tryz.underlying332 (ti:=Tryz.t332) kR rfl rfl rfl rfl rfl rfl rfl rfl rfl
def ty334:bV:=⟨.struct,2,16,true,[zi,.nilFunc],[(0,1),(1,1)],false⟩
theorem ty334_ok:b6 Tryz.prog 334 ty334:=o2 Tryz.underlying334 (ti:=Tryz.t334) kR rfl rfl rfl rfl rfl rfl kR rfl
def ty335:bV:=⟨.array 4 334,8,64,true,[zi,.nilFunc,zi,.nilFunc,zi,.nilFunc,zi,.nilFunc],[],false⟩
theorem ty335_ok:b6 Tryz.prog 335 ty335 where
 j7:=⟨_,Tryz.underlying335,rfl⟩
 info:=⟨Tryz.t335,by kernel_rfl,rfl,rfl,_,rfl,rfl⟩
 agg:=rfl
 one:=fun h=>by cases h
 wJ:=fun fs h=>by rw[Tryz.underlying335]at h;cases h
 eqg:=fun h=>by cases h
 ints:=fun h=>by cases h
def ty344:bV:=⟨.map 9 4,1,8,false,[.map none],[],false⟩
theorem ty344_ok:b6 Tryz.prog 344 ty344:=o1 Tryz.underlying344 (ti:=Tryz.t344) kR rfl rfl rfl rfl rfl rfl rfl rfl rfl
def ty345:bV:=⟨.map 3 4,1,8,false,[.map none],[],false⟩
theorem ty345_ok:b6 Tryz.prog 345 ty345:=o1 Tryz.underlying345 (ti:=Tryz.t345) kR rfl rfl rfl rfl rfl rfl rfl rfl rfl
def ty271:bV:=⟨.array 24 5,24,24,true,[.int .u8 0,.int .u8 0,.int .u8 0,.int .u8 0,.int .u8 0,.int .u8 0,.int .u8 0,.int .u8 0,.int .u8 0,.int .u8 0,.int .u8 0,.int .u8 0,.int .u8 0,.int .u8 0,.int .u8 0,.int .u8 0,.int .u8 0,.int .u8 0,.int .u8 0,.int .u8 0,.int .u8 0,.int .u8 0,.int .u8 0,.int .u8 0],[],false⟩
theorem ty271_ok:b6 Tryz.prog 271 ty271 where
 j7:=⟨_,Tryz.underlying271,rfl⟩
 info:=⟨Tryz.t271,by kernel_rfl,rfl,rfl,_,rfl,rfl⟩
 agg:=rfl
 one:=fun h=>by cases h
 wJ:=fun fs h=>by rw[Tryz.underlying271]at h;cases h
 eqg:=fun h=>by cases h
 ints:=fun h=>by cases h
def ty349:bV:=⟨.int .u64,1,8,false,[.int .u64 0],[],false⟩
theorem ty349_ok:b6 Tryz.prog 349 ty349:=o1 Tryz.underlying349 (ti:=Tryz.t349) kR rfl rfl rfl rfl rfl rfl rfl rfl rfl
def ty341:bV:=⟨.array 20 272,20,160,true,[.int .u64 0,.int .u64 0,.int .u64 0,.int .u64 0,.int .u64 0,.int .u64 0,.int .u64 0,.int .u64 0,.int .u64 0,.int .u64 0,.int .u64 0,.int .u64 0,.int .u64 0,.int .u64 0,.int .u64 0,.int .u64 0,.int .u64 0,.int .u64 0,.int .u64 0,.int .u64 0],[],false⟩
theorem ty341_ok:b6 Tryz.prog 341 ty341 where
 j7:=⟨_,Tryz.underlying341,rfl⟩
 info:=⟨Tryz.t341,by kernel_rfl,rfl,rfl,_,rfl,rfl⟩
 agg:=rfl
 one:=fun h=>by cases h
 wJ:=fun fs h=>by rw[Tryz.underlying341]at h;cases h
 eqg:=fun h=>by cases h
 ints:=fun h=>by cases h
def ty342:bV:=⟨.array 65 5,65,65,true,[.int .u8 0,.int .u8 0,.int .u8 0,.int .u8 0,.int .u8 0,.int .u8 0,.int .u8 0,.int .u8 0,.int .u8 0,.int .u8 0,.int .u8 0,.int .u8 0,.int .u8 0,.int .u8 0,.int .u8 0,.int .u8 0,.int .u8 0,.int .u8 0,.int .u8 0,.int .u8 0,.int .u8 0,.int .u8 0,.int .u8 0,.int .u8 0,.int .u8 0,.int .u8 0,.int .u8 0,.int .u8 0,.int .u8 0,.int .u8 0,.int .u8 0,.int .u8 0,.int .u8 0,.int .u8 0,.int .u8 0,.int .u8 0,.int .u8 0,.int .u8 0,.int .u8 0,.int .u8 0,.int .u8 0,.int .u8 0,.int .u8 0,.int .u8 0,.int .u8 0,.int .u8 0,.int .u8 0,.int .u8 0,.int .u8 0,.int .u8 0,.int .u8 0,.int .u8 0,.int .u8 0,.int .u8 0,.int .u8 0,.int .u8 0,.int .u8 0,.int .u8 0,.int .u8 0,.int .u8 0,.int .u8 0,.int .u8 0,.int .u8 0,.int .u8 0,.int .u8 0],[],false⟩
theorem ty342_ok:b6 Tryz.prog 342 ty342 where
 j7:=⟨_,Tryz.underlying342,rfl⟩
 info:=⟨Tryz.t342,by kernel_rfl,rfl,rfl,_,rfl,rfl⟩
 agg:=rfl
 one:=fun h=>by cases h
 wJ:=fun fs h=>by rw[Tryz.underlying342]at h;cases h
 eqg:=fun h=>by cases h
 ints:=fun h=>by cases h
def ty404:bV:=⟨.array 256 5,256,256,true,[.int .u8 0,.int .u8 0,.int .u8 0,.int .u8 0,.int .u8 0,.int .u8 0,.int .u8 0,.int .u8 0,.int .u8 0,.int .u8 0,.int .u8 0,.int .u8 0,.int .u8 0,.int .u8 0,.int .u8 0,.int .u8 0,.int .u8 0,.int .u8 0,.int .u8 0,.int .u8 0,.int .u8 0,.int .u8 0,.int .u8 0,.int .u8 0,.int .u8 0,.int .u8 0,.int .u8 0,.int .u8 0,.int .u8 0,.int .u8 0,.int .u8 0,.int .u8 0,.int .u8 0,.int .u8 0,.int .u8 0,.int .u8 0,.int .u8 0,.int .u8 0,.int .u8 0,.int .u8 0,.int .u8 0,.int .u8 0,.int .u8 0,.int .u8 0,.int .u8 0,.int .u8 0,.int .u8 0,.int .u8 0,.int .u8 0,.int .u8 0,.int .u8 0,.int .u8 0,.int .u8 0,.int .u8 0,.int .u8 0,.int .u8 0,.int .u8 0,.int .u8 0,.int .u8 0,.int .u8 0,.int .u8 0,.int .u8 0,.int .u8 0,.int .u8 0,.int .u8 0,.int .u8 0,.int .u8 0,.int .u8 0,.int .u8 0,.int .u8 0,.int .u8 0,.int .u8 0,.int .u8 0,.int .u8 0,.int .u8 0,.int .u8 0,.int .u8 0,.int .u8 0,.int .u8 0,.int .u8 0,.int .u8 0,.int .u8 0,.int .u8 0,.int .u8 0,.int .u8 0,.int .u8 0,.int .u8 0,.int .u8 0,.int .u8 0,.int .u8 0,.int .u8 0,.int .u8 0,.int .u8 0,.int .u8 0,.int .u8 0,.int .u8 0,.int .u8 0,.int .u8 0,.int .u8 0,.int .u8 0,.int .u8 0,.int .u8 0,.int .u8 0,.int .u8 0,.int .u8 0,.int .u8 0,.int .u8 0,.int .u8 0,.int .u8 0,.int .u8 0,.int .u8 0,.int .u8 0,.int .u8 0,.int .u8 0,.int .u8 0,.int .u8 0,.int .u8 0,.int .u8 0,.int .u8 0,.int .u8 0,.int .u8 0,.int .u8 0,.int .u8 0,.int .u8 0,.int .u8 0,.int .u8 0,.int .u8 0,.int .u8 0,.int .u8 0,.int .u8 0,.int .u8 0,.int .u8 0,.int .u8 0,.int .u8 0,.int .u8 0,.int .u8 0,.int .u8 0,.int .u8 0,.int .u8 0,.int .u8 0,.int .u8 0,.int .u8 0,.int .u8 0,.int .u8 0,.int .u8 0,.int .u8 0,.int .u8 0,.int .u8 0,.int .u8 0,.int .u8 0,.int .u8 0,.int .u8 0,.int .u8 0,.int .u8 0,.int .u8 0,.int .u8 0,.int .u8 0,.int .u8 0,.int .u8 0,.int .u8 0,.int .u8 0,.int .u8 0,.int .u8 0,.int .u8 0,.int .u8 0,.int .u8 0,.int .u8 0,.int .u8 0,.int .u8 0,.int .u8 0,.int .u8 0,.int .u8 0,.int .u8 0,.int .u8 0,.int .u8 0,.int .u8 0,.int .u8 0,.int .u8 0,.int .u8 0,.int .u8 0,.int .u8 0,.int .u8 0,.int .u8 0,.int .u8 0,.int .u8 0,.int .u8 0,.int .u8 0,.int .u8 0,.int .u8 0,.int .u8 0,.int .u8 0,.int .u8 0,.int .u8 0,.int .u8 0,.int .u8 0,.int .u8 0,.int .u8 0,.int .u8 0,.int .u8 0,.int .u8 0,.int .u8 0,.int .u8 0,.int .u8 0,.int .u8 0,.int .u8 0,.int .u8 0,.int .u8 0,.int .u8 0,.int .u8 0,.int .u8 0,.int .u8 0,.int .u8 0,.int .u8 0,.int .u8 0,.int .u8 0,.int .u8 0,.int .u8 0,.int .u8 0,.int .u8 0,.int .u8 0,.int .u8 0,.int .u8 0,.int .u8 0,.int .u8 0,.int .u8 0,.int .u8 0,.int .u8 0,.int .u8 0,.int .u8 0,.int .u8 0,.int .u8 0,.int .u8 0,.int .u8 0,.int .u8 0,.int .u8 0,.int .u8 0,.int .u8 0,.int .u8 0,.int .u8 0,.int .u8 0,.int .u8 0,.int .u8 0,.int .u8 0,.int .u8 0,.int .u8 0,.int .u8 0,.int .u8 0,.int .u8 0,.int .u8 0,.int .u8 0,.int .u8 0,.int .u8 0,.int .u8 0,.int .u8 0,.int .u8 0,.int .u8 0],[],false⟩
theorem ty404_ok:b6 Tryz.prog 404 ty404 where
 j7:=⟨_,Tryz.underlying404,rfl⟩
 info:=⟨Tryz.t404,by kernel_rfl,rfl,rfl,_,rfl,rfl⟩
 agg:=rfl
 one:=fun h=>by cases h
 wJ:=fun fs h=>by rw[Tryz.underlying404]at h;cases h
 eqg:=fun h=>by cases h
 ints:=fun h=>by cases h
theorem aJQ:mY Tryz.prog 2 406 true [.int .u8 0,.int .u8 0]:=dJ Tryz.underlying406 kR (iK (ti:=Tryz.t406) kR rfl) ⟨by decide,rfl,false,[.int .u8 0],[.int .u8 0],rfl,(cB 0 Tryz.underlying5),by decide,rfl,false,[.int .u8 0],[],rfl,(cB 0 Tryz.underlying5),rfl⟩
def ty406:bV:=⟨.struct,2,2,true,[.int .u8 0,.int .u8 0],[(0,1),(1,1)],true⟩
theorem ty406_ok:b6 Tryz.prog 406 ty406:=o3 Tryz.underlying406 (ti:=Tryz.t406) kR rfl rfl rfl rfl rfl rfl kR (fun _=>by kernel_rfl) (fun _=>cX aJQ zeE)
def ty407:bV:=⟨.array 16 406,32,32,true,[.int .u8 0,.int .u8 0,.int .u8 0,.int .u8 0,.int .u8 0,.int .u8 0,.int .u8 0,.int .u8 0,.int .u8 0,.int .u8 0,.int .u8 0,.int .u8 0,.int .u8 0,.int .u8 0,.int .u8 0,.int .u8 0,.int .u8 0,.int .u8 0,.int .u8 0,.int .u8 0,.int .u8 0,.int .u8 0,.int .u8 0,.int .u8 0,.int .u8 0,.int .u8 0,.int .u8 0,.int .u8 0,.int .u8 0,.int .u8 0,.int .u8 0,.int .u8 0],[],false⟩
theorem ty407_ok:b6 Tryz.prog 407 ty407 where
 j7:=⟨_,Tryz.underlying407,rfl⟩
 info:=⟨Tryz.t407,by kernel_rfl,rfl,rfl,_,rfl,rfl⟩
 agg:=rfl
 one:=fun h=>by cases h
 wJ:=fun fs h=>by rw[Tryz.underlying407]at h;cases h
 eqg:=fun h=>by cases h
 ints:=fun h=>by cases h
def ty413:bV:=⟨.struct,3,48,true,[zt,zt,.nilIface],[(0,1),(1,1),(2,1)],false⟩
theorem ty413_ok:b6 Tryz.prog 413 ty413:=o2 Tryz.underlying413 (ti:=Tryz.t413) kR rfl rfl rfl rfl rfl rfl kR rfl
def ty394:bV:=⟨.array 32 5,32,32,true,[.int .u8 0,.int .u8 0,.int .u8 0,.int .u8 0,.int .u8 0,.int .u8 0,.int .u8 0,.int .u8 0,.int .u8 0,.int .u8 0,.int .u8 0,.int .u8 0,.int .u8 0,.int .u8 0,.int .u8 0,.int .u8 0,.int .u8 0,.int .u8 0,.int .u8 0,.int .u8 0,.int .u8 0,.int .u8 0,.int .u8 0,.int .u8 0,.int .u8 0,.int .u8 0,.int .u8 0,.int .u8 0,.int .u8 0,.int .u8 0,.int .u8 0,.int .u8 0],[],false⟩
theorem ty394_ok:b6 Tryz.prog 394 ty394 where
 j7:=⟨_,Tryz.underlying394,rfl⟩
 info:=⟨Tryz.t394,by kernel_rfl,rfl,rfl,_,rfl,rfl⟩
 agg:=rfl
 one:=fun h=>by cases h
 wJ:=fun fs h=>by rw[Tryz.underlying394]at h;cases h
 eqg:=fun h=>by cases h
 ints:=fun h=>by cases h
def ty395:bV:=⟨.array 64 5,64,64,true,[.int .u8 0,.int .u8 0,.int .u8 0,.int .u8 0,.int .u8 0,.int .u8 0,.int .u8 0,.int .u8 0,.int .u8 0,.int .u8 0,.int .u8 0,.int .u8 0,.int .u8 0,.int .u8 0,.int .u8 0,.int .u8 0,.int .u8 0,.int .u8 0,.int .u8 0,.int .u8 0,.int .u8 0,.int .u8 0,.int .u8 0,.int .u8 0,.int .u8 0,.int .u8 0,.int .u8 0,.int .u8 0,.int .u8 0,.int .u8 0,.int .u8 0,.int .u8 0,.int .u8 0,.int .u8 0,.int .u8 0,.int .u8 0,.int .u8 0,.int .u8 0,.int .u8 0,.int .u8 0,.int .u8 0,.int .u8 0,.int .u8 0,.int .u8 0,.int .u8 0,.int .u8 0,.int .u8 0,.int .u8 0,.int .u8 0,.int .u8 0,.int .u8 0,.int .u8 0,.int .u8 0,.int .u8 0,.int .u8 0,.int .u8 0,.int .u8 0,.int .u8 0,.int .u8 0,.int .u8 0,.int .u8 0,.int .u8 0,.int .u8 0,.int .u8 0],[],false⟩
theorem ty395_ok:b6 Tryz.prog 395 ty395 where
 j7:=⟨_,Tryz.underlying395,rfl⟩
 info:=⟨Tryz.t395,by kernel_rfl,rfl,rfl,_,rfl,rfl⟩
 agg:=rfl
 one:=fun h=>by cases h
 wJ:=fun fs h=>by rw[Tryz.underlying395]at h;cases h
 eqg:=fun h=>by cases h
 ints:=fun h=>by cases h
theorem aJP:mY Tryz.prog 2 420 true [.string ⟨#[]⟩]:=dJ Tryz.underlying420 kR (iK (ti:=Tryz.t420) kR rfl) ⟨by decide,rfl,false,[.string ⟨#[]⟩],[],rfl,(gA ⟨#[]⟩ Tryz.underlying9),rfl⟩
def ty420:bV:=⟨.struct,1,16,true,[zt],[(0,1)],true⟩
theorem ty420_ok:b6 Tryz.prog 420 ty420:=o3 Tryz.underlying420 (ti:=Tryz.t420) kR rfl rfl rfl rfl rfl rfl kR (fun _=>by kernel_rfl) (fun _=>cX aJP zeE)
def ty415:bV:=⟨.float .f64,1,8,false,[.float .f64 0],[],false⟩
theorem ty415_ok:b6 Tryz.prog 415 ty415:=o1 Tryz.underlying415 (ti:=Tryz.t415) kR rfl rfl rfl rfl rfl rfl rfl rfl rfl
def tab:List (Nat×bV):=[(1,ty1),(2,ty2),(3,ty3),(4,ty4),(5,ty5),(7,ty7),(9,ty9),(21,ty21),(22,ty22),(24,ty24),(25,ty25),(26,ty26),(28,ty28),(29,ty29),(30,ty30),(32,ty32),(33,ty33),(34,ty34),(35,ty35),(36,ty36),(38,ty38),(39,ty39),(51,ty51),(52,ty52),(54,ty54),(47,ty47),(46,ty46),(103,ty103),(105,ty105),(170,ty170),(120,ty120),(86,ty86),(93,ty93),(77,ty77),(61,ty61),(63,ty63),(64,ty64),(66,ty66),(68,ty68),(81,ty81),(84,ty84),(95,ty95),(111,ty111),(113,ty113),(157,ty157),(246,ty246),(258,ty258),(129,ty129),(134,ty134),(136,ty136),(149,ty149),(212,ty212),(181,ty181),(182,ty182),(184,ty184),(187,ty187),(144,ty144),(218,ty218),(141,ty141),(148,ty148),(109,ty109),(115,ty115),(117,ty117),(119,ty119),(233,ty233),(133,ty133),(196,ty196),(251,ty251),(229,ty229),(282,ty282),(306,ty306),(313,ty313),(272,ty272),(277,ty277),(326,ty326),(329,ty329),(332,ty332),(334,ty334),(335,ty335),(344,ty344),(345,ty345),(271,ty271),(349,ty349),(341,ty341),(342,ty342),(404,ty404),(406,ty406),(407,ty407),(413,ty413),(394,ty394),(395,ty395),(420,ty420),(415,ty415)]
theorem aJ:cD Tryz.prog tab:=⟨ty1_ok,ty2_ok,ty3_ok,ty4_ok,ty5_ok,ty7_ok,ty9_ok,ty21_ok,ty22_ok,ty24_ok,ty25_ok,ty26_ok,ty28_ok,ty29_ok,ty30_ok,ty32_ok,ty33_ok,ty34_ok,ty35_ok,ty36_ok,ty38_ok,ty39_ok,ty51_ok,ty52_ok,ty54_ok,ty47_ok,ty46_ok,ty103_ok,ty105_ok,ty170_ok,ty120_ok,ty86_ok,ty93_ok,ty77_ok,ty61_ok,ty63_ok,ty64_ok,ty66_ok,ty68_ok,ty81_ok,ty84_ok,ty95_ok,ty111_ok,ty113_ok,ty157_ok,ty246_ok,ty258_ok,ty129_ok,ty134_ok,ty136_ok,ty149_ok,ty212_ok,ty181_ok,ty182_ok,ty184_ok,ty187_ok,ty144_ok,ty218_ok,ty141_ok,ty148_ok,ty109_ok,ty115_ok,ty117_ok,ty119_ok,ty233_ok,ty133_ok,ty196_ok,ty251_ok,ty229_ok,ty282_ok,ty306_ok,ty313_ok,ty272_ok,ty277_ok,ty326_ok,ty329_ok,ty332_ok,ty334_ok,ty335_ok,ty344_ok,ty345_ok,ty271_ok,ty349_ok,ty341_ok,ty342_ok,ty404_ok,ty406_ok,ty407_ok,ty413_ok,ty394_ok,ty395_ok,ty420_ok,ty415_ok,trivial⟩
end Go.Proofs.Tryz
