/- Part 4: lemmas that the proofs of this seat share; by itself it claims nothing. -/
import Derived.Test.YtmmcldeclaamgaaGreatDoorChecked
import Derived.Test.YtmmcldeclaamgaaGreatDoorPt3
--TyZ
namespace Go.Ax
abbrev zi:Value:=.int .i64 0
abbrev zt:Value:=.string ⟨#[]⟩
abbrev zl:Value:=.slice none 0 0
def aO5:TypeDesc→Bool
 |.struct _=>true
 |_=>false
theorem o1{P:Program}{t:TypeId}{i:bV}{d:TypeDesc}{ti:TypeInfo}{z:Value}(h:P.underlying t=some d)(hi:P.info? t=some ti)(hz:ti.zero=some z)(hd:SP.qJ d=i.j7)(hs:ti.size=i.size)(hb:ti.bytes=i.bytes)(hc:z.cells.toList=i.zero)(ha:(match i.j7 with|.struct=>true|.array _ _=>true|_=>false)=i.agg)(h1:i.zero=[z])(hn:aO5 d=false)(hx:i.ints=false):b6 P t i:=
 ⟨⟨d,h,hd⟩,⟨ti,hi,hs,hb,z,hz,hc⟩,ha,fun fs e=>(by rw[h]at e;cases e;cases hn),fun _=>⟨ti,z,hi,hz,h1⟩,fun e=>(by rw[hx]at e;cases e),fun e=>(by rw[hx]at e;cases e)⟩
def EZ(P:Program):List Field→List (Nat×Nat)→Bool
 |[],[]=>true
 |f::fs,(o,z)::r=>Nat.beq f.offset o&&(match P.info? f.type with|some ti=>Nat.beq ti.size z|none=>false)&&EZ P fs r
 |_,_=>false
theorem EZ.ok{P:Program}:∀{fs:List Field}{l:List (Nat×Nat)},EZ P fs l=true→sY P fs l
 |[],[],_=>trivial
 |f::fs,(o,z)::r,h=>by
  simp only[EZ,Bool.and_eq_true]at h;obtain⟨⟨h1,h2⟩,h3⟩:=h
  cases hi:P.info? f.type with
  |none=>rw[hi]at h2;cases h2
  |some ti=>rw[hi]at h2;exact⟨Nat.eq_of_beq_eq_true h1,⟨ti,hi,Nat.eq_of_beq_eq_true h2⟩,EZ.ok h3⟩
 |[],_::_,h=>by cases h
 |_::_,[],h=>by cases h
theorem o3{P:Program}{t:TypeId}{i:bV}{fs:Array Field}{ti:TypeInfo}{z:Value}(h:P.underlying t=some (.struct fs))(hi:P.info? t=some ti)(hz:ti.zero=some z)(hd:SP.struct=i.j7)(hs:ti.size=i.size)(hb:ti.bytes=i.bytes)(hc:z.cells.toList=i.zero)(ha:i.agg=true)(hf:EZ P fs.toList i.wJ=true)(he:i.ints=true→P.eqGuardType P.depth t=false)(hx:i.ints=true→∀(w:World)(xs ys:List SV)(vs us:List Value)(b:Bool),gT i.zero xs=true→gT i.zero ys=true→uG xs ys=some b→cV (fun _ _=>none) (fun _=>none) xs vs→cV (fun _ _=>none) (fun _=>none) ys us→(Op.equal t (.agg vs.toArray) (.agg us.toArray)).run P w=.ok b w):b6 P t i:=
 ⟨⟨_,h,hd⟩,⟨ti,hi,hs,hb,z,hz,hc⟩,(by rw[←hd,ha]),fun fs' e=>(by rw[h]at e;cases e;exact EZ.ok hf),fun e=>(by rw[ha]at e;cases e),he,hx⟩
theorem o2{P:Program}{t:TypeId}{i:bV}{fs:Array Field}{ti:TypeInfo}{z:Value}(h:P.underlying t=some (.struct fs))(hi:P.info? t=some ti)(hz:ti.zero=some z)(hd:SP.struct=i.j7)(hs:ti.size=i.size)(hb:ti.bytes=i.bytes)(hc:z.cells.toList=i.zero)(ha:i.agg=true)(hf:EZ P fs.toList i.wJ=true)(hx:i.ints=false):b6 P t i:=
 o3 h hi hz hd hs hb hc ha hf (fun e=>by rw[hx]at e;cases e) (fun e=>by rw[hx]at e;cases e)
end Go.Ax
namespace Go.Proofs.Tryz
open Go Go.Ax
def ty1:bV:=⟨.func,1,8,false,[.nilFunc],[],false⟩
theorem ty1_ok:b6 Tryz.prog 1 ty1:=o1 Tryz.underlying1 (ti:=Tryz.t1) kR rfl rfl rfl rfl rfl rfl rfl rfl rfl
def ty2:bV:=⟨.int .i64,1,8,false,[zi],[],false⟩
theorem ty2_ok:b6 Tryz.prog 2 ty2:=o1 Tryz.underlying2 (ti:=Tryz.t2) kR rfl rfl rfl rfl rfl rfl rfl rfl rfl
def ty3:bV:=⟨.int .i64,1,8,false,[zi],[],false⟩
theorem ty3_ok:b6 Tryz.prog 3 ty3:=o1 Tryz.underlying3 (ti:=Tryz.t3) kR rfl rfl rfl rfl rfl rfl rfl rfl rfl
def ty4:bV:=⟨.bool,1,1,false,[.bool false],[],false⟩
theorem ty4_ok:b6 Tryz.prog 4 ty4:=o1 Tryz.underlying4 (ti:=Tryz.t4) kR rfl rfl rfl rfl rfl rfl rfl rfl rfl
def ty5:bV:=⟨.int .u8,1,1,false,[.int .u8 0],[],false⟩
theorem ty5_ok:b6 Tryz.prog 5 ty5:=o1 Tryz.underlying5 (ti:=Tryz.t5) kR rfl rfl rfl rfl rfl rfl rfl rfl rfl
theorem aP6:mY Tryz.prog 2 7 true [.int .i64 0,.int .i64 0,.bool false,.int .u8 0]:=dJ Tryz.underlying7 kR (iK (ti:=Tryz.t7) kR rfl) ⟨by decide,rfl,false,[.int .i64 0],[.int .i64 0,.bool false,.int .u8 0],rfl,(cB 0 Tryz.underlying2),by decide,rfl,false,[.int .i64 0],[.bool false,.int .u8 0],rfl,(cB 0 Tryz.underlying3),by decide,rfl,false,[.bool false],[.int .u8 0],rfl,(aDG false Tryz.underlying4),by decide,rfl,false,[.int .u8 0],[],rfl,(cB 0 Tryz.underlying6),rfl⟩
def ty7:bV:=⟨.struct,4,24,true,[zi,zi,.bool false,.int .u8 0],[(0,1),(1,1),(2,1),(3,1)],true⟩
theorem ty7_ok:b6 Tryz.prog 7 ty7:=o3 Tryz.underlying7 (ti:=Tryz.t7) kR rfl rfl rfl rfl rfl rfl kR (fun _=>by kernel_rfl) (fun _=>cX aP6 zeE)
def ty9:bV:=⟨.string,1,16,false,[zt],[],false⟩
theorem ty9_ok:b6 Tryz.prog 9 ty9:=o1 Tryz.underlying9 (ti:=Tryz.t9) kR rfl rfl rfl rfl rfl rfl rfl rfl rfl
def ty21:bV:=⟨.int .i32,1,4,false,[.int .i32 0],[],false⟩
theorem ty21_ok:b6 Tryz.prog 21 ty21:=o1 Tryz.underlying21 (ti:=Tryz.t21) kR rfl rfl rfl rfl rfl rfl rfl rfl rfl
def ty41:bV:=⟨.slice 3,1,24,false,[zl],[],false⟩
theorem ty41_ok:b6 Tryz.prog 41 ty41:=o1 Tryz.underlying41 (ti:=Tryz.t41) kR rfl rfl rfl rfl rfl rfl rfl rfl rfl
def ty47:bV:=⟨.struct,6,64,true,[zi,zi,zi,zi,zi,zl],[(0,1),(1,1),(2,1),(3,1),(4,1),(5,1)],false⟩
theorem ty47_ok:b6 Tryz.prog 47 ty47:=o2 Tryz.underlying47 (ti:=Tryz.t47) kR rfl rfl rfl rfl rfl rfl kR rfl
def ty48:bV:=⟨.slice 107,1,24,false,[zl],[],false⟩
theorem ty48_ok:b6 Tryz.prog 48 ty48:=o1 Tryz.underlying48 (ti:=Tryz.t48) kR rfl rfl rfl rfl rfl rfl rfl rfl rfl
def ty49:bV:=⟨.slice 203,1,24,false,[zl],[],false⟩
theorem ty49_ok:b6 Tryz.prog 49 ty49:=o1 Tryz.underlying49 (ti:=Tryz.t49) kR rfl rfl rfl rfl rfl rfl rfl rfl rfl
def ty51:bV:=⟨.struct,5,80,true,[zt,zl,zi,zi,zl],[(0,1),(1,1),(2,1),(3,1),(4,1)],false⟩
theorem ty51_ok:b6 Tryz.prog 51 ty51:=o2 Tryz.underlying51 (ti:=Tryz.t51) kR rfl rfl rfl rfl rfl rfl kR rfl
def ty52:bV:=⟨.slice 111,1,24,false,[zl],[],false⟩
theorem ty52_ok:b6 Tryz.prog 52 ty52:=o1 Tryz.underlying52 (ti:=Tryz.t52) kR rfl rfl rfl rfl rfl rfl rfl rfl rfl
def ty53:bV:=⟨.slice 116,1,24,false,[zl],[],false⟩
theorem ty53_ok:b6 Tryz.prog 53 ty53:=o1 Tryz.underlying53 (ti:=Tryz.t53) kR rfl rfl rfl rfl rfl rfl rfl rfl rfl
def ty55:bV:=⟨.struct,2,48,true,[zl,zl],[(0,1),(1,1)],false⟩
theorem ty55_ok:b6 Tryz.prog 55 ty55:=o2 Tryz.underlying55 (ti:=Tryz.t55) kR rfl rfl rfl rfl rfl rfl kR rfl
def ty56:bV:=⟨.slice 118,1,24,false,[zl],[],false⟩
theorem ty56_ok:b6 Tryz.prog 56 ty56:=o1 Tryz.underlying56 (ti:=Tryz.t56) kR rfl rfl rfl rfl rfl rfl rfl rfl rfl
def ty57:bV:=⟨.slice 163,1,24,false,[zl],[],false⟩
theorem ty57_ok:b6 Tryz.prog 57 ty57:=o1 Tryz.underlying57 (ti:=Tryz.t57) kR rfl rfl rfl rfl rfl rfl rfl rfl rfl
def ty58:bV:=⟨.slice 120,1,24,false,[zl],[],false⟩
theorem ty58_ok:b6 Tryz.prog 58 ty58:=o1 Tryz.underlying58 (ti:=Tryz.t58) kR rfl rfl rfl rfl rfl rfl rfl rfl rfl
def ty59:bV:=⟨.slice 122,1,24,false,[zl],[],false⟩
theorem ty59_ok:b6 Tryz.prog 59 ty59:=o1 Tryz.underlying59 (ti:=Tryz.t59) kR rfl rfl rfl rfl rfl rfl rfl rfl rfl
def ty61:bV:=⟨.struct,20,320,true,[zt,zi,zi,zi,zi,zi,zl,zt,zl,zi,zi,zl,zl,zl,zi,zi,zl,zl,zl,zl],[(0,1),(1,6),(7,5),(12,2),(14,1),(15,1),(16,1),(17,1),(18,1),(19,1)],false⟩
theorem ty61_ok:b6 Tryz.prog 61 ty61:=o2 Tryz.underlying61 (ti:=Tryz.t61) kR rfl rfl rfl rfl rfl rfl kR rfl
def ty63:bV:=⟨.slice 67,1,24,false,[zl],[],false⟩
theorem ty63_ok:b6 Tryz.prog 63 ty63:=o1 Tryz.underlying63 (ti:=Tryz.t63) kR rfl rfl rfl rfl rfl rfl rfl rfl rfl
def ty39:bV:=⟨.slice 69,1,24,false,[zl],[],false⟩
theorem ty39_ok:b6 Tryz.prog 39 ty39:=o1 Tryz.underlying39 (ti:=Tryz.t39) kR rfl rfl rfl rfl rfl rfl rfl rfl rfl
def ty40:bV:=⟨.slice 105,1,24,false,[zl],[],false⟩
theorem ty40_ok:b6 Tryz.prog 40 ty40:=o1 Tryz.underlying40 (ti:=Tryz.t40) kR rfl rfl rfl rfl rfl rfl rfl rfl rfl
def ty43:bV:=⟨.struct,7,104,true,[zi,zi,zi,zi,zl,zl,zl],[(0,1),(1,1),(2,1),(3,1),(4,1),(5,1),(6,1)],false⟩
theorem ty43_ok:b6 Tryz.prog 43 ty43:=o2 Tryz.underlying43 (ti:=Tryz.t43) kR rfl rfl rfl rfl rfl rfl kR rfl
def ty27:bV:=⟨.int .i64,1,8,false,[zi],[],false⟩
theorem ty27_ok:b6 Tryz.prog 27 ty27:=o1 Tryz.underlying27 (ti:=Tryz.t27) kR rfl rfl rfl rfl rfl rfl rfl rfl rfl
def ty67:bV:=⟨.struct,13,144,true,[zi,zi,zi,zi,zi,zi,zi,zi,zi,zt,zt,zt,zl],[(0,1),(1,1),(2,1),(3,1),(4,1),(5,1),(6,1),(7,1),(8,1),(9,1),(10,1),(11,1),(12,1)],false⟩
theorem ty67_ok:b6 Tryz.prog 67 ty67:=o2 Tryz.underlying67 (ti:=Tryz.t67) kR rfl rfl rfl rfl rfl rfl kR rfl
def ty183:bV:=⟨.slice 287,1,24,false,[zl],[],false⟩
theorem ty183_ok:b6 Tryz.prog 183 ty183:=o1 Tryz.underlying183 (ti:=Tryz.t183) kR rfl rfl rfl rfl rfl rfl rfl rfl rfl
def ty185:bV:=⟨.struct,4,96,true,[zl,zl,zl,zl],[(0,1),(1,1),(2,1),(3,1)],false⟩
theorem ty185_ok:b6 Tryz.prog 185 ty185:=o2 Tryz.underlying185 (ti:=Tryz.t185) kR rfl rfl rfl rfl rfl rfl kR rfl
theorem aJT:mY Tryz.prog 2 287 true [.int .i64 0,.string ⟨#[]⟩,.int .i64 0]:=dJ Tryz.underlying287 kR (iK (ti:=Tryz.t287) kR rfl) ⟨by decide,rfl,false,[.int .i64 0],[.string ⟨#[]⟩,.int .i64 0],rfl,(cB 0 Tryz.underlying3),by decide,rfl,false,[.string ⟨#[]⟩],[.int .i64 0],rfl,(gA ⟨#[]⟩ Tryz.underlying9),by decide,rfl,false,[.int .i64 0],[],rfl,(cB 0 Tryz.underlying3),rfl⟩
def ty287:bV:=⟨.struct,3,32,true,[zi,zt,zi],[(0,1),(1,1),(2,1)],true⟩
theorem ty287_ok:b6 Tryz.prog 287 ty287:=o3 Tryz.underlying287 (ti:=Tryz.t287) kR rfl rfl rfl rfl rfl rfl kR (fun _=>by kernel_rfl) (fun _=>cX aJT zeE)
def ty71:bV:=⟨.slice 9,1,24,false,[zl],[],false⟩
theorem ty71_ok:b6 Tryz.prog 71 ty71:=o1 Tryz.underlying71 (ti:=Tryz.t71) kR rfl rfl rfl rfl rfl rfl rfl rfl rfl
def ty95:bV:=⟨.slice 102,1,24,false,[zl],[],false⟩
theorem ty95_ok:b6 Tryz.prog 95 ty95:=o1 Tryz.underlying95 (ti:=Tryz.t95) kR rfl rfl rfl rfl rfl rfl rfl rfl rfl
theorem aJ3:mY Tryz.prog 2 102 true [.int .i64 0,.int .i64 0,.string ⟨#[]⟩,.int .i64 0,.int .i64 0,.int .i64 0,.string ⟨#[]⟩]:=dJ Tryz.underlying102 kR (iK (ti:=Tryz.t102) kR rfl) ⟨by decide,rfl,false,[.int .i64 0],[.int .i64 0,.string ⟨#[]⟩,.int .i64 0,.int .i64 0,.int .i64 0,.string ⟨#[]⟩],rfl,(cB 0 Tryz.underlying3),by decide,rfl,false,[.int .i64 0],[.string ⟨#[]⟩,.int .i64 0,.int .i64 0,.int .i64 0,.string ⟨#[]⟩],rfl,(cB 0 Tryz.underlying3),by decide,rfl,false,[.string ⟨#[]⟩],[.int .i64 0,.int .i64 0,.int .i64 0,.string ⟨#[]⟩],rfl,(gA ⟨#[]⟩ Tryz.underlying9),by decide,rfl,false,[.int .i64 0],[.int .i64 0,.int .i64 0,.string ⟨#[]⟩],rfl,(cB 0 Tryz.underlying3),by decide,rfl,false,[.int .i64 0],[.int .i64 0,.string ⟨#[]⟩],rfl,(cB 0 Tryz.underlying3),by decide,rfl,false,[.int .i64 0],[.string ⟨#[]⟩],rfl,(cB 0 Tryz.underlying3),by decide,rfl,false,[.string ⟨#[]⟩],[],rfl,(gA ⟨#[]⟩ Tryz.underlying9),rfl⟩
def ty102:bV:=⟨.struct,7,72,true,[zi,zi,zt,zi,zi,zi,zt],[(0,1),(1,1),(2,1),(3,1),(4,1),(5,1),(6,1)],true⟩
theorem ty102_ok:b6 Tryz.prog 102 ty102:=o3 Tryz.underlying102 (ti:=Tryz.t102) kR rfl rfl rfl rfl rfl rfl kR (fun _=>by kernel_rfl) (fun _=>cX aJ3 zeE)
theorem aNJ:mY Tryz.prog 2 69 true [.string ⟨#[]⟩,.int .i64 0,.int .i64 0,.int .i64 0]:=dJ Tryz.underlying69 kR (iK (ti:=Tryz.t69) kR rfl) ⟨by decide,rfl,false,[.string ⟨#[]⟩],[.int .i64 0,.int .i64 0,.int .i64 0],rfl,(gA ⟨#[]⟩ Tryz.underlying9),by decide,rfl,false,[.int .i64 0],[.int .i64 0,.int .i64 0],rfl,(cB 0 Tryz.underlying3),by decide,rfl,false,[.int .i64 0],[.int .i64 0],rfl,(cB 0 Tryz.underlying3),by decide,rfl,false,[.int .i64 0],[],rfl,(cB 0 Tryz.underlying3),rfl⟩
def ty69:bV:=⟨.struct,4,40,true,[zt,zi,zi,zi],[(0,1),(1,1),(2,1),(3,1)],true⟩
theorem ty69_ok:b6 Tryz.prog 69 ty69:=o3 Tryz.underlying69 (ti:=Tryz.t69) kR rfl rfl rfl rfl rfl rfl kR (fun _=>by kernel_rfl) (fun _=>cX aNJ zeE)
def ty201:bV:=⟨.slice 147,1,24,false,[zl],[],false⟩
theorem ty201_ok:b6 Tryz.prog 201 ty201:=o1 Tryz.underlying201 (ti:=Tryz.t201) kR rfl rfl rfl rfl rfl rfl rfl rfl rfl
def ty203:bV:=⟨.struct,3,48,true,[zt,zi,zl],[(0,1),(1,1),(2,1)],false⟩
theorem ty203_ok:b6 Tryz.prog 203 ty203:=o2 Tryz.underlying203 (ti:=Tryz.t203) kR rfl rfl rfl rfl rfl rfl kR rfl
def ty114:bV:=⟨.slice 113,1,24,false,[zl],[],false⟩
theorem ty114_ok:b6 Tryz.prog 114 ty114:=o1 Tryz.underlying114 (ti:=Tryz.t114) kR rfl rfl rfl rfl rfl rfl rfl rfl rfl
def ty116:bV:=⟨.struct,4,56,true,[zt,zi,zi,zl],[(0,1),(1,1),(2,1),(3,1)],false⟩
theorem ty116_ok:b6 Tryz.prog 116 ty116:=o2 Tryz.underlying116 (ti:=Tryz.t116) kR rfl rfl rfl rfl rfl rfl kR rfl
def ty120:bV:=⟨.struct,6,72,true,[zt,zi,zi,zi,zl,zi],[(0,1),(1,1),(2,1),(3,1),(4,1),(5,1)],false⟩
theorem ty120_ok:b6 Tryz.prog 120 ty120:=o2 Tryz.underlying120 (ti:=Tryz.t120) kR rfl rfl rfl rfl rfl rfl kR rfl
def ty90:bV:=⟨.struct,21,344,true,[zt,zi,zi,zi,zi,zi,zl,zt,zl,zi,zi,zl,zl,zl,zi,zi,zl,zl,zl,zl,zl],[(0,20),(20,1)],false⟩
theorem ty90_ok:b6 Tryz.prog 90 ty90:=o2 Tryz.underlying90 (ti:=Tryz.t90) kR rfl rfl rfl rfl rfl rfl kR rfl
def ty93:bV:=⟨.slice 47,1,24,false,[zl],[],false⟩
theorem ty93_ok:b6 Tryz.prog 93 ty93:=o1 Tryz.underlying93 (ti:=Tryz.t93) kR rfl rfl rfl rfl rfl rfl rfl rfl rfl
theorem aJ2:mY Tryz.prog 2 105 true [.string ⟨#[]⟩,.int .i64 0]:=dJ Tryz.underlying105 kR (iK (ti:=Tryz.t105) kR rfl) ⟨by decide,rfl,false,[.string ⟨#[]⟩],[.int .i64 0],rfl,(gA ⟨#[]⟩ Tryz.underlying9),by decide,rfl,false,[.int .i64 0],[],rfl,(cB 0 Tryz.underlying3),rfl⟩
def ty105:bV:=⟨.struct,2,24,true,[zt,zi],[(0,1),(1,1)],true⟩
theorem ty105_ok:b6 Tryz.prog 105 ty105:=o3 Tryz.underlying105 (ti:=Tryz.t105) kR rfl rfl rfl rfl rfl rfl kR (fun _=>by kernel_rfl) (fun _=>cX aJ2 zeE)
theorem UK:mY Tryz.prog 2 109 true [.int .i64 0,.int .i64 0]:=dJ Tryz.underlying109 kR (iK (ti:=Tryz.t109) kR rfl) ⟨by decide,rfl,false,[.int .i64 0],[.int .i64 0],rfl,(cB 0 Tryz.underlying3),by decide,rfl,false,[.int .i64 0],[],rfl,(cB 0 Tryz.underlying3),rfl⟩
def ty109:bV:=⟨.struct,2,16,true,[zi,zi],[(0,1),(1,1)],true⟩
theorem ty109_ok:b6 Tryz.prog 109 ty109:=o3 Tryz.underlying109 (ti:=Tryz.t109) kR rfl rfl rfl rfl rfl rfl kR (fun _=>by kernel_rfl) (fun _=>cX UK zeE)
theorem aJ0:mY Tryz.prog 3 111 true [.string ⟨#[]⟩,.int .i64 0,.int .i64 0,.int .i64 0,.int .i64 0]:=dJ Tryz.underlying111 kR (iK (ti:=Tryz.t111) kR rfl) ⟨by decide,rfl,false,[.string ⟨#[]⟩],[.int .i64 0,.int .i64 0,.int .i64 0,.int .i64 0],rfl,(mY.up (gA ⟨#[]⟩ Tryz.underlying9)),by decide,rfl,false,[.int .i64 0],[.int .i64 0,.int .i64 0,.int .i64 0],rfl,(mY.up (cB 0 Tryz.underlying3)),by decide,rfl,false,[.int .i64 0],[.int .i64 0,.int .i64 0],rfl,(mY.up (cB 0 Tryz.underlying3)),by decide,rfl,true,[.int .i64 0,.int .i64 0],[],rfl,UK,rfl⟩
def ty111:bV:=⟨.struct,5,48,true,[zt,zi,zi,zi,zi],[(0,1),(1,1),(2,1),(3,2)],true⟩
theorem ty111_ok:b6 Tryz.prog 111 ty111:=o3 Tryz.underlying111 (ti:=Tryz.t111) kR rfl rfl rfl rfl rfl rfl kR (fun _=>by kernel_rfl) (fun _=>cX aJ0 zeE)
theorem aJU:mY Tryz.prog 2 163 true [.string ⟨#[]⟩,.int .i64 0,.int .i64 0]:=dJ Tryz.underlying163 kR (iK (ti:=Tryz.t163) kR rfl) ⟨by decide,rfl,false,[.string ⟨#[]⟩],[.int .i64 0,.int .i64 0],rfl,(gA ⟨#[]⟩ Tryz.underlying9),by decide,rfl,false,[.int .i64 0],[.int .i64 0],rfl,(cB 0 Tryz.underlying3),by decide,rfl,false,[.int .i64 0],[],rfl,(cB 0 Tryz.underlying3),rfl⟩
def ty163:bV:=⟨.struct,3,32,true,[zt,zi,zi],[(0,1),(1,1),(2,1)],true⟩
theorem ty163_ok:b6 Tryz.prog 163 ty163:=o3 Tryz.underlying163 (ti:=Tryz.t163) kR rfl rfl rfl rfl rfl rfl kR (fun _=>by kernel_rfl) (fun _=>cX aJU zeE)
def ty83:bV:=⟨.struct,2,32,true,[zl,.bool false],[(0,1),(1,1)],false⟩
theorem ty83_ok:b6 Tryz.prog 83 ty83:=o2 Tryz.underlying83 (ti:=Tryz.t83) kR rfl rfl rfl rfl rfl rfl kR rfl
theorem aJS:mY Tryz.prog 2 240 true [.int .i64 0,.int .i64 0,.int .i64 0,.string ⟨#[]⟩,.int .i64 0]:=dJ Tryz.underlying240 kR (iK (ti:=Tryz.t240) kR rfl) ⟨by decide,rfl,false,[.int .i64 0],[.int .i64 0,.int .i64 0,.string ⟨#[]⟩,.int .i64 0],rfl,(cB 0 Tryz.underlying3),by decide,rfl,false,[.int .i64 0],[.int .i64 0,.string ⟨#[]⟩,.int .i64 0],rfl,(cB 0 Tryz.underlying3),by decide,rfl,false,[.int .i64 0],[.string ⟨#[]⟩,.int .i64 0],rfl,(cB 0 Tryz.underlying3),by decide,rfl,false,[.string ⟨#[]⟩],[.int .i64 0],rfl,(gA ⟨#[]⟩ Tryz.underlying9),by decide,rfl,false,[.int .i64 0],[],rfl,(cB 0 Tryz.underlying3),rfl⟩
def ty240:bV:=⟨.struct,5,48,true,[zi,zi,zi,zt,zi],[(0,1),(1,1),(2,1),(3,1),(4,1)],true⟩
theorem ty240_ok:b6 Tryz.prog 240 ty240:=o3 Tryz.underlying240 (ti:=Tryz.t240) kR rfl rfl rfl rfl rfl rfl kR (fun _=>by kernel_rfl) (fun _=>cX aJS zeE)
def ty177:bV:=⟨.map 9 182,1,8,false,[.map none],[],false⟩
theorem ty177_ok:b6 Tryz.prog 177 ty177:=o1 Tryz.underlying177 (ti:=Tryz.t177) kR rfl rfl rfl rfl rfl rfl rfl rfl rfl
def ty182:bV:=⟨.slice 181,1,24,false,[zl],[],false⟩
theorem ty182_ok:b6 Tryz.prog 182 ty182:=o1 Tryz.underlying182 (ti:=Tryz.t182) kR rfl rfl rfl rfl rfl rfl rfl rfl rfl
def ty142:bV:=⟨.map 9 155,1,8,false,[.map none],[],false⟩
theorem ty142_ok:b6 Tryz.prog 142 ty142:=o1 Tryz.underlying142 (ti:=Tryz.t142) kR rfl rfl rfl rfl rfl rfl rfl rfl rfl
def ty155:bV:=⟨.slice 189,1,24,false,[zl],[],false⟩
theorem ty155_ok:b6 Tryz.prog 155 ty155:=o1 Tryz.underlying155 (ti:=Tryz.t155) kR rfl rfl rfl rfl rfl rfl rfl rfl rfl
def ty189:bV:=⟨.struct,14,152,true,[zi,zi,zi,zi,zi,zi,zi,zi,zi,zt,zt,zt,zl,zi],[(0,13),(13,1)],false⟩
theorem ty189_ok:b6 Tryz.prog 189 ty189:=o2 Tryz.underlying189 (ti:=Tryz.t189) kR rfl rfl rfl rfl rfl rfl kR rfl
def ty129:bV:=⟨.pointer,1,8,false,[.pointer none],[],false⟩
theorem ty129_ok:b6 Tryz.prog 129 ty129:=o1 Tryz.underlying129 (ti:=Tryz.t129) kR rfl rfl rfl rfl rfl rfl rfl rfl rfl
def ty130:bV:=⟨.slice 5,1,24,false,[zl],[],false⟩
theorem ty130_ok:b6 Tryz.prog 130 ty130:=o1 Tryz.underlying130 (ti:=Tryz.t130) kR rfl rfl rfl rfl rfl rfl rfl rfl rfl
def ty132:bV:=⟨.struct,2,32,true,[.pointer none,zl],[(0,1),(1,1)],false⟩
theorem ty132_ok:b6 Tryz.prog 132 ty132:=o2 Tryz.underlying132 (ti:=Tryz.t132) kR rfl rfl rfl rfl rfl rfl kR rfl
def ty135:bV:=⟨.iface,1,16,false,[.nilIface],[],false⟩
theorem ty135_ok:b6 Tryz.prog 135 ty135:=o1 Tryz.underlying135 (ti:=Tryz.t135) kR rfl rfl rfl rfl rfl rfl rfl rfl rfl
def ty150:bV:=⟨.slice 154,1,24,false,[zl],[],false⟩
theorem ty150_ok:b6 Tryz.prog 150 ty150:=o1 Tryz.underlying150 (ti:=Tryz.t150) kR rfl rfl rfl rfl rfl rfl rfl rfl rfl
def ty195:bV:=⟨.struct,2,48,true,[zl,zl],[(0,2)],false⟩
theorem ty195_ok:b6 Tryz.prog 195 ty195:=o2 Tryz.underlying195 (ti:=Tryz.t195) kR rfl rfl rfl rfl rfl rfl kR rfl
theorem aJW:mY Tryz.prog 2 147 true [.int .i64 0,.int .i64 0]:=dJ Tryz.underlying147 kR (iK (ti:=Tryz.t147) kR rfl) ⟨by decide,rfl,false,[.int .i64 0],[.int .i64 0],rfl,(cB 0 Tryz.underlying3),by decide,rfl,false,[.int .i64 0],[],rfl,(cB 0 Tryz.underlying3),rfl⟩
def ty147:bV:=⟨.struct,2,16,true,[zi,zi],[(0,1),(1,1)],true⟩
theorem ty147_ok:b6 Tryz.prog 147 ty147:=o3 Tryz.underlying147 (ti:=Tryz.t147) kR rfl rfl rfl rfl rfl rfl kR (fun _=>by kernel_rfl) (fun _=>cX aJW zeE)
theorem aJV:mY Tryz.prog 2 154 true [.string ⟨#[]⟩,.int .i64 0,.int .i64 0]:=dJ Tryz.underlying154 kR (iK (ti:=Tryz.t154) kR rfl) ⟨by decide,rfl,false,[.string ⟨#[]⟩],[.int .i64 0,.int .i64 0],rfl,(gA ⟨#[]⟩ Tryz.underlying9),by decide,rfl,false,[.int .i64 0],[.int .i64 0],rfl,(cB 0 Tryz.underlying3),by decide,rfl,false,[.int .i64 0],[],rfl,(cB 0 Tryz.underlying3),rfl⟩
def ty154:bV:=⟨.struct,3,32,true,[zt,zi,zi],[(0,1),(1,1),(2,1)],true⟩
theorem ty154_ok:b6 Tryz.prog 154 ty154:=o3 Tryz.underlying154 (ti:=Tryz.t154) kR rfl rfl rfl rfl rfl rfl kR (fun _=>by kernel_rfl) (fun _=>cX aJV zeE)
theorem aJ1:mY Tryz.prog 2 107 true [.int .i64 0,.int .i64 0,.int .i64 0,.int .i64 0,.int .i64 0]:=dJ Tryz.underlying107 kR (iK (ti:=Tryz.t107) kR rfl) ⟨by decide,rfl,false,[.int .i64 0],[.int .i64 0,.int .i64 0,.int .i64 0,.int .i64 0],rfl,(cB 0 Tryz.underlying3),by decide,rfl,false,[.int .i64 0],[.int .i64 0,.int .i64 0,.int .i64 0],rfl,(cB 0 Tryz.underlying3),by decide,rfl,false,[.int .i64 0],[.int .i64 0,.int .i64 0],rfl,(cB 0 Tryz.underlying3),by decide,rfl,false,[.int .i64 0],[.int .i64 0],rfl,(cB 0 Tryz.underlying3),by decide,rfl,false,[.int .i64 0],[],rfl,(cB 0 Tryz.underlying3),rfl⟩
def ty107:bV:=⟨.struct,5,40,true,[zi,zi,zi,zi,zi],[(0,1),(1,1),(2,1),(3,1),(4,1)],true⟩
theorem ty107_ok:b6 Tryz.prog 107 ty107:=o3 Tryz.underlying107 (ti:=Tryz.t107) kR rfl rfl rfl rfl rfl rfl kR (fun _=>by kernel_rfl) (fun _=>cX aJ1 zeE)
theorem aJZ:mY Tryz.prog 2 113 true [.int .i64 0,.string ⟨#[]⟩]:=dJ Tryz.underlying113 kR (iK (ti:=Tryz.t113) kR rfl) ⟨by decide,rfl,false,[.int .i64 0],[.string ⟨#[]⟩],rfl,(cB 0 Tryz.underlying3),by decide,rfl,false,[.string ⟨#[]⟩],[],rfl,(gA ⟨#[]⟩ Tryz.underlying9),rfl⟩
def ty113:bV:=⟨.struct,2,24,true,[zi,zt],[(0,1),(1,1)],true⟩
theorem ty113_ok:b6 Tryz.prog 113 ty113:=o3 Tryz.underlying113 (ti:=Tryz.t113) kR rfl rfl rfl rfl rfl rfl kR (fun _=>by kernel_rfl) (fun _=>cX aJZ zeE)
theorem aJY:mY Tryz.prog 2 118 true [.string ⟨#[]⟩,.int .i64 0]:=dJ Tryz.underlying118 kR (iK (ti:=Tryz.t118) kR rfl) ⟨by decide,rfl,false,[.string ⟨#[]⟩],[.int .i64 0],rfl,(gA ⟨#[]⟩ Tryz.underlying9),by decide,rfl,false,[.int .i64 0],[],rfl,(cB 0 Tryz.underlying3),rfl⟩
def ty118:bV:=⟨.struct,2,24,true,[zt,zi],[(0,1),(1,1)],true⟩
theorem ty118_ok:b6 Tryz.prog 118 ty118:=o3 Tryz.underlying118 (ti:=Tryz.t118) kR rfl rfl rfl rfl rfl rfl kR (fun _=>by kernel_rfl) (fun _=>cX aJY zeE)
theorem aJX:mY Tryz.prog 3 122 true [.string ⟨#[]⟩,.int .i64 0,.int .i64 0]:=dJ Tryz.underlying122 kR (iK (ti:=Tryz.t122) kR rfl) ⟨by decide,rfl,false,[.string ⟨#[]⟩],[.int .i64 0,.int .i64 0],rfl,(mY.up (gA ⟨#[]⟩ Tryz.underlying9)),by decide,rfl,true,[.int .i64 0,.int .i64 0],[],rfl,UK,rfl⟩
def ty122:bV:=⟨.struct,3,32,true,[zt,zi,zi],[(0,1),(1,2)],true⟩
theorem ty122_ok:b6 Tryz.prog 122 ty122:=o3 Tryz.underlying122 (ti:=Tryz.t122) kR rfl rfl rfl rfl rfl rfl kR (fun _=>by kernel_rfl) (fun _=>cX aJX zeE)
def ty266:bV:=⟨.func,1,8,false,[.nilFunc],[],false⟩
theorem ty266_ok:b6 Tryz.prog 266 ty266:=o1 Tryz.underlying266 (ti:=Tryz.t266) kR rfl rfl rfl rfl rfl rfl rfl rfl rfl
def ty181:bV:=⟨.struct,14,160,true,[zi,zi,zi,zi,zi,zi,zi,zi,zi,zt,zt,zt,zl,zt],[(0,13),(13,1)],false⟩
theorem ty181_ok:b6 Tryz.prog 181 ty181:=o2 Tryz.underlying181 (ti:=Tryz.t181) kR rfl rfl rfl rfl rfl rfl kR rfl
def ty223:bV:=⟨.map 9 3,1,8,false,[.map none],[],false⟩
theorem ty223_ok:b6 Tryz.prog 223 ty223:=o1 Tryz.underlying223 (ti:=Tryz.t223) kR rfl rfl rfl rfl rfl rfl rfl rfl rfl
def ty255:bV:=⟨.int .u64,1,8,false,[.int .u64 0],[],false⟩
theorem ty255_ok:b6 Tryz.prog 255 ty255:=o1 Tryz.underlying255 (ti:=Tryz.t255) kR rfl rfl rfl rfl rfl rfl rfl rfl rfl
def ty172:bV:=⟨.pointer,1,8,false,[.pointer none],[],false⟩
theorem ty172_ok:b6 Tryz.prog 172 ty172:=o1 Tryz.underlying172 (ti:=Tryz.t172) kR rfl rfl rfl rfl rfl rfl rfl rfl rfl
def ty318:bV:=⟨.func,1,8,false,[.nilFunc],[],false⟩
theorem ty318_ok:b6 Tryz.prog 318 ty318:=o1 Tryz.underlying318 (ti:=Tryz.t318) kR rfl rfl rfl rfl rfl rfl rfl rfl rfl
def ty340:bV:=⟨.int .i64,1,8,false,[zi],[],false⟩
theorem ty340_ok:b6 Tryz.prog 340 ty340:=o1 Tryz.underlying340 (ti:=Tryz.t340) kR rfl rfl rfl rfl rfl rfl rfl rfl rfl
def ty253:bV:=⟨.int .u32,1,4,false,[.int .u32 0],[],false⟩
theorem ty253_ok:b6 Tryz.prog 253 ty253:=o1 Tryz.underlying253 (ti:=Tryz.t253) kR rfl rfl rfl rfl rfl rfl rfl rfl rfl
def ty206:bV:=⟨.int .u64,1,8,false,[.int .u64 0],[],false⟩
theorem ty206_ok:b6 Tryz.prog 206 ty206:=o1 Tryz.underlying206 (ti:=Tryz.t206) kR rfl rfl rfl rfl rfl rfl rfl rfl rfl
def ty211:bV:=⟨.other,1,8,false,[.pointer none],[],false⟩
theorem ty211_ok:b6 Tryz.prog 211 ty211:=o1 Tryz.underlying211 (ti:=Tryz.t211) kR rfl rfl rfl rfl rfl rfl rfl rfl rfl
def ty289:bV:=⟨.slice 292,1,24,false,[zl],[],false⟩
theorem ty289_ok:b6 Tryz.prog 289 ty289:=o1 Tryz.underlying289 (ti:=Tryz.t289) kR rfl rfl rfl rfl rfl rfl rfl rfl rfl
theorem aJR:mY Tryz.prog 2 292 true [.int .i64 0,.int .i64 0,.int .i64 0,.int .i64 0]:=dJ Tryz.underlying292 kR (iK (ti:=Tryz.t292) kR rfl) ⟨by decide,rfl,false,[.int .i64 0],[.int .i64 0,.int .i64 0,.int .i64 0],rfl,(cB 0 Tryz.underlying3),by decide,rfl,false,[.int .i64 0],[.int .i64 0,.int .i64 0],rfl,(cB 0 Tryz.underlying3),by decide,rfl,false,[.int .i64 0],[.int .i64 0],rfl,(cB 0 Tryz.underlying3),by decide,rfl,false,[.int .i64 0],[],rfl,(cB 0 Tryz.underlying3),rfl⟩
def ty292:bV:=⟨.struct,4,32,true,[zi,zi,zi,zi],[(0,1),(1,1),(2,1),(3,1)],true⟩
theorem ty292_ok:b6 Tryz.prog 292 ty292:=o3 Tryz.underlying292 (ti:=Tryz.t292) kR rfl rfl rfl rfl rfl rfl kR (fun _=>by kernel_rfl) (fun _=>cX aJR zeE)
def ty295:bV:=⟨.func,1,8,false,[.nilFunc],[],false⟩
theorem ty295_ok:b6 Tryz.prog 295 ty295:=o1 Tryz.underlying295 (ti:=Tryz.t295) kR rfl rfl rfl rfl rfl rfl rfl rfl rfl
def ty297:bV:=⟨.struct,2,16,true,[zi,.nilFunc],[(0,1),(1,1)],false⟩
theorem ty297_ok:b6 Tryz.prog 297 ty297:=o2 Tryz.underlying297 (ti:=Tryz.t297) kR rfl rfl rfl rfl rfl rfl kR rfl
def ty298:bV:=⟨.array 4 297,8,64,true,[zi,.nilFunc,zi,.nilFunc,zi,.nilFunc,zi,.nilFunc],[],false⟩
theorem ty298_ok:b6 Tryz.prog 298 ty298 where
 j7:=⟨_,Tryz.underlying298,rfl⟩
 info:=⟨Tryz.t298,by kernel_rfl,rfl,rfl,_,rfl,rfl⟩
 agg:=rfl
 one:=fun h=>by cases h
 wJ:=fun fs h=>by rw[Tryz.underlying298]at h;cases h
 eqg:=fun h=>by cases h
 ints:=fun h=>by cases h
def ty377:bV:=⟨.map 9 4,1,8,false,[.map none],[],false⟩
theorem ty377_ok:b6 Tryz.prog 377 ty377:=o1 Tryz.underlying377 (ti:=Tryz.t377) kR rfl rfl rfl rfl rfl rfl rfl rfl rfl
def ty378:bV:=⟨.map 3 4,1,8,false,[.map none],[],false⟩
theorem ty378_ok:b6 Tryz.prog 378 ty378:=o1 Tryz.underlying378 (ti:=Tryz.t378) kR rfl rfl rfl rfl rfl rfl rfl rfl rfl
def ty205:bV:=⟨.array 24 5,24,24,true,[.int .u8 0,.int .u8 0,.int .u8 0,.int .u8 0,.int .u8 0,.int .u8 0,.int .u8 0,.int .u8 0,.int .u8 0,.int .u8 0,.int .u8 0,.int .u8 0,.int .u8 0,.int .u8 0,.int .u8 0,.int .u8 0,.int .u8 0,.int .u8 0,.int .u8 0,.int .u8 0,.int .u8 0,.int .u8 0,.int .u8 0,.int .u8 0],[],false⟩
theorem ty205_ok:b6 Tryz.prog 205 ty205 where
 j7:=⟨_,Tryz.underlying205,rfl⟩
 info:=⟨Tryz.t205,by kernel_rfl,rfl,rfl,_,rfl,rfl⟩
 agg:=rfl
 one:=fun h=>by cases h
 wJ:=fun fs h=>by rw[Tryz.underlying205]at h;cases h
 eqg:=fun h=>by cases h
 ints:=fun h=>by cases h
def ty379:bV:=⟨.int .u64,1,8,false,[.int .u64 0],[],false⟩
theorem ty379_ok:b6 Tryz.prog 379 ty379:=o1 Tryz.underlying379 (ti:=Tryz.t379) kR rfl rfl rfl rfl rfl rfl rfl rfl rfl
def ty252:bV:=⟨.array 20 206,20,160,true,[.int .u64 0,.int .u64 0,.int .u64 0,.int .u64 0,.int .u64 0,.int .u64 0,.int .u64 0,.int .u64 0,.int .u64 0,.int .u64 0,.int .u64 0,.int .u64 0,.int .u64 0,.int .u64 0,.int .u64 0,.int .u64 0,.int .u64 0,.int .u64 0,.int .u64 0,.int .u64 0],[],false⟩
theorem ty252_ok:b6 Tryz.prog 252 ty252 where
 j7:=⟨_,Tryz.underlying252,rfl⟩
 info:=⟨Tryz.t252,by kernel_rfl,rfl,rfl,_,rfl,rfl⟩
 agg:=rfl
 one:=fun h=>by cases h
 wJ:=fun fs h=>by rw[Tryz.underlying252]at h;cases h
 eqg:=fun h=>by cases h
 ints:=fun h=>by cases h
def ty254:bV:=⟨.array 65 5,65,65,true,[.int .u8 0,.int .u8 0,.int .u8 0,.int .u8 0,.int .u8 0,.int .u8 0,.int .u8 0,.int .u8 0,.int .u8 0,.int .u8 0,.int .u8 0,.int .u8 0,.int .u8 0,.int .u8 0,.int .u8 0,.int .u8 0,.int .u8 0,.int .u8 0,.int .u8 0,.int .u8 0,.int .u8 0,.int .u8 0,.int .u8 0,.int .u8 0,.int .u8 0,.int .u8 0,.int .u8 0,.int .u8 0,.int .u8 0,.int .u8 0,.int .u8 0,.int .u8 0,.int .u8 0,.int .u8 0,.int .u8 0,.int .u8 0,.int .u8 0,.int .u8 0,.int .u8 0,.int .u8 0,.int .u8 0,.int .u8 0,.int .u8 0,.int .u8 0,.int .u8 0,.int .u8 0,.int .u8 0,.int .u8 0,.int .u8 0,.int .u8 0,.int .u8 0,.int .u8 0,.int .u8 0,.int .u8 0,.int .u8 0,.int .u8 0,.int .u8 0,.int .u8 0,.int .u8 0,.int .u8 0,.int .u8 0,.int .u8 0,.int .u8 0,.int .u8 0,.int .u8 0],[],false⟩
theorem ty254_ok:b6 Tryz.prog 254 ty254 where
 j7:=⟨_,Tryz.underlying254,rfl⟩
 info:=⟨Tryz.t254,by kernel_rfl,rfl,rfl,_,rfl,rfl⟩
 agg:=rfl
 one:=fun h=>by cases h
 wJ:=fun fs h=>by rw[Tryz.underlying254]at h;cases h
 eqg:=fun h=>by cases h
 ints:=fun h=>by cases h
def ty303:bV:=⟨.array 256 5,256,256,true,[.int .u8 0,.int .u8 0,.int .u8 0,.int .u8 0,.int .u8 0,.int .u8 0,.int .u8 0,.int .u8 0,.int .u8 0,.int .u8 0,.int .u8 0,.int .u8 0,.int .u8 0,.int .u8 0,.int .u8 0,.int .u8 0,.int .u8 0,.int .u8 0,.int .u8 0,.int .u8 0,.int .u8 0,.int .u8 0,.int .u8 0,.int .u8 0,.int .u8 0,.int .u8 0,.int .u8 0,.int .u8 0,.int .u8 0,.int .u8 0,.int .u8 0,.int .u8 0,.int .u8 0,.int .u8 0,.int .u8 0,.int .u8 0,.int .u8 0,.int .u8 0,.int .u8 0,.int .u8 0,.int .u8 0,.int .u8 0,.int .u8 0,.int .u8 0,.int .u8 0,.int .u8 0,.int .u8 0,.int .u8 0,.int .u8 0,.int .u8 0,.int .u8 0,.int .u8 0,.int .u8 0,.int .u8 0,.int .u8 0,.int .u8 0,.int .u8 0,.int .u8 0,.int .u8 0,.int .u8 0,.int .u8 0,.int .u8 0,.int .u8 0,.int .u8 0,.int .u8 0,.int .u8 0,.int .u8 0,.int .u8 0,.int .u8 0,.int .u8 0,.int .u8 0,.int .u8 0,.int .u8 0,.int .u8 0,.int .u8 0,.int .u8 0,.int .u8 0,.int .u8 0,.int .u8 0,.int .u8 0,.int .u8 0,.int .u8 0,.int .u8 0,.int .u8 0,.int .u8 0,.int .u8 0,.int .u8 0,.int .u8 0,.int .u8 0,.int .u8 0,.int .u8 0,.int .u8 0,.int .u8 0,.int .u8 0,.int .u8 0,.int .u8 0,.int .u8 0,.int .u8 0,.int .u8 0,.int .u8 0,.int .u8 0,.int .u8 0,.int .u8 0,.int .u8 0,.int .u8 0,.int .u8 0,.int .u8 0,.int .u8 0,.int .u8 0,.int .u8 0,.int .u8 0,.int .u8 0,.int .u8 0,.int .u8 0,.int .u8 0,.int .u8 0,.int .u8 0,.int .u8 0,.int .u8 0,.int .u8 0,.int .u8 0,.int .u8 0,.int .u8 0,.int .u8 0,.int .u8 0,.int .u8 0,.int .u8 0,.int .u8 0,.int .u8 0,.int .u8 0,.int .u8 0,.int .u8 0,.int .u8 0,.int .u8 0,.int .u8 0,.int .u8 0,.int .u8 0,.int .u8 0,.int .u8 0,.int .u8 0,.int .u8 0,.int .u8 0,.int .u8 0,.int .u8 0,.int .u8 0,.int .u8 0,.int .u8 0,.int .u8 0,.int .u8 0,.int .u8 0,.int .u8 0,.int .u8 0,.int .u8 0,.int .u8 0,.int .u8 0,.int .u8 0,.int .u8 0,.int .u8 0,.int .u8 0,.int .u8 0,.int .u8 0,.int .u8 0,.int .u8 0,.int .u8 0,.int .u8 0,.int .u8 0,.int .u8 0,.int .u8 0,.int .u8 0,.int .u8 0,.int .u8 0,.int .u8 0,.int .u8 0,.int .u8 0,.int .u8 0,.int .u8 0,.int .u8 0,.int .u8 0,.int .u8 0,.int .u8 0,.int .u8 0,.int .u8 0,.int .u8 0,.int .u8 0,.int .u8 0,.int .u8 0,.int .u8 0,.int .u8 0,.int .u8 0,.int .u8 0,.int .u8 0,.int .u8 0,.int .u8 0,.int .u8 0,.int .u8 0,.int .u8 0,.int .u8 0,.int .u8 0,.int .u8 0,.int .u8 0,.int .u8 0,.int .u8 0,.int .u8 0,.int .u8 0,.int .u8 0,.int .u8 0,.int .u8 0,.int .u8 0,.int .u8 0,.int .u8 0,.int .u8 0,.int .u8 0,.int .u8 0,.int .u8 0,.int .u8 0,.int .u8 0,.int .u8 0,.int .u8 0,.int .u8 0,.int .u8 0,.int .u8 0,.int .u8 0,.int .u8 0,.int .u8 0,.int .u8 0,.int .u8 0,.int .u8 0,.int .u8 0,.int .u8 0,.int .u8 0,.int .u8 0,.int .u8 0,.int .u8 0,.int .u8 0,.int .u8 0,.int .u8 0,.int .u8 0,.int .u8 0,.int .u8 0,.int .u8 0,.int .u8 0,.int .u8 0,.int .u8 0,.int .u8 0,.int .u8 0,.int .u8 0,.int .u8 0,.int .u8 0,.int .u8 0,.int .u8 0,.int .u8 0,.int .u8 0,.int .u8 0,.int .u8 0,.int .u8 0,.int .u8 0],[],false⟩
theorem ty303_ok:b6 Tryz.prog 303 ty303 where
 j7:=⟨_,Tryz.underlying303,rfl⟩
 info:=⟨Tryz.t303,by kernel_rfl,rfl,rfl,_,rfl,rfl⟩
 agg:=rfl
 one:=fun h=>by cases h
 wJ:=fun fs h=>by rw[Tryz.underlying303]at h;cases h
 eqg:=fun h=>by cases h
 ints:=fun h=>by cases h
theorem aJQ:mY Tryz.prog 2 305 true [.int .u8 0,.int .u8 0]:=dJ Tryz.underlying305 kR (iK (ti:=Tryz.t305) kR rfl) ⟨by decide,rfl,false,[.int .u8 0],[.int .u8 0],rfl,(cB 0 Tryz.underlying5),by decide,rfl,false,[.int .u8 0],[],rfl,(cB 0 Tryz.underlying5),rfl⟩
def ty305:bV:=⟨.struct,2,2,true,[.int .u8 0,.int .u8 0],[(0,1),(1,1)],true⟩
theorem ty305_ok:b6 Tryz.prog 305 ty305:=o3 Tryz.underlying305 (ti:=Tryz.t305) kR rfl rfl rfl rfl rfl rfl kR (fun _=>by kernel_rfl) (fun _=>cX aJQ zeE)
def ty306:bV:=⟨.array 16 305,32,32,true,[.int .u8 0,.int .u8 0,.int .u8 0,.int .u8 0,.int .u8 0,.int .u8 0,.int .u8 0,.int .u8 0,.int .u8 0,.int .u8 0,.int .u8 0,.int .u8 0,.int .u8 0,.int .u8 0,.int .u8 0,.int .u8 0,.int .u8 0,.int .u8 0,.int .u8 0,.int .u8 0,.int .u8 0,.int .u8 0,.int .u8 0,.int .u8 0,.int .u8 0,.int .u8 0,.int .u8 0,.int .u8 0,.int .u8 0,.int .u8 0,.int .u8 0,.int .u8 0],[],false⟩
theorem ty306_ok:b6 Tryz.prog 306 ty306 where
 j7:=⟨_,Tryz.underlying306,rfl⟩
 info:=⟨Tryz.t306,by kernel_rfl,rfl,rfl,_,rfl,rfl⟩
 agg:=rfl
 one:=fun h=>by cases h
 wJ:=fun fs h=>by rw[Tryz.underlying306]at h;cases h
 eqg:=fun h=>by cases h
 ints:=fun h=>by cases h
def ty313:bV:=⟨.struct,3,48,true,[zt,zt,.nilIface],[(0,1),(1,1),(2,1)],false⟩
theorem ty313_ok:b6 Tryz.prog 313 ty313:=o2 Tryz.underlying313 (ti:=Tryz.t313) kR rfl rfl rfl rfl rfl rfl kR rfl
def ty370:bV:=⟨.array 32 5,32,32,true,[.int .u8 0,.int .u8 0,.int .u8 0,.int .u8 0,.int .u8 0,.int .u8 0,.int .u8 0,.int .u8 0,.int .u8 0,.int .u8 0,.int .u8 0,.int .u8 0,.int .u8 0,.int .u8 0,.int .u8 0,.int .u8 0,.int .u8 0,.int .u8 0,.int .u8 0,.int .u8 0,.int .u8 0,.int .u8 0,.int .u8 0,.int .u8 0,.int .u8 0,.int .u8 0,.int .u8 0,.int .u8 0,.int .u8 0,.int .u8 0,.int .u8 0,.int .u8 0],[],false⟩
theorem ty370_ok:b6 Tryz.prog 370 ty370 where
 j7:=⟨_,Tryz.underlying370,rfl⟩
 info:=⟨Tryz.t370,by kernel_rfl,rfl,rfl,_,rfl,rfl⟩
 agg:=rfl
 one:=fun h=>by cases h
 wJ:=fun fs h=>by rw[Tryz.underlying370]at h;cases h
 eqg:=fun h=>by cases h
 ints:=fun h=>by cases h
def ty371:bV:=⟨.array 64 5,64,64,true,[.int .u8 0,.int .u8 0,.int .u8 0,.int .u8 0,.int .u8 0,.int .u8 0,.int .u8 0,.int .u8 0,.int .u8 0,.int .u8 0,.int .u8 0,.int .u8 0,.int .u8 0,.int .u8 0,.int .u8 0,.int .u8 0,.int .u8 0,.int .u8 0,.int .u8 0,.int .u8 0,.int .u8 0,.int .u8 0,.int .u8 0,.int .u8 0,.int .u8 0,.int .u8 0,.int .u8 0,.int .u8 0,.int .u8 0,.int .u8 0,.int .u8 0,.int .u8 0,.int .u8 0,.int .u8 0,.int .u8 0,.int .u8 0,.int .u8 0,.int .u8 0,.int .u8 0,.int .u8 0,.int .u8 0,.int .u8 0,.int .u8 0,.int .u8 0,.int .u8 0,.int .u8 0,.int .u8 0,.int .u8 0,.int .u8 0,.int .u8 0,.int .u8 0,.int .u8 0,.int .u8 0,.int .u8 0,.int .u8 0,.int .u8 0,.int .u8 0,.int .u8 0,.int .u8 0,.int .u8 0,.int .u8 0,.int .u8 0,.int .u8 0,.int .u8 0],[],false⟩
theorem ty371_ok:b6 Tryz.prog 371 ty371 where
 j7:=⟨_,Tryz.underlying371,rfl⟩
 info:=⟨Tryz.t371,by kernel_rfl,rfl,rfl,_,rfl,rfl⟩
 agg:=rfl
 one:=fun h=>by cases h
 wJ:=fun fs h=>by rw[Tryz.underlying371]at h;cases h
 eqg:=fun h=>by cases h
 ints:=fun h=>by cases h
theorem aJP:mY Tryz.prog 2 375 true [.string ⟨#[]⟩]:=dJ Tryz.underlying375 kR (iK (ti:=Tryz.t375) kR rfl) ⟨by decide,rfl,false,[.string ⟨#[]⟩],[],rfl,(gA ⟨#[]⟩ Tryz.underlying9),rfl⟩
def ty375:bV:=⟨.struct,1,16,true,[zt],[(0,1)],true⟩
theorem ty375_ok:b6 Tryz.prog 375 ty375:=o3 Tryz.underlying375 (ti:=Tryz.t375) kR rfl rfl rfl rfl rfl rfl kR (fun _=>by kernel_rfl) (fun _=>cX aJP zeE)
def ty408:bV:=⟨.float .f64,1,8,false,[.float .f64 0],[],false⟩
theorem ty408_ok:b6 Tryz.prog 408 ty408:=o1 Tryz.underlying408 (ti:=Tryz.t408) kR rfl rfl rfl rfl rfl rfl rfl rfl rfl
def ty6:bV:=⟨.int .u8,1,1,false,[.int .u8 0],[],false⟩
theorem ty6_ok:b6 Tryz.prog 6 ty6:=o1 Tryz.underlying6 (ti:=Tryz.t6) kR rfl rfl rfl rfl rfl rfl rfl rfl rfl
def ty22:bV:=⟨.slice 37,1,24,false,[zl],[],false⟩
theorem ty22_ok:b6 Tryz.prog 22 ty22:=o1 Tryz.underlying22 (ti:=Tryz.t22) kR rfl rfl rfl rfl rfl rfl rfl rfl rfl
def ty24:bV:=⟨.struct,3,40,true,[zi,zl,zi],[(0,1),(1,1),(2,1)],false⟩
theorem ty24_ok:b6 Tryz.prog 24 ty24:=o2 Tryz.underlying24 (ti:=Tryz.t24) kR rfl rfl rfl rfl rfl rfl kR rfl
def ty37:bV:=⟨.struct,4,48,true,[zi,zt,zi,zt],[(0,1),(1,1),(2,1),(3,1)],true⟩
theorem cmp132:mY Tryz.prog 2 37 true [.int .i64 0,.string ⟨#[]⟩,.int .i64 0,.string ⟨#[]⟩]:=dJ Tryz.underlying37 kR (iK (ti:=Tryz.t37) kR rfl) ⟨by decide,rfl,false,[.int .i64 0],[.string ⟨#[]⟩,.int .i64 0,.string ⟨#[]⟩],rfl,(cB 0 Tryz.underlying3),by decide,rfl,false,[.string ⟨#[]⟩],[.int .i64 0,.string ⟨#[]⟩],rfl,(gA ⟨#[]⟩ Tryz.underlying9),by decide,rfl,false,[.int .i64 0],[.string ⟨#[]⟩],rfl,(cB 0 Tryz.underlying3),by decide,rfl,false,[.string ⟨#[]⟩],[],rfl,(gA ⟨#[]⟩ Tryz.underlying9),rfl⟩
theorem ty37_ok:b6 Tryz.prog 37 ty37:=o3 Tryz.underlying37 (ti:=Tryz.t37) kR rfl rfl rfl rfl rfl rfl kR (fun _=>by kernel_rfl) (fun _=>cX cmp132 (by decide))
def ty80:bV:=⟨.pointer,1,8,false,[.pointer none],[],false⟩
theorem ty80_ok:b6 Tryz.prog 80 ty80:=o1 Tryz.underlying80 (ti:=Tryz.t80) kR rfl rfl rfl rfl rfl rfl rfl rfl rfl
def tab:List (Nat×bV):=[(1,ty1),(2,ty2),(3,ty3),(4,ty4),(5,ty5),(6,ty6),(7,ty7),(9,ty9),(21,ty21),(41,ty41),(47,ty47),(48,ty48),(49,ty49),(51,ty51),(52,ty52),(53,ty53),(55,ty55),(56,ty56),(57,ty57),(58,ty58),(59,ty59),(61,ty61),(63,ty63),(39,ty39),(40,ty40),(43,ty43),(27,ty27),(67,ty67),(183,ty183),(185,ty185),(287,ty287),(71,ty71),(95,ty95),(102,ty102),(22,ty22),(24,ty24),(37,ty37),(69,ty69),(201,ty201),(203,ty203),(114,ty114),(116,ty116),(120,ty120),(90,ty90),(93,ty93),(105,ty105),(109,ty109),(111,ty111),(163,ty163),(80,ty80),(83,ty83),(240,ty240),(177,ty177),(182,ty182),(142,ty142),(155,ty155),(189,ty189),(129,ty129),(130,ty130),(132,ty132),(135,ty135),(150,ty150),(195,ty195),(147,ty147),(154,ty154),(107,ty107),(113,ty113),(118,ty118),(122,ty122),(266,ty266),(181,ty181),(223,ty223),(255,ty255),(172,ty172),(318,ty318),(340,ty340),(253,ty253),(206,ty206),(211,ty211),(289,ty289),(292,ty292),(295,ty295),(297,ty297),(298,ty298),(377,ty377),(378,ty378),(205,ty205),(379,ty379),(252,ty252),(254,ty254),(303,ty303),(305,ty305),(306,ty306),(313,ty313),(370,ty370),(371,ty371),(375,ty375),(408,ty408)]
theorem aJ:cD Tryz.prog tab:=⟨ty1_ok,ty2_ok,ty3_ok,ty4_ok,ty5_ok,ty6_ok,ty7_ok,ty9_ok,ty21_ok,ty41_ok,ty47_ok,ty48_ok,ty49_ok,ty51_ok,ty52_ok,ty53_ok,ty55_ok,ty56_ok,ty57_ok,ty58_ok,ty59_ok,ty61_ok,ty63_ok,ty39_ok,ty40_ok,ty43_ok,ty27_ok,ty67_ok,ty183_ok,ty185_ok,ty287_ok,ty71_ok,ty95_ok,ty102_ok,ty22_ok,ty24_ok,ty37_ok,ty69_ok,ty201_ok,ty203_ok,ty114_ok,ty116_ok,ty120_ok,ty90_ok,ty93_ok,ty105_ok,ty109_ok,ty111_ok,ty163_ok,ty80_ok,ty83_ok,ty240_ok,ty177_ok,ty182_ok,ty142_ok,ty155_ok,ty189_ok,ty129_ok,ty130_ok,ty132_ok,ty135_ok,ty150_ok,ty195_ok,ty147_ok,ty154_ok,ty107_ok,ty113_ok,ty118_ok,ty122_ok,ty266_ok,ty181_ok,ty223_ok,ty255_ok,ty172_ok,ty318_ok,ty340_ok,ty253_ok,ty206_ok,ty211_ok,ty289_ok,ty292_ok,ty295_ok,ty297_ok,ty298_ok,ty377_ok,ty378_ok,ty205_ok,ty379_ok,ty252_ok,ty254_ok,ty303_ok,ty305_ok,ty306_ok,ty313_ok,ty370_ok,ty371_ok,ty375_ok,ty408_ok,trivial⟩
end Go.Proofs.Tryz
