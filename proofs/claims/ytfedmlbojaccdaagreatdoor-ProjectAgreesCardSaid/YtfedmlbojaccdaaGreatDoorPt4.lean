/- Part 4: lemmas that the proofs of this seat share; by itself it claims nothing. -/
import Derived.Test.YtfedmlbojaccdaaGreatDoorChecked
import Derived.Test.YtfedmlbojaccdaaGreatDoorPt3
--TyZ
namespace Go.Ax
abbrev zi:Value:=.int .i64 0
abbrev zt:Value:=.string ⟨#[]⟩
abbrev zl:Value:=.slice none 0 0
def aO5:TypeDesc→Bool
 |.struct _=>true
 |_=>false
theorem o1{P:Program}{t:TypeId}{i:bV}{d:TypeDesc}{ti:TypeInfo}{z:Value}(h:P.underlying t=some d)(hi:P.info? t=some ti)(hz:ti.zero=some z)(hd:SP.qJ d=i.j7)(hs:ti.size=i.size)(hb:ti.bytes=i.bytes)(hc:z.cells.toList=i.zero)(ha:(match i.j7 with|.struct=>true|.array _ _=>true|_=>false)=i.agg)(h1:i.zero=[z])(hn:aO5 d=false)(hx:i.ints=false):b6 P t i:=
 ⟨⟨d,h,hd⟩,⟨ti,hi,hs,hb,z,hz,hc⟩,ha,fun fs e=>(by rw[h]at e;cases e;cases hn),fun _=>⟨ti,z,hi,hz,h1⟩,fun e=>(by rw[hx]at e;cases e),fun e=>(by rw[hx]at e;cases e)⟩
def EZ(P:Program):List Field→List (Nat×Nat)→Bool
 |[],[]=>true
 |f::fs,(o,z)::r=>Nat.beq f.offset o&&(match P.info? f.type with|some ti=>Nat.beq ti.size z|none=>false)&&EZ P fs r
 |_,_=>false
theorem EZ.ok{P:Program}:∀{fs:List Field}{l:List (Nat×Nat)},EZ P fs l=true→sY P fs l
 |[],[],_=>trivial
 |f::fs,(o,z)::r,h=>by
  simp only[EZ,Bool.and_eq_true]at h;obtain⟨⟨h1,h2⟩,h3⟩:=h
  cases hi:P.info? f.type with
  |none=>rw[hi]at h2;cases h2
  |some ti=>rw[hi]at h2;exact⟨Nat.eq_of_beq_eq_true h1,⟨ti,hi,Nat.eq_of_beq_eq_true h2⟩,EZ.ok h3⟩
 |[],_::_,h=>by cases h
 |_::_,[],h=>by cases h
theorem o3{P:Program}{t:TypeId}{i:bV}{fs:Array Field}{ti:TypeInfo}{z:Value}(h:P.underlying t=some (.struct fs))(hi:P.info? t=some ti)(hz:ti.zero=some z)(hd:SP.struct=i.j7)(hs:ti.size=i.size)(hb:ti.bytes=i.bytes)(hc:z.cells.toList=i.zero)(ha:i.agg=true)(hf:EZ P fs.toList i.wJ=true)(he:i.ints=true→P.eqGuardType P.depth t=false)(hx:i.ints=true→∀(w:World)(xs ys:List SV)(vs us:List Value)(b:Bool),gT i.zero xs=true→gT i.zero ys=true→uG xs ys=some b→cV (fun _ _=>none) (fun _=>none) xs vs→cV (fun _ _=>none) (fun _=>none) ys us→(Op.equal t (.agg vs.toArray) (.agg us.toArray)).run P w=.ok b w):b6 P t i:=
 ⟨⟨_,h,hd⟩,⟨ti,hi,hs,hb,z,hz,hc⟩,(by rw[←hd,ha]),fun fs' e=>(by rw[h]at e;cases e;exact EZ.ok hf),fun e=>(by rw[ha]at e;cases e),he,hx⟩
theorem o2{P:Program}{t:TypeId}{i:bV}{fs:Array Field}{ti:TypeInfo}{z:Value}(h:P.underlying t=some (.struct fs))(hi:P.info? t=some ti)(hz:ti.zero=some z)(hd:SP.struct=i.j7)(hs:ti.size=i.size)(hb:ti.bytes=i.bytes)(hc:z.cells.toList=i.zero)(ha:i.agg=true)(hf:EZ P fs.toList i.wJ=true)(hx:i.ints=false):b6 P t i:=
 o3 h hi hz hd hs hb hc ha hf (fun e=>by rw[hx]at e;cases e) (fun e=>by rw[hx]at e;cases e)
end Go.Ax
namespace Go.Proofs.Tryz
open Go Go.Ax
def ty1:bV:=⟨.func,1,8,false,[.nilFunc],[],false⟩
theorem ty1_ok:b6 Tryz.prog 1 ty1:=o1 Tryz.underlying1 (ti:=Tryz.t1) kR rfl rfl rfl rfl rfl rfl rfl rfl rfl
def ty2:bV:=⟨.int .i64,1,8,false,[zi],[],false⟩
theorem ty2_ok:b6 Tryz.prog 2 ty2:=o1 Tryz.underlying2 (ti:=Tryz.t2) kR rfl rfl rfl rfl rfl rfl rfl rfl rfl
def ty3:bV:=⟨.int .i64,1,8,false,[zi],[],false⟩
theorem ty3_ok:b6 Tryz.prog 3 ty3:=o1 Tryz.underlying3 (ti:=Tryz.t3) kR rfl rfl rfl rfl rfl rfl rfl rfl rfl
def ty4:bV:=⟨.bool,1,1,false,[.bool false],[],false⟩
theorem ty4_ok:b6 Tryz.prog 4 ty4:=o1 Tryz.underlying4 (ti:=Tryz.t4) kR rfl rfl rfl rfl rfl rfl rfl rfl rfl
def ty5:bV:=⟨.int .u8,1,1,false,[.int .u8 0],[],false⟩
theorem ty5_ok:b6 Tryz.prog 5 ty5:=o1 Tryz.underlying5 (ti:=Tryz.t5) kR rfl rfl rfl rfl rfl rfl rfl rfl rfl
theorem aP6:mY Tryz.prog 2 7 true [.int .i64 0,.int .i64 0,.bool false,.int .u8 0]:=dJ Tryz.underlying7 kR (iK (ti:=Tryz.t7) kR rfl) ⟨by decide,rfl,false,[.int .i64 0],[.int .i64 0,.bool false,.int .u8 0],rfl,(cB 0 Tryz.underlying2),by decide,rfl,false,[.int .i64 0],[.bool false,.int .u8 0],rfl,(cB 0 Tryz.underlying3),by decide,rfl,false,[.bool false],[.int .u8 0],rfl,(aDG false Tryz.underlying4),by decide,rfl,false,[.int .u8 0],[],rfl,(cB 0 Tryz.underlying6),rfl⟩
def ty7:bV:=⟨.struct,4,24,true,[zi,zi,.bool false,.int .u8 0],[(0,1),(1,1),(2,1),(3,1)],true⟩
theorem ty7_ok:b6 Tryz.prog 7 ty7:=o3 Tryz.underlying7 (ti:=Tryz.t7) kR rfl rfl rfl rfl rfl rfl kR (fun _=>by kernel_rfl) (fun _=>cX aP6 zeE)
def ty9:bV:=⟨.string,1,16,false,[zt],[],false⟩
theorem ty9_ok:b6 Tryz.prog 9 ty9:=o1 Tryz.underlying9 (ti:=Tryz.t9) kR rfl rfl rfl rfl rfl rfl rfl rfl rfl
def ty21:bV:=⟨.int .i32,1,4,false,[.int .i32 0],[],false⟩
theorem ty21_ok:b6 Tryz.prog 21 ty21:=o1 Tryz.underlying21 (ti:=Tryz.t21) kR rfl rfl rfl rfl rfl rfl rfl rfl rfl
def ty22:bV:=⟨.slice 3,1,24,false,[zl],[],false⟩
theorem ty22_ok:b6 Tryz.prog 22 ty22:=o1 Tryz.underlying22 (ti:=Tryz.t22) kR rfl rfl rfl rfl rfl rfl rfl rfl rfl
def ty24:bV:=⟨.struct,6,64,true,[zi,zi,zi,zi,zi,zl],[(0,1),(1,1),(2,1),(3,1),(4,1),(5,1)],false⟩
theorem ty24_ok:b6 Tryz.prog 24 ty24:=o2 Tryz.underlying24 (ti:=Tryz.t24) kR rfl rfl rfl rfl rfl rfl kR rfl
def ty25:bV:=⟨.slice 113,1,24,false,[zl],[],false⟩
theorem ty25_ok:b6 Tryz.prog 25 ty25:=o1 Tryz.underlying25 (ti:=Tryz.t25) kR rfl rfl rfl rfl rfl rfl rfl rfl rfl
def ty26:bV:=⟨.slice 67,1,24,false,[zl],[],false⟩
theorem ty26_ok:b6 Tryz.prog 26 ty26:=o1 Tryz.underlying26 (ti:=Tryz.t26) kR rfl rfl rfl rfl rfl rfl rfl rfl rfl
def ty28:bV:=⟨.struct,5,80,true,[zt,zl,zi,zi,zl],[(0,1),(1,1),(2,1),(3,1),(4,1)],false⟩
theorem ty28_ok:b6 Tryz.prog 28 ty28:=o2 Tryz.underlying28 (ti:=Tryz.t28) kR rfl rfl rfl rfl rfl rfl kR rfl
def ty29:bV:=⟨.slice 117,1,24,false,[zl],[],false⟩
theorem ty29_ok:b6 Tryz.prog 29 ty29:=o1 Tryz.underlying29 (ti:=Tryz.t29) kR rfl rfl rfl rfl rfl rfl rfl rfl rfl
def ty30:bV:=⟨.slice 70,1,24,false,[zl],[],false⟩
theorem ty30_ok:b6 Tryz.prog 30 ty30:=o1 Tryz.underlying30 (ti:=Tryz.t30) kR rfl rfl rfl rfl rfl rfl rfl rfl rfl
def ty32:bV:=⟨.struct,2,48,true,[zl,zl],[(0,1),(1,1)],false⟩
theorem ty32_ok:b6 Tryz.prog 32 ty32:=o2 Tryz.underlying32 (ti:=Tryz.t32) kR rfl rfl rfl rfl rfl rfl kR rfl
def ty33:bV:=⟨.slice 121,1,24,false,[zl],[],false⟩
theorem ty33_ok:b6 Tryz.prog 33 ty33:=o1 Tryz.underlying33 (ti:=Tryz.t33) kR rfl rfl rfl rfl rfl rfl rfl rfl rfl
def ty34:bV:=⟨.slice 166,1,24,false,[zl],[],false⟩
theorem ty34_ok:b6 Tryz.prog 34 ty34:=o1 Tryz.underlying34 (ti:=Tryz.t34) kR rfl rfl rfl rfl rfl rfl rfl rfl rfl
def ty35:bV:=⟨.slice 72,1,24,false,[zl],[],false⟩
theorem ty35_ok:b6 Tryz.prog 35 ty35:=o1 Tryz.underlying35 (ti:=Tryz.t35) kR rfl rfl rfl rfl rfl rfl rfl rfl rfl
def ty36:bV:=⟨.slice 123,1,24,false,[zl],[],false⟩
theorem ty36_ok:b6 Tryz.prog 36 ty36:=o1 Tryz.underlying36 (ti:=Tryz.t36) kR rfl rfl rfl rfl rfl rfl rfl rfl rfl
def ty38:bV:=⟨.struct,20,320,true,[zt,zi,zi,zi,zi,zi,zl,zt,zl,zi,zi,zl,zl,zl,zi,zi,zl,zl,zl,zl],[(0,1),(1,6),(7,5),(12,2),(14,1),(15,1),(16,1),(17,1),(18,1),(19,1)],false⟩
theorem ty38_ok:b6 Tryz.prog 38 ty38:=o2 Tryz.underlying38 (ti:=Tryz.t38) kR rfl rfl rfl rfl rfl rfl kR rfl
def ty39:bV:=⟨.slice 59,1,24,false,[zl],[],false⟩
theorem ty39_ok:b6 Tryz.prog 39 ty39:=o1 Tryz.underlying39 (ti:=Tryz.t39) kR rfl rfl rfl rfl rfl rfl rfl rfl rfl
def ty74:bV:=⟨.slice 85,1,24,false,[zl],[],false⟩
theorem ty74_ok:b6 Tryz.prog 74 ty74:=o1 Tryz.underlying74 (ti:=Tryz.t74) kR rfl rfl rfl rfl rfl rfl rfl rfl rfl
def ty75:bV:=⟨.slice 111,1,24,false,[zl],[],false⟩
theorem ty75_ok:b6 Tryz.prog 75 ty75:=o1 Tryz.underlying75 (ti:=Tryz.t75) kR rfl rfl rfl rfl rfl rfl rfl rfl rfl
def ty77:bV:=⟨.struct,7,104,true,[zi,zi,zi,zi,zl,zl,zl],[(0,1),(1,1),(2,1),(3,1),(4,1),(5,1),(6,1)],false⟩
theorem ty77_ok:b6 Tryz.prog 77 ty77:=o2 Tryz.underlying77 (ti:=Tryz.t77) kR rfl rfl rfl rfl rfl rfl kR rfl
def ty43:bV:=⟨.int .i64,1,8,false,[zi],[],false⟩
theorem ty43_ok:b6 Tryz.prog 43 ty43:=o1 Tryz.underlying43 (ti:=Tryz.t43) kR rfl rfl rfl rfl rfl rfl rfl rfl rfl
def ty59:bV:=⟨.struct,13,144,true,[zi,zi,zi,zi,zi,zi,zi,zi,zi,zt,zt,zt,zl],[(0,1),(1,1),(2,1),(3,1),(4,1),(5,1),(6,1),(7,1),(8,1),(9,1),(10,1),(11,1),(12,1)],false⟩
theorem ty59_ok:b6 Tryz.prog 59 ty59:=o2 Tryz.underlying59 (ti:=Tryz.t59) kR rfl rfl rfl rfl rfl rfl kR rfl
def ty146:bV:=⟨.slice 201,1,24,false,[zl],[],false⟩
theorem ty146_ok:b6 Tryz.prog 146 ty146:=o1 Tryz.underlying146 (ti:=Tryz.t146) kR rfl rfl rfl rfl rfl rfl rfl rfl rfl
def ty148:bV:=⟨.struct,4,96,true,[zl,zl,zl,zl],[(0,1),(1,1),(2,1),(3,1)],false⟩
theorem ty148_ok:b6 Tryz.prog 148 ty148:=o2 Tryz.underlying148 (ti:=Tryz.t148) kR rfl rfl rfl rfl rfl rfl kR rfl
theorem aJT:mY Tryz.prog 2 201 true [.int .i64 0,.string ⟨#[]⟩,.int .i64 0]:=dJ Tryz.underlying201 kR (iK (ti:=Tryz.t201) kR rfl) ⟨by decide,rfl,false,[.int .i64 0],[.string ⟨#[]⟩,.int .i64 0],rfl,(cB 0 Tryz.underlying3),by decide,rfl,false,[.string ⟨#[]⟩],[.int .i64 0],rfl,(gA ⟨#[]⟩ Tryz.underlying9),by decide,rfl,false,[.int .i64 0],[],rfl,(cB 0 Tryz.underlying3),rfl⟩
def ty201:bV:=⟨.struct,3,32,true,[zi,zt,zi],[(0,1),(1,1),(2,1)],true⟩
theorem ty201_ok:b6 Tryz.prog 201 ty201:=o3 Tryz.underlying201 (ti:=Tryz.t201) kR rfl rfl rfl rfl rfl rfl kR (fun _=>by kernel_rfl) (fun _=>cX aJT zeE)
def ty96:bV:=⟨.slice 9,1,24,false,[zl],[],false⟩
theorem ty96_ok:b6 Tryz.prog 96 ty96:=o1 Tryz.underlying96 (ti:=Tryz.t96) kR rfl rfl rfl rfl rfl rfl rfl rfl rfl
def ty103:bV:=⟨.slice 108,1,24,false,[zl],[],false⟩
theorem ty103_ok:b6 Tryz.prog 103 ty103:=o1 Tryz.underlying103 (ti:=Tryz.t103) kR rfl rfl rfl rfl rfl rfl rfl rfl rfl
theorem aJ3:mY Tryz.prog 2 108 true [.int .i64 0,.int .i64 0,.string ⟨#[]⟩,.int .i64 0,.int .i64 0,.int .i64 0,.string ⟨#[]⟩]:=dJ Tryz.underlying108 kR (iK (ti:=Tryz.t108) kR rfl) ⟨by decide,rfl,false,[.int .i64 0],[.int .i64 0,.string ⟨#[]⟩,.int .i64 0,.int .i64 0,.int .i64 0,.string ⟨#[]⟩],rfl,(cB 0 Tryz.underlying3),by decide,rfl,false,[.int .i64 0],[.string ⟨#[]⟩,.int .i64 0,.int .i64 0,.int .i64 0,.string ⟨#[]⟩],rfl,(cB 0 Tryz.underlying3),by decide,rfl,false,[.string ⟨#[]⟩],[.int .i64 0,.int .i64 0,.int .i64 0,.string ⟨#[]⟩],rfl,(gA ⟨#[]⟩ Tryz.underlying9),by decide,rfl,false,[.int .i64 0],[.int .i64 0,.int .i64 0,.string ⟨#[]⟩],rfl,(cB 0 Tryz.underlying3),by decide,rfl,false,[.int .i64 0],[.int .i64 0,.string ⟨#[]⟩],rfl,(cB 0 Tryz.underlying3),by decide,rfl,false,[.int .i64 0],[.string ⟨#[]⟩],rfl,(cB 0 Tryz.underlying3),by decide,rfl,false,[.string ⟨#[]⟩],[],rfl,(gA ⟨#[]⟩ Tryz.underlying9),rfl⟩
def ty108:bV:=⟨.struct,7,72,true,[zi,zi,zt,zi,zi,zi,zt],[(0,1),(1,1),(2,1),(3,1),(4,1),(5,1),(6,1)],true⟩
theorem ty108_ok:b6 Tryz.prog 108 ty108:=o3 Tryz.underlying108 (ti:=Tryz.t108) kR rfl rfl rfl rfl rfl rfl kR (fun _=>by kernel_rfl) (fun _=>cX aJ3 zeE)
theorem aNJ:mY Tryz.prog 2 85 true [.string ⟨#[]⟩,.int .i64 0,.int .i64 0,.int .i64 0]:=dJ Tryz.underlying85 kR (iK (ti:=Tryz.t85) kR rfl) ⟨by decide,rfl,false,[.string ⟨#[]⟩],[.int .i64 0,.int .i64 0,.int .i64 0],rfl,(gA ⟨#[]⟩ Tryz.underlying9),by decide,rfl,false,[.int .i64 0],[.int .i64 0,.int .i64 0],rfl,(cB 0 Tryz.underlying3),by decide,rfl,false,[.int .i64 0],[.int .i64 0],rfl,(cB 0 Tryz.underlying3),by decide,rfl,false,[.int .i64 0],[],rfl,(cB 0 Tryz.underlying3),rfl⟩
def ty85:bV:=⟨.struct,4,40,true,[zt,zi,zi,zi],[(0,1),(1,1),(2,1),(3,1)],true⟩
theorem ty85_ok:b6 Tryz.prog 85 ty85:=o3 Tryz.underlying85 (ti:=Tryz.t85) kR rfl rfl rfl rfl rfl rfl kR (fun _=>by kernel_rfl) (fun _=>cX aNJ zeE)
def ty65:bV:=⟨.slice 154,1,24,false,[zl],[],false⟩
theorem ty65_ok:b6 Tryz.prog 65 ty65:=o1 Tryz.underlying65 (ti:=Tryz.t65) kR rfl rfl rfl rfl rfl rfl rfl rfl rfl
def ty67:bV:=⟨.struct,3,48,true,[zt,zi,zl],[(0,1),(1,1),(2,1)],false⟩
theorem ty67_ok:b6 Tryz.prog 67 ty67:=o2 Tryz.underlying67 (ti:=Tryz.t67) kR rfl rfl rfl rfl rfl rfl kR rfl
def ty68:bV:=⟨.slice 119,1,24,false,[zl],[],false⟩
theorem ty68_ok:b6 Tryz.prog 68 ty68:=o1 Tryz.underlying68 (ti:=Tryz.t68) kR rfl rfl rfl rfl rfl rfl rfl rfl rfl
def ty70:bV:=⟨.struct,4,56,true,[zt,zi,zi,zl],[(0,1),(1,1),(2,1),(3,1)],false⟩
theorem ty70_ok:b6 Tryz.prog 70 ty70:=o2 Tryz.underlying70 (ti:=Tryz.t70) kR rfl rfl rfl rfl rfl rfl kR rfl
def ty72:bV:=⟨.struct,6,72,true,[zt,zi,zi,zi,zl,zi],[(0,1),(1,1),(2,1),(3,1),(4,1),(5,1)],false⟩
theorem ty72_ok:b6 Tryz.prog 72 ty72:=o2 Tryz.underlying72 (ti:=Tryz.t72) kR rfl rfl rfl rfl rfl rfl kR rfl
def ty87:bV:=⟨.struct,21,344,true,[zt,zi,zi,zi,zi,zi,zl,zt,zl,zi,zi,zl,zl,zl,zi,zi,zl,zl,zl,zl,zl],[(0,20),(20,1)],false⟩
theorem ty87_ok:b6 Tryz.prog 87 ty87:=o2 Tryz.underlying87 (ti:=Tryz.t87) kR rfl rfl rfl rfl rfl rfl kR rfl
def ty91:bV:=⟨.slice 24,1,24,false,[zl],[],false⟩
theorem ty91_ok:b6 Tryz.prog 91 ty91:=o1 Tryz.underlying91 (ti:=Tryz.t91) kR rfl rfl rfl rfl rfl rfl rfl rfl rfl
theorem aJ2:mY Tryz.prog 2 111 true [.string ⟨#[]⟩,.int .i64 0]:=dJ Tryz.underlying111 kR (iK (ti:=Tryz.t111) kR rfl) ⟨by decide,rfl,false,[.string ⟨#[]⟩],[.int .i64 0],rfl,(gA ⟨#[]⟩ Tryz.underlying9),by decide,rfl,false,[.int .i64 0],[],rfl,(cB 0 Tryz.underlying3),rfl⟩
def ty111:bV:=⟨.struct,2,24,true,[zt,zi],[(0,1),(1,1)],true⟩
theorem ty111_ok:b6 Tryz.prog 111 ty111:=o3 Tryz.underlying111 (ti:=Tryz.t111) kR rfl rfl rfl rfl rfl rfl kR (fun _=>by kernel_rfl) (fun _=>cX aJ2 zeE)
theorem UK:mY Tryz.prog 2 115 true [.int .i64 0,.int .i64 0]:=dJ Tryz.underlying115 kR (iK (ti:=Tryz.t115) kR rfl) ⟨by decide,rfl,false,[.int .i64 0],[.int .i64 0],rfl,(cB 0 Tryz.underlying3),by decide,rfl,false,[.int .i64 0],[],rfl,(cB 0 Tryz.underlying3),rfl⟩
def ty115:bV:=⟨.struct,2,16,true,[zi,zi],[(0,1),(1,1)],true⟩
theorem ty115_ok:b6 Tryz.prog 115 ty115:=o3 Tryz.underlying115 (ti:=Tryz.t115) kR rfl rfl rfl rfl rfl rfl kR (fun _=>by kernel_rfl) (fun _=>cX UK zeE)
theorem aJ0:mY Tryz.prog 3 117 true [.string ⟨#[]⟩,.int .i64 0,.int .i64 0,.int .i64 0,.int .i64 0]:=dJ Tryz.underlying117 kR (iK (ti:=Tryz.t117) kR rfl) ⟨by decide,rfl,false,[.string ⟨#[]⟩],[.int .i64 0,.int .i64 0,.int .i64 0,.int .i64 0],rfl,(mY.up (gA ⟨#[]⟩ Tryz.underlying9)),by decide,rfl,false,[.int .i64 0],[.int .i64 0,.int .i64 0,.int .i64 0],rfl,(mY.up (cB 0 Tryz.underlying3)),by decide,rfl,false,[.int .i64 0],[.int .i64 0,.int .i64 0],rfl,(mY.up (cB 0 Tryz.underlying3)),by decide,rfl,true,[.int .i64 0,.int .i64 0],[],rfl,UK,rfl⟩
def ty117:bV:=⟨.struct,5,48,true,[zt,zi,zi,zi,zi],[(0,1),(1,1),(2,1),(3,2)],true⟩
theorem ty117_ok:b6 Tryz.prog 117 ty117:=o3 Tryz.underlying117 (ti:=Tryz.t117) kR rfl rfl rfl rfl rfl rfl kR (fun _=>by kernel_rfl) (fun _=>cX aJ0 zeE)
theorem aJU:mY Tryz.prog 2 166 true [.string ⟨#[]⟩,.int .i64 0,.int .i64 0]:=dJ Tryz.underlying166 kR (iK (ti:=Tryz.t166) kR rfl) ⟨by decide,rfl,false,[.string ⟨#[]⟩],[.int .i64 0,.int .i64 0],rfl,(gA ⟨#[]⟩ Tryz.underlying9),by decide,rfl,false,[.int .i64 0],[.int .i64 0],rfl,(cB 0 Tryz.underlying3),by decide,rfl,false,[.int .i64 0],[],rfl,(cB 0 Tryz.underlying3),rfl⟩
def ty166:bV:=⟨.struct,3,32,true,[zt,zi,zi],[(0,1),(1,1),(2,1)],true⟩
theorem ty166_ok:b6 Tryz.prog 166 ty166:=o3 Tryz.underlying166 (ti:=Tryz.t166) kR rfl rfl rfl rfl rfl rfl kR (fun _=>by kernel_rfl) (fun _=>cX aJU zeE)
def ty283:bV:=⟨.struct,2,32,true,[zl,.bool false],[(0,1),(1,1)],false⟩
theorem ty283_ok:b6 Tryz.prog 283 ty283:=o2 Tryz.underlying283 (ti:=Tryz.t283) kR rfl rfl rfl rfl rfl rfl kR rfl
theorem aJS:mY Tryz.prog 2 249 true [.int .i64 0,.int .i64 0,.int .i64 0,.string ⟨#[]⟩,.int .i64 0]:=dJ Tryz.underlying249 kR (iK (ti:=Tryz.t249) kR rfl) ⟨by decide,rfl,false,[.int .i64 0],[.int .i64 0,.int .i64 0,.string ⟨#[]⟩,.int .i64 0],rfl,(cB 0 Tryz.underlying3),by decide,rfl,false,[.int .i64 0],[.int .i64 0,.string ⟨#[]⟩,.int .i64 0],rfl,(cB 0 Tryz.underlying3),by decide,rfl,false,[.int .i64 0],[.string ⟨#[]⟩,.int .i64 0],rfl,(cB 0 Tryz.underlying3),by decide,rfl,false,[.string ⟨#[]⟩],[.int .i64 0],rfl,(gA ⟨#[]⟩ Tryz.underlying9),by decide,rfl,false,[.int .i64 0],[],rfl,(cB 0 Tryz.underlying3),rfl⟩
def ty249:bV:=⟨.struct,5,48,true,[zi,zi,zi,zt,zi],[(0,1),(1,1),(2,1),(3,1),(4,1)],true⟩
theorem ty249_ok:b6 Tryz.prog 249 ty249:=o3 Tryz.underlying249 (ti:=Tryz.t249) kR rfl rfl rfl rfl rfl rfl kR (fun _=>by kernel_rfl) (fun _=>cX aJS zeE)
def ty186:bV:=⟨.map 9 191,1,8,false,[.map none],[],false⟩
theorem ty186_ok:b6 Tryz.prog 186 ty186:=o1 Tryz.underlying186 (ti:=Tryz.t186) kR rfl rfl rfl rfl rfl rfl rfl rfl rfl
def ty191:bV:=⟨.slice 190,1,24,false,[zl],[],false⟩
theorem ty191_ok:b6 Tryz.prog 191 ty191:=o1 Tryz.underlying191 (ti:=Tryz.t191) kR rfl rfl rfl rfl rfl rfl rfl rfl rfl
def ty150:bV:=⟨.map 9 162,1,8,false,[.map none],[],false⟩
theorem ty150_ok:b6 Tryz.prog 150 ty150:=o1 Tryz.underlying150 (ti:=Tryz.t150) kR rfl rfl rfl rfl rfl rfl rfl rfl rfl
def ty162:bV:=⟨.slice 209,1,24,false,[zl],[],false⟩
theorem ty162_ok:b6 Tryz.prog 162 ty162:=o1 Tryz.underlying162 (ti:=Tryz.t162) kR rfl rfl rfl rfl rfl rfl rfl rfl rfl
def ty209:bV:=⟨.struct,14,152,true,[zi,zi,zi,zi,zi,zi,zi,zi,zi,zt,zt,zt,zl,zi],[(0,13),(13,1)],false⟩
theorem ty209_ok:b6 Tryz.prog 209 ty209:=o2 Tryz.underlying209 (ti:=Tryz.t209) kR rfl rfl rfl rfl rfl rfl kR rfl
def ty174:bV:=⟨.pointer,1,8,false,[.pointer none],[],false⟩
theorem ty174_ok:b6 Tryz.prog 174 ty174:=o1 Tryz.underlying174 (ti:=Tryz.t174) kR rfl rfl rfl rfl rfl rfl rfl rfl rfl
def ty175:bV:=⟨.slice 5,1,24,false,[zl],[],false⟩
theorem ty175_ok:b6 Tryz.prog 175 ty175:=o1 Tryz.underlying175 (ti:=Tryz.t175) kR rfl rfl rfl rfl rfl rfl rfl rfl rfl
def ty177:bV:=⟨.struct,2,32,true,[.pointer none,zl],[(0,1),(1,1)],false⟩
theorem ty177_ok:b6 Tryz.prog 177 ty177:=o2 Tryz.underlying177 (ti:=Tryz.t177) kR rfl rfl rfl rfl rfl rfl kR rfl
def ty180:bV:=⟨.iface,1,16,false,[.nilIface],[],false⟩
theorem ty180_ok:b6 Tryz.prog 180 ty180:=o1 Tryz.underlying180 (ti:=Tryz.t180) kR rfl rfl rfl rfl rfl rfl rfl rfl rfl
def ty157:bV:=⟨.slice 161,1,24,false,[zl],[],false⟩
theorem ty157_ok:b6 Tryz.prog 157 ty157:=o1 Tryz.underlying157 (ti:=Tryz.t157) kR rfl rfl rfl rfl rfl rfl rfl rfl rfl
def ty215:bV:=⟨.struct,2,48,true,[zl,zl],[(0,2)],false⟩
theorem ty215_ok:b6 Tryz.prog 215 ty215:=o2 Tryz.underlying215 (ti:=Tryz.t215) kR rfl rfl rfl rfl rfl rfl kR rfl
theorem aJW:mY Tryz.prog 2 154 true [.int .i64 0,.int .i64 0]:=dJ Tryz.underlying154 kR (iK (ti:=Tryz.t154) kR rfl) ⟨by decide,rfl,false,[.int .i64 0],[.int .i64 0],rfl,(cB 0 Tryz.underlying3),by decide,rfl,false,[.int .i64 0],[],rfl,(cB 0 Tryz.underlying3),rfl⟩
def ty154:bV:=⟨.struct,2,16,true,[zi,zi],[(0,1),(1,1)],true⟩
theorem ty154_ok:b6 Tryz.prog 154 ty154:=o3 Tryz.underlying154 (ti:=Tryz.t154) kR rfl rfl rfl rfl rfl rfl kR (fun _=>by kernel_rfl) (fun _=>cX aJW zeE)
theorem aJV:mY Tryz.prog 2 161 true [.string ⟨#[]⟩,.int .i64 0,.int .i64 0]:=dJ Tryz.underlying161 kR (iK (ti:=Tryz.t161) kR rfl) ⟨by decide,rfl,false,[.string ⟨#[]⟩],[.int .i64 0,.int .i64 0],rfl,(gA ⟨#[]⟩ Tryz.underlying9),by decide,rfl,false,[.int .i64 0],[.int .i64 0],rfl,(cB 0 Tryz.underlying3),by decide,rfl,false,[.int .i64 0],[],rfl,(cB 0 Tryz.underlying3),rfl⟩
def ty161:bV:=⟨.struct,3,32,true,[zt,zi,zi],[(0,1),(1,1),(2,1)],true⟩
theorem ty161_ok:b6 Tryz.prog 161 ty161:=o3 Tryz.underlying161 (ti:=Tryz.t161) kR rfl rfl rfl rfl rfl rfl kR (fun _=>by kernel_rfl) (fun _=>cX aJV zeE)
theorem aJ1:mY Tryz.prog 2 113 true [.int .i64 0,.int .i64 0,.int .i64 0,.int .i64 0,.int .i64 0]:=dJ Tryz.underlying113 kR (iK (ti:=Tryz.t113) kR rfl) ⟨by decide,rfl,false,[.int .i64 0],[.int .i64 0,.int .i64 0,.int .i64 0,.int .i64 0],rfl,(cB 0 Tryz.underlying3),by decide,rfl,false,[.int .i64 0],[.int .i64 0,.int .i64 0,.int .i64 0],rfl,(cB 0 Tryz.underlying3),by decide,rfl,false,[.int .i64 0],[.int .i64 0,.int .i64 0],rfl,(cB 0 Tryz.underlying3),by decide,rfl,false,[.int .i64 0],[.int .i64 0],rfl,(cB 0 Tryz.underlying3),by decide,rfl,false,[.int .i64 0],[],rfl,(cB 0 Tryz.underlying3),rfl⟩
def ty113:bV:=⟨.struct,5,40,true,[zi,zi,zi,zi,zi],[(0,1),(1,1),(2,1),(3,1),(4,1)],true⟩
theorem ty113_ok:b6 Tryz.prog 113 ty113:=o3 Tryz.underlying113 (ti:=Tryz.t113) kR rfl rfl rfl rfl rfl rfl kR (fun _=>by kernel_rfl) (fun _=>cX aJ1 zeE)
theorem aJZ:mY Tryz.prog 2 119 true [.int .i64 0,.string ⟨#[]⟩]:=dJ Tryz.underlying119 kR (iK (ti:=Tryz.t119) kR rfl) ⟨by decide,rfl,false,[.int .i64 0],[.string ⟨#[]⟩],rfl,(cB 0 Tryz.underlying3),by decide,rfl,false,[.string ⟨#[]⟩],[],rfl,(gA ⟨#[]⟩ Tryz.underlying9),rfl⟩
def ty119:bV:=⟨.struct,2,24,true,[zi,zt],[(0,1),(1,1)],true⟩
theorem ty119_ok:b6 Tryz.prog 119 ty119:=o3 Tryz.underlying119 (ti:=Tryz.t119) kR rfl rfl rfl rfl rfl rfl kR (fun _=>by kernel_rfl) (fun _=>cX aJZ zeE)
theorem aJY:mY Tryz.prog 2 121 true [.string ⟨#[]⟩,.int .i64 0]:=dJ Tryz.underlying121 kR (iK (ti:=Tryz.t121) kR rfl) ⟨by decide,rfl,false,[.string ⟨#[]⟩],[.int .i64 0],rfl,(gA ⟨#[]⟩ Tryz.underlying9),by decide,rfl,false,[.int .i64 0],[],rfl,(cB 0 Tryz.underlying3),rfl⟩
def ty121:bV:=⟨.struct,2,24,true,[zt,zi],[(0,1),(1,1)],true⟩
theorem ty121_ok:b6 Tryz.prog 121 ty121:=o3 Tryz.underlying121 (ti:=Tryz.t121) kR rfl rfl rfl rfl rfl rfl kR (fun _=>by kernel_rfl) (fun _=>cX aJY zeE)
theorem aJX:mY Tryz.prog 3 123 true [.string ⟨#[]⟩,.int .i64 0,.int .i64 0]:=dJ Tryz.underlying123 kR (iK (ti:=Tryz.t123) kR rfl) ⟨by decide,rfl,false,[.string ⟨#[]⟩],[.int .i64 0,.int .i64 0],rfl,(mY.up (gA ⟨#[]⟩ Tryz.underlying9)),by decide,rfl,true,[.int .i64 0,.int .i64 0],[],rfl,UK,rfl⟩
def ty123:bV:=⟨.struct,3,32,true,[zt,zi,zi],[(0,1),(1,2)],true⟩
theorem ty123_ok:b6 Tryz.prog 123 ty123:=o3 Tryz.underlying123 (ti:=Tryz.t123) kR rfl rfl rfl rfl rfl rfl kR (fun _=>by kernel_rfl) (fun _=>cX aJX zeE)
def ty270:bV:=⟨.func,1,8,false,[.nilFunc],[],false⟩
theorem ty270_ok:b6 Tryz.prog 270 ty270:=o1 Tryz.underlying270 (ti:=Tryz.t270) kR rfl rfl rfl rfl rfl rfl rfl rfl rfl
def ty190:bV:=⟨.struct,14,160,true,[zi,zi,zi,zi,zi,zi,zi,zi,zi,zt,zt,zt,zl,zt],[(0,13),(13,1)],false⟩
theorem ty190_ok:b6 Tryz.prog 190 ty190:=o2 Tryz.underlying190 (ti:=Tryz.t190) kR rfl rfl rfl rfl rfl rfl kR rfl
def ty228:bV:=⟨.map 9 3,1,8,false,[.map none],[],false⟩
theorem ty228_ok:b6 Tryz.prog 228 ty228:=o1 Tryz.underlying228 (ti:=Tryz.t228) kR rfl rfl rfl rfl rfl rfl rfl rfl rfl
def ty288:bV:=⟨.int .u64,1,8,false,[.int .u64 0],[],false⟩
theorem ty288_ok:b6 Tryz.prog 288 ty288:=o1 Tryz.underlying288 (ti:=Tryz.t288) kR rfl rfl rfl rfl rfl rfl rfl rfl rfl
def ty222:bV:=⟨.pointer,1,8,false,[.pointer none],[],false⟩
theorem ty222_ok:b6 Tryz.prog 222 ty222:=o1 Tryz.underlying222 (ti:=Tryz.t222) kR rfl rfl rfl rfl rfl rfl rfl rfl rfl
def ty319:bV:=⟨.func,1,8,false,[.nilFunc],[],false⟩
theorem ty319_ok:b6 Tryz.prog 319 ty319:=o1 Tryz.underlying319 (ti:=Tryz.t319) kR rfl rfl rfl rfl rfl rfl rfl rfl rfl
def ty342:bV:=⟨.int .i64,1,8,false,[zi],[],false⟩
theorem ty342_ok:b6 Tryz.prog 342 ty342:=o1 Tryz.underlying342 (ti:=Tryz.t342) kR rfl rfl rfl rfl rfl rfl rfl rfl rfl
def ty315:bV:=⟨.int .u32,1,4,false,[.int .u32 0],[],false⟩
theorem ty315_ok:b6 Tryz.prog 315 ty315:=o1 Tryz.underlying315 (ti:=Tryz.t315) kR rfl rfl rfl rfl rfl rfl rfl rfl rfl
def ty259:bV:=⟨.int .u64,1,8,false,[.int .u64 0],[],false⟩
theorem ty259_ok:b6 Tryz.prog 259 ty259:=o1 Tryz.underlying259 (ti:=Tryz.t259) kR rfl rfl rfl rfl rfl rfl rfl rfl rfl
def ty264:bV:=⟨.other,1,8,false,[.pointer none],[],false⟩
theorem ty264_ok:b6 Tryz.prog 264 ty264:=o1 Tryz.underlying264 (ti:=Tryz.t264) kR rfl rfl rfl rfl rfl rfl rfl rfl rfl
def ty300:bV:=⟨.slice 303,1,24,false,[zl],[],false⟩
theorem ty300_ok:b6 Tryz.prog 300 ty300:=o1 Tryz.underlying300 (ti:=Tryz.t300) kR rfl rfl rfl rfl rfl rfl rfl rfl rfl
theorem aJR:mY Tryz.prog 2 303 true [.int .i64 0,.int .i64 0,.int .i64 0,.int .i64 0]:=dJ Tryz.underlying303 kR (iK (ti:=Tryz.t303) kR rfl) ⟨by decide,rfl,false,[.int .i64 0],[.int .i64 0,.int .i64 0,.int .i64 0],rfl,(cB 0 Tryz.underlying3),by decide,rfl,false,[.int .i64 0],[.int .i64 0,.int .i64 0],rfl,(cB 0 Tryz.underlying3),by decide,rfl,false,[.int .i64 0],[.int .i64 0],rfl,(cB 0 Tryz.underlying3),by decide,rfl,false,[.int .i64 0],[],rfl,(cB 0 Tryz.underlying3),rfl⟩
def ty303:bV:=⟨.struct,4,32,true,[zi,zi,zi,zi],[(0,1),(1,1),(2,1),(3,1)],true⟩
theorem ty303_ok:b6 Tryz.prog 303 ty303:=o3 Tryz.underlying303 (ti:=Tryz.t303) kR rfl rfl rfl rfl rfl rfl kR (fun _=>by kernel_rfl) (fun _=>cX aJR zeE)
def ty306:bV:=⟨.func,1,8,false,[.nilFunc],[],false⟩
theorem ty306_ok:b6 Tryz.prog 306 ty306:=o1 Tryz.underlying306 (ti:=Tryz.t306) kR rfl rfl rfl rfl rfl rfl rfl rfl rfl
def ty308:bV:=⟨.struct,2,16,true,[zi,.nilFunc],[(0,1),(1,1)],false⟩
theorem ty308_ok:b6 Tryz.prog 308 ty308:=o2 Tryz.underlying308 (ti:=Tryz.t308) kR rfl rfl rfl rfl rfl rfl kR rfl
def ty309:bV:=⟨.array 4 308,8,64,true,[zi,.nilFunc,zi,.nilFunc,zi,.nilFunc,zi,.nilFunc],[],false⟩
theorem ty309_ok:b6 Tryz.prog 309 ty309 where
 j7:=⟨_,Tryz.underlying309,rfl⟩
 info:=⟨Tryz.t309,by kernel_rfl,rfl,rfl,_,rfl,rfl⟩
 agg:=rfl
 one:=fun h=>by cases h
 wJ:=fun fs h=>by rw[Tryz.underlying309]at h;cases h
 eqg:=fun h=>by cases h
 ints:=fun h=>by cases h
def ty372:bV:=⟨.map 9 4,1,8,false,[.map none],[],false⟩
theorem ty372_ok:b6 Tryz.prog 372 ty372:=o1 Tryz.underlying372 (ti:=Tryz.t372) kR rfl rfl rfl rfl rfl rfl rfl rfl rfl
def ty373:bV:=⟨.map 3 4,1,8,false,[.map none],[],false⟩
theorem ty373_ok:b6 Tryz.prog 373 ty373:=o1 Tryz.underlying373 (ti:=Tryz.t373) kR rfl rfl rfl rfl rfl rfl rfl rfl rfl
def ty258:bV:=⟨.array 24 5,24,24,true,[.int .u8 0,.int .u8 0,.int .u8 0,.int .u8 0,.int .u8 0,.int .u8 0,.int .u8 0,.int .u8 0,.int .u8 0,.int .u8 0,.int .u8 0,.int .u8 0,.int .u8 0,.int .u8 0,.int .u8 0,.int .u8 0,.int .u8 0,.int .u8 0,.int .u8 0,.int .u8 0,.int .u8 0,.int .u8 0,.int .u8 0,.int .u8 0],[],false⟩
theorem ty258_ok:b6 Tryz.prog 258 ty258 where
 j7:=⟨_,Tryz.underlying258,rfl⟩
 info:=⟨Tryz.t258,by kernel_rfl,rfl,rfl,_,rfl,rfl⟩
 agg:=rfl
 one:=fun h=>by cases h
 wJ:=fun fs h=>by rw[Tryz.underlying258]at h;cases h
 eqg:=fun h=>by cases h
 ints:=fun h=>by cases h
def ty376:bV:=⟨.int .u64,1,8,false,[.int .u64 0],[],false⟩
theorem ty376_ok:b6 Tryz.prog 376 ty376:=o1 Tryz.underlying376 (ti:=Tryz.t376) kR rfl rfl rfl rfl rfl rfl rfl rfl rfl
def ty314:bV:=⟨.array 20 259,20,160,true,[.int .u64 0,.int .u64 0,.int .u64 0,.int .u64 0,.int .u64 0,.int .u64 0,.int .u64 0,.int .u64 0,.int .u64 0,.int .u64 0,.int .u64 0,.int .u64 0,.int .u64 0,.int .u64 0,.int .u64 0,.int .u64 0,.int .u64 0,.int .u64 0,.int .u64 0,.int .u64 0],[],false⟩
theorem ty314_ok:b6 Tryz.prog 314 ty314 where
 j7:=⟨_,Tryz.underlying314,rfl⟩
 info:=⟨Tryz.t314,by kernel_rfl,rfl,rfl,_,rfl,rfl⟩
 agg:=rfl
 one:=fun h=>by cases h
 wJ:=fun fs h=>by rw[Tryz.underlying314]at h;cases h
 eqg:=fun h=>by cases h
 ints:=fun h=>by cases h
def ty316:bV:=⟨.array 65 5,65,65,true,[.int .u8 0,.int .u8 0,.int .u8 0,.int .u8 0,.int .u8 0,.int .u8 0,.int .u8 0,.int .u8 0,.int .u8 0,.int .u8 0,.int .u8 0,.int .u8 0,.int .u8 0,.int .u8 0,.int .u8 0,.int .u8 0,.int .u8 0,.int .u8 0,.int .u8 0,.int .u8 0,.int .u8 0,.int .u8 0,.int .u8 0,.int .u8 0,.int .u8 0,.int .u8 0,.int .u8 0,.int .u8 0,.int .u8 0,.int .u8 0,.int .u8 0,.int .u8 0,.int .u8 0,.int .u8 0,.int .u8 0,.int .u8 0,.int .u8 0,.int .u8 0,.int .u8 0,.int .u8 0,.int .u8 0,.int .u8 0,.int .u8 0,.int .u8 0,.int .u8 0,.int .u8 0,.int .u8 0,.int .u8 0,.int .u8 0,.int .u8 0,.int .u8 0,.int .u8 0,.int .u8 0,.int .u8 0,.int .u8 0,.int .u8 0,.int .u8 0,.int .u8 0,.int .u8 0,.int .u8 0,.int .u8 0,.int .u8 0,.int .u8 0,.int .u8 0,.int .u8 0],[],false⟩
theorem ty316_ok:b6 Tryz.prog 316 ty316 where
 j7:=⟨_,Tryz.underlying316,rfl⟩
 info:=⟨Tryz.t316,by kernel_rfl,rfl,rfl,_,rfl,rfl⟩
 agg:=rfl
 one:=fun h=>by cases h
 wJ:=fun fs h=>by rw[Tryz.underlying316]at h;cases h
 eqg:=fun h=>by cases h
 ints:=fun h=>by cases h
def ty418:bV:=⟨.array 256 5,256,256,true,[.int .u8 0,.int .u8 0,.int .u8 0,.int .u8 0,.int .u8 0,.int .u8 0,.int .u8 0,.int .u8 0,.int .u8 0,.int .u8 0,.int .u8 0,.int .u8 0,.int .u8 0,.int .u8 0,.int .u8 0,.int .u8 0,.int .u8 0,.int .u8 0,.int .u8 0,.int .u8 0,.int .u8 0,.int .u8 0,.int .u8 0,.int .u8 0,.int .u8 0,.int .u8 0,.int .u8 0,.int .u8 0,.int .u8 0,.int .u8 0,.int .u8 0,.int .u8 0,.int .u8 0,.int .u8 0,.int .u8 0,.int .u8 0,.int .u8 0,.int .u8 0,.int .u8 0,.int .u8 0,.int .u8 0,.int .u8 0,.int .u8 0,.int .u8 0,.int .u8 0,.int .u8 0,.int .u8 0,.int .u8 0,.int .u8 0,.int .u8 0,.int .u8 0,.int .u8 0,.int .u8 0,.int .u8 0,.int .u8 0,.int .u8 0,.int .u8 0,.int .u8 0,.int .u8 0,.int .u8 0,.int .u8 0,.int .u8 0,.int .u8 0,.int .u8 0,.int .u8 0,.int .u8 0,.int .u8 0,.int .u8 0,.int .u8 0,.int .u8 0,.int .u8 0,.int .u8 0,.int .u8 0,.int .u8 0,.int .u8 0,.int .u8 0,.int .u8 0,.int .u8 0,.int .u8 0,.int .u8 0,.int .u8 0,.int .u8 0,.int .u8 0,.int .u8 0,.int .u8 0,.int .u8 0,.int .u8 0,.int .u8 0,.int .u8 0,.int .u8 0,.int .u8 0,.int .u8 0,.int .u8 0,.int .u8 0,.int .u8 0,.int .u8 0,.int .u8 0,.int .u8 0,.int .u8 0,.int .u8 0,.int .u8 0,.int .u8 0,.int .u8 0,.int .u8 0,.int .u8 0,.int .u8 0,.int .u8 0,.int .u8 0,.int .u8 0,.int .u8 0,.int .u8 0,.int .u8 0,.int .u8 0,.int .u8 0,.int .u8 0,.int .u8 0,.int .u8 0,.int .u8 0,.int .u8 0,.int .u8 0,.int .u8 0,.int .u8 0,.int .u8 0,.int .u8 0,.int .u8 0,.int .u8 0,.int .u8 0,.int .u8 0,.int .u8 0,.int .u8 0,.int .u8 0,.int .u8 0,.int .u8 0,.int .u8 0,.int .u8 0,.int .u8 0,.int .u8 0,.int .u8 0,.int .u8 0,.int .u8 0,.int .u8 0,.int .u8 0,.int .u8 0,.int .u8 0,.int .u8 0,.int .u8 0,.int .u8 0,.int .u8 0,.int .u8 0,.int .u8 0,.int .u8 0,.int .u8 0,.int .u8 0,.int .u8 0,.int .u8 0,.int .u8 0,.int .u8 0,.int .u8 0,.int .u8 0,.int .u8 0,.int .u8 0,.int .u8 0,.int .u8 0,.int .u8 0,.int .u8 0,.int .u8 0,.int .u8 0,.int .u8 0,.int .u8 0,.int .u8 0,.int .u8 0,.int .u8 0,.int .u8 0,.int .u8 0,.int .u8 0,.int .u8 0,.int .u8 0,.int .u8 0,.int .u8 0,.int .u8 0,.int .u8 0,.int .u8 0,.int .u8 0,.int .u8 0,.int .u8 0,.int .u8 0,.int .u8 0,.int .u8 0,.int .u8 0,.int .u8 0,.int .u8 0,.int .u8 0,.int .u8 0,.int .u8 0,.int .u8 0,.int .u8 0,.int .u8 0,.int .u8 0,.int .u8 0,.int .u8 0,.int .u8 0,.int .u8 0,.int .u8 0,.int .u8 0,.int .u8 0,.int .u8 0,.int .u8 0,.int .u8 0,.int .u8 0,.int .u8 0,.int .u8 0,.int .u8 0,.int .u8 0,.int .u8 0,.int .u8 0,.int .u8 0,.int .u8 0,.int .u8 0,.int .u8 0,.int .u8 0,.int .u8 0,.int .u8 0,.int .u8 0,.int .u8 0,.int .u8 0,.int .u8 0,.int .u8 0,.int .u8 0,.int .u8 0,.int .u8 0,.int .u8 0,.int .u8 0,.int .u8 0,.int .u8 0,.int .u8 0,.int .u8 0,.int .u8 0,.int .u8 0,.int .u8 0,.int .u8 0,.int .u8 0,.int .u8 0,.int .u8 0,.int .u8 0,.int .u8 0,.int .u8 0,.int .u8 0,.int .u8 0,.int .u8 0,.int .u8 0,.int .u8 0,.int .u8 0,.int .u8 0,.int .u8 0,.int .u8 0,.int .u8 0],[],false⟩
theorem ty418_ok:b6 Tryz.prog 418 ty418 where
 j7:=⟨_,Tryz.underlying418,rfl⟩
 info:=⟨Tryz.t418,by kernel_rfl,rfl,rfl,_,rfl,rfl⟩
 agg:=rfl
 one:=fun h=>by cases h
 wJ:=fun fs h=>by rw[Tryz.underlying418]at h;cases h
 eqg:=fun h=>by cases h
 ints:=fun h=>by cases h
theorem aJQ:mY Tryz.prog 2 420 true [.int .u8 0,.int .u8 0]:=dJ Tryz.underlying420 kR (iK (ti:=Tryz.t420) kR rfl) ⟨by decide,rfl,false,[.int .u8 0],[.int .u8 0],rfl,(cB 0 Tryz.underlying5),by decide,rfl,false,[.int .u8 0],[],rfl,(cB 0 Tryz.underlying5),rfl⟩
def ty420:bV:=⟨.struct,2,2,true,[.int .u8 0,.int .u8 0],[(0,1),(1,1)],true⟩
theorem ty420_ok:b6 Tryz.prog 420 ty420:=o3 Tryz.underlying420 (ti:=Tryz.t420) kR rfl rfl rfl rfl rfl rfl kR (fun _=>by kernel_rfl) (fun _=>cX aJQ zeE)
def ty421:bV:=⟨.array 16 420,32,32,true,[.int .u8 0,.int .u8 0,.int .u8 0,.int .u8 0,.int .u8 0,.int .u8 0,.int .u8 0,.int .u8 0,.int .u8 0,.int .u8 0,.int .u8 0,.int .u8 0,.int .u8 0,.int .u8 0,.int .u8 0,.int .u8 0,.int .u8 0,.int .u8 0,.int .u8 0,.int .u8 0,.int .u8 0,.int .u8 0,.int .u8 0,.int .u8 0,.int .u8 0,.int .u8 0,.int .u8 0,.int .u8 0,.int .u8 0,.int .u8 0,.int .u8 0,.int .u8 0],[],false⟩
theorem ty421_ok:b6 Tryz.prog 421 ty421 where
 j7:=⟨_,Tryz.underlying421,rfl⟩
 info:=⟨Tryz.t421,by kernel_rfl,rfl,rfl,_,rfl,rfl⟩
 agg:=rfl
 one:=fun h=>by cases h
 wJ:=fun fs h=>by rw[Tryz.underlying421]at h;cases h
 eqg:=fun h=>by cases h
 ints:=fun h=>by cases h
def ty427:bV:=⟨.struct,3,48,true,[zt,zt,.nilIface],[(0,1),(1,1),(2,1)],false⟩
theorem ty427_ok:b6 Tryz.prog 427 ty427:=o2 Tryz.underlying427 (ti:=Tryz.t427) kR rfl rfl rfl rfl rfl rfl kR rfl
def ty398:bV:=⟨.array 32 5,32,32,true,[.int .u8 0,.int .u8 0,.int .u8 0,.int .u8 0,.int .u8 0,.int .u8 0,.int .u8 0,.int .u8 0,.int .u8 0,.int .u8 0,.int .u8 0,.int .u8 0,.int .u8 0,.int .u8 0,.int .u8 0,.int .u8 0,.int .u8 0,.int .u8 0,.int .u8 0,.int .u8 0,.int .u8 0,.int .u8 0,.int .u8 0,.int .u8 0,.int .u8 0,.int .u8 0,.int .u8 0,.int .u8 0,.int .u8 0,.int .u8 0,.int .u8 0,.int .u8 0],[],false⟩
theorem ty398_ok:b6 Tryz.prog 398 ty398 where
 j7:=⟨_,Tryz.underlying398,rfl⟩
 info:=⟨Tryz.t398,by kernel_rfl,rfl,rfl,_,rfl,rfl⟩
 agg:=rfl
 one:=fun h=>by cases h
 wJ:=fun fs h=>by rw[Tryz.underlying398]at h;cases h
 eqg:=fun h=>by cases h
 ints:=fun h=>by cases h
def ty399:bV:=⟨.array 64 5,64,64,true,[.int .u8 0,.int .u8 0,.int .u8 0,.int .u8 0,.int .u8 0,.int .u8 0,.int .u8 0,.int .u8 0,.int .u8 0,.int .u8 0,.int .u8 0,.int .u8 0,.int .u8 0,.int .u8 0,.int .u8 0,.int .u8 0,.int .u8 0,.int .u8 0,.int .u8 0,.int .u8 0,.int .u8 0,.int .u8 0,.int .u8 0,.int .u8 0,.int .u8 0,.int .u8 0,.int .u8 0,.int .u8 0,.int .u8 0,.int .u8 0,.int .u8 0,.int .u8 0,.int .u8 0,.int .u8 0,.int .u8 0,.int .u8 0,.int .u8 0,.int .u8 0,.int .u8 0,.int .u8 0,.int .u8 0,.int .u8 0,.int .u8 0,.int .u8 0,.int .u8 0,.int .u8 0,.int .u8 0,.int .u8 0,.int .u8 0,.int .u8 0,.int .u8 0,.int .u8 0,.int .u8 0,.int .u8 0,.int .u8 0,.int .u8 0,.int .u8 0,.int .u8 0,.int .u8 0,.int .u8 0,.int .u8 0,.int .u8 0,.int .u8 0,.int .u8 0],[],false⟩
theorem ty399_ok:b6 Tryz.prog 399 ty399 where
 j7:=⟨_,Tryz.underlying399,rfl⟩
 info:=⟨Tryz.t399,by kernel_rfl,rfl,rfl,_,rfl,rfl⟩
 agg:=rfl
 one:=fun h=>by cases h
 wJ:=fun fs h=>by rw[Tryz.underlying399]at h;cases h
 eqg:=fun h=>by cases h
 ints:=fun h=>by cases h
theorem aJP:mY Tryz.prog 2 432 true [.string ⟨#[]⟩]:=dJ Tryz.underlying432 kR (iK (ti:=Tryz.t432) kR rfl) ⟨by decide,rfl,false,[.string ⟨#[]⟩],[],rfl,(gA ⟨#[]⟩ Tryz.underlying9),rfl⟩
def ty432:bV:=⟨.struct,1,16,true,[zt],[(0,1)],true⟩
theorem ty432_ok:b6 Tryz.prog 432 ty432:=o3 Tryz.underlying432 (ti:=Tryz.t432) kR rfl rfl rfl rfl rfl rfl kR (fun _=>by kernel_rfl) (fun _=>cX aJP zeE)
def ty416:bV:=⟨.float .f64,1,8,false,[.float .f64 0],[],false⟩
theorem ty416_ok:b6 Tryz.prog 416 ty416:=o1 Tryz.underlying416 (ti:=Tryz.t416) kR rfl rfl rfl rfl rfl rfl rfl rfl rfl
def ty57:bV:=⟨.array 3 22,3,72,true,[zl,zl,zl],[],false⟩
theorem ty57_ok:b6 Tryz.prog 57 ty57 where
 j7:=⟨_,Tryz.underlying57,rfl⟩
 info:=⟨Tryz.t57,by kernel_rfl,rfl,rfl,_,rfl,rfl⟩
 agg:=rfl
 one:=fun h=>by cases h
 wJ:=fun fs h=>by rw[Tryz.underlying57]at h;cases h
 eqg:=fun h=>by cases h
 ints:=fun h=>by cases h
def tab:List (Nat×bV):=[(57,ty57),(1,ty1),(2,ty2),(3,ty3),(4,ty4),(5,ty5),(7,ty7),(9,ty9),(21,ty21),(22,ty22),(24,ty24),(25,ty25),(26,ty26),(28,ty28),(29,ty29),(30,ty30),(32,ty32),(33,ty33),(34,ty34),(35,ty35),(36,ty36),(38,ty38),(39,ty39),(74,ty74),(75,ty75),(77,ty77),(43,ty43),(59,ty59),(146,ty146),(148,ty148),(201,ty201),(96,ty96),(103,ty103),(108,ty108),(85,ty85),(65,ty65),(67,ty67),(68,ty68),(70,ty70),(72,ty72),(87,ty87),(91,ty91),(111,ty111),(115,ty115),(117,ty117),(166,ty166),(283,ty283),(249,ty249),(186,ty186),(191,ty191),(150,ty150),(162,ty162),(209,ty209),(174,ty174),(175,ty175),(177,ty177),(180,ty180),(157,ty157),(215,ty215),(154,ty154),(161,ty161),(113,ty113),(119,ty119),(121,ty121),(123,ty123),(270,ty270),(190,ty190),(228,ty228),(288,ty288),(222,ty222),(319,ty319),(342,ty342),(315,ty315),(259,ty259),(264,ty264),(300,ty300),(303,ty303),(306,ty306),(308,ty308),(309,ty309),(372,ty372),(373,ty373),(258,ty258),(376,ty376),(314,ty314),(316,ty316),(418,ty418),(420,ty420),(421,ty421),(427,ty427),(398,ty398),(399,ty399),(432,ty432),(416,ty416)]
theorem aJ:cD Tryz.prog tab:=⟨ty57_ok,ty1_ok,ty2_ok,ty3_ok,ty4_ok,ty5_ok,ty7_ok,ty9_ok,ty21_ok,ty22_ok,ty24_ok,ty25_ok,ty26_ok,ty28_ok,ty29_ok,ty30_ok,ty32_ok,ty33_ok,ty34_ok,ty35_ok,ty36_ok,ty38_ok,ty39_ok,ty74_ok,ty75_ok,ty77_ok,ty43_ok,ty59_ok,ty146_ok,ty148_ok,ty201_ok,ty96_ok,ty103_ok,ty108_ok,ty85_ok,ty65_ok,ty67_ok,ty68_ok,ty70_ok,ty72_ok,ty87_ok,ty91_ok,ty111_ok,ty115_ok,ty117_ok,ty166_ok,ty283_ok,ty249_ok,ty186_ok,ty191_ok,ty150_ok,ty162_ok,ty209_ok,ty174_ok,ty175_ok,ty177_ok,ty180_ok,ty157_ok,ty215_ok,ty154_ok,ty161_ok,ty113_ok,ty119_ok,ty121_ok,ty123_ok,ty270_ok,ty190_ok,ty228_ok,ty288_ok,ty222_ok,ty319_ok,ty342_ok,ty315_ok,ty259_ok,ty264_ok,ty300_ok,ty303_ok,ty306_ok,ty308_ok,ty309_ok,ty372_ok,ty373_ok,ty258_ok,ty376_ok,ty314_ok,ty316_ok,ty418_ok,ty420_ok,ty421_ok,ty427_ok,ty398_ok,ty399_ok,ty432_ok,ty416_ok,trivial⟩
end Go.Proofs.Tryz

