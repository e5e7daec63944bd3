/- Part 4: lemmas that the proofs of this seat share; by itself it claims nothing. -/
import Derived.Test.YtaalojbkjiplcaaGreatDoorProg
import Derived.Test.YtaalojbkjiplcaaGreatDoorPt3
--TyZ
namespace Go.Ax
abbrev zi:Value:=.int .i64 0
abbrev zt:Value:=.string ⟨#[]⟩
abbrev zl:Value:=.slice none 0 0
def aLX:TypeDesc→Bool
 |.struct _=>true
 |_=>false
theorem o1{P:Program}{t:TypeId}{i:bJ}{d:TypeDesc}{ti:TypeInfo}{z:Value}(h:P.underlying t=some d)(hi:P.info? t=some ti)(hz:ti.zero=some z)(hd:QU.pJ d=i.jS)(hs:ti.size=i.size)(hb:ti.bytes=i.bytes)(hc:z.cells.toList=i.zero)(ha:(match i.jS with|.struct=>true|.array _ _=>true|_=>false)=i.agg)(h1:i.zero=[z])(hn:aLX d=false)(hx:i.ints=false):bL P t i:=
 ⟨⟨d,h,hd⟩,⟨ti,hi,hs,hb,z,hz,hc⟩,ha,fun fs e=>(by rw[h]at e;cases e;cases hn),fun _=>⟨ti,z,hi,hz,h1⟩,fun e=>(by rw[hx]at e;cases e),fun e=>(by rw[hx]at e;cases e)⟩
def D0(P:Program):List Field→List (Nat×Nat)→Bool
 |[],[]=>true
 |f::fs,(o,z)::r=>Nat.beq f.offset o&&(match P.info? f.type with|some ti=>Nat.beq ti.size z|none=>false)&&D0 P fs r
 |_,_=>false
theorem D0.ok{P:Program}:∀{fs:List Field}{l:List (Nat×Nat)},D0 P fs l=true→rA P fs l
 |[],[],_=>trivial
 |f::fs,(o,z)::r,h=>by
  simp only[D0,Bool.and_eq_true]at h
  obtain⟨⟨h1,h2⟩,h3⟩:=h
  cases hi:P.info? f.type with
  |none=>rw[hi]at h2;cases h2
  |some ti=>rw[hi]at h2;exact⟨Nat.eq_of_beq_eq_true h1,⟨ti,hi,Nat.eq_of_beq_eq_true h2⟩,D0.ok h3⟩
 |[],_::_,h=>by cases h
 |_::_,[],h=>by cases h
theorem o3{P:Program}{t:TypeId}{i:bJ}{fs:Array Field}{ti:TypeInfo}{z:Value}(h:P.underlying t=some (.struct fs))(hi:P.info? t=some ti)(hz:ti.zero=some z)(hd:QU.struct=i.jS)(hs:ti.size=i.size)(hb:ti.bytes=i.bytes)(hc:z.cells.toList=i.zero)(ha:i.agg=true)(hf:D0 P fs.toList i.uO=true)(he:i.ints=true→P.eqGuardType P.depth t=false)(hx:i.ints=true→∀(w:World)(xs ys:List SV)(vs us:List Value)(b:Bool),gJ i.zero xs=true→gJ i.zero ys=true→sI xs ys=some b→cK (fun _ _=>none) (fun _=>none) xs vs→cK (fun _ _=>none) (fun _=>none) ys us→(Op.equal t (.agg vs.toArray) (.agg us.toArray)).run P w=.ok b w):bL P t i:=
 ⟨⟨_,h,hd⟩,⟨ti,hi,hs,hb,z,hz,hc⟩,(by rw[←hd,ha]),fun fs' e=>(by rw[h]at e;cases e;exact D0.ok hf),fun e=>(by rw[ha]at e;cases e),he,hx⟩
theorem o2{P:Program}{t:TypeId}{i:bJ}{fs:Array Field}{ti:TypeInfo}{z:Value}(h:P.underlying t=some (.struct fs))(hi:P.info? t=some ti)(hz:ti.zero=some z)(hd:QU.struct=i.jS)(hs:ti.size=i.size)(hb:ti.bytes=i.bytes)(hc:z.cells.toList=i.zero)(ha:i.agg=true)(hf:D0 P fs.toList i.uO=true)(hx:i.ints=false):bL P t i:=
 o3 h hi hz hd hs hb hc ha hf (fun e=>by rw[hx]at e;cases e) (fun e=>by rw[hx]at e;cases e)
end Go.Ax
namespace Go.Proofs.Tryz
open Go Go.Ax
def ty1:bJ:=⟨.func,1,8,false,[.nilFunc],[],false⟩
theorem ty1_ok:bL Tryz.prog 1 ty1:=o1 Tryz.underlying1 (ti:=Tryz.t1) kR rfl rfl rfl rfl rfl rfl rfl rfl rfl
def ty2:bJ:=⟨.int .i64,1,8,false,[zi],[],false⟩
theorem ty2_ok:bL Tryz.prog 2 ty2:=o1 Tryz.underlying2 (ti:=Tryz.t2) kR rfl rfl rfl rfl rfl rfl rfl rfl rfl
def ty3:bJ:=⟨.int .i64,1,8,false,[zi],[],false⟩
theorem ty3_ok:bL Tryz.prog 3 ty3:=o1 Tryz.underlying3 (ti:=Tryz.t3) kR rfl rfl rfl rfl rfl rfl rfl rfl rfl
def ty4:bJ:=⟨.bool,1,1,false,[.bool false],[],false⟩
theorem ty4_ok:bL Tryz.prog 4 ty4:=o1 Tryz.underlying4 (ti:=Tryz.t4) kR rfl rfl rfl rfl rfl rfl rfl rfl rfl
def ty5:bJ:=⟨.int .u8,1,1,false,[.int .u8 0],[],false⟩
theorem ty5_ok:bL Tryz.prog 5 ty5:=o1 Tryz.underlying5 (ti:=Tryz.t5) kR rfl rfl rfl rfl rfl rfl rfl rfl rfl
theorem aMX:l5 Tryz.prog 2 7 true [.int .i64 0,.int .i64 0,.bool false,.int .u8 0]:=dD Tryz.underlying7 kR (iA (ti:=Tryz.t7) kR rfl) ⟨by decide,rfl,false,[.int .i64 0],[.int .i64 0,.bool false,.int .u8 0],rfl,(bV 0 Tryz.underlying2),by decide,rfl,false,[.int .i64 0],[.bool false,.int .u8 0],rfl,(bV 0 Tryz.underlying3),by decide,rfl,false,[.bool false],[.int .u8 0],rfl,(aBI false Tryz.underlying4),by decide,rfl,false,[.int .u8 0],[],rfl,(bV 0 Tryz.underlying6),rfl⟩
def ty7:bJ:=⟨.struct,4,24,true,[zi,zi,.bool false,.int .u8 0],[(0,1),(1,1),(2,1),(3,1)],true⟩
theorem ty7_ok:bL Tryz.prog 7 ty7:=o3 Tryz.underlying7 (ti:=Tryz.t7) kR rfl rfl rfl rfl rfl rfl kR (fun _=>by kernel_rfl) (fun _=>cM aMX (by decide))
def ty9:bJ:=⟨.string,1,16,false,[zt],[],false⟩
theorem ty9_ok:bL Tryz.prog 9 ty9:=o1 Tryz.underlying9 (ti:=Tryz.t9) kR rfl rfl rfl rfl rfl rfl rfl rfl rfl
def ty21:bJ:=⟨.int .i32,1,4,false,[.int .i32 0],[],false⟩
theorem ty21_ok:bL Tryz.prog 21 ty21:=o1 Tryz.underlying21 (ti:=Tryz.t21) kR rfl rfl rfl rfl rfl rfl rfl rfl rfl
def ty22:bJ:=⟨.slice 3,1,24,false,[zl],[],false⟩
theorem ty22_ok:bL Tryz.prog 22 ty22:=o1 Tryz.underlying22 (ti:=Tryz.t22) kR rfl rfl rfl rfl rfl rfl rfl rfl rfl
def ty24:bJ:=⟨.struct,6,64,true,[zi,zi,zi,zi,zi,zl],[(0,1),(1,1),(2,1),(3,1),(4,1),(5,1)],false⟩
theorem ty24_ok:bL Tryz.prog 24 ty24:=o2 Tryz.underlying24 (ti:=Tryz.t24) kR rfl rfl rfl rfl rfl rfl kR rfl
def ty25:bJ:=⟨.slice 135,1,24,false,[zl],[],false⟩
theorem ty25_ok:bL Tryz.prog 25 ty25:=o1 Tryz.underlying25 (ti:=Tryz.t25) kR rfl rfl rfl rfl rfl rfl rfl rfl rfl
def ty26:bJ:=⟨.slice 64,1,24,false,[zl],[],false⟩
theorem ty26_ok:bL Tryz.prog 26 ty26:=o1 Tryz.underlying26 (ti:=Tryz.t26) kR rfl rfl rfl rfl rfl rfl rfl rfl rfl
def ty28:bJ:=⟨.struct,5,80,true,[zt,zl,zi,zi,zl],[(0,1),(1,1),(2,1),(3,1),(4,1)],false⟩
theorem ty28_ok:bL Tryz.prog 28 ty28:=o2 Tryz.underlying28 (ti:=Tryz.t28) kR rfl rfl rfl rfl rfl rfl kR rfl
def ty29:bJ:=⟨.slice 139,1,24,false,[zl],[],false⟩
theorem ty29_ok:bL Tryz.prog 29 ty29:=o1 Tryz.underlying29 (ti:=Tryz.t29) kR rfl rfl rfl rfl rfl rfl rfl rfl rfl
def ty30:bJ:=⟨.slice 67,1,24,false,[zl],[],false⟩
theorem ty30_ok:bL Tryz.prog 30 ty30:=o1 Tryz.underlying30 (ti:=Tryz.t30) kR rfl rfl rfl rfl rfl rfl rfl rfl rfl
def ty32:bJ:=⟨.struct,2,48,true,[zl,zl],[(0,1),(1,1)],false⟩
theorem ty32_ok:bL Tryz.prog 32 ty32:=o2 Tryz.underlying32 (ti:=Tryz.t32) kR rfl rfl rfl rfl rfl rfl kR rfl
def ty33:bJ:=⟨.slice 143,1,24,false,[zl],[],false⟩
theorem ty33_ok:bL Tryz.prog 33 ty33:=o1 Tryz.underlying33 (ti:=Tryz.t33) kR rfl rfl rfl rfl rfl rfl rfl rfl rfl
def ty34:bJ:=⟨.slice 161,1,24,false,[zl],[],false⟩
theorem ty34_ok:bL Tryz.prog 34 ty34:=o1 Tryz.underlying34 (ti:=Tryz.t34) kR rfl rfl rfl rfl rfl rfl rfl rfl rfl
def ty35:bJ:=⟨.slice 69,1,24,false,[zl],[],false⟩
theorem ty35_ok:bL Tryz.prog 35 ty35:=o1 Tryz.underlying35 (ti:=Tryz.t35) kR rfl rfl rfl rfl rfl rfl rfl rfl rfl
def ty36:bJ:=⟨.slice 145,1,24,false,[zl],[],false⟩
theorem ty36_ok:bL Tryz.prog 36 ty36:=o1 Tryz.underlying36 (ti:=Tryz.t36) kR rfl rfl rfl rfl rfl rfl rfl rfl rfl
def ty38:bJ:=⟨.struct,20,320,true,[zt,zi,zi,zi,zi,zi,zl,zt,zl,zi,zi,zl,zl,zl,zi,zi,zl,zl,zl,zl],[(0,1),(1,6),(7,5),(12,2),(14,1),(15,1),(16,1),(17,1),(18,1),(19,1)],false⟩
theorem ty38_ok:bL Tryz.prog 38 ty38:=o2 Tryz.underlying38 (ti:=Tryz.t38) kR rfl rfl rfl rfl rfl rfl kR rfl
def ty40:bJ:=⟨.struct,13,144,true,[zi,zi,zi,zi,zi,zi,zi,zi,zi,zt,zt,zt,zl],[(0,1),(1,1),(2,1),(3,1),(4,1),(5,1),(6,1),(7,1),(8,1),(9,1),(10,1),(11,1),(12,1)],false⟩
theorem ty40_ok:bL Tryz.prog 40 ty40:=o2 Tryz.underlying40 (ti:=Tryz.t40) kR rfl rfl rfl rfl rfl rfl kR rfl
def ty44:bJ:=⟨.int .i64,1,8,false,[zi],[],false⟩
theorem ty44_ok:bL Tryz.prog 44 ty44:=o1 Tryz.underlying44 (ti:=Tryz.t44) kR rfl rfl rfl rfl rfl rfl rfl rfl rfl
def ty62:bJ:=⟨.slice 169,1,24,false,[zl],[],false⟩
theorem ty62_ok:bL Tryz.prog 62 ty62:=o1 Tryz.underlying62 (ti:=Tryz.t62) kR rfl rfl rfl rfl rfl rfl rfl rfl rfl
def ty64:bJ:=⟨.struct,3,48,true,[zt,zi,zl],[(0,1),(1,1),(2,1)],false⟩
theorem ty64_ok:bL Tryz.prog 64 ty64:=o2 Tryz.underlying64 (ti:=Tryz.t64) kR rfl rfl rfl rfl rfl rfl kR rfl
def ty65:bJ:=⟨.slice 141,1,24,false,[zl],[],false⟩
theorem ty65_ok:bL Tryz.prog 65 ty65:=o1 Tryz.underlying65 (ti:=Tryz.t65) kR rfl rfl rfl rfl rfl rfl rfl rfl rfl
def ty67:bJ:=⟨.struct,4,56,true,[zt,zi,zi,zl],[(0,1),(1,1),(2,1),(3,1)],false⟩
theorem ty67_ok:bL Tryz.prog 67 ty67:=o2 Tryz.underlying67 (ti:=Tryz.t67) kR rfl rfl rfl rfl rfl rfl kR rfl
def ty69:bJ:=⟨.struct,6,72,true,[zt,zi,zi,zi,zl,zi],[(0,1),(1,1),(2,1),(3,1),(4,1),(5,1)],false⟩
theorem ty69_ok:bL Tryz.prog 69 ty69:=o2 Tryz.underlying69 (ti:=Tryz.t69) kR rfl rfl rfl rfl rfl rfl kR rfl
def ty70:bJ:=⟨.slice 80,1,24,false,[zl],[],false⟩
theorem ty70_ok:bL Tryz.prog 70 ty70:=o1 Tryz.underlying70 (ti:=Tryz.t70) kR rfl rfl rfl rfl rfl rfl rfl rfl rfl
def ty71:bJ:=⟨.slice 133,1,24,false,[zl],[],false⟩
theorem ty71_ok:bL Tryz.prog 71 ty71:=o1 Tryz.underlying71 (ti:=Tryz.t71) kR rfl rfl rfl rfl rfl rfl rfl rfl rfl
def ty73:bJ:=⟨.struct,7,104,true,[zi,zi,zi,zi,zl,zl,zl],[(0,1),(1,1),(2,1),(3,1),(4,1),(5,1),(6,1)],false⟩
theorem ty73_ok:bL Tryz.prog 73 ty73:=o2 Tryz.underlying73 (ti:=Tryz.t73) kR rfl rfl rfl rfl rfl rfl kR rfl
def ty77:bJ:=⟨.slice 40,1,24,false,[zl],[],false⟩
theorem ty77_ok:bL Tryz.prog 77 ty77:=o1 Tryz.underlying77 (ti:=Tryz.t77) kR rfl rfl rfl rfl rfl rfl rfl rfl rfl
theorem aKO:l5 Tryz.prog 2 80 true [.string ⟨#[]⟩,.int .i64 0,.int .i64 0,.int .i64 0]:=dD Tryz.underlying80 kR (iA (ti:=Tryz.t80) kR rfl) ⟨by decide,rfl,false,[.string ⟨#[]⟩],[.int .i64 0,.int .i64 0,.int .i64 0],rfl,(fM ⟨#[]⟩ Tryz.underlying9),by decide,rfl,false,[.int .i64 0],[.int .i64 0,.int .i64 0],rfl,(bV 0 Tryz.underlying3),by decide,rfl,false,[.int .i64 0],[.int .i64 0],rfl,(bV 0 Tryz.underlying3),by decide,rfl,false,[.int .i64 0],[],rfl,(bV 0 Tryz.underlying3),rfl⟩
def ty80:bJ:=⟨.struct,4,40,true,[zt,zi,zi,zi],[(0,1),(1,1),(2,1),(3,1)],true⟩
theorem ty80_ok:bL Tryz.prog 80 ty80:=o3 Tryz.underlying80 (ti:=Tryz.t80) kR rfl rfl rfl rfl rfl rfl kR (fun _=>by kernel_rfl) (fun _=>cM aKO (by decide))
def ty86:bJ:=⟨.slice 177,1,24,false,[zl],[],false⟩
theorem ty86_ok:bL Tryz.prog 86 ty86:=o1 Tryz.underlying86 (ti:=Tryz.t86) kR rfl rfl rfl rfl rfl rfl rfl rfl rfl
def ty88:bJ:=⟨.struct,4,96,true,[zl,zl,zl,zl],[(0,1),(1,1),(2,1),(3,1)],false⟩
theorem ty88_ok:bL Tryz.prog 88 ty88:=o2 Tryz.underlying88 (ti:=Tryz.t88) kR rfl rfl rfl rfl rfl rfl kR rfl
def ty97:bJ:=⟨.slice 9,1,24,false,[zl],[],false⟩
theorem ty97_ok:bL Tryz.prog 97 ty97:=o1 Tryz.underlying97 (ti:=Tryz.t97) kR rfl rfl rfl rfl rfl rfl rfl rfl rfl
def ty109:bJ:=⟨.struct,2,32,true,[zl,.bool false],[(0,1),(1,1)],false⟩
theorem ty109_ok:bL Tryz.prog 109 ty109:=o2 Tryz.underlying109 (ti:=Tryz.t109) kR rfl rfl rfl rfl rfl rfl kR rfl
def ty118:bJ:=⟨.struct,21,344,true,[zt,zi,zi,zi,zi,zi,zl,zt,zl,zi,zi,zl,zl,zl,zi,zi,zl,zl,zl,zl,zl],[(0,20),(20,1)],false⟩
theorem ty118_ok:bL Tryz.prog 118 ty118:=o2 Tryz.underlying118 (ti:=Tryz.t118) kR rfl rfl rfl rfl rfl rfl kR rfl
def ty121:bJ:=⟨.slice 24,1,24,false,[zl],[],false⟩
theorem ty121_ok:bL Tryz.prog 121 ty121:=o1 Tryz.underlying121 (ti:=Tryz.t121) kR rfl rfl rfl rfl rfl rfl rfl rfl rfl
def ty123:bJ:=⟨.slice 130,1,24,false,[zl],[],false⟩
theorem ty123_ok:bL Tryz.prog 123 ty123:=o1 Tryz.underlying123 (ti:=Tryz.t123) kR rfl rfl rfl rfl rfl rfl rfl rfl rfl
theorem aHQ:l5 Tryz.prog 2 130 true [.int .i64 0,.int .i64 0,.string ⟨#[]⟩,.int .i64 0,.int .i64 0,.int .i64 0,.string ⟨#[]⟩]:=dD Tryz.underlying130 kR (iA (ti:=Tryz.t130) kR rfl) ⟨by decide,rfl,false,[.int .i64 0],[.int .i64 0,.string ⟨#[]⟩,.int .i64 0,.int .i64 0,.int .i64 0,.string ⟨#[]⟩],rfl,(bV 0 Tryz.underlying3),by decide,rfl,false,[.int .i64 0],[.string ⟨#[]⟩,.int .i64 0,.int .i64 0,.int .i64 0,.string ⟨#[]⟩],rfl,(bV 0 Tryz.underlying3),by decide,rfl,false,[.string ⟨#[]⟩],[.int .i64 0,.int .i64 0,.int .i64 0,.string ⟨#[]⟩],rfl,(fM ⟨#[]⟩ Tryz.underlying9),by decide,rfl,false,[.int .i64 0],[.int .i64 0,.int .i64 0,.string ⟨#[]⟩],rfl,(bV 0 Tryz.underlying3),by decide,rfl,false,[.int .i64 0],[.int .i64 0,.string ⟨#[]⟩],rfl,(bV 0 Tryz.underlying3),by decide,rfl,false,[.int .i64 0],[.string ⟨#[]⟩],rfl,(bV 0 Tryz.underlying3),by decide,rfl,false,[.string ⟨#[]⟩],[],rfl,(fM ⟨#[]⟩ Tryz.underlying9),rfl⟩
def ty130:bJ:=⟨.struct,7,72,true,[zi,zi,zt,zi,zi,zi,zt],[(0,1),(1,1),(2,1),(3,1),(4,1),(5,1),(6,1)],true⟩
theorem ty130_ok:bL Tryz.prog 130 ty130:=o3 Tryz.underlying130 (ti:=Tryz.t130) kR rfl rfl rfl rfl rfl rfl kR (fun _=>by kernel_rfl) (fun _=>cM aHQ (by decide))
theorem aHP:l5 Tryz.prog 2 133 true [.string ⟨#[]⟩,.int .i64 0]:=dD Tryz.underlying133 kR (iA (ti:=Tryz.t133) kR rfl) ⟨by decide,rfl,false,[.string ⟨#[]⟩],[.int .i64 0],rfl,(fM ⟨#[]⟩ Tryz.underlying9),by decide,rfl,false,[.int .i64 0],[],rfl,(bV 0 Tryz.underlying3),rfl⟩
def ty133:bJ:=⟨.struct,2,24,true,[zt,zi],[(0,1),(1,1)],true⟩
theorem ty133_ok:bL Tryz.prog 133 ty133:=o3 Tryz.underlying133 (ti:=Tryz.t133) kR rfl rfl rfl rfl rfl rfl kR (fun _=>by kernel_rfl) (fun _=>cM aHP (by decide))
theorem aHO:l5 Tryz.prog 2 135 true [.int .i64 0,.int .i64 0,.int .i64 0,.int .i64 0,.int .i64 0]:=dD Tryz.underlying135 kR (iA (ti:=Tryz.t135) kR rfl) ⟨by decide,rfl,false,[.int .i64 0],[.int .i64 0,.int .i64 0,.int .i64 0,.int .i64 0],rfl,(bV 0 Tryz.underlying3),by decide,rfl,false,[.int .i64 0],[.int .i64 0,.int .i64 0,.int .i64 0],rfl,(bV 0 Tryz.underlying3),by decide,rfl,false,[.int .i64 0],[.int .i64 0,.int .i64 0],rfl,(bV 0 Tryz.underlying3),by decide,rfl,false,[.int .i64 0],[.int .i64 0],rfl,(bV 0 Tryz.underlying3),by decide,rfl,false,[.int .i64 0],[],rfl,(bV 0 Tryz.underlying3),rfl⟩
def ty135:bJ:=⟨.struct,5,40,true,[zi,zi,zi,zi,zi],[(0,1),(1,1),(2,1),(3,1),(4,1)],true⟩
theorem ty135_ok:bL Tryz.prog 135 ty135:=o3 Tryz.underlying135 (ti:=Tryz.t135) kR rfl rfl rfl rfl rfl rfl kR (fun _=>by kernel_rfl) (fun _=>cM aHO (by decide))
theorem SI:l5 Tryz.prog 2 137 true [.int .i64 0,.int .i64 0]:=dD Tryz.underlying137 kR (iA (ti:=Tryz.t137) kR rfl) ⟨by decide,rfl,false,[.int .i64 0],[.int .i64 0],rfl,(bV 0 Tryz.underlying3),by decide,rfl,false,[.int .i64 0],[],rfl,(bV 0 Tryz.underlying3),rfl⟩
def ty137:bJ:=⟨.struct,2,16,true,[zi,zi],[(0,1),(1,1)],true⟩
theorem ty137_ok:bL Tryz.prog 137 ty137:=o3 Tryz.underlying137 (ti:=Tryz.t137) kR rfl rfl rfl rfl rfl rfl kR (fun _=>by kernel_rfl) (fun _=>cM SI (by decide))
theorem aHN:l5 Tryz.prog 3 139 true [.string ⟨#[]⟩,.int .i64 0,.int .i64 0,.int .i64 0,.int .i64 0]:=dD Tryz.underlying139 kR (iA (ti:=Tryz.t139) kR rfl) ⟨by decide,rfl,false,[.string ⟨#[]⟩],[.int .i64 0,.int .i64 0,.int .i64 0,.int .i64 0],rfl,(l5.up (fM ⟨#[]⟩ Tryz.underlying9)),by decide,rfl,false,[.int .i64 0],[.int .i64 0,.int .i64 0,.int .i64 0],rfl,(l5.up (bV 0 Tryz.underlying3)),by decide,rfl,false,[.int .i64 0],[.int .i64 0,.int .i64 0],rfl,(l5.up (bV 0 Tryz.underlying3)),by decide,rfl,true,[.int .i64 0,.int .i64 0],[],rfl,SI,rfl⟩
def ty139:bJ:=⟨.struct,5,48,true,[zt,zi,zi,zi,zi],[(0,1),(1,1),(2,1),(3,2)],true⟩
theorem ty139_ok:bL Tryz.prog 139 ty139:=o3 Tryz.underlying139 (ti:=Tryz.t139) kR rfl rfl rfl rfl rfl rfl kR (fun _=>by kernel_rfl) (fun _=>cM aHN (by decide))
theorem aHM:l5 Tryz.prog 2 141 true [.int .i64 0,.string ⟨#[]⟩]:=dD Tryz.underlying141 kR (iA (ti:=Tryz.t141) kR rfl) ⟨by decide,rfl,false,[.int .i64 0],[.string ⟨#[]⟩],rfl,(bV 0 Tryz.underlying3),by decide,rfl,false,[.string ⟨#[]⟩],[],rfl,(fM ⟨#[]⟩ Tryz.underlying9),rfl⟩
def ty141:bJ:=⟨.struct,2,24,true,[zi,zt],[(0,1),(1,1)],true⟩
theorem ty141_ok:bL Tryz.prog 141 ty141:=o3 Tryz.underlying141 (ti:=Tryz.t141) kR rfl rfl rfl rfl rfl rfl kR (fun _=>by kernel_rfl) (fun _=>cM aHM (by decide))
theorem aHL:l5 Tryz.prog 2 143 true [.string ⟨#[]⟩,.int .i64 0]:=dD Tryz.underlying143 kR (iA (ti:=Tryz.t143) kR rfl) ⟨by decide,rfl,false,[.string ⟨#[]⟩],[.int .i64 0],rfl,(fM ⟨#[]⟩ Tryz.underlying9),by decide,rfl,false,[.int .i64 0],[],rfl,(bV 0 Tryz.underlying3),rfl⟩
def ty143:bJ:=⟨.struct,2,24,true,[zt,zi],[(0,1),(1,1)],true⟩
theorem ty143_ok:bL Tryz.prog 143 ty143:=o3 Tryz.underlying143 (ti:=Tryz.t143) kR rfl rfl rfl rfl rfl rfl kR (fun _=>by kernel_rfl) (fun _=>cM aHL (by decide))
theorem aHK:l5 Tryz.prog 3 145 true [.string ⟨#[]⟩,.int .i64 0,.int .i64 0]:=dD Tryz.underlying145 kR (iA (ti:=Tryz.t145) kR rfl) ⟨by decide,rfl,false,[.string ⟨#[]⟩],[.int .i64 0,.int .i64 0],rfl,(l5.up (fM ⟨#[]⟩ Tryz.underlying9)),by decide,rfl,true,[.int .i64 0,.int .i64 0],[],rfl,SI,rfl⟩
def ty145:bJ:=⟨.struct,3,32,true,[zt,zi,zi],[(0,1),(1,2)],true⟩
theorem ty145_ok:bL Tryz.prog 145 ty145:=o3 Tryz.underlying145 (ti:=Tryz.t145) kR rfl rfl rfl rfl rfl rfl kR (fun _=>by kernel_rfl) (fun _=>cM aHK (by decide))
def ty146:bJ:=⟨.slice 5,1,24,false,[zl],[],false⟩
theorem ty146_ok:bL Tryz.prog 146 ty146:=o1 Tryz.underlying146 (ti:=Tryz.t146) kR rfl rfl rfl rfl rfl rfl rfl rfl rfl
def ty152:bJ:=⟨.func,1,8,false,[.nilFunc],[],false⟩
theorem ty152_ok:bL Tryz.prog 152 ty152:=o1 Tryz.underlying152 (ti:=Tryz.t152) kR rfl rfl rfl rfl rfl rfl rfl rfl rfl
def ty155:bJ:=⟨.struct,2,48,true,[zl,zl],[(0,2)],false⟩
theorem ty155_ok:bL Tryz.prog 155 ty155:=o2 Tryz.underlying155 (ti:=Tryz.t155) kR rfl rfl rfl rfl rfl rfl kR rfl
theorem aHJ:l5 Tryz.prog 2 161 true [.string ⟨#[]⟩,.int .i64 0,.int .i64 0]:=dD Tryz.underlying161 kR (iA (ti:=Tryz.t161) kR rfl) ⟨by decide,rfl,false,[.string ⟨#[]⟩],[.int .i64 0,.int .i64 0],rfl,(fM ⟨#[]⟩ Tryz.underlying9),by decide,rfl,false,[.int .i64 0],[.int .i64 0],rfl,(bV 0 Tryz.underlying3),by decide,rfl,false,[.int .i64 0],[],rfl,(bV 0 Tryz.underlying3),rfl⟩
def ty161:bJ:=⟨.struct,3,32,true,[zt,zi,zi],[(0,1),(1,1),(2,1)],true⟩
theorem ty161_ok:bL Tryz.prog 161 ty161:=o3 Tryz.underlying161 (ti:=Tryz.t161) kR rfl rfl rfl rfl rfl rfl kR (fun _=>by kernel_rfl) (fun _=>cM aHJ (by decide))
theorem aHI:l5 Tryz.prog 2 169 true [.int .i64 0,.int .i64 0]:=dD Tryz.underlying169 kR (iA (ti:=Tryz.t169) kR rfl) ⟨by decide,rfl,false,[.int .i64 0],[.int .i64 0],rfl,(bV 0 Tryz.underlying3),by decide,rfl,false,[.int .i64 0],[],rfl,(bV 0 Tryz.underlying3),rfl⟩
def ty169:bJ:=⟨.struct,2,16,true,[zi,zi],[(0,1),(1,1)],true⟩
theorem ty169_ok:bL Tryz.prog 169 ty169:=o3 Tryz.underlying169 (ti:=Tryz.t169) kR rfl rfl rfl rfl rfl rfl kR (fun _=>by kernel_rfl) (fun _=>cM aHI (by decide))
theorem aHH:l5 Tryz.prog 2 177 true [.int .i64 0,.string ⟨#[]⟩,.int .i64 0]:=dD Tryz.underlying177 kR (iA (ti:=Tryz.t177) kR rfl) ⟨by decide,rfl,false,[.int .i64 0],[.string ⟨#[]⟩,.int .i64 0],rfl,(bV 0 Tryz.underlying3),by decide,rfl,false,[.string ⟨#[]⟩],[.int .i64 0],rfl,(fM ⟨#[]⟩ Tryz.underlying9),by decide,rfl,false,[.int .i64 0],[],rfl,(bV 0 Tryz.underlying3),rfl⟩
def ty177:bJ:=⟨.struct,3,32,true,[zi,zt,zi],[(0,1),(1,1),(2,1)],true⟩
theorem ty177_ok:bL Tryz.prog 177 ty177:=o3 Tryz.underlying177 (ti:=Tryz.t177) kR rfl rfl rfl rfl rfl rfl kR (fun _=>by kernel_rfl) (fun _=>cM aHH (by decide))
def ty183:bJ:=⟨.pointer,1,8,false,[.pointer none],[],false⟩
theorem ty183_ok:bL Tryz.prog 183 ty183:=o1 Tryz.underlying183 (ti:=Tryz.t183) kR rfl rfl rfl rfl rfl rfl rfl rfl rfl
def ty185:bJ:=⟨.struct,2,32,true,[.pointer none,zl],[(0,1),(1,1)],false⟩
theorem ty185_ok:bL Tryz.prog 185 ty185:=o2 Tryz.underlying185 (ti:=Tryz.t185) kR rfl rfl rfl rfl rfl rfl kR rfl
def ty188:bJ:=⟨.iface,1,16,false,[.nilIface],[],false⟩
theorem ty188_ok:bL Tryz.prog 188 ty188:=o1 Tryz.underlying188 (ti:=Tryz.t188) kR rfl rfl rfl rfl rfl rfl rfl rfl rfl
def ty200:bJ:=⟨.map 9 211,1,8,false,[.map none],[],false⟩
theorem ty200_ok:bL Tryz.prog 200 ty200:=o1 Tryz.underlying200 (ti:=Tryz.t200) kR rfl rfl rfl rfl rfl rfl rfl rfl rfl
def ty206:bJ:=⟨.slice 210,1,24,false,[zl],[],false⟩
theorem ty206_ok:bL Tryz.prog 206 ty206:=o1 Tryz.underlying206 (ti:=Tryz.t206) kR rfl rfl rfl rfl rfl rfl rfl rfl rfl
theorem aHG:l5 Tryz.prog 2 210 true [.string ⟨#[]⟩,.int .i64 0,.int .i64 0]:=dD Tryz.underlying210 kR (iA (ti:=Tryz.t210) kR rfl) ⟨by decide,rfl,false,[.string ⟨#[]⟩],[.int .i64 0,.int .i64 0],rfl,(fM ⟨#[]⟩ Tryz.underlying9),by decide,rfl,false,[.int .i64 0],[.int .i64 0],rfl,(bV 0 Tryz.underlying3),by decide,rfl,false,[.int .i64 0],[],rfl,(bV 0 Tryz.underlying3),rfl⟩
def ty210:bJ:=⟨.struct,3,32,true,[zt,zi,zi],[(0,1),(1,1),(2,1)],true⟩
theorem ty210_ok:bL Tryz.prog 210 ty210:=o3 Tryz.underlying210 (ti:=Tryz.t210) kR rfl rfl rfl rfl rfl rfl kR (fun _=>by kernel_rfl) (fun _=>cM aHG (by decide))
def ty211:bJ:=⟨.slice 259,1,24,false,[zl],[],false⟩
theorem ty211_ok:bL Tryz.prog 211 ty211:=o1 Tryz.underlying211 (ti:=Tryz.t211) kR rfl rfl rfl rfl rfl rfl rfl rfl rfl
def ty225:bJ:=⟨.func,1,8,false,[.nilFunc],[],false⟩
theorem ty225_ok:bL Tryz.prog 225 ty225:=o1 Tryz.underlying225 (ti:=Tryz.t225) kR rfl rfl rfl rfl rfl rfl rfl rfl rfl
def ty245:bJ:=⟨.pointer,1,8,false,[.pointer none],[],false⟩
theorem ty245_ok:bL Tryz.prog 245 ty245:=o1 Tryz.underlying245 (ti:=Tryz.t245) kR rfl rfl rfl rfl rfl rfl rfl rfl rfl
def ty250:bJ:=⟨.map 9 255,1,8,false,[.map none],[],false⟩
theorem ty250_ok:bL Tryz.prog 250 ty250:=o1 Tryz.underlying250 (ti:=Tryz.t250) kR rfl rfl rfl rfl rfl rfl rfl rfl rfl
def ty254:bJ:=⟨.struct,14,160,true,[zi,zi,zi,zi,zi,zi,zi,zi,zi,zt,zt,zt,zl,zt],[(0,13),(13,1)],false⟩
theorem ty254_ok:bL Tryz.prog 254 ty254:=o2 Tryz.underlying254 (ti:=Tryz.t254) kR rfl rfl rfl rfl rfl rfl kR rfl
def ty255:bJ:=⟨.slice 254,1,24,false,[zl],[],false⟩
theorem ty255_ok:bL Tryz.prog 255 ty255:=o1 Tryz.underlying255 (ti:=Tryz.t255) kR rfl rfl rfl rfl rfl rfl rfl rfl rfl
def ty259:bJ:=⟨.struct,14,152,true,[zi,zi,zi,zi,zi,zi,zi,zi,zi,zt,zt,zt,zl,zi],[(0,13),(13,1)],false⟩
theorem ty259_ok:bL Tryz.prog 259 ty259:=o2 Tryz.underlying259 (ti:=Tryz.t259) kR rfl rfl rfl rfl rfl rfl kR rfl
def ty269:bJ:=⟨.func,1,8,false,[.nilFunc],[],false⟩
theorem ty269_ok:bL Tryz.prog 269 ty269:=o1 Tryz.underlying269 (ti:=Tryz.t269) kR rfl rfl rfl rfl rfl rfl rfl rfl rfl
def ty271:bJ:=⟨.struct,2,16,true,[zi,.nilFunc],[(0,1),(1,1)],false⟩
theorem ty271_ok:bL Tryz.prog 271 ty271:=o2 Tryz.underlying271 (ti:=Tryz.t271) kR rfl rfl rfl rfl rfl rfl kR rfl
def ty272:bJ:=⟨.array 4 271,8,64,true,[zi,.nilFunc,zi,.nilFunc,zi,.nilFunc,zi,.nilFunc],[],false⟩
theorem ty272_ok:bL Tryz.prog 272 ty272 where
 jS:=⟨_,Tryz.underlying272,rfl⟩
 info:=⟨Tryz.t272,by kernel_rfl,rfl,rfl,_,rfl,rfl⟩
 agg:=rfl
 one:=fun h=>by cases h
 uO:=fun fs h=>by rw[Tryz.underlying272]at h;cases h
 eqg:=fun h=>by cases h
 ints:=fun h=>by cases h
def ty275:bJ:=⟨.map 9 4,1,8,false,[.map none],[],false⟩
theorem ty275_ok:bL Tryz.prog 275 ty275:=o1 Tryz.underlying275 (ti:=Tryz.t275) kR rfl rfl rfl rfl rfl rfl rfl rfl rfl
def ty276:bJ:=⟨.map 3 4,1,8,false,[.map none],[],false⟩
theorem ty276_ok:bL Tryz.prog 276 ty276:=o1 Tryz.underlying276 (ti:=Tryz.t276) kR rfl rfl rfl rfl rfl rfl rfl rfl rfl
def ty282:bJ:=⟨.other,1,8,false,[.pointer none],[],false⟩
theorem ty282_ok:bL Tryz.prog 282 ty282:=o1 Tryz.underlying282 (ti:=Tryz.t282) kR rfl rfl rfl rfl rfl rfl rfl rfl rfl
def ty285:bJ:=⟨.array 24 5,24,24,true,[.int .u8 0,.int .u8 0,.int .u8 0,.int .u8 0,.int .u8 0,.int .u8 0,.int .u8 0,.int .u8 0,.int .u8 0,.int .u8 0,.int .u8 0,.int .u8 0,.int .u8 0,.int .u8 0,.int .u8 0,.int .u8 0,.int .u8 0,.int .u8 0,.int .u8 0,.int .u8 0,.int .u8 0,.int .u8 0,.int .u8 0,.int .u8 0],[],false⟩
theorem ty285_ok:bL Tryz.prog 285 ty285 where
 jS:=⟨_,Tryz.underlying285,rfl⟩
 info:=⟨Tryz.t285,by kernel_rfl,rfl,rfl,_,rfl,rfl⟩
 agg:=rfl
 one:=fun h=>by cases h
 uO:=fun fs h=>by rw[Tryz.underlying285]at h;cases h
 eqg:=fun h=>by cases h
 ints:=fun h=>by cases h
def ty286:bJ:=⟨.int .u64,1,8,false,[.int .u64 0],[],false⟩
theorem ty286_ok:bL Tryz.prog 286 ty286:=o1 Tryz.underlying286 (ti:=Tryz.t286) kR rfl rfl rfl rfl rfl rfl rfl rfl rfl
def ty296:bJ:=⟨.map 9 3,1,8,false,[.map none],[],false⟩
theorem ty296_ok:bL Tryz.prog 296 ty296:=o1 Tryz.underlying296 (ti:=Tryz.t296) kR rfl rfl rfl rfl rfl rfl rfl rfl rfl
theorem aHF:l5 Tryz.prog 2 312 true [.int .i64 0,.int .i64 0,.int .i64 0,.string ⟨#[]⟩,.int .i64 0]:=dD Tryz.underlying312 kR (iA (ti:=Tryz.t312) kR rfl) ⟨by decide,rfl,false,[.int .i64 0],[.int .i64 0,.int .i64 0,.string ⟨#[]⟩,.int .i64 0],rfl,(bV 0 Tryz.underlying3),by decide,rfl,false,[.int .i64 0],[.int .i64 0,.string ⟨#[]⟩,.int .i64 0],rfl,(bV 0 Tryz.underlying3),by decide,rfl,false,[.int .i64 0],[.string ⟨#[]⟩,.int .i64 0],rfl,(bV 0 Tryz.underlying3),by decide,rfl,false,[.string ⟨#[]⟩],[.int .i64 0],rfl,(fM ⟨#[]⟩ Tryz.underlying9),by decide,rfl,false,[.int .i64 0],[],rfl,(bV 0 Tryz.underlying3),rfl⟩
def ty312:bJ:=⟨.struct,5,48,true,[zi,zi,zi,zt,zi],[(0,1),(1,1),(2,1),(3,1),(4,1)],true⟩
theorem ty312_ok:bL Tryz.prog 312 ty312:=o3 Tryz.underlying312 (ti:=Tryz.t312) kR rfl rfl rfl rfl rfl rfl kR (fun _=>by kernel_rfl) (fun _=>cM aHF (by decide))
def ty325:bJ:=⟨.array 20 286,20,160,true,[.int .u64 0,.int .u64 0,.int .u64 0,.int .u64 0,.int .u64 0,.int .u64 0,.int .u64 0,.int .u64 0,.int .u64 0,.int .u64 0,.int .u64 0,.int .u64 0,.int .u64 0,.int .u64 0,.int .u64 0,.int .u64 0,.int .u64 0,.int .u64 0,.int .u64 0,.int .u64 0],[],false⟩
theorem ty325_ok:bL Tryz.prog 325 ty325 where
 jS:=⟨_,Tryz.underlying325,rfl⟩
 info:=⟨Tryz.t325,by kernel_rfl,rfl,rfl,_,rfl,rfl⟩
 agg:=rfl
 one:=fun h=>by cases h
 uO:=fun fs h=>by rw[Tryz.underlying325]at h;cases h
 eqg:=fun h=>by cases h
 ints:=fun h=>by cases h
def ty326:bJ:=⟨.int .u32,1,4,false,[.int .u32 0],[],false⟩
theorem ty326_ok:bL Tryz.prog 326 ty326:=o1 Tryz.underlying326 (ti:=Tryz.t326) kR rfl rfl rfl rfl rfl rfl rfl rfl rfl
def ty327:bJ:=⟨.array 65 5,65,65,true,[.int .u8 0,.int .u8 0,.int .u8 0,.int .u8 0,.int .u8 0,.int .u8 0,.int .u8 0,.int .u8 0,.int .u8 0,.int .u8 0,.int .u8 0,.int .u8 0,.int .u8 0,.int .u8 0,.int .u8 0,.int .u8 0,.int .u8 0,.int .u8 0,.int .u8 0,.int .u8 0,.int .u8 0,.int .u8 0,.int .u8 0,.int .u8 0,.int .u8 0,.int .u8 0,.int .u8 0,.int .u8 0,.int .u8 0,.int .u8 0,.int .u8 0,.int .u8 0,.int .u8 0,.int .u8 0,.int .u8 0,.int .u8 0,.int .u8 0,.int .u8 0,.int .u8 0,.int .u8 0,.int .u8 0,.int .u8 0,.int .u8 0,.int .u8 0,.int .u8 0,.int .u8 0,.int .u8 0,.int .u8 0,.int .u8 0,.int .u8 0,.int .u8 0,.int .u8 0,.int .u8 0,.int .u8 0,.int .u8 0,.int .u8 0,.int .u8 0,.int .u8 0,.int .u8 0,.int .u8 0,.int .u8 0,.int .u8 0,.int .u8 0,.int .u8 0,.int .u8 0],[],false⟩
theorem ty327_ok:bL Tryz.prog 327 ty327 where
 jS:=⟨_,Tryz.underlying327,rfl⟩
 info:=⟨Tryz.t327,by kernel_rfl,rfl,rfl,_,rfl,rfl⟩
 agg:=rfl
 one:=fun h=>by cases h
 uO:=fun fs h=>by rw[Tryz.underlying327]at h;cases h
 eqg:=fun h=>by cases h
 ints:=fun h=>by cases h
def ty328:bJ:=⟨.int .u64,1,8,false,[.int .u64 0],[],false⟩
theorem ty328_ok:bL Tryz.prog 328 ty328:=o1 Tryz.underlying328 (ti:=Tryz.t328) kR rfl rfl rfl rfl rfl rfl rfl rfl rfl
def ty345:bJ:=⟨.slice 348,1,24,false,[zl],[],false⟩
theorem ty345_ok:bL Tryz.prog 345 ty345:=o1 Tryz.underlying345 (ti:=Tryz.t345) kR rfl rfl rfl rfl rfl rfl rfl rfl rfl
theorem aHE:l5 Tryz.prog 2 348 true [.int .i64 0,.int .i64 0,.int .i64 0,.int .i64 0]:=dD Tryz.underlying348 kR (iA (ti:=Tryz.t348) kR rfl) ⟨by decide,rfl,false,[.int .i64 0],[.int .i64 0,.int .i64 0,.int .i64 0],rfl,(bV 0 Tryz.underlying3),by decide,rfl,false,[.int .i64 0],[.int .i64 0,.int .i64 0],rfl,(bV 0 Tryz.underlying3),by decide,rfl,false,[.int .i64 0],[.int .i64 0],rfl,(bV 0 Tryz.underlying3),by decide,rfl,false,[.int .i64 0],[],rfl,(bV 0 Tryz.underlying3),rfl⟩
def ty348:bJ:=⟨.struct,4,32,true,[zi,zi,zi,zi],[(0,1),(1,1),(2,1),(3,1)],true⟩
theorem ty348_ok:bL Tryz.prog 348 ty348:=o3 Tryz.underlying348 (ti:=Tryz.t348) kR rfl rfl rfl rfl rfl rfl kR (fun _=>by kernel_rfl) (fun _=>cM aHE (by decide))
def ty354:bJ:=⟨.array 256 5,256,256,true,[.int .u8 0,.int .u8 0,.int .u8 0,.int .u8 0,.int .u8 0,.int .u8 0,.int .u8 0,.int .u8 0,.int .u8 0,.int .u8 0,.int .u8 0,.int .u8 0,.int .u8 0,.int .u8 0,.int .u8 0,.int .u8 0,.int .u8 0,.int .u8 0,.int .u8 0,.int .u8 0,.int .u8 0,.int .u8 0,.int .u8 0,.int .u8 0,.int .u8 0,.int .u8 0,.int .u8 0,.int .u8 0,.int .u8 0,.int .u8 0,.int .u8 0,.int .u8 0,.int .u8 0,.int .u8 0,.int .u8 0,.int .u8 0,.int .u8 0,.int .u8 0,.int .u8 0,.int .u8 0,.int .u8 0,.int .u8 0,.int .u8 0,.int .u8 0,.int .u8 0,.int .u8 0,.int .u8 0,.int .u8 0,.int .u8 0,.int .u8 0,.int .u8 0,.int .u8 0,.int .u8 0,.int .u8 0,.int .u8 0,.int .u8 0,.int .u8 0,.int .u8 0,.int .u8 0,.int .u8 0,.int .u8 0,.int .u8 0,.int .u8 0,.int .u8 0,.int .u8 0,.int .u8 0,.int .u8 0,.int .u8 0,.int .u8 0,.int .u8 0,.int .u8 0,.int .u8 0,.int .u8 0,.int .u8 0,.int .u8 0,.int .u8 0,.int .u8 0,.int .u8 0,.int .u8 0,.int .u8 0,.int .u8 0,.int .u8 0,.int .u8 0,.int .u8 0,.int .u8 0,.int .u8 0,.int .u8 0,.int .u8 0,.int .u8 0,.int .u8 0,.int .u8 0,.int .u8 0,.int .u8 0,.int .u8 0,.int .u8 0,.int .u8 0,.int .u8 0,.int .u8 0,.int .u8 0,.int .u8 0,.int .u8 0,.int .u8 0,.int .u8 0,.int .u8 0,.int .u8 0,.int .u8 0,.int .u8 0,.int .u8 0,.int .u8 0,.int .u8 0,.int .u8 0,.int .u8 0,.int .u8 0,.int .u8 0,.int .u8 0,.int .u8 0,.int .u8 0,.int .u8 0,.int .u8 0,.int .u8 0,.int .u8 0,.int .u8 0,.int .u8 0,.int .u8 0,.int .u8 0,.int .u8 0,.int .u8 0,.int .u8 0,.int .u8 0,.int .u8 0,.int .u8 0,.int .u8 0,.int .u8 0,.int .u8 0,.int .u8 0,.int .u8 0,.int .u8 0,.int .u8 0,.int .u8 0,.int .u8 0,.int .u8 0,.int .u8 0,.int .u8 0,.int .u8 0,.int .u8 0,.int .u8 0,.int .u8 0,.int .u8 0,.int .u8 0,.int .u8 0,.int .u8 0,.int .u8 0,.int .u8 0,.int .u8 0,.int .u8 0,.int .u8 0,.int .u8 0,.int .u8 0,.int .u8 0,.int .u8 0,.int .u8 0,.int .u8 0,.int .u8 0,.int .u8 0,.int .u8 0,.int .u8 0,.int .u8 0,.int .u8 0,.int .u8 0,.int .u8 0,.int .u8 0,.int .u8 0,.int .u8 0,.int .u8 0,.int .u8 0,.int .u8 0,.int .u8 0,.int .u8 0,.int .u8 0,.int .u8 0,.int .u8 0,.int .u8 0,.int .u8 0,.int .u8 0,.int .u8 0,.int .u8 0,.int .u8 0,.int .u8 0,.int .u8 0,.int .u8 0,.int .u8 0,.int .u8 0,.int .u8 0,.int .u8 0,.int .u8 0,.int .u8 0,.int .u8 0,.int .u8 0,.int .u8 0,.int .u8 0,.int .u8 0,.int .u8 0,.int .u8 0,.int .u8 0,.int .u8 0,.int .u8 0,.int .u8 0,.int .u8 0,.int .u8 0,.int .u8 0,.int .u8 0,.int .u8 0,.int .u8 0,.int .u8 0,.int .u8 0,.int .u8 0,.int .u8 0,.int .u8 0,.int .u8 0,.int .u8 0,.int .u8 0,.int .u8 0,.int .u8 0,.int .u8 0,.int .u8 0,.int .u8 0,.int .u8 0,.int .u8 0,.int .u8 0,.int .u8 0,.int .u8 0,.int .u8 0,.int .u8 0,.int .u8 0,.int .u8 0,.int .u8 0,.int .u8 0,.int .u8 0,.int .u8 0,.int .u8 0,.int .u8 0,.int .u8 0,.int .u8 0,.int .u8 0,.int .u8 0,.int .u8 0,.int .u8 0,.int .u8 0,.int .u8 0,.int .u8 0,.int .u8 0,.int .u8 0,.int .u8 0,.int .u8 0,.int .u8 0,.int .u8 0],[],false⟩
theorem ty354_ok:bL Tryz.prog 354 ty354 where
 jS:=⟨_,Tryz.underlying354,rfl⟩
 info:=⟨Tryz.t354,by kernel_rfl,rfl,rfl,_,rfl,rfl⟩
 agg:=rfl
 one:=fun h=>by cases h
 uO:=fun fs h=>by rw[Tryz.underlying354]at h;cases h
 eqg:=fun h=>by cases h
 ints:=fun h=>by cases h
theorem aHD:l5 Tryz.prog 2 356 true [.int .u8 0,.int .u8 0]:=dD Tryz.underlying356 kR (iA (ti:=Tryz.t356) kR rfl) ⟨by decide,rfl,false,[.int .u8 0],[.int .u8 0],rfl,(bV 0 Tryz.underlying5),by decide,rfl,false,[.int .u8 0],[],rfl,(bV 0 Tryz.underlying5),rfl⟩
def ty356:bJ:=⟨.struct,2,2,true,[.int .u8 0,.int .u8 0],[(0,1),(1,1)],true⟩
theorem ty356_ok:bL Tryz.prog 356 ty356:=o3 Tryz.underlying356 (ti:=Tryz.t356) kR rfl rfl rfl rfl rfl rfl kR (fun _=>by kernel_rfl) (fun _=>cM aHD (by decide))
def ty357:bJ:=⟨.array 16 356,32,32,true,[.int .u8 0,.int .u8 0,.int .u8 0,.int .u8 0,.int .u8 0,.int .u8 0,.int .u8 0,.int .u8 0,.int .u8 0,.int .u8 0,.int .u8 0,.int .u8 0,.int .u8 0,.int .u8 0,.int .u8 0,.int .u8 0,.int .u8 0,.int .u8 0,.int .u8 0,.int .u8 0,.int .u8 0,.int .u8 0,.int .u8 0,.int .u8 0,.int .u8 0,.int .u8 0,.int .u8 0,.int .u8 0,.int .u8 0,.int .u8 0,.int .u8 0,.int .u8 0],[],false⟩
theorem ty357_ok:bL Tryz.prog 357 ty357 where
 jS:=⟨_,Tryz.underlying357,rfl⟩
 info:=⟨Tryz.t357,by kernel_rfl,rfl,rfl,_,rfl,rfl⟩
 agg:=rfl
 one:=fun h=>by cases h
 uO:=fun fs h=>by rw[Tryz.underlying357]at h;cases h
 eqg:=fun h=>by cases h
 ints:=fun h=>by cases h
def ty364:bJ:=⟨.struct,3,48,true,[zt,zt,.nilIface],[(0,1),(1,1),(2,1)],false⟩
theorem ty364_ok:bL Tryz.prog 364 ty364:=o2 Tryz.underlying364 (ti:=Tryz.t364) kR rfl rfl rfl rfl rfl rfl kR rfl
def ty368:bJ:=⟨.int .i64,1,8,false,[zi],[],false⟩
theorem ty368_ok:bL Tryz.prog 368 ty368:=o1 Tryz.underlying368 (ti:=Tryz.t368) kR rfl rfl rfl rfl rfl rfl rfl rfl rfl
def ty392:bJ:=⟨.array 32 5,32,32,true,[.int .u8 0,.int .u8 0,.int .u8 0,.int .u8 0,.int .u8 0,.int .u8 0,.int .u8 0,.int .u8 0,.int .u8 0,.int .u8 0,.int .u8 0,.int .u8 0,.int .u8 0,.int .u8 0,.int .u8 0,.int .u8 0,.int .u8 0,.int .u8 0,.int .u8 0,.int .u8 0,.int .u8 0,.int .u8 0,.int .u8 0,.int .u8 0,.int .u8 0,.int .u8 0,.int .u8 0,.int .u8 0,.int .u8 0,.int .u8 0,.int .u8 0,.int .u8 0],[],false⟩
theorem ty392_ok:bL Tryz.prog 392 ty392 where
 jS:=⟨_,Tryz.underlying392,rfl⟩
 info:=⟨Tryz.t392,by kernel_rfl,rfl,rfl,_,rfl,rfl⟩
 agg:=rfl
 one:=fun h=>by cases h
 uO:=fun fs h=>by rw[Tryz.underlying392]at h;cases h
 eqg:=fun h=>by cases h
 ints:=fun h=>by cases h
def ty393:bJ:=⟨.array 64 5,64,64,true,[.int .u8 0,.int .u8 0,.int .u8 0,.int .u8 0,.int .u8 0,.int .u8 0,.int .u8 0,.int .u8 0,.int .u8 0,.int .u8 0,.int .u8 0,.int .u8 0,.int .u8 0,.int .u8 0,.int .u8 0,.int .u8 0,.int .u8 0,.int .u8 0,.int .u8 0,.int .u8 0,.int .u8 0,.int .u8 0,.int .u8 0,.int .u8 0,.int .u8 0,.int .u8 0,.int .u8 0,.int .u8 0,.int .u8 0,.int .u8 0,.int .u8 0,.int .u8 0,.int .u8 0,.int .u8 0,.int .u8 0,.int .u8 0,.int .u8 0,.int .u8 0,.int .u8 0,.int .u8 0,.int .u8 0,.int .u8 0,.int .u8 0,.int .u8 0,.int .u8 0,.int .u8 0,.int .u8 0,.int .u8 0,.int .u8 0,.int .u8 0,.int .u8 0,.int .u8 0,.int .u8 0,.int .u8 0,.int .u8 0,.int .u8 0,.int .u8 0,.int .u8 0,.int .u8 0,.int .u8 0,.int .u8 0,.int .u8 0,.int .u8 0,.int .u8 0],[],false⟩
theorem ty393_ok:bL Tryz.prog 393 ty393 where
 jS:=⟨_,Tryz.underlying393,rfl⟩
 info:=⟨Tryz.t393,by kernel_rfl,rfl,rfl,_,rfl,rfl⟩
 agg:=rfl
 one:=fun h=>by cases h
 uO:=fun fs h=>by rw[Tryz.underlying393]at h;cases h
 eqg:=fun h=>by cases h
 ints:=fun h=>by cases h
theorem aHC:l5 Tryz.prog 2 397 true [.string ⟨#[]⟩]:=dD Tryz.underlying397 kR (iA (ti:=Tryz.t397) kR rfl) ⟨by decide,rfl,false,[.string ⟨#[]⟩],[],rfl,(fM ⟨#[]⟩ Tryz.underlying9),rfl⟩
def ty397:bJ:=⟨.struct,1,16,true,[zt],[(0,1)],true⟩
theorem ty397_ok:bL Tryz.prog 397 ty397:=o3 Tryz.underlying397 (ti:=Tryz.t397) kR rfl rfl rfl rfl rfl rfl kR (fun _=>by kernel_rfl) (fun _=>cM aHC (by decide))
def ty398:bJ:=⟨.int .u64,1,8,false,[.int .u64 0],[],false⟩
theorem ty398_ok:bL Tryz.prog 398 ty398:=o1 Tryz.underlying398 (ti:=Tryz.t398) kR rfl rfl rfl rfl rfl rfl rfl rfl rfl
def ty423:bJ:=⟨.float .f64,1,8,false,[.float .f64 0],[],false⟩
theorem ty423_ok:bL Tryz.prog 423 ty423:=o1 Tryz.underlying423 (ti:=Tryz.t423) kR rfl rfl rfl rfl rfl rfl rfl rfl rfl
def tab:List (Nat×bJ):=[(1,ty1),(2,ty2),(3,ty3),(4,ty4),(5,ty5),(7,ty7),(9,ty9),(21,ty21),(22,ty22),(24,ty24),(25,ty25),(26,ty26),(28,ty28),(29,ty29),(30,ty30),(32,ty32),(33,ty33),(34,ty34),(35,ty35),(36,ty36),(38,ty38),(40,ty40),(44,ty44),(62,ty62),(64,ty64),(65,ty65),(67,ty67),(69,ty69),(70,ty70),(71,ty71),(73,ty73),(77,ty77),(80,ty80),(86,ty86),(88,ty88),(97,ty97),(109,ty109),(118,ty118),(121,ty121),(123,ty123),(130,ty130),(133,ty133),(135,ty135),(137,ty137),(139,ty139),(141,ty141),(143,ty143),(145,ty145),(146,ty146),(152,ty152),(155,ty155),(161,ty161),(169,ty169),(177,ty177),(183,ty183),(185,ty185),(188,ty188),(200,ty200),(206,ty206),(210,ty210),(211,ty211),(225,ty225),(245,ty245),(250,ty250),(254,ty254),(255,ty255),(259,ty259),(269,ty269),(271,ty271),(272,ty272),(275,ty275),(276,ty276),(282,ty282),(285,ty285),(286,ty286),(296,ty296),(312,ty312),(325,ty325),(326,ty326),(327,ty327),(328,ty328),(345,ty345),(348,ty348),(354,ty354),(356,ty356),(357,ty357),(364,ty364),(368,ty368),(392,ty392),(393,ty393),(397,ty397),(398,ty398),(423,ty423)]
theorem aK:b5 Tryz.prog tab:=⟨ty1_ok,ty2_ok,ty3_ok,ty4_ok,ty5_ok,ty7_ok,ty9_ok,ty21_ok,ty22_ok,ty24_ok,ty25_ok,ty26_ok,ty28_ok,ty29_ok,ty30_ok,ty32_ok,ty33_ok,ty34_ok,ty35_ok,ty36_ok,ty38_ok,ty40_ok,ty44_ok,ty62_ok,ty64_ok,ty65_ok,ty67_ok,ty69_ok,ty70_ok,ty71_ok,ty73_ok,ty77_ok,ty80_ok,ty86_ok,ty88_ok,ty97_ok,ty109_ok,ty118_ok,ty121_ok,ty123_ok,ty130_ok,ty133_ok,ty135_ok,ty137_ok,ty139_ok,ty141_ok,ty143_ok,ty145_ok,ty146_ok,ty152_ok,ty155_ok,ty161_ok,ty169_ok,ty177_ok,ty183_ok,ty185_ok,ty188_ok,ty200_ok,ty206_ok,ty210_ok,ty211_ok,ty225_ok,ty245_ok,ty250_ok,ty254_ok,ty255_ok,ty259_ok,ty269_ok,ty271_ok,ty272_ok,ty275_ok,ty276_ok,ty282_ok,ty285_ok,ty286_ok,ty296_ok,ty312_ok,ty325_ok,ty326_ok,ty327_ok,ty328_ok,ty345_ok,ty348_ok,ty354_ok,ty356_ok,ty357_ok,ty364_ok,ty368_ok,ty392_ok,ty393_ok,ty397_ok,ty398_ok,ty423_ok,trivial⟩
end Go.Proofs.Tryz

