/- Part 10: shared lemmas. -/
import Derived.Deep.DeepWitnessRowRef
import Derived.Lib.LaidU8
import Derived.Test.YthpblceoeonkbaaGreatDoorPt9
namespace Go.Proofs.YthpblceoeonkbaaGreatDoor
open Go Go.Ax Go.Ch Go.Pj Go.Proofs Go.Proofs.Tryz
open Rows (laid_internal_strconv_uint64pow10 laid_math_bits_deBruijn32tab laid_math_bits_deBruijn64tab laid_strconv_ErrRange laid_strconv_ErrSyntax laid_unicode_utf8_acceptRanges laid_unicode_utf8_first projectHaulsRow projectHaulsSpec)
open Go.ChangeShapes Go.WideShapes Go.ChangeAt Go.RowKit Go.Lib
set_option maxRecDepth 100000
set_option linter.unusedVariables false
theorem ownKnobNone:ownKnob prog.godebug=none:=kR
theorem isLaidOut:laidOutB prog=true:=kR
theorem var_block{w:World}{n:String}{g:Nat}{cs:Array Value}(hg:prog.globalNamed n=some g)(h:w.var? prog n=some cs):∃e fr,w.heap[g]? =some (.cells cs e fr):=by
 unfold World.var? at h
 rw[hg]at h
 simp only [Option.bind_some]at h
 split at h
 ·rename_i a b c hh
  cases h
  exact⟨_,_,hh⟩
 ·cases h
theorem iface_cells{w:World}{t:TypeId}{ms:Array (String×TypeId)}{fuel:Nat}{cs:List Value}{name:String}{d:DataW Unit}{p:List MemPlace}(ht:prog.underlying t=some (.interface ms))
  (h:DataW.trod (fun _=>()) prog w 0 (fun _=>true) false fuel t cs=some (.iface name d,p)):∃u v,cs=[.iface u v]:=by
 cases fuel with
 |zero=>simp[DataW.trod]at h
 |succ n=>
  unfold DataW.trod at h
  rw[ht]at h
  split at h <;> simp_all
theorem tab_block{w:World}{n:String}{g:Nat}{t e:TypeId}{k:IntKind}{m:Nat}{zs:List Int}(hg:prog.globalNamed n=some g)(hty:(prog.globals[g]?).map (·.type)=some t)
  (ht:prog.underlying t=some (.array m e)) (he:prog.underlying e=some (.int k)) (hce:prog.cellsOf e=1) (hct:prog.cellsOf t=m) (h:VarReads prog w n (tabData k zs)):
  ∃e fr,w.heap[g]? =some (.cells (zs.map fun z=>Value.int k z).toArray e fr):=by
 obtain⟨g',t',cs,fuel,p,hg',hty',hvar,hd⟩:=h
 obtain rfl:=Option.some.inj (hg.symm.trans hg')
 obtain rfl:=Option.some.inj (hty.symm.trans hty')
 have:=cells_of_tab ht he hce hct hd
 have nR:cs=(zs.map fun z=>Value.int k z).toArray:=by rw[←this]
 rw[←nR]
 exact var_block hg hvar
theorem err_block{w:World}{n:String}{g:Nat}{name:String}{d:DataW Unit}(hg:prog.globalNamed n=some g)(hty:(prog.globals[g]?).map (·.type)=some 188)(h:VarReads prog w n (.iface name d)):
  ∃u v e fr,w.heap[g]? =some (.cells #[.iface u v] e fr):=by
 obtain⟨g',t',cs,fuel,p,hg',hty',hvar,hd⟩:=h
 obtain rfl:=Option.some.inj (hg.symm.trans hg')
 obtain rfl:=Option.some.inj (hty.symm.trans hty')
 obtain⟨u,v,hc⟩:=iface_cells underlying188 hd
 have nR:cs= #[.iface u v]:=by
  have:cs=cs.toList.toArray:=sM
  rw[this,hc]
 obtain⟨e,fr,hb⟩:=var_block hg hvar
 exact⟨u,v,e,fr,by rw[←nR];exact hb⟩
theorem int_of_shape{w:World}{g:Nat}{t:TypeId}{k:IntKind}{zero:Array Value}(h:w.ShapedOpen prog)(hg:g<prog.globals.size)
  (h0:((begin prog (fun _ _=>0) default).world.heap[g]?).bind Obj.row?=some (zero,t)) (hz:zero.size=1)
  (hb:prog.buildable t=true) (hc:prog.cellTypes prog.depth t=some [t]) (hu:prog.underlying t=some (.int k)):∃m e fr,w.heap[g]? =some (.cells #[.int k m] e fr):=by
 obtain⟨cs,hh,hs,hr⟩:=h.1 g zero t hg h0
 obtain⟨ts,uX,_,lC⟩:=hr hb
 rw[hc]at uX
 cases uX
 have h1:0<cs.size:=oM
 obtain⟨u,WA,gF⟩:=lC 0 cs[0] (by simp[h1])
 have:u=t:=by simpa using WA.symm
 subst this
 unfold Cell.ok at gF
 rw[hu]at gF
 have nR:cs= #[cs[0]]:=by
  apply Array.ext
  ·simp;omega
  ·intro i h2 h3
   have:i=0:=by simp at h3;omega
   subst this;rfl
 cases hv:cs[0] <;> rw[hv]at gF nR <;> first|(simp at gF;done)|skip
 obtain⟨rfl,_⟩:=gF
 exact⟨_,_,_,by rw[←nR];exact hh⟩
theorem glob_of{W:World}(h0:laidMetH prog projectHaulsRow.laid W)(hs:W.ShapedOpen prog):aKJ W:=by
 have h:laidMet prog projectHaulsRow.laid W:=h0
 have r2:=laidMet.reads h (n:= "strconv.ErrSyntax") (d:=laid_strconv_ErrSyntax) (by simp[projectHaulsRow])
 have r3:=laidMet.reads h (n:= "strconv.ErrRange") (d:=laid_strconv_ErrRange) (by simp[projectHaulsRow])
 have r5:=laidMet.reads h (n:= "internal/strconv.uint64pow10") (d:=laid_internal_strconv_uint64pow10) (by simp[projectHaulsRow])
 rw[show laid_internal_strconv_uint64pow10=tabData .u64 pow10Tab by kernel_rfl]at r5
 have b5:=tab_block (g:=0) kR kR underlying347 underlying259 kR kR r5
 obtain⟨u2,v2,b2⟩:=err_block (g:=6) kR kR r2
 obtain⟨u3,v3,b3⟩:=err_block (g:=7) kR kR r3
 obtain⟨m,b4⟩:=int_of_shape (g:=1) (t:=3) (k:=.i64) (zero:= #[.int .i64 0]) hs (of_decide_eq_true kR) kR rfl kR kR underlying3
 refine⟨⟨u2,v2,u3,v3,m⟩,fun g t m=>?_⟩
 simp only [tE,List.mem_cons,Prod.mk.injEq,List.not_mem_nil,or_false]at m
 rcases m with⟨rfl,rfl⟩|⟨rfl,rfl⟩|⟨rfl,rfl⟩|⟨rfl,rfl⟩
 ·exact b4
 ·exact b5
 ·exact b2
 ·exact b3
theorem contract(H:Type)(enc:TypeId×Value→H)(W:World)(base:Nat)(args:Array Value)(ds gs:List (DataW H))(before:List MemPlace)
  (hval0:∀(j:Nat) t v,f3.params[j]? =some t→args[j]? =some v→Value.okWide prog W .any base t v)
  (hW:DataW.Whole enc prog f3.params.toList projectHaulsSpec.vars false W args.toList ds gs before) (hL:laidMetH prog projectHaulsRow.laid W) (hS:W.ShapedOpen prog):
  Calls prog 3 args W fun e W'=>∃v,e=.returned v∧projectHaulsSpec.post enc prog f3 false true false false W args v W':=by
 have aCB:=hval0
 have hW':=hW
 obtain⟨p,q,hA0,hV,rfl,hfz,YP⟩:=hW
 have hA:DataW.TrodAll enc prog W 0 (fun _=>true) true f3.params.toList args.toList ds p:=hA0
 rw[params3]at hA aCB
 obtain⟨v0,vs0,d0,ds0,p0,q0,xP,rfl,rfl,h0,r0⟩:=trodAll_cons hA
 obtain⟨v1,vs1,d1,ds1,p1,q1,rfl,rfl,rfl,h1,r1⟩:=trodAll_cons r0
 obtain⟨v2,vs2,d2,ds2,p2,q2,rfl,rfl,rfl,h2,r2⟩:=trodAll_cons r1
 obtain⟨rfl,rfl,rfl⟩:=trodAll_nil r2
 obtain rfl:args= #[v0,v1,v2]:=by cases args;simp_all
 obtain⟨rfl,rfl⟩:=trodVars_none hV
 have lt0:∀x∈p0,x.block<W.heap.size:=by obtain⟨m,hm⟩:=h0;exact DataW.trod_lt m _ _ _ hm
 have AS:∀x∈p1,x.block<W.heap.size:=by obtain⟨m,hm⟩:=h1;exact DataW.trod_lt m _ _ _ hm
 have lt2:∀x∈p2,x.block<W.heap.size:=by obtain⟨m,hm⟩:=h2;exact DataW.trod_lt m _ _ _ hm
 obtain⟨a0,ok0,e0⟩:=(aQF) H enc W base 0 (fun _=>true) true v0 d0 p0 (aCB 0 38 v0 rfl rfl) h0
 obtain⟨a1,ok1,e1⟩:=((aN1 underlying39 rfl aQH)) H enc W base 0 (fun _=>true) true v1 d1 p1 (aCB 1 39 v1 rfl rfl) h1
 obtain⟨a2,ok2,e2⟩:=((aN1 underlying3 rfl rI)) H enc W base 0 (fun _=>true) true v2 d2 p2 (aCB 2 3 v2 rfl rfl) h2
 clear hA0 hval0
 refine((ProjectHauls a0 a1 a2 ok0 ok1.2 ok1.1).2 (full W) W [v0,v1,v2] (glob_of hL hS) ⟨e0,e1,e2,oO⟩ (fun _ _ _ h=>h)).mono fun e W' ⟨v,M',he,hr,_,_,bel⟩=>?_
 obtain rfl:v=.bool true:=hr
 subst he
 exact⟨_,rfl,_,_,_,[],_,[],hW',trodAll_mk1 (shut_bool underlying4 _),(trodAll_cons_mk (Below.trod isLaidOut kR (of_decide_eq_true kR) h0 bel.below lt0) (trodAll_cons_mk (Below.trod isLaidOut kR (of_decide_eq_true kR) h1 bel.below AS) (trodAll_cons_mk (Below.trod isLaidOut kR (of_decide_eq_true kR) h2 bel.below lt2) trodAll_mk0))),rfl,bel.below.frame _,fun h=>by cases h⟩
def cellD1:DataW Unit→List Value
 |.lit (.int k z)=>[.int k z]
 |_=>[]
def cellD2:DataW Unit→List Value
 |.agg l=>l.flatMap cellD1
 |d=>cellD1 d
def cellD3:DataW Unit→List Value
 |.agg l=>l.flatMap cellD2
 |d=>cellD1 d
noncomputable def laidWorld (os:Os):World:=
 let N:=(World.settled prog os).heap.size
 let w0:=World.holding prog os ⟨#[.cells #[.string ⟨#[105,110,118,97,108,105,100,32,115,121,110,116,97,120]⟩] 431,.cells #[.string ⟨#[118,97,108,117,101,32,111,117,116,32,111,102,32,114,97,110,103,101]⟩] 431], #[],[]⟩
 let put (h:Array Obj) (g:Nat) (cs:Array Value):Array Obj:=h.modify g fun
  |.cells _ t frozen=>.cells cs t frozen
  |o=>o
 let h1:=put w0.heap 4 (cellD2 laid_unicode_utf8_first).toArray
 let h2:=put h1 5 (cellD3 laid_unicode_utf8_acceptRanges).toArray
 let h3:=put h2 6 #[.iface 429 (.pointer (some ⟨N,0,none⟩))]
 let h4:=put h3 7 #[.iface 429 (.pointer (some ⟨N+1,0,none⟩))]
 let h5:=put h4 0 (Lib.pow10Tab.map fun z=>Value.int .u64 z).toArray
 let h6:=put h5 2 (cellD2 laid_math_bits_deBruijn32tab).toArray
 let h7:=put h6 3 (cellD2 laid_math_bits_deBruijn64tab).toArray
 {w0 with heap:=h7}
def zArgs:Array Value:= #[.agg #[zt,zi,zi,zi,zi,zi,zl,zt,zl,zi,zi,zl,zl,zl,zi,zi,zl,zl,zl,zl],zl,zi]
theorem laid_met(os:Os)(args:Array Value):laidMet prog projectHaulsRow.laid ((laidWorld os).forCall (fun _ _=>0) ⟨#[],args,[]⟩).memory:=
 laidMet_of_run' 8 kR kR
theorem reads(os:Os){H:Type}(enc:TypeId×Value→H):∃places,DataW.whole enc prog ((laidWorld os).forCall (fun _ _=>0) ⟨#[],zArgs,[]⟩).memory f3.params.toList projectHaulsSpec.vars false zArgs.toList 8=some ([.agg [.lit (.string []),.agg [.lit (.int .i64 0),.lit (.int .i64 0),.lit (.int .i64 0),.lit (.int .i64 0),.lit (.int .i64 0),.nil],.agg [.lit (.string []),.nil,.lit (.int .i64 0),.lit (.int .i64 0),.nil],.agg [.nil,.nil],.lit (.int .i64 0),.lit (.int .i64 0),.nil,.nil,.nil,.nil],.nil,.lit (.int .i64 0)],[],places):=
 ⟨[],kR⟩
theorem lifted(os:Os)(started:os.Started)(H:Type)(enc:TypeId×Value→H)(F:Stop.Interp):
  ReturnsInHanded {} Tryz.checked os 3 .any ((OpenSpec.ofChange projectHaulsSpec).preRow enc prog f3 projectHaulsRow.domain false projectHaulsRow.laid) (((OpenSpec.ofChange projectHaulsSpec).at F).post enc prog f3 false true false false):=by
 obtain⟨places,hx⟩:=reads os enc
 refine returnsInHanded_of_row (C:=Tryz.checked) (s:=OpenSpec.ofChange projectHaulsSpec) ownKnobNone started kR func3
  (witness_row_atRef (enc:=enc) (C:=Tryz.checked) false (laidWorld os) zArgs rfl kR kR kR
   (OpenSpec.preRow_of_cond 8 hx kR (fun k hk=>by cases hk) kR (laid_met os _))) ?_
 intro W base args ds gs before aCB hW _ _ _ hL hS _
 exact contract H enc W base args ds gs before aCB hW hL hS
end Go.Proofs.YthpblceoeonkbaaGreatDoor
