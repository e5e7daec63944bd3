/- Part 10: shared lemmas. -/
import Derived.Deep.DeepWitnessRowRef
import Derived.Lib.LaidU8
import Derived.Test.YtmmfnloidfibkaaGreatDoorPt9
set_option maxRecDepth 100000
set_option linter.defProp false
namespace Go.Proofs.YtmmfnloidfibkaaGreatDoor
open Go Go.Ax Go.Ch Go.Pj Go.Proofs Go.Proofs.Tryz
open Rows (laid_internal_strconv_uint64pow10 laid_math_bits_deBruijn32tab laid_math_bits_deBruijn64tab laid_strconv_ErrRange laid_strconv_ErrSyntax laid_unicode_utf8_acceptRanges laid_unicode_utf8_first topQueryTwoWaysRow topQueryTwoWaysSpec)
open Go.ChangeShapes Go.WideShapes Go.ChangeAt Go.RowKit Go.Lib
set_option linter.unusedVariables false
def cz:ownKnob prog.godebug=none:=kR
def Ms:laidOutB prog=true:=kR
def Lx{w:Aa}{n:String}{g:Nat}{cs:Array wa}(hg:prog.globalNamed n=some g)(h:w.var? prog n=some cs):∃e fr,w.heap[g]? =some (.cells cs e fr):=by
 unfold World.var? at h
 rw[hg]at h
 simp only[Option.bind_some]at h
 split at h
 ·rename_i a b c hh
  cases h
  exact⟨_,_,hh⟩
 ·cases h
def lz{w:Aa}{t:Ea}{ms:Array (String×Ea)}{Ma:Nat}{cs:List wa}{name:String}{d:DataW Unit}{p:List MemPlace}(ht:prog.underlying t=some (.interface ms))
  (h:DataW.trod (λ_=>()) prog w 0 (λ_=>true) false Ma t cs=some (.iface name d,p)):∃u v,cs=[.iface u v]:=by
 cases Ma with
 |zero=>simp[DataW.trod]at h
 |succ n=>
  unfold DataW.trod at h
  rw[ht]at h
  split at h <;> simp_all
def nz{w:Aa}{n:String}{g:Nat}{t e:Ea}{k:IntKind}{m:Nat}{zs:List Int}(hg:prog.globalNamed n=some g)(hty:(prog.globals[g]?).map (·.type)=some t)
  (ht:prog.underlying t=some (.array m e)) (he:prog.underlying e=some (.int k)) (hce:prog.cellsOf e=1) (hct:prog.cellsOf t=m) (h:VarReads prog w n (tabData k zs)):
  ∃e fr,w.heap[g]? =some (.cells (zs.map λz=>Value.int k z).toArray e fr):=by
 obtain⟨g',t',cs,Ma,p,hg',hty',hvar,hd⟩:=h
 obtain rfl:=sc (hg.symm.trans hg')
 obtain rfl:=sc (hty.symm.trans hty')
 have:=cells_of_tab ht he hce hct hd
 have nR:cs=(zs.map λz=>Value.int k z).toArray:=by rw[<-this]
 rw[<-nR]
 exact Lx hg hvar
def Ox{w:Aa}{n:String}{g:Nat}{name:String}{d:DataW Unit}(hg:prog.globalNamed n=some g)(hty:(prog.globals[g]?).map (·.type)=some 200)(h:VarReads prog w n (.iface name d)):
  ∃u v e fr,w.heap[g]? =some (.cells #[.iface u v] e fr):=by
 obtain⟨g',t',cs,Ma,p,hg',hty',hvar,hd⟩:=h
 obtain rfl:=sc (hg.symm.trans hg')
 obtain rfl:=sc (hty.symm.trans hty')
 obtain⟨u,v,hc⟩:=lz underlying200 hd
 have nR:cs= #[.iface u v]:=by
  have:cs=cs.toList.toArray:=sM
  rw[this,hc]
 obtain⟨e,fr,hb⟩:=Lx hg hvar
 exact⟨u,v,e,fr,by rw[<-nR];exact hb⟩
def oz{w:Aa}{g:Nat}{t:Ea}{k:IntKind}{zero:Array wa}(h:w.ShapedOpen prog)(hg:g<prog.globals.size)
  (h0:((begin prog (λ_ _=>0) default).world.heap[g]?).bind Obj.row?=some (zero,t)) (hz:zero.size=1)
  (hb:prog.buildable t=true) (hc:prog.cellTypes prog.depth t=some [t]) (hu:prog.underlying t=some (.int k)):∃m e fr,w.heap[g]? =some (.cells #[.int k m] e fr):=by
 obtain⟨cs,hh,hs,hr⟩:=h.1 g zero t hg h0
 obtain⟨ts,uX,_,lC⟩:=hr hb
 rw[hc]at uX
 cases uX
 have h1:0<cs.size:=O
 obtain⟨u,WA,gF⟩:=lC 0 cs[0] (by simp[h1])
 have:u=t:=by simpa using WA.symm
 subst this
 unfold Cell.ok at gF
 rw[hu]at gF
 have nR:cs= #[cs[0]]:=by
  apply Array.ext
  ·simp;omega
  ·intro i h2 h3
   have:i=0:=by simp at h3;omega
   subst this;rfl
 cases hv:cs[0] <;> rw[hv]at gF nR <;> first|(simp at gF;done)|skip
 obtain⟨rfl,_⟩:=gF
 exact⟨_,_,_,by rw[<-nR];exact hh⟩
def pz{W:Aa}(h0:laidMetH prog topQueryTwoWaysRow.laid W)(hs:W.ShapedOpen prog):Up W:=by
 have h:laidMet prog topQueryTwoWaysRow.laid W:=h0
 have r2:=laidMet.reads h (n:= "strconv.ErrSyntax") (d:=laid_strconv_ErrSyntax) (by simp[topQueryTwoWaysRow])
 have r3:=laidMet.reads h (n:= "strconv.ErrRange") (d:=laid_strconv_ErrRange) (by simp[topQueryTwoWaysRow])
 have r5:=laidMet.reads h (n:= "internal/strconv.uint64pow10") (d:=laid_internal_strconv_uint64pow10) (by simp[topQueryTwoWaysRow])
 rw[show laid_internal_strconv_uint64pow10=tabData .u64 pow10Tab by kernel_rfl]at r5
 have b5:=nz (g:=1) kR kR underlying332 underlying214 kR kR r5
 obtain⟨u2,v2,b2⟩:=Ox (g:=6) kR kR r2
 obtain⟨u3,v3,b3⟩:=Ox (g:=7) kR kR r3
 obtain⟨m,b4⟩:=oz (g:=0) (t:=3) (k:=.i64) (zero:= #[.int .i64 0]) hs (Nb kR) kR rfl kR kR underlying3
 refine⟨⟨u2,v2,u3,v3,m⟩,λg t m=>?_⟩
 simp only[tE,wb,Aj,Sd,Kd]at m
 rcases m with⟨rfl,rfl⟩|⟨rfl,rfl⟩|⟨rfl,rfl⟩|⟨rfl,rfl⟩
 ·exact b4
 ·exact b5
 ·exact b2
 ·exact b3
def mz(H:Type)(enc:Ea×wa->H)(W:Aa)(base:Nat)(args:Array wa)(ds gs:List (DataW H))(before:List MemPlace)
  (hval0:∀(j:Nat) t v,f3.params[j]? =some t->args[j]? =some v->Value.okWide prog W .any base t v)
  (hW:DataW.Whole enc prog f3.params.toList topQueryTwoWaysSpec.vars false W args.toList ds gs before) (hL:laidMetH prog topQueryTwoWaysRow.laid W) (hS:W.ShapedOpen prog):
  Calls prog 3 args W λe W'=>∃v,e=.returned v/\topQueryTwoWaysSpec.post enc prog f3 false true false false W args v W':=by
 have aCB:=hval0
 have hW':=hW
 obtain⟨p,q,hA0,hV,rfl,hfz,YP⟩:=hW
 have hA:DataW.TrodAll enc prog W 0 (λ_=>true) true f3.params.toList args.toList ds p:=hA0
 rw[params3]at hA aCB
 obtain⟨v0,vs0,d0,ds0,p0,q0,xP,rfl,rfl,h0,r0⟩:=trodAll_cons hA
 obtain⟨v1,vs1,d1,ds1,p1,q1,rfl,rfl,rfl,h1,r1⟩:=trodAll_cons r0
 obtain⟨v2,vs2,d2,ds2,p2,q2,rfl,rfl,rfl,h2,r2⟩:=trodAll_cons r1
 obtain⟨rfl,rfl,rfl⟩:=trodAll_nil r2
 obtain rfl:args= #[v0,v1,v2]:=by cases args;simp_all
 obtain⟨rfl,rfl⟩:=trodVars_none hV
 have lt0:∀x∈p0,x.block<W.heap.size:=by obtain⟨m,hm⟩:=h0;exact DataW.trod_lt m _ _ _ hm
 have AS:∀x∈p1,x.block<W.heap.size:=by obtain⟨m,hm⟩:=h1;exact DataW.trod_lt m _ _ _ hm
 have Fm:∀x∈p2,x.block<W.heap.size:=by obtain⟨m,hm⟩:=h2;exact DataW.trod_lt m _ _ _ hm
 obtain⟨a0,ok0,e0⟩:=(aQF) H enc W base 0 (λ_=>true) true v0 d0 p0 (aCB 0 38 v0 rfl rfl) h0
 obtain⟨a1,ok1,e1⟩:=((aN1 underlying39 rfl aQH)) H enc W base 0 (λ_=>true) true v1 d1 p1 (aCB 1 39 v1 rfl rfl) h1
 obtain⟨a2,ok2,e2⟩:=((aN1 underlying3 rfl rI)) H enc W base 0 (λ_=>true) true v2 d2 p2 (aCB 2 3 v2 rfl rfl) h2
 clear hA0 hval0
 refine((TopQueryTwoWays a0 a1 a2 ok0 ok1.2 ok1.1).2 (full W) W [v0,v1,v2] (pz hL hS) ⟨e0,e1,e2,oO⟩ (λ_ _ _ h=>h)).mono λe W' ⟨v,M',he,hr,_,_,bel⟩=>?_
 obtain rfl:v=.bool true:=hr
 subst he
 exact⟨_,rfl,_,_,_,[],_,[],hW',trodAll_mk1 (shut_bool underlying4 _),(trodAll_cons_mk (Below.trod Ms kR (Nb kR) h0 bel.below lt0) (trodAll_cons_mk (Below.trod Ms kR (Nb kR) h1 bel.below AS) (trodAll_cons_mk (Below.trod Ms kR (Nb kR) h2 bel.below Fm) trodAll_mk0))),rfl,bel.below.frame _,λh=>by cases h⟩
def Qs:DataW Unit->List wa
 |.lit (.int k z)=>[.int k z]
 |_=>[]
def fq:DataW Unit->List wa
 |.agg l=>l.flatMap Qs
 |d=>Qs d
def gz:DataW Unit->List wa
 |.agg l=>l.flatMap fq
 |d=>Qs d
noncomputable def laidWorld (os:Os):Aa:=
 let N:=(World.settled prog os).heap.size
 let w0:=World.holding prog os ⟨#[.cells #[.string ⟨#[105,110,118,97,108,105,100,32,115,121,110,116,97,120]⟩] 446,.cells #[.string ⟨#[118,97,108,117,101,32,111,117,116,32,111,102,32,114,97,110,103,101]⟩] 446], #[],[]⟩
 let put (h:Array Obj) (g:Nat) (cs:Array wa):Array Obj:=h.modify g λ
  |.cells _ t frozen=>.cells cs t frozen
  |o=>o
 let h1:=put w0.heap 4 (fq laid_unicode_utf8_first).toArray
 let h2:=put h1 5 (gz laid_unicode_utf8_acceptRanges).toArray
 let h3:=put h2 6 #[.iface 444 (.pointer (some ⟨N,0,none⟩))]
 let h4:=put h3 7 #[.iface 444 (.pointer (some ⟨N+1,0,none⟩))]
 let h5:=put h4 1 (Lib.pow10Tab.map λz=>Value.int .u64 z).toArray
 let h6:=put h5 2 (fq laid_math_bits_deBruijn32tab).toArray
 let h7:=put h6 3 (fq laid_math_bits_deBruijn64tab).toArray
 {w0 with heap:=h7}
def Uu:Array wa:= #[.agg #[zt,zi,zi,zi,zi,zi,zl,zt,zl,zi,zi,zl,zl,zl,zi,zi,zl,zl,zl,zl],zl,zi]
def dz(os:Os)(args:Array wa):laidMet prog topQueryTwoWaysRow.laid ((laidWorld os).forCall (λ_ _=>0) ⟨#[],args,[]⟩).memory:=
 laidMet_of_run' 8 kR kR
def reads(os:Os){H:Type}(enc:Ea×wa->H):∃Cn,DataW.whole enc prog ((laidWorld os).forCall (λ_ _=>0) ⟨#[],Uu,[]⟩).memory f3.params.toList topQueryTwoWaysSpec.vars false Uu.toList 8=some ([.agg [.lit (.string []),.agg [.lit (.int .i64 0),.lit (.int .i64 0),.lit (.int .i64 0),.lit (.int .i64 0),.lit (.int .i64 0),.nil],.agg [.lit (.string []),.nil,.lit (.int .i64 0),.lit (.int .i64 0),.nil],.agg [.nil,.nil],.lit (.int .i64 0),.lit (.int .i64 0),.nil,.nil,.nil,.nil],.nil,.lit (.int .i64 0)],[],Cn):=
 ⟨[],kR⟩
def lifted(os:Os)(started:os.Started)(H:Type)(enc:Ea×wa->H)(F:Stop.Interp):
  ReturnsInHanded {} Tryz.checked os 3 .any ((OpenSpec.ofChange topQueryTwoWaysSpec).preRow enc prog f3 topQueryTwoWaysRow.domain false topQueryTwoWaysRow.laid) (((OpenSpec.ofChange topQueryTwoWaysSpec).at F).post enc prog f3 false true false false):=by
 obtain⟨Cn,hx⟩:=reads os enc
 refine returnsInHanded_of_row (C:=Tryz.checked) (s:=OpenSpec.ofChange topQueryTwoWaysSpec) cz started kR func3
  (witness_row_atRef (enc:=enc) (C:=Tryz.checked) false (laidWorld os) Uu rfl kR kR kR
   (OpenSpec.preRow_of_cond 8 hx kR (λk hk=>by cases hk) kR (dz os _))) ?_
 intro W base args ds gs before aCB hW _ _ _ hL hS _
 exact mz H enc W base args ds gs before aCB hW hL hS
end Go.Proofs.YtmmfnloidfibkaaGreatDoor
