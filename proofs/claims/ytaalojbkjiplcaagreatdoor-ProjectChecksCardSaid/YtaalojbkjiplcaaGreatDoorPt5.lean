/- Part 5: lemmas that the proofs of this seat share; by itself it claims nothing. -/
import Derived.WalkKit
import Derived.Laws.Externs
import Derived.Lib.ItoaNum
import Derived.Test.YtaalojbkjiplcaaGreatDoorPt4
set_option maxRecDepth 100000
set_option maxHeartbeats 1000000
namespace Go.Ch
open Go Go.Ax Go.Proofs Go.Proofs.Tryz
theorem mix:prog.follows .mixedOrders=true:=kR
structure Pt where
 x:Int
 y:Int
 deriving DecidableEq,Inhabited
structure Ap where
 x:Int
 y:Int
 half:Int
 level:Int
 run:Int
 deriving DecidableEq,Inhabited
structure yP where
 name:ByteArray
 kind:Int
 kZ:List Pt
 deriving Inhabited
structure jS where
 name:ByteArray
 aX:List Ap
 over:Int
 buffer:Int
 regions:List yP
 deriving Inhabited
structure eZ where
 x:Int
 y:Int
 side:Int
 dL:Int
 rows:Int
 levels:List Int
 deriving Inhabited
abbrev dS(s:ByteArray):DV:=.val (.string s)
abbrev vS(s:ByteArray):AV:=.s (.d (dS s))
abbrev pt(p:Pt):AV:=.g [.d (dI p.x),.d (dI p.y)]
abbrev ap(p:Ap):AV:=.g [.d (dI p.x),.d (dI p.y),.d (dI p.half),.d (dI p.level),.d (dI p.run)]
def EF(p:Pt):Nat→DV
 |0=>dI p.x
 |1=>dI p.y
 |_=>.bF
def apD(p:Ap):Nat→DV
 |0=>dI p.x
 |1=>dI p.y
 |2=>dI p.half
 |3=>dI p.level
 |4=>dI p.run
 |_=>.bF
def aL5(l:List Pt):Nat→Nat→DV:=fun i=>EF (l.getD i default)
def WZ(l:List Pt):DV:=.fW l.length 2 (aL5 l)
abbrev wL(l:List Pt):AV:=.s (.d (WZ l))
def aNN(l:List Ap):Nat→Nat→DV:=fun i=>apD (l.getD i default)
def xC(l:List Ap):DV:=.fW l.length 5 (aNN l)
def aIG(p:yP):Nat→DV
 |0=>dS p.name
 |1=>dI p.kind
 |2=>WZ p.kZ
 |_=>.bF
abbrev reg(p:yP):AV:=.g [.d (dS p.name),.d (dI p.kind),.d (WZ p.kZ)]
def YX(l:List yP):Nat→Nat→DV:=fun i=>aIG (l.getD i default)
def yM(l:List yP):DV:=.fW l.length 3 (YX l)
abbrev E9(l:List yP):AV:=.s (.d (yM l))
abbrev aLJ(l:List Ap):AV:=.s (.d (xC l))
abbrev chan(c:jS):AV:=.g [.d (dS c.name),.d (xC c.aX),.d (dI c.over),.d (dI c.buffer),.d (yM c.regions)]
abbrev w3(g:eZ):AV:=.g [.d (dI g.x),.d (dI g.y),.d (dI g.side),.d (dI g.dL),.d (dI g.rows),.d (cE g.levels)]
theorem a7{α:Type} [Inhabited α] {l:List α}{i:Nat}(h:i<l.length){d:α}:l.getD i d=l[i]:=by simp[List.getElem?_eq_getElem h]
theorem bL{p:Prop} [Decidable p] (h:decide p=true):p:=of_decide_eq_true h
theorem bG{p:Prop} [Decidable p] (h:decide p=false):¬p:=of_decide_eq_false h
def within(n lo hi:Int):Bool:=decide (n≥lo)&&decide (n≤hi)
def mW(a b c:Pt):Int:=aV (aV (aV (b.x - a.x)*aV (c.y - a.y)) - aV (aV (b.y - a.y)*aV (c.x - a.x)))
def dot(a b c:Pt):Int:=aV (aV (aV (b.x - a.x)*aV (c.x - a.x))+aV (aV (b.y - a.y)*aV (c.y - a.y)))
def iV(a b p:Pt):Bool:=mW a b p==0&&within p.x (mm false a.x b.x) (mm true a.x b.x)&&within p.y (mm false a.y b.y) (mm true a.y b.y)
def QT(n:Int):Int:=if n<0 then -1 else if n>0 then 1 else 0
def meet(a b c d:Pt):Bool:=
 (((iV a b c||iV a b d)||iV c d a)||iV c d b)||(decide (aV (QT (mW a b c)*QT (mW a b d))<0)&&decide (aV (QT (mW c d a)*QT (mW c d b))<0))
def eR(p:Pt):Bool:=within p.x (-1000000) 1000000&&within p.y (-1000000) 1000000
def Ap.pt(a:Ap):Pt:=⟨a.x,a.y⟩
end Go.Ch
namespace Go.Ch
open Go Go.Ax Go.Proofs Go.Proofs.Tryz
theorem eX{cx:Cx}{N:Nat}{ref:List Nat}{c:Code}{σ:St}{K:Exit→St→Prop}(aA:cx.ref=ref)(h:ex Tryz.prog tab N ref [] cx c σ K):AW Tryz.prog cx N c σ K:=ex.sound (rc:=[]) aJ mix aA _ h
theorem eP{f N:Nat}{fn:Func}{c:Code}{args:List AV}{r:AV}{rs:List ResultVar}(hf:Tryz.prog.funcs[f]? =some fn)(hb:fn.body=some c)(hN:fn.ntmps=N)(hc:∀vs w, (callFunc f vs).run Tryz.prog w=.ok (.enter f vs) w) (hl:Nat.ble args.length N=true)(hr:fn.results.toList=rs)(h:∀cx:Cx,cx.ref=[]→ex Tryz.prog tab N [] [] cx c (tR args) (VD tab rs r)):aF Tryz.prog f args r:=fU (rc:=[]) hf hb hN hc aJ mix hl hr h
theorem eW{f N:Nat}{fn:Func}{c:Code}{args:List AV}{r:AV}{rs:List ResultVar}(hf:Tryz.prog.funcs[f]? =some fn)(hb:fn.body=some c)(hN:fn.ntmps=N)(hc:∀vs w, (callFunc f vs).run Tryz.prog w=.ok (.enter f vs) w) (hl:Nat.ble args.length N=true)(hr:fn.results.toList=rs)(h:∀cx:Cx,cx.ref=[]→AW Tryz.prog cx N c (tR args) (VD tab rs r)):aF Tryz.prog f args r:=D8 hf hb hN hc aJ hl hr h
theorem sX{cx:Cx}{N:Nat}{ref:List Nat}{x y:Code}{σ:St}{K:Exit→St→Prop}(aA:cx.ref=ref)(h:ex Tryz.prog tab N ref [] cx x σ (M7 (fun s=>AW Tryz.prog cx N y s K) K)):AW Tryz.prog cx N (.seq x y) σ K:=AW.seq (eX aA h)
theorem cD(n lo hi:Int):aF prog 36 [vI n,vI lo,vI hi] (vB (within n lo hi)):=by
 refine eP func36 rfl rfl call36 rfl rfl fun cx _=>?_
 exact⟨fun h=>h,fun h=>h,fun h=>h,trivial,aC.refl _⟩
theorem aE2(a b c:Pt):aF prog 249 [pt a,pt b,pt c] (vI (mW a b c)):=by
 refine eP func249 rfl rfl call249 rfl rfl fun cx _=>?_
 exact aC.refl _
theorem R0(a b c:Pt):aF prog 333 [pt a,pt b,pt c] (vI (mW a b c)):=by
 refine eP func333 rfl rfl call333 rfl rfl fun cx _=>?_
 exact aC.refl _
theorem aKE(a b c:Pt):aF prog 332 [pt a,pt b,pt c] (vI (dot a b c)):=by
 refine eP func332 rfl rfl call332 rfl rfl fun cx _=>?_
 exact aC.refl _
theorem Sign(n:Int):aF prog 288 [vI n] (vI (QT n)):=by
 refine eP func288 rfl rfl call288 rfl rfl fun cx _=>?_
 refine aI (fun h=>?_) (fun h=>And.intro (fun h'=>?_) (fun h'=>?_))
 ·exact aC.of_eq (by rw[QT,if_pos (bL h)];rfl)
 ·exact aC.of_eq (by rw[QT,if_neg (bG h),if_pos (bL h')];rfl)
 ·exact aC.of_eq (by rw[QT,if_neg (bG h),if_neg (bG h')];rfl)
theorem MR(a b c:Pt):aF prog 250 [pt a,pt b,pt c] (vI (QT (mW a b c))):=by
 refine eP func250 rfl rfl call250 rfl rfl fun cx _=>?_
 exact aB (aE2 a b c) (aB (Sign _) (aC.refl _))
theorem isNaN(n:Int):aF prog 273 [vI n] (vB false):=by
 refine eP func273 rfl rfl call273 rfl rfl fun cx _=>?_
 exact aC.of_eq (by show vB (n !=n)=vB false;simp)
theorem xZ(a b p:Pt):aF prog 199 [pt a,pt b,pt p] (vB (iV a b p)):=by
 refine eP func199 rfl rfl call199 rfl rfl fun cx _=>?_
 refine aB (aE2 a b p) ?_
 repeat first|refine sk ?_|refine st ?_|refine sg ?_
 refine bS (cD _ _ _) ?_
 repeat first|refine sk ?_|refine st ?_|refine sg ?_
 refine bS (cD _ _ _) ?_
 repeat first|refine sk ?_|refine st ?_|refine sg ?_
 exact aC.refl _
theorem aNP(a b c d:Pt):aF prog 200 [pt a,pt b,pt c,pt d] (vB (meet a b c d)):=by
 refine eP func200 rfl rfl call200 rfl rfl fun cx _=>?_
 refine aB (xZ a b c) ?_
 repeat first|refine sk ?_|refine st ?_|refine sg ?_
 refine bS (xZ a b d) ?_
 repeat first|refine sk ?_|refine st ?_|refine sg ?_
 refine bS (xZ c d a) ?_
 repeat first|refine sk ?_|refine st ?_|refine sg ?_
 refine bS (xZ c d b) ?_
 repeat first|refine sk ?_|refine st ?_|refine sg ?_
 refine aI (fun h=>?_) (fun h=>?_)
 ·exact aC.lit (by rw[meet,h];rfl)
 ·refine aB (MR a b c) ?_
  refine aB (MR a b d) ?_
  repeat first|refine sk ?_|refine st ?_|refine sg ?_
  refine bS (MR c d a) ?_
  repeat first|refine sk ?_|refine st ?_|refine sg ?_
  refine bS (MR c d b) ?_
  repeat first|refine sk ?_|refine st ?_|refine sg ?_
  refine aD ?_
  exact aC.of_eq (by rw[meet,h];rfl)
theorem on(a b p:Pt):aF prog 286 [pt a,pt b,pt p] (vB (iV a b p)):=by
 refine eP func286 rfl rfl call286 rfl rfl fun cx _=>?_
 refine aB (R0 a b p) ?_
 repeat first|refine sk ?_|refine st ?_|refine sg ?_
 refine aC.of_eq ?_
 show vB _=vB _
 simp only [iV,within,ge_iff_le,Bool.and_assoc]
theorem Compare(n m:Int):aF prog 227 [vI n,vI m] (vI (QT (n - m))):=by
 refine eP func227 rfl rfl call227 rfl rfl fun cx _=>?_
 refine aB (isNaN n) ?_
 refine aB (isNaN m) ?_
 refine aI (fun h=>by cases h) (fun _=>And.intro (fun h=>by cases h) (fun _=>And.intro (fun h=>?_) (fun h=>And.intro (fun h'=>?_) (fun h'=>?_))))
 ·have:=bL h
  exact aC.of_eq (by rw[QT,if_pos oM];rfl)
 ·have:=bL h'
  exact aC.of_eq (by rw[QT,if_neg oM,if_pos oM];rfl)
 ·have:=bG h
  have:=bG h'
  exact aC.of_eq (by rw[QT,if_neg oM,if_neg oM];rfl)
theorem side(a b c:Pt):aF prog 335 [pt a,pt b,pt c] (vI (QT (mW a b c))):=by
 refine eP func335 rfl rfl call335 rfl rfl fun cx _=>?_
 refine aB (R0 a b c) ?_
 refine aB (Compare _ 0) ?_
 exact aC.of_eq (by show vI _=vI _;rw[Int.sub_zero])
theorem aKB(p:Pt):aF prog 284 [pt p] (vB (!eR p)):=by
 refine eP func284 rfl rfl call284 rfl rfl fun cx _=>?_
 repeat first|refine sk ?_|refine st ?_|refine sg ?_
 refine aC.of_eq ?_
 show vB _=vB _
 refine congrArg vB ?_
 rw[Bool.eq_iff_iff]
 simp[eR,within]
 omega
theorem outside(n lo hi:Int):aF prog 72 [vI n,vI lo,vI hi] (vB (!within n lo hi)):=by
 refine eP func72 rfl rfl call72 rfl rfl fun cx _=>?_
 repeat first|refine sk ?_|refine st ?_|refine sg ?_
 refine aC.of_eq ?_
 show vB _=vB _
 refine congrArg vB ?_
 rw[Bool.eq_iff_iff]
 simp[within]
theorem aKC(a b c d:Pt):aF prog 287 [pt a,pt b,pt c,pt d] (vB (meet a b c d)):=by
 refine eP func287 rfl rfl call287 rfl rfl fun cx _=>?_
 refine aB (on a b c) ?_
 repeat first|refine sk ?_|refine st ?_|refine sg ?_
 refine bS (on a b d) ?_
 repeat first|refine sk ?_|refine st ?_|refine sg ?_
 refine bS (on c d a) ?_
 repeat first|refine sk ?_|refine st ?_|refine sg ?_
 refine bS (on c d b) ?_
 repeat first|refine sk ?_|refine st ?_|refine sg ?_
 refine aI (fun h=>?_) (fun h=>?_)
 ·exact aC.lit (by rw[meet,h];rfl)
 ·refine aB (side a b c) ?_
  refine aB (side a b d) ?_
  repeat first|refine sk ?_|refine st ?_|refine sg ?_
  refine bS (side c d a) ?_
  repeat first|refine sk ?_|refine st ?_|refine sg ?_
  refine bS (side c d b) ?_
  repeat first|refine sk ?_|refine st ?_|refine sg ?_
  refine aD ?_
  exact aC.of_eq (by rw[meet,h];rfl)
theorem place(a:Ap):aF prog 133 [ap a] (pt a.pt):=by
 refine eP func133 rfl rfl call133 rfl rfl fun cx _=>?_
 exact aC.refl _
theorem Place(a:Ap):aF prog 91 [ap a] (pt a.pt):=by
 refine eP func91 rfl rfl call91 rfl rfl fun cx _=>?_
 exact aC.refl _
theorem aC3(p:Pt):aF prog 132 [pt p] (vB (eR p)):=by
 refine eP func132 rfl rfl call132 rfl rfl fun cx _=>?_
 refine aB (outside _ _ _) ?_
 repeat first|refine sk ?_|refine st ?_|refine sg ?_
 refine bS (outside _ _ _) ?_
 repeat first|refine sk ?_|refine st ?_|refine sg ?_
 refine aC.of_eq ?_
 show vB _=vB _
 simp[eR]
theorem Good(p:Pt):aF prog 90 [pt p] (vB (eR p)):=by
 refine eP func90 rfl rfl call90 rfl rfl fun cx _=>?_
 refine aB (cD _ _ _) ?_
 repeat first|refine sk ?_|refine st ?_|refine sg ?_
 refine bS (cD _ _ _) ?_
 repeat first|refine sk ?_|refine st ?_|refine sg ?_
 exact aC.refl _
theorem down(a b:Int)(hb:b≠0):aF prog 358 [vI a,vI b] (vI (if a.tmod b<0 then aV (aV (a.tdiv b) - 1)else aV (a.tdiv b))):=by
 refine eP func358 rfl rfl call358 rfl rfl fun cx _=>?_
 refine ob hb ?_
 refine ob hb ?_
 refine aD ?_
 refine aI (fun h=>?_) (fun h=>?_)
 ·refine aC.of_eq ?_
  rw[if_pos (bL h)];rfl
 ·exact aC.of_eq (by rw[if_neg (bG h)];rfl)
def lvl(off half qF run:Int):Int×Bool:=
 bif decide (off≤half)then(qF,true)else bif run==0 then(0,false)else(aV (qF+aV (Int.tdiv (aV (off - half)) run)),decide (aV (qF+aV (Int.tdiv (aV (off - half)) run))≤20000))
abbrev part(off half qF run:Int):AV:=.g [.d (dI off),.d (dI half),.d (dI qF),.d (dI run)]
abbrev rIB(r:Int×Bool):AV:=.t [.s (.d (.val (.int .i64 r.1))),.s (.d (.val (.bool r.2)))]
theorem aC.ib{n m:Int}{b c:Bool}(h:n=m)(k:b=c):aC (.t [.s (.d (.val (.int .i64 n))),.s (.d (.lit b))]) (.t [.s (.d (.val (.int .i64 m))),.s (.d (.val (.bool c)))]):=by
 subst h;subst k;exact aC.t ⟨aL.refl _,fun _ _ r=>r,oO⟩
theorem level(o h b r:Int):aF prog 280 [part o h b r] (rIB (lvl o h b r)):=by
 refine eP func280 rfl rfl call280 rfl rfl fun cx _=>?_
 refine aI (fun h=>?_) (fun h=>?_)
 ·exact aC.ib (by rw[lvl,h];rfl) (by rw[lvl,h];rfl)
 refine aI (fun h'=>?_) (fun h'=>?_)
 ·exact aC.ib (by rw[lvl,h,h'];rfl) (by rw[lvl,h,h'];rfl)
 refine oi (by simpa using h') ?_
 refine aD ?_
 exact aC.of_eq (by rw[lvl,h,h'];rfl)
def E2(g:eZ)(i:Int):Pt:=⟨aV (g.x+aV (i.tmod g.dL*g.side)),aV (g.y+aV (aV (i.tdiv g.dL)*g.side))⟩
def dG(g:eZ)(i:Int):Pt:=⟨aV ((E2 g i).x+aV (g.side.tdiv 2)),aV ((E2 g i).y+aV (g.side.tdiv 2))⟩
theorem aDT(g:eZ)(i:Int)(h:g.dL≠0):aF prog 233 [w3 g,vI i] (pt (E2 g i)):=by
 refine eP func233 rfl rfl call233 rfl rfl fun cx _=>?_
 refine oi h ?_
 refine oi h ?_
 refine aD ?_
 refine aC.of_eq ?_
 rfl
theorem aDV(g:eZ)(i:Int)(h:g.dL≠0):aF prog 181 [w3 g,vI i] (pt (dG g i)):=by
 refine eP func181 rfl rfl call181 rfl rfl fun cx _=>?_
 refine aB (aDT g i h) ?_
 refine oi dC ?_
 refine oi dC ?_
 refine aC.of_eq ?_
 rfl
def alike(a b:eZ):Bool:=a.x==b.x&&a.y==b.y&&a.side==b.side&&a.dL==b.dL&&a.rows==b.rows
theorem HD(l:List Pt)(i:Nat)(hl:l≠[]):aF prog 198 [wL l,vI i] (pt (l.getD (i%l.length) default)):=by
 have hlen:0<l.length:=List.length_pos_iff.2 hl
 have hm:=Nat.mod_lt i hlen
 have e:(i:Int).tmod l.length=((i%l.length:Nat):Int):=by
  rw[Int.tmod_eq_emod_of_nonneg oM];rfl
 refine eP func198 rfl rfl call198 rfl rfl fun cx _=>?_
 refine oi oM ?_
 refine oi (by rw[e];exact⟨oM,oM⟩) ?_
 refine aC.of_eq ?_
 show pt (l.getD ((i:Int).tmod l.length).toNat default)=_
 rw[e];rfl
theorem L1(l:List Pt)(i:Nat)(hl:l≠[]):aF prog 285 [wL l,vI i] (pt (l.getD (i%l.length) default)):=by
 have hlen:0<l.length:=List.length_pos_iff.2 hl
 have hm:=Nat.mod_lt i hlen
 have e:(i:Int).tmod l.length=((i%l.length:Nat):Int):=by
  rw[Int.tmod_eq_emod_of_nonneg oM];rfl
 refine eP func285 rfl rfl call285 rfl rfl fun cx _=>?_
 refine oi oM ?_
 refine oi (by rw[e];exact⟨oM,oM⟩) ?_
 refine aC.of_eq ?_
 show pt (l.getD ((i:Int).tmod l.length).toNat default)=_
 rw[e];rfl
def cJ{α:Type}(p:α→Bool):List α→Nat→Int
 |[],_=> -1
 |x::r,k=>bif p x then k else cJ p r (k+1)
theorem jV{α:Type}(p:α→Bool):∀(l:List α) (k:Nat),decide (cJ p l k≥0)=l.any p
 |[],_=>rfl
 |x::r,k=>by
  rw[cJ,List.any_cons]
  cases h:p x with
  |true=>simp
  |false=>simpa using jV p r (k+1)
theorem RF(l:List Int)(hl:l.length≤9223372036854775807)(f k:Nat)(c:Nat→DV)(p:Int→Bool)(hp:∀x∈l,aF prog f (vI x::iJ c k 0) (vB (p x))):
  aF prog 131 [pK l,.s (.d (.dR f k c))] (vI (cJ p l 0)):=by
 refine eP func131 rfl rfl call131 rfl rfl fun cx aA=>?_
 refine AW.loop (fun i:Nat=>⟨[(0,pK l),(1,.s (.d (.dR f k c))),(7,vI l.length),(8,vI i),(4,vI 0)],[]⟩) (fun i=>i≤l.length∧cJ p l 0=cJ p (l.drop i) i) (fun i=>l.length - i) 0 ⟨Nat.zero_le _,rfl⟩ ?_ ?_
 ·refine Sub.bO aA trivial ⟨rQ,rQ,rQ,rQ,rQ,oO⟩
 ·rintro i ⟨hi,he⟩
  refine eX aA ?_
  refine aI (fun h=>?_) (fun h=>?_)
  ·have h:(i:Int)<l.length:=bL h
   have bK:i<l.length:=oM
   have hd:l.drop i=l[i]::l.drop (i+1):=List.drop_eq_getElem_cons bK
   have hg:l.getD i default=l[i]:=a7 bK
   refine oi ⟨oM,oM⟩ ?_
   refine aB ((hp (l.getD i default) (by rw[hg];simp)).conv (args':=_) ⟨aL.refl _,rR.iJ⟩) ?_
   rw[hd,cJ]at he
   rw[hg]
   refine aI (fun h=>?_) (fun h=>?_)
   ·refine aC.of_eq ?_
    rw[he,h];rfl
   ·refine⟨i+1,⟨oM,?_⟩,oM,?_⟩
    ·rw[he,h];rfl
    ·refine Sub.bO aA trivial ⟨rQ,rQ,rQ,⟨rfl,?_⟩,rQ,oO⟩
     exact congrArg vI (aG oM oM)
  ·have h:¬(i:Int)<l.length:=bG h
   have bK:i=l.length:=oM
   subst bK
   refine aC.of_eq ?_
   rw[he,List.drop_length];rfl
theorem sY(l:List Int)(hl:l.length≤9223372036854775807)(f k:Nat)(c:Nat→DV)(p:Int→Bool)(hp:∀x∈l,aF prog f (vI x::iJ c k 0) (vB (p x))):
  aF prog 68 [pK l,.s (.d (.dR f k c))] (vB (l.any p)):=by
 refine eP func68 rfl rfl call68 rfl rfl fun cx aA=>?_
 refine aB (RF l hl f k c p hp) ?_
 exact aC.of_eq (congrArg vB (jV p l 0))
theorem RE(l:List Pt)(hl:l.length≤9223372036854775807)(f k:Nat)(c:Nat→DV)(p:Pt→Bool)(hp:∀x∈l,aF prog f (pt x::iJ c k 0) (vB (p x))):
  aF prog 334 [wL l,.s (.d (.dR f k c))] (vI (cJ p l 0)):=by
 refine eP func334 rfl rfl call334 rfl rfl fun cx aA=>?_
 refine AW.loop (fun i:Nat=>⟨[(0,wL l),(1,.s (.d (.dR f k c))),(7,vI l.length),(8,vI i),(4,vI 0)],[]⟩) (fun i=>i≤l.length∧cJ p l 0=cJ p (l.drop i) i) (fun i=>l.length - i) 0 ⟨Nat.zero_le _,rfl⟩ ?_ ?_
 ·refine Sub.bO aA trivial ⟨rQ,rQ,rQ,rQ,rQ,oO⟩
 ·rintro i ⟨hi,he⟩
  refine eX aA ?_
  refine aI (fun h=>?_) (fun h=>?_)
  ·have h:(i:Int)<l.length:=bL h
   have bK:i<l.length:=oM
   have hd:l.drop i=l[i]::l.drop (i+1):=List.drop_eq_getElem_cons bK
   have hg:l.getD i default=l[i]:=a7 bK
   refine oi ⟨oM,oM⟩ ?_
   refine aB ((hp (l.getD i default) (by rw[hg];simp)).conv (args':=_) ⟨⟨aL.refl _,aL.refl _,oO⟩,rR.iJ⟩) ?_
   rw[hd,cJ]at he
   rw[hg]
   refine aI (fun h=>?_) (fun h=>?_)
   ·refine aC.of_eq ?_
    rw[he,h];rfl
   ·refine⟨i+1,⟨oM,?_⟩,oM,?_⟩
    ·rw[he,h];rfl
    ·refine Sub.bO aA trivial ⟨rQ,rQ,rQ,⟨rfl,?_⟩,rQ,oO⟩
     exact congrArg vI (aG oM oM)
  ·have h:¬(i:Int)<l.length:=bG h
   have bK:i=l.length:=oM
   subst bK
   refine aC.of_eq ?_
   rw[he,List.drop_length];rfl
theorem W1(l:List Pt)(hl:l.length≤9223372036854775807)(f k:Nat)(c:Nat→DV)(p:Pt→Bool)(hp:∀x∈l,aF prog f (pt x::iJ c k 0) (vB (p x))):
  aF prog 283 [wL l,.s (.d (.dR f k c))] (vB (l.any p)):=by
 refine eP func283 rfl rfl call283 rfl rfl fun cx aA=>?_
 refine aB (RE l hl f k c p hp) ?_
 exact aC.of_eq (congrArg vB (jV p l 0))
theorem GI(l:List yP)(hl:l.length≤9223372036854775807)(f k:Nat)(c:Nat→DV)(p:yP→Bool)(hp:∀x∈l,aF prog f (reg x::iJ c k 0) (vB (p x))):
  aF prog 148 [E9 l,.s (.d (.dR f k c))] (vI (cJ p l 0)):=by
 refine eP func148 rfl rfl call148 rfl rfl fun cx aA=>?_
 refine AW.loop (fun i:Nat=>⟨[(0,E9 l),(1,.s (.d (.dR f k c))),(7,vI l.length),(8,vI i),(4,vI 0)],[]⟩) (fun i=>i≤l.length∧cJ p l 0=cJ p (l.drop i) i) (fun i=>l.length - i) 0 ⟨Nat.zero_le _,rfl⟩ ?_ ?_
 ·refine Sub.bO aA trivial ⟨rQ,rQ,rQ,rQ,rQ,oO⟩
 ·rintro i ⟨hi,he⟩
  refine eX aA ?_
  refine aI (fun h=>?_) (fun h=>?_)
  ·have h:(i:Int)<l.length:=bL h
   have bK:i<l.length:=oM
   have hd:l.drop i=l[i]::l.drop (i+1):=List.drop_eq_getElem_cons bK
   have hg:l.getD i default=l[i]:=a7 bK
   refine oi ⟨oM,oM⟩ ?_
   refine aB ((hp (l.getD i default) (by rw[hg];simp)).conv (args':=_) ⟨⟨aL.refl _,aL.refl _,aL.refl _,oO⟩,rR.iJ⟩) ?_
   rw[hd,cJ]at he
   rw[hg]
   refine aI (fun h=>?_) (fun h=>?_)
   ·refine aC.of_eq ?_
    rw[he,h];rfl
   ·refine⟨i+1,⟨oM,?_⟩,oM,?_⟩
    ·rw[he,h];rfl
    ·refine Sub.bO aA trivial ⟨rQ,rQ,rQ,⟨rfl,?_⟩,rQ,oO⟩
     exact congrArg vI (aG oM oM)
  ·have h:¬(i:Int)<l.length:=bG h
   have bK:i=l.length:=oM
   subst bK
   refine aC.of_eq ?_
   rw[he,List.drop_length];rfl
theorem W0(l:List yP)(hl:l.length≤9223372036854775807)(f k:Nat)(c:Nat→DV)(p:yP→Bool)(hp:∀x∈l,aF prog f (reg x::iJ c k 0) (vB (p x))):
  aF prog 134 [E9 l,.s (.d (.dR f k c))] (vB (l.any p)):=by
 refine eP func134 rfl rfl call134 rfl rfl fun cx aA=>?_
 refine aB (GI l hl f k c p hp) ?_
 exact aC.of_eq (congrArg vB (jV p l 0))
theorem XA(n lo hi:Int)(f g:Nat→DV)(hf:f 0=dI lo)(hg:g 0=dI hi):aF prog 130 [vI n,.s (.d (.rp 1 f)),.s (.d (.rp 1 g))] (vB (!within n lo hi)):=by
 have h1:rR [vI n,.s (.d (.rp 1 f)),.s (.d (.rp 1 g))] [vI n,.s (.d (.rp 1 fun _=>dI lo)),.s (.d (.rp 1 fun _=>dI hi))]:=
  ⟨aL.refl _,aL.rp fun j hj=>aL.of_eq (by rw[show j=0 by omega];exact hf),aL.rp fun j hj=>aL.of_eq (by rw[show j=0 by omega];exact hg),oO⟩
 refine aF.conv ?_ h1
 refine eP func130 rfl rfl call130 rfl rfl fun cx _=>?_
 repeat first|refine sk ?_|refine st ?_|refine sg ?_
 refine aC.of_eq ?_
 show vB _=vB _
 refine congrArg vB ?_
 rw[Bool.eq_iff_iff]
 simp[within]
def IC(lo hi:Int)(l:List Int):Bool:=l.any fun n=> !within n lo hi
theorem xG(lo hi:Int)(l:List Int)(hl:l.length≤9223372036854775807):aF prog 67 [vI lo,vI hi,pK l] (vB (!IC lo hi l)):=by
 refine eP func67 rfl rfl call67 rfl rfl fun cx _=>?_
 refine aB (sY l hl 130 2 _ (fun n=> !within n lo hi) (fun x _=>XA x lo hi _ _ rfl rfl)) ?_
 exact aC.refl _
theorem aC1(n:Int):aF prog 70 [vI n] (vB (within n (-20000) 20000)):=by
 refine eP func70 rfl rfl call70 rfl rfl fun cx _=>?_
 refine aB ((xG (-20000) 20000 [n] sM).conv (args':=_) ⟨aL.refl _,aL.refl _,aL.fW fun i j hi hj=>?_,oO⟩) ?_
 ·have:i=0:=by have:i<1:=hi;omega
  have:j=0:=by have:j<1:=hj;omega
  subst i j;exact aL.refl _
 exact aC.of_eq (by show vB _=vB _;simp[IC])
def iR(n:Int):Bool:=n !=30000&& !within n (-20000) 20000
theorem aDU(n:Int):aF prog 69 [vI n] (vB (iR n)):=by
 refine eP func69 rfl rfl call69 rfl rfl fun cx _=>?_
 repeat first|refine sk ?_|refine st ?_|refine sg ?_
 refine bS (aC1 n) ?_
 repeat first|refine sk ?_|refine st ?_|refine sg ?_
 exact aC.refl _
def e1(g:eZ):Bool:= !(within g.x (-1000000) 1000000)|| !(within g.y (-1000000) 1000000)|| !(within g.side 100 10000)|| !(within g.dL 1 1024)|| !(within g.rows 1 1024)
def jP(g:eZ):Int:=
 bif e1 g then 2
 else bif decide (aV (g.dL*g.rows)>1024)then 8
 else bif decide (aV (g.x+aV (g.dL*g.side))>1000000)||decide (aV (g.y+aV (g.rows*g.side))>1000000)then 2
 else bif (g.levels.length:Int) !=aV (g.dL*g.rows)then 10
 else bif g.levels.any iR then 2 else 0
theorem SQ(g:eZ)(hl:g.levels.length≤9223372036854775807):aF prog 25 [w3 g] (vI (jP g)):=by
 refine eP func25 rfl rfl call25 rfl rfl fun cx _=>?_
 have two:∀(a b:Int) (f:Nat→Nat→DV) (h0:f 0 0=dI a) (h1:f 1 0=dI b),aL (.fW 2 1 f) (cE [a,b]):=by
  intro a b f h0 h1
  refine aL.fW fun i j hi hj=>?_
  have:j=0:=oM
  subst j
  match i,hi with
  |0,_=>exact aL.of_eq h0
  |1,_=>exact aL.of_eq h1
 have one:∀(a:Int) (f:Nat→Nat→DV) (h0:f 0 0=dI a),aL (.fW 1 1 f) (cE [a]):=by
  intro a f h0
  refine aL.fW fun i j hi hj=>?_
  have:j=0:=oM
  have:i=0:=oM
  subst i j
  exact aL.of_eq h0
 refine aB ((xG (-1000000) 1000000 [g.x,g.y] sM).conv (args':=_) ⟨aL.refl _,aL.refl _,two _ _ _ rfl rfl,oO⟩) ?_
 repeat first|refine sk ?_|refine st ?_|refine sg ?_
 refine aI (fun h1=>?_) (fun h1=>?_)
 ·refine ob (by rw[h1];rfl) ?_
  refine aB ((xG 100 10000 [g.side] sM).conv (args':=_) ⟨aL.refl _,aL.refl _,one _ _ rfl,oO⟩) ?_
  repeat first|refine sk ?_|refine st ?_|refine sg ?_
  refine aI (fun h2=>?_) (fun h2=>?_)
  ·skip
   refine ob (by rw[h2];rfl) ?_
   refine ob (by rw[h2];rfl) ?_
   refine aB ((xG 1 1024 [g.dL,g.rows] sM).conv (args':=_) ⟨aL.refl _,aL.refl _,two _ _ _ rfl rfl,oO⟩) ?_
   refine aI (fun h3=>?_) (fun h3=>?_)
   ·exact aC.of_eq (by rw[jP,show e1 g=true by simp[IC]at h1 h2 h3;simp[e1,h1,h2,h3]];rfl)
   have he:e1 g=false:=by simp[IC]at h1 h2 h3;simp[e1,h1,h2,h3]
   refine aI (fun h4=>?_) (fun h4=>?_)
   ·exact aC.of_eq (by rw[jP,he,h4];rfl)
   repeat first|refine sk ?_|refine st ?_|refine sg ?_
   refine aI (fun h5=>?_) (fun h5=>?_)
   ·exact aC.of_eq (by rw[jP,he,h4,h5];rfl)
   refine aI (fun h6=>?_) (fun h6=>?_)
   ·exact aC.of_eq (by rw[jP,he,h4,h5,h6];rfl)
   refine aB ((sY g.levels hl 69 0 (fun _=>.bF) iR (fun x _=>aDU x)).conv (args':=_) ⟨aL.refl _,aL.dR fun j hj=>absurd hj (Nat.not_lt_zero j),oO⟩) ?_
   refine aI (fun h7=>?_) (fun h7=>?_)
   ·exact aC.of_eq (by rw[jP,he,h4,h5,h6,h7];rfl)
   ·exact aC.of_eq (by rw[jP,he,h4,h5,h6,h7];rfl)
  ·exact aC.of_eq (by rw[jP,show e1 g=true by simp[IC]at h1 h2;simp[e1,h1,h2]];rfl)
 ·exact aC.of_eq (by rw[jP,show e1 g=true by simp[IC]at h1;simp[e1,h1]];rfl)
theorem US(n:Int):aF prog 89 [vI n] (vB (within n (-20000) 20000)):=by
 refine eP func89 rfl rfl call89 rfl rfl fun cx _=>?_
 refine aB (cD _ _ _) ?_
 exact aC.refl _
theorem aHW(g:eZ)(hl:g.levels.length≤9223372036854775807):aF prog 33 [w3 g] (vI (jP g)):=by
 refine eP func33 rfl rfl call33 rfl rfl fun cx _=>?_
 refine aB (cD _ _ _) ?_
 repeat first|refine sk ?_|refine st ?_|refine sg ?_
 refine bS (cD _ _ _) ?_
 repeat first|refine sk ?_|refine st ?_|refine sg ?_
 refine bS (cD _ _ _) ?_
 repeat first|refine sk ?_|refine st ?_|refine sg ?_
 refine bS (cD _ _ _) ?_
 repeat first|refine sk ?_|refine st ?_|refine sg ?_
 refine bS (cD _ _ _) ?_
 repeat first|refine sk ?_|refine st ?_|refine sg ?_
 refine aI (fun h=>?_) (fun h=>?_)
 ·exact aC.of_eq (by rw[jP,e1,h];rfl)
 refine aI (fun h2=>?_) (fun h2=>?_)
 ·exact aC.of_eq (by rw[jP,e1,h,h2];rfl)
 repeat first|refine sk ?_|refine st ?_|refine sg ?_
 refine aI (fun h3=>?_) (fun h3=>?_)
 ·exact aC.of_eq (by rw[jP,e1,h,h2,h3];rfl)
 refine aI (fun h4=>?_) (fun h4=>?_)
 ·exact aC.of_eq (by rw[jP,e1,h,h2,h3,h4];rfl)
 refine AW.loop (fun i:Nat=>⟨[(1,.s (.ptr 1 0)),(3,vI i)],[(1,some (.cells [.d (dI g.x),.d (dI g.y),.d (dI g.side),.d (dI g.dL),.d (dI g.rows),.d (cE g.levels)]))]⟩) (fun i=>i≤g.levels.length∧g.levels.any iR=(g.levels.drop i).any iR) (fun i=>g.levels.length - i) 0 ⟨Nat.zero_le _,rfl⟩ ?_ ?_
 ·refine Sub.bO (by assumption) ⟨rQ,oO⟩ ⟨rQ,rQ,oO⟩
 ·rintro i ⟨hi,hj⟩
  refine ex.sound (rc:=[]) aJ mix (by assumption) _ ?_
  refine aI (fun h5=>?_) (fun h5=>?_)
  ·have h5:(i:Int)<g.levels.length:=bL h5
   have bK:i<g.levels.length:=oM
   have hd:g.levels.drop i=g.levels[i]::g.levels.drop (i+1):=List.drop_eq_getElem_cons bK
   have hg:g.levels.getD i 0=g.levels[i]:=a7 bK
   refine oi ⟨oM,oM⟩ ?_
   repeat first|refine sk ?_|refine st ?_|refine sg ?_
   refine oi ?_ ?_
   ·exact fun _=>⟨oM,oM⟩
   repeat first|refine sk ?_|refine st ?_|refine sg ?_
   refine bS (US _) ?_
   repeat first|refine sk ?_|refine st ?_|refine sg ?_
   rw[hd,List.any_cons]at hj
   refine aI (fun h6=>?_) (fun h6=>?_)
   ·have h6:iR g.levels[i]=true:=hg▸h6
    refine aC.of_eq ?_
    rw[jP,e1,h,h2,h3,h4,hj,h6];rfl
   ·have h6:iR g.levels[i]=false:=hg▸h6
    refine⟨i+1,⟨oM,by rw[hj,h6];rfl⟩,oM,?_⟩
    refine Sub.bO (by assumption) ⟨rQ,oO⟩ ⟨rQ,⟨rfl,?_⟩,oO⟩
    exact congrArg vI (aG oM oM)
  ·have h5:¬(i:Int)<g.levels.length:=bG h5
   have bK:i=g.levels.length:=oM
   refine aC.of_eq ?_
   rw[jP,e1,h,h2,h3,h4,hj,bK,List.drop_length];rfl
theorem WO{g:eZ}(h:jP g=0):1≤g.dL∧g.dL≤1024:=by
 cases he:e1 g with
 |true=>rw[jP,he]at h;cases h
 |false=>
  simp[e1,within]at he
  omega
theorem aNJ(g:eZ)(i:Int)(he:jP g=0)(h0:0≤i)(hi:i<g.levels.length)(hl:g.levels.length≤9223372036854775807):aF prog 180 [w3 g,vI i] (vI 0):=by
 refine eP func180 rfl rfl call180 rfl rfl fun cx _=>?_
 refine aB (SQ g hl) ?_
 refine aI (fun h=>?_) (fun h=>?_)
 ·rw[he]at h;cases h
 refine aB ((xG 0 (aV (g.levels.length - 1)) [i] sM).conv (args':=_) ⟨aL.refl _,aL.refl _,aL.fW fun i j hi hj=>?_,oO⟩) ?_
 ·have:i=0:=by have:i<1:=hi;omega
  have:j=0:=by have:j<1:=hj;omega
  subst i j;exact aL.refl _
 refine aI (fun h=>?_) (fun h=>?_)
 ·rw[aG oM oM]at h
  simp[IC,within]at h
  omega
 ·exact aC.of_eq rfl
theorem MM(g:eZ)(i:Int)(he:jP g=0)(h0:0≤i)(hi:i<g.levels.length)(hl:g.levels.length≤9223372036854775807):aF prog 121 [w3 g,vI i] (.t [.g [.d (dI (dG g i).x),.d (dI (dG g i).y)],.s (.d (dI 0))]):=by
 refine eP func121 rfl rfl call121 rfl rfl fun cx _=>?_
 refine aB (aNJ g i he h0 hi hl) ?_
 refine aI (fun h=>by cases h) (fun _=>?_)
 refine aB (aDV g i (by have:=WO he;omega)) ?_
 exact aC.of_eq rfl
theorem aDR(g:eZ)(i:Int)(he:jP g=0)(h0:0≤i)(hi:i<g.levels.length)(hl:g.levels.length≤9223372036854775807):aF prog 232 [w3 g,vI i] (pt (dG g i)):=by
 refine eP func232 rfl rfl call232 rfl rfl fun cx _=>?_
 refine aB (MM g i he h0 hi hl) ?_
 exact aC.of_eq rfl
def u8(s:ByteArray)(i:Nat):Int:=(s[i]!.toNat:Int)
def letter(c:Int):Bool:=(decide (c≥97)&&decide (c≤122))||(decide (c≥65)&&decide (c≤90))
def vM(i:Int)(c:Int):Bool:= !letter c&&(i==0|| !((decide (c≥48)&&decide (c≤57))||c==45))
theorem xY(i c:Int):(!letter c&&(i==0||(c !=45&&(decide (c<48)||decide (c>57)))))=vM i c:=by
 rw[vM,Bool.eq_iff_iff]
 simp
 intro _
 omega
def fI(s:ByteArray):Nat→Nat→Bool
 |0,_=>false
 |n+1,i=>vM i (u8 s i)||fI s n (i+1)
def isName(s:ByteArray):Bool:= !(decide ((s.size:Int)<1)||decide ((s.size:Int)>12))&& !fI s s.size 0
theorem LP(s:ByteArray):isName s=(!(s.toList==(ByteArray.mk #[]).toList||decide ((s.size:Int)>12))&& !fI s s.size 0):=by
 have:decide ((s.size:Int)<1)=(s.toList==(ByteArray.mk #[]).toList):=by
  rw[Bool.eq_iff_iff]
  rw[show((s.toList==(ByteArray.mk #[]).toList)=true)=(s.data.toList=[]) by rw[ByteArray.toList_eq,ByteArray.toList_eq];simp]
  have h1:s.size=s.data.toList.length:=by show s.data.size=_;simp
  rw[←List.length_eq_zero_iff,←h1]
  rw[decide_eq_true_iff]
  omega
 rw[isName,this]
theorem named(s:ByteArray)(hl:s.size≤9223372036854775807):aF prog 71 [vS s] (vB (isName s)):=by
 refine eP func71 rfl rfl call71 rfl rfl fun cx aA=>?_
 repeat refine aR ?_
 refine aI (fun h=>?_) (fun h=>?_)
 ·exact aC.lit (by rw[LP,h];rfl)
 refine AW.loop (fun i:Nat=>⟨[(0,vS s),(15,vI s.size),(16,vI i),(2,.s (.d (.lit false)))],[]⟩) (fun i=>i≤s.size∧fI s s.size 0=fI s (s.size - i) i) (fun i=>s.size - i) 0 ⟨Nat.zero_le _,rfl⟩ ?_ ?_
 ·refine Sub.bO aA trivial ⟨rQ,rQ,rQ,rQ,oO⟩
 ·rintro i ⟨hi,hj⟩
  refine eX aA ?_
  refine aI (fun h5=>?_) (fun h5=>?_)
  ·have h5:(i:Int)<s.size:=bL h5
   rw[show s.size - i=(s.size - (i+1))+1 by omega,fI]at hj
   refine oi ⟨oM,oM⟩ ?_
   repeat refine aR ?_
   refine aI (fun h6=>?_) (fun h6=>?_)
   ·have h6:vM i (u8 s i)=true:=h6
    exact aC.lit (by rw[LP,h,hj,h6];rfl)
   ·have h6:vM i (u8 s i)=false:=h6
    refine⟨i+1,⟨oM,by rw[hj,h6];rfl⟩,oM,?_⟩
    refine Sub.bO aA trivial ⟨rQ,rQ,⟨rfl,?_⟩,rQ,oO⟩
    exact congrArg vI (aG oM oM)
  ·have h5:¬(i:Int)<s.size:=bG h5
   have bK:i=s.size:=oM
   exact aC.lit (by rw[LP,h,hj,bK,Nat.sub_self];rfl)
theorem rT(s:ByteArray)(hl:s.size≤9223372036854775807):aF prog 32 [vS s] (vB (isName s)):=by
 refine eP func32 rfl rfl call32 rfl rfl fun cx aA=>?_
 repeat refine aR ?_
 refine aI (fun h=>?_) (fun h=>?_)
 ·exact aC.lit (by rw[isName,h];rfl)
 refine AW.loop (fun i:Nat=>⟨[(0,vS s),(3,vI i),(2,.s (.d (.lit false)))],[]⟩) (fun i=>i≤s.size∧fI s s.size 0=fI s (s.size - i) i) (fun i=>s.size - i) 0 ⟨Nat.zero_le _,rfl⟩ ?_ ?_
 ·refine Sub.bO aA trivial ⟨rQ,rQ,rQ,oO⟩
 ·rintro i ⟨hi,hj⟩
  refine eX aA ?_
  refine aI (fun h5=>?_) (fun h5=>?_)
  ·have h5:(i:Int)<s.size:=bL h5
   rw[show s.size - i=(s.size - (i+1))+1 by omega,fI]at hj
   refine oi ⟨oM,oM⟩ ?_
   repeat refine aR ?_
   refine aI (fun h6=>?_) (fun h6=>?_)
   ·have h6:vM i (u8 s i)=true:=(xY i (u8 s i)).symm.trans h6
    exact aC.lit (by rw[isName,h,hj,h6];rfl)
   ·have h6:vM i (u8 s i)=false:=(xY i (u8 s i)).symm.trans h6
    refine⟨i+1,⟨oM,by rw[hj,h6];rfl⟩,oM,?_⟩
    refine Sub.bO aA trivial ⟨rQ,⟨rfl,?_⟩,rQ,oO⟩
    exact congrArg vI (aG oM oM)
  ·have h5:¬(i:Int)<s.size:=bG h5
   have bK:i=s.size:=oM
   exact aC.lit (by rw[isName,h,hj,bK,Nat.sub_self];rfl)
def JZ(s:Int):Nat→Int→Int→Int
 |0,lo,_=>lo
 |k+1,lo,hi=>bif decide (lo<hi)then(bif decide (((lo+hi) / 2)*((lo+hi) / 2)≥s)then JZ s k lo ((lo+hi) / 2)else JZ s k ((lo+hi) / 2+1) hi)else lo
def span(a b:Pt):Int:=JZ (dot a b b) 23 0 4000000
theorem cdot(c:jS)(k:Nat)(p:Pt)(hk:k+1<c.aX.length)(hl:c.aX.length≤9223372036854775807):
  aF prog 356 [chan c,vI k,pt p] (.t [.s (.d (dI (dot (c.aX.getD k default).pt (c.aX.getD (k+1) default).pt p))),.s (.d (dI (dot (c.aX.getD k default).pt (c.aX.getD (k+1) default).pt (c.aX.getD (k+1) default).pt)))]):=by
 refine eP func356 rfl rfl call356 rfl rfl fun cx _=>?_
 have e:aV ((k:Int)+1)=((k+1:Nat):Int):=aG oM oM
 refine oi ⟨oM,oM⟩ ?_
 refine oi (by show 0≤aV ((k:Int)+1)∧aV ((k:Int)+1)<_;rw[e];exact⟨oM,oM⟩) ?_
 refine aD ?_
 refine aD ?_
 refine aC.of_eq ?_
 show AV.t [.s (.d (dI (dot (c.aX.getD k default).pt (c.aX.getD (aV ((k:Int)+1)).toNat default).pt p))),.s (.d (dI (dot (c.aX.getD k default).pt (c.aX.getD (aV ((k:Int)+1)).toNat default).pt (c.aX.getD (aV ((k:Int)+1)).toNat default).pt)))]=_
 rw[e];rfl
theorem A2(l:List Pt)(hl:l.length≤9223372036854775807):aF prog 241 [wL l] (vB (l.any fun p=> !eR p)):=by
 refine eP func241 rfl rfl call241 rfl rfl fun cx _=>?_
 refine aB ((W1 l hl 284 0 (fun _=>.bF) (fun p=> !eR p) (fun x _=>aKB x)).conv (args':=_) ⟨aL.refl _,aL.dR fun j hj=>absurd hj (Nat.not_lt_zero j),oO⟩) ?_
 exact aC.refl _
theorem aCW(a b p:Pt)(ha:eR a=true)(hb:eR b=true)(hp:eR p=true)(II:a≠b):aF prog 363 [pt a,pt b,pt p] (vI 0):=by
 refine eP func363 rfl rfl call363 rfl rfl fun cx _=>?_
 refine aB ((A2 [a,b,p] sM).conv (args':=_) ⟨aL.fW fun i j hi hj=>aL.of_eq ?_,oO⟩) ?_
 ·have hi:i<3:=hi
  have hj:j<2:=hj
  match i,j,hi,hj with
  |0,0,_,_=>rfl
  |0,1,_,_=>rfl
  |1,0,_,_=>rfl
  |1,1,_,_=>rfl
  |2,0,_,_=>rfl
  |2,1,_,_=>rfl
 refine aI (fun h=>?_) (fun h=>?_)
 ·simp[ha,hb,hp]at h
 refine aI (fun h=>?_) (fun h=>?_)
 ·refine absurd ?_ II
  simp at h
  cases a;cases b;simp_all
 ·exact aC.of_eq rfl
end Go.Ch
namespace Go.Ch
open Go Go.Ax Go.Proofs Go.Proofs.Tryz Go.RowKit
theorem YG(b r:Nat)(h:FloatKind.f64.format.sqrt b=some r)(w:World):(callFunc 367 #[.float .f64 b]).run prog w=.ok (.value (.float .f64 r)) w:=by
 rw[run_callFunc_extern (P:=prog) (f:=367) (fn:=f367) (e:=Extern.MathSqrt.sqrt) func367 kR rfl kR kR]
 have e:Extern.MathSqrt.sqrt #[.float .f64 b]=(match FloatKind.f64.format.sqrt b with|some r=>pure (.float .f64 r)|none=>do pure (.float .f64 (←choose (.nanBits .f64 b b)))):=rfl
 rw[e,h]
 rfl
theorem SZ(b r:Nat)(h:FloatKind.f64.format.sqrt b=some r)(w:World):Calls prog 366 #[.float .f64 b] w fun e w'=>e=.returned (.float .f64 r)∧w'=w:=by
 have hs:=YG b r h w
 go_enter func366,Tryz.ntmps366
 go_wp2
 go_ret
 exact⟨rfl,rfl⟩
theorem Sqrt(b r:Nat)(h:FloatKind.f64.format.sqrt b=some r):aF prog 366 [.s (.d (.val (.float .f64 b)))] (.s (.d (.val (.float .f64 r)))):=by
 refine⟨call366,fun M w vs _ hr hM=>?_⟩
 match vs,hr with
 |[v],⟨h1,_⟩=>
  obtain rfl:v=.float .f64 b:=h1
  refine(SZ b r h w).mono ?_
  rintro e w' ⟨rfl,rfl⟩
  exact⟨_,M,rfl,rfl,Grow.refl _ _,hM,⟨Below.refl _ _,oO⟩⟩
end Go.Ch
namespace Go.Ch
open Go Go.Ax Go.Proofs Go.Proofs.Tryz
theorem GZ{p:Pt}:eR p=true↔(-1000000≤p.x∧p.x≤1000000)∧(-1000000≤p.y∧p.y≤1000000):=by
 simp[eR,within]
theorem jZ{a b A B:Int}(ha: -A≤a)(ha':a≤A)(hb: -B≤b)(XX:b≤B): -(A*B)≤a*b∧a*b≤A*B:=by
 have hA:0≤A:=oM
 have hB:0≤B:=oM
 have h1:0≤(A - a)*(B - b):=Int.mul_nonneg oM oM
 have h2:0≤(A+a)*(B+b):=Int.mul_nonneg oM oM
 have h3:0≤(A - a)*(B+b):=Int.mul_nonneg oM oM
 have h4:0≤(A+a)*(B - b):=Int.mul_nonneg oM oM
 simp only [Int.mul_add,Int.mul_sub,Int.add_mul,Int.sub_mul]at h1 h2 h3 h4
 omega
def mV(a b c:Pt):Int:=(b.x - a.x)*(c.x - a.x)+(b.y - a.y)*(c.y - a.y)
def MC(a b c:Pt):Int:=(b.x - a.x)*(c.y - a.y) - (b.y - a.y)*(c.x - a.x)
theorem zH{a b c:Pt}(ha:eR a=true)(hb:eR b=true)(hc:eR c=true):dot a b c=mV a b c∧ -8000000000000≤mV a b c∧mV a b c≤8000000000000:=by
 rw[GZ]at ha hb hc
 have h1:=jZ (a:=b.x - a.x) (b:=c.x - a.x) (A:=2000000) (B:=2000000) oM oM oM oM
 have h2:=jZ (a:=b.y - a.y) (b:=c.y - a.y) (A:=2000000) (B:=2000000) oM oM oM oM
 unfold dot mV
 rw[aG (n:=b.x - a.x) oM oM,aG (n:=c.x - a.x) oM oM,aG (n:=b.y - a.y) oM oM,aG (n:=c.y - a.y) oM oM]
 rw[aG (n:=(b.x - a.x)*(c.x - a.x)) oM oM,aG (n:=(b.y - a.y)*(c.y - a.y)) oM oM,aG oM oM]
 exact⟨rfl,oM,oM⟩
theorem PM{a b c:Pt}(ha:eR a=true)(hb:eR b=true)(hc:eR c=true):mW a b c=MC a b c∧ -8000000000000≤MC a b c∧MC a b c≤8000000000000:=by
 rw[GZ]at ha hb hc
 have h1:=jZ (a:=b.x - a.x) (b:=c.y - a.y) (A:=2000000) (B:=2000000) oM oM oM oM
 have h2:=jZ (a:=b.y - a.y) (b:=c.x - a.x) (A:=2000000) (B:=2000000) oM oM oM oM
 unfold mW MC
 rw[aG (n:=b.x - a.x) oM oM,aG (n:=c.x - a.x) oM oM,aG (n:=b.y - a.y) oM oM,aG (n:=c.y - a.y) oM oM]
 rw[aG (n:=(b.x - a.x)*(c.y - a.y)) oM oM,aG (n:=(b.y - a.y)*(c.x - a.x)) oM oM,aG oM oM]
 exact⟨rfl,oM,oM⟩
theorem jT(x:Int):0≤x*x:=by
 rcases Int.le_total 0 x with h|h
 ·exact Int.mul_nonneg h h
 ·exact Int.mul_nonneg_of_nonpos_of_nonpos h h
theorem sq_nonneg(a b:Pt):0≤mV a b b:=by
 have h1:=jT (b.x - a.x)
 have h2:=jT (b.y - a.y)
 unfold mV;omega
theorem AM{x:Int}(h:x≠0):0<x*x:=by
 have h1:=jT x
 have h2:x*x≠0:=fun e=>by rcases Int.mul_eq_zero.1 e with h'|h' <;> exact h h'
 omega
theorem sq_pos{a b:Pt}(h:a≠b):0<mV a b b:=by
 have h1:=jT (b.x - a.x)
 have h2:=jT (b.y - a.y)
 by_cases hx:b.x - a.x=0
 ·by_cases hy:b.y - a.y=0
  ·exact absurd (by cases a;cases b;simp at hx hy ⊢;omega) h
  ·have:=AM hy
   unfold mV;omega
 ·have:=AM hx
  unfold mV;omega
def xM(s n:Int):Prop:=0≤n∧s≤n*n∧(n=0∨(n - 1)*(n - 1)<s)
theorem S8{a b:Int}(h0:0≤a)(h:a≤b):a*a≤b*b:=Int.mul_le_mul h h h0 oM
theorem xM.le{s n m:Int}(h:xM s n)(hm:0≤m)(h2:s≤m*m):n≤m:=by
 obtain⟨h0,h1,h3⟩:=h
 rcases Int.lt_or_le m n with fR|EK
 ·rcases h3 with rfl|h3
  ·omega
  ·have:=S8 hm (show m≤n - 1 by omega)
   omega
 ·exact EK
theorem xM.unique{s n m:Int}(h:xM s n)(k:xM s m):n=m:=Int.le_antisymm (h.le k.1 k.2.1) (k.le h.1 h.2.1)
theorem y7(s:Int):∀(k:Nat) (lo hi:Int),0≤lo→lo≤hi→hi - lo<2^k→s≤hi*hi→(lo=0∨(lo - 1)*(lo - 1)<s)→xM s (JZ s k lo hi)
 |0,lo,hi,h0,h1,h2,h3,h4=>by
  rw[JZ]
  have:lo=hi:=by simp at h2;omega
  subst this
  exact⟨h0,h3,h4⟩
 |k+1,lo,hi,h0,h1,h2,h3,h4=>by
  rw[JZ]
  rw[Int.pow_succ]at h2
  by_cases fR:lo<hi
  ·rw[decide_eq_true fR]
   simp only [cond_true]
   by_cases hm:(lo+hi) / 2*((lo+hi) / 2)≥s
   ·rw[decide_eq_true hm]
    exact y7 s k lo _ h0 oM oM hm h4
   ·rw[decide_eq_false hm]
    refine y7 s k _ hi oM oM oM h3 (.inr ?_)
    have:(lo+hi) / 2+1 - 1=(lo+hi) / 2:=oM
    rw[this];omega
  ·rw[decide_eq_false fR]
   have:lo=hi:=oM
   subst this
   exact⟨h0,h3,h4⟩
theorem JB{a b:Pt}(ha:eR a=true)(hb:eR b=true):xM (mV a b b) (span a b):=by
 obtain⟨h1,h2,h3⟩:=zH ha hb hb
 unfold span
 rw[h1]
 exact y7 _ 23 0 4000000 oM oM dC oM (.inl rfl)
theorem ND{a b:Pt}(ha:eR a=true)(hb:eR b=true)(II:a≠b):0<span a b:=by
 have h:=JB ha hb
 have:=sq_pos II
 have h0:=h.1
 rcases Int.lt_or_le 0 (span a b)with h'|h'
 ·exact h'
 ·have:span a b=0:=oM
  have h1:=h.2.1
  rw[this]at h1
  omega
theorem aES(a b:Pt)(ha:eR a=true)(hb:eR b=true):aF prog 365 [pt a,pt b] (vI (span a b)):=by
 obtain⟨hd,hd1,hd2⟩:=zH ha hb hb
 have hs0:=sq_nonneg a b
 obtain⟨r,n,hr,hn,hn0,hn1⟩:=aLD.QQ (dot a b b) oM oM
 have aEF:=JB ha hb
 rw[←hd]at aEF
 refine eP func365 rfl rfl call365 rfl rfl fun cx aA=>?_
 refine aB (aKE a b b) ?_
 refine aB (Sqrt _ r hr) ?_
 refine⟨n,⟨hn,by show -9223372036854775808≤n;omega,by show n≤9223372036854775807;omega⟩,?_⟩
 refine AW.loop (fun i:Int=>⟨[(5,vI (dot a b b)),(6,vI i)],[]⟩) (fun i=>0≤i∧i<2^24) (fun i=>(2^24 - i).toNat) n ⟨hn0,hn1⟩ ?_ ?_
 ·exact Sub.bO aA trivial ⟨rQ,rQ,oO⟩
 ·rintro i ⟨RP,MU⟩
  have hii:=S8 RP (show i≤16777216 by omega)
  have aNW:=Int.mul_nonneg RP RP
  have hw:aV (i*i)=i*i:=aG oM oM
  refine eX aA ?_
  refine aI (fun h=>?_) (fun h=>?_)
  ·have h:aV (i*i)<dot a b b:=bL h
   rw[hw]at h
   have fR:i<3000000:=by
    rcases Int.lt_or_le i 3000000 with h'|h'
    ·exact h'
    ·have:=S8 oM h'
     omega
   refine⟨i+1,⟨oM,oM⟩,oM,?_⟩
   refine Sub.bO aA trivial ⟨rQ,⟨rfl,congrArg vI (aG oM oM)⟩,oO⟩
  ·have h:¬aV (i*i)<dot a b b:=bG h
   rw[hw]at h
   refine AW.loop (fun i:Int=>⟨[(5,vI (dot a b b)),(6,vI i)],[]⟩) (fun i=>0≤i∧i<2^24∧dot a b b≤i*i) (fun i=>i.toNat) i ⟨RP,MU,oM⟩ ?_ ?_
   ·exact Sub.bO aA trivial ⟨rQ,rQ,oO⟩
   ·rintro i ⟨RP,MU,hi2⟩
    have hii:=S8 RP (show i≤16777216 by omega)
    refine eX aA ?_
    have TY:aV (i - 1)=i - 1:=aG oM oM
    have key:aV (aV (i - 1)*aV (i - 1))=(i - 1)*(i - 1):=by
     rw[TY]
     have:=jZ (a:=i - 1) (b:=i - 1) (A:=16777216) (B:=16777216) oM oM oM oM
     exact aG oM oM
    repeat refine aR ?_
    refine aI (fun h=>?_) (fun h=>?_)
    ·have h:(decide (i>0)&&decide (aV (aV (i - 1)*aV (i - 1))≥dot a b b))=true:=h
     rw[key]at h
     simp at h
     refine⟨i - 1,⟨oM,oM,oM⟩,oM,?_⟩
     refine Sub.bO aA trivial ⟨rQ,⟨rfl,congrArg vI TY⟩,oO⟩
    ·have h:(decide (i>0)&&decide (aV (aV (i - 1)*aV (i - 1))≥dot a b b))=false:=h
     rw[key]at h
     simp at h
     refine aC.of_eq (congrArg vI ?_)
     refine xM.unique ⟨RP,hi2,?_⟩ aEF
     by_cases h0:i=0
     ·exact .inl h0
     ·exact .inr (by have:=h oM;omega)
theorem aKF(a b:Pt)(ha:eR a=true)(hb:eR b=true):aF prog 359 [pt a,pt b] (vI (span a b)):=by
 refine eP func359 rfl rfl call359 rfl rfl fun cx aA=>?_
 refine aB ((A2 [a,b] sM).conv (args':=_) ⟨aL.fW fun i j hi hj=>aL.of_eq ?_,oO⟩) ?_
 ·have hi:i<2:=hi
  have hj:j<2:=hj
  match i,j,hi,hj with
  |0,0,_,_=>rfl
  |0,1,_,_=>rfl
  |1,0,_,_=>rfl
  |1,1,_,_=>rfl
 refine aI (fun h=>?_) (fun h=>?_)
 ·simp[ha,hb]at h
 exact aB (aES a b ha hb) (aC.refl _)
def LB(a b p:Pt):Int:=mm true (mW a b p) (aV (0 - mW a b p)) / span a b
theorem ZA{c:Int}(h: -8000000000000≤c)(k:c≤8000000000000):0≤mm true c (aV (0 - c))∧mm true c (aV (0 - c))≤8000000000000∧mm true c (aV (0 - c))=(if c<0 then aV (0 - c)else c):=by
 rw[aG oM oM]
 unfold mm
 simp only
 split <;> split <;> omega
theorem aCR{a b p:Pt}(ha:eR a=true)(hb:eR b=true)(hp:eR p=true)(II:a≠b):0≤LB a b p∧LB a b p≤8000000000000:=by
 obtain⟨h1,h2,h3⟩:=PM ha hb hp
 have hs:=ND ha hb II
 obtain⟨h4,h5,_⟩:=ZA (c:=mW a b p) oM oM
 unfold LB
 exact⟨Int.ediv_nonneg h4 oM,Int.le_trans (Int.ediv_le_self _ h4) h5⟩
theorem aC6(a b p:Pt)(ha:eR a=true)(hb:eR b=true)(hp:eR p=true)(II:a≠b):aF prog 364 [pt a,pt b,pt p] (vI (LB a b p)):=by
 obtain⟨h1,h2,h3⟩:=PM ha hb hp
 have hs:=ND ha hb II
 obtain⟨h4,h5,_⟩:=ZA (c:=mW a b p) oM oM
 have ho:=aCR ha hb hp II
 refine eP func364 rfl rfl call364 rfl rfl fun cx aA=>?_
 refine aB (R0 a b p) ?_
 refine aB (aES a b ha hb) ?_
 refine oi oM ?_
 refine aC.of_eq (congrArg vI ?_)
 show aV (Int.tdiv (mm true (mW a b p) (aV (0 - mW a b p))) (span a b))=_
 rw[Int.tdiv_eq_ediv_of_nonneg h4]
 exact aG (by have:=ho.1;unfold LB at this;omega) (by have:=ho.2;unfold LB at this;omega)
theorem aC9(a b p:Pt)(ha:eR a=true)(hb:eR b=true)(hp:eR p=true)(II:a≠b):aF prog 357 [pt a,pt b,pt p] (.t [.s (.d (dI (LB a b p))),.s (.d (dI 0))]):=by
 refine eP func357 rfl rfl call357 rfl rfl fun cx aA=>?_
 refine aB (aCW a b p ha hb hp II) ?_
 refine aI (fun h=>by cases h) (fun _=>?_)
 refine aB (aC6 a b p ha hb hp II) ?_
 exact aC.of_eq rfl
abbrev mF(n:Int):Prop:=(Lit.int .i64 n).wf=true
theorem rI:Rd prog 3 1 (fun n:Int=>[.d (dI n)]) mF:=aFN underlying3 kR
theorem rS:Rd prog 9 1 (fun s:ByteArray=>[.d (dS s)]) (fun s=>s.size≤9223372036854775807):=aFM underlying9 kR
def Pt.ok(p:Pt):Prop:=mF p.x∧mF p.y
theorem rPt:Rd prog 169 2 (fun p:Pt=>[.d (dI p.x),.d (dI p.y)]) Pt.ok:=
 (eV underlying169 rfl kR (aQ rfl rI (aQ rfl rI iT))).to (fun a=>⟨a.1,a.2.1⟩) (fun _=>rfl) (fun _ h=>⟨h.1,h.2.1⟩)
def Ap.ok(p:Ap):Prop:=mF p.x∧mF p.y∧mF p.half∧mF p.level∧mF p.run
theorem rAp:Rd prog 135 5 (fun p:Ap=>[.d (dI p.x),.d (dI p.y),.d (dI p.half),.d (dI p.level),.d (dI p.run)]) Ap.ok:=
 (eV underlying135 rfl kR (aQ rfl rI (aQ rfl rI (aQ rfl rI (aQ rfl rI (aQ rfl rI iT)))))).to (fun a=>⟨a.1,a.2.1,a.2.2.1,a.2.2.2.1,a.2.2.2.2.1⟩) (fun _=>rfl) (fun _ h=>⟨h.1,h.2.1,h.2.2.1,h.2.2.2.1,h.2.2.2.2.1⟩)
theorem aLT:Rd prog 62 1 (fun l:List Pt=>[.d (WZ l)]) (fun l=>l.length≤9223372036854775807∧∀a∈l,a.ok):=
 kI underlying62 kR rPt dC EF (fun _=>rfl) (fun a j hj=>by match j,hj with|0,_=>rfl|1,_=>rfl)
theorem aL4:Rd prog 25 1 (fun l:List Ap=>[.d (xC l)]) (fun l=>l.length≤9223372036854775807∧∀a∈l,a.ok):=
 kI underlying25 kR rAp dC apD (fun _=>rfl) (fun a j hj=>by match j,hj with|0,_=>rfl|1,_=>rfl|2,_=>rfl|3,_=>rfl|4,_=>rfl)
theorem Y1:Rd prog 22 1 (fun l:List Int=>[.d (cE l)]) (fun l=>l.length≤9223372036854775807∧∀a∈l,mF a):=
 kI underlying22 kR rI dC (fun n _=>dI n) (fun _=>rfl) (fun a j hj=>by match j,hj with|0,_=>rfl)
def yP.ok(p:yP):Prop:=p.name.size≤9223372036854775807∧mF p.kind∧p.kZ.length≤9223372036854775807∧∀a∈p.kZ,a.ok
theorem aLS:Rd prog 64 3 (fun p:yP=>[.d (dS p.name),.d (dI p.kind),.d (WZ p.kZ)]) yP.ok:=
 (eV underlying64 rfl kR (aQ rfl rS (aQ rfl rI (aQ rfl aLT iT)))).to (fun a=>⟨a.1,a.2.1,a.2.2.1⟩) (fun _=>rfl) (fun _ h=>⟨h.1,h.2.1,h.2.2.1⟩)
theorem aIK:Rd prog 26 1 (fun l:List yP=>[.d (yM l)]) (fun l=>l.length≤9223372036854775807∧∀a∈l,a.ok):=
 kI underlying26 kR aLS dC aIG (fun _=>rfl) (fun a j hj=>by match j,hj with|0,_=>rfl|1,_=>rfl|2,_=>rfl)
structure jS.ok(c:jS):Prop where
 name:c.name.size≤9223372036854775807
 aX:c.aX.length≤9223372036854775807
 aps:∀a∈c.aX,a.ok
 over:mF c.over
 buffer:mF c.buffer
 regions:c.regions.length≤9223372036854775807
 aIF:∀a∈c.regions,a.ok
structure eZ.ok(g:eZ):Prop where
 x:mF g.x
 y:mF g.y
 side:mF g.side
 dL:mF g.dL
 rows:mF g.rows
 levels:g.levels.length≤9223372036854775807
 lev:∀a∈g.levels,mF a
structure E6 where
 offset:Int
 half:Int
 qF:Int
 run:Int
 deriving DecidableEq,Inhabited
def VM(p:E6):Nat→DV
 |0=>dI p.offset
 |1=>dI p.half
 |2=>dI p.qF
 |3=>dI p.run
 |_=>.bF
def uO(l:List E6):Nat→Nat→DV:=fun i=>VM (l.getD i default)
def PJ(l:List E6):DV:=.fW l.length 4 (uO l)
abbrev aL6(p:E6):List SV:=[.d (dI p.offset),.d (dI p.half),.d (dI p.qF),.d (dI p.run)]
def Q3(o:Option E6):E6:=o.getD ⟨0,0,0,0⟩
abbrev Y0(o:Option E6):AV:=.t [.g (aL6 (Q3 o)),.s (.d (.val (.bool o.isSome)))]
structure Val(c:jS):Prop where
 n2:2≤c.aX.length
 n20:c.aX.length≤20
 wL:∀i,i<c.aX.length→eR (c.aX.getD i default).pt=true
 half:∀i,i<c.aX.length→1≤(c.aX.getD i default).half∧(c.aX.getD i default).half≤100000
 level:∀i,i<c.aX.length→c.over - 20000≤(c.aX.getD i default).level∧(c.aX.getD i default).level≤20000
 run:∀i,i<c.aX.length→0≤(c.aX.getD i default).run∧(c.aX.getD i default).run≤1000
 apart:∀i,i+1<c.aX.length→(c.aX.getD i default).pt≠(c.aX.getD (i+1) default).pt
 over:0≤c.over∧c.over≤1000
 buffer:0≤c.buffer∧c.buffer≤100000
theorem aAX{a b q r:Int}(hb:0<b)(h:a=q*b+r)(h0:0≤r)(h1:r<b):a / b=q:=by
 rw[h,Int.add_comm,Int.add_mul_ediv_right _ _ oM,Int.ediv_eq_zero_of_lt h0 h1,Int.zero_add]
theorem tdm(a b:Int):a=a.tdiv b*b+a.tmod b:=by
 have:=Int.tmod_add_mul_tdiv a b
 rw[Int.mul_comm]at this;omega
theorem aB1{a b:Int}(hb:0<b): -b<a.tmod b∧a.tmod b<b:=by
 rcases Int.le_total 0 a with h|h
 ·rw[Int.tmod_eq_emod_of_nonneg h]
  have:=Int.emod_nonneg a (show b≠0 by omega)
  have:=Int.emod_lt_of_pos a hb
  omega
 ·obtain⟨n,rfl⟩:∃n:Int,a= -n:=⟨-a,oM⟩
  rw[Int.neg_tmod,Int.tmod_eq_emod_of_nonneg oM]
  have:=Int.emod_nonneg n (show b≠0 by omega)
  have:=Int.emod_lt_of_pos n hb
  omega
theorem aDF{a b:Int}(hb:0<b)(h: -9000000000000000000≤a)(k:a≤9000000000000000000):
  (if a.tmod b<0 then aV (aV (a.tdiv b) - 1)else aV (a.tdiv b))=a / b:=by
 have h1:=tdm a b
 have h2:=aB1 (a:=a) hb
 have hq: -9000000000000000000≤a.tdiv b∧a.tdiv b≤9000000000000000000:=by
  rcases Int.le_total 0 a with h0|h0
  ·rw[Int.tdiv_eq_ediv_of_nonneg h0]
   have:=Int.ediv_le_self b h0
   have:=Int.ediv_nonneg h0 (show 0≤b by omega)
   omega
  ·obtain⟨n,rfl⟩:∃n:Int,a= -n:=⟨-a,oM⟩
   rw[Int.neg_tdiv,Int.tdiv_eq_ediv_of_nonneg oM]
   have:=Int.ediv_le_self (a:=n) b oM
   have:=Int.ediv_nonneg (a:=n) oM (show 0≤b by omega)
   omega
 split
 ·rw[aG (n:=a.tdiv b) oM oM,aG oM oM]
  exact(aAX (r:=a.tmod b+b) hb (by rw[Int.sub_mul];omega) oM oM).symm
 ·rw[aG oM oM]
  exact(aAX hb h1 oM oM).symm
def ZC(u v s d:Int):Int:=(u*(s - d)+v*d) / s
theorem aF4{u v s d U:Int}(hs:0<s)(QF:s≤8000000000000)(hd:0≤d)(hd2:d≤s)(hU:0≤U)(hU2:U≤100000)(hu: -U≤u)(hu2:u≤U)(hv: -U≤v)(XR:v≤U):
  aV (aV (u*aV (s - d))+aV (v*d))=u*(s - d)+v*d∧ -800000000000000000≤u*(s - d)+v*d∧u*(s - d)+v*d≤800000000000000000:=by
 have hsd:aV (s - d)=s - d:=aG oM oM
 rw[hsd]
 have h1:=jZ (a:=u) (b:=s - d) (A:=100000) (B:=s - d) oM oM oM oM
 have h2:=jZ (a:=v) (b:=d) (A:=100000) (B:=d) oM oM oM oM
 rw[aG (n:=u*(s - d)) oM oM,aG (n:=v*d) oM oM,aG oM oM]
 exact⟨rfl,oM,oM⟩
def ZG(a b:Ap)(p:Pt):Option E6:=
 bif decide (mV a.pt b.pt p<0)||decide (mV a.pt b.pt p>mV a.pt b.pt b.pt)then none
 else some ⟨LB a.pt b.pt p,ZC a.half b.half (mV a.pt b.pt b.pt) (mV a.pt b.pt p),ZC a.level b.level (mV a.pt b.pt b.pt) (mV a.pt b.pt p),a.run⟩
def EH(c:jS)(k:Nat)(p:Pt):Option E6:=ZG (c.aX.getD k default) (c.aX.getD (k+1) default) p
theorem TG{a b c d:Int}{l:Bool}{o:Option E6}(h:⟨a,b,c,d⟩=Q3 o)(k:l=o.isSome):aC (.t [.g [.d (dI a),.d (dI b),.d (dI c),.d (dI d)],.s (.d (.lit l))]) (Y0 o):=by
 subst k
 unfold Y0
 rw[←h]
 exact aC.t ⟨⟨aL.refl _,aL.refl _,aL.refl _,aL.refl _,oO⟩,fun _ _ r=>r,oO⟩
theorem PH{u v s d U:Int}(hs:0<s)(QF:s≤8000000000000)(hd:0≤d)(hd2:d≤s)(hU:0≤U)(hU2:U≤100000)(hu: -U≤u)(hu2:u≤U)(hv: -U≤v)(XR:v≤U):
  (if(aV (aV (u*aV (s - d))+aV (v*d))).tmod s<0 then aV (aV ((aV (aV (u*aV (s - d))+aV (v*d))).tdiv s) - 1)else aV ((aV (aV (u*aV (s - d))+aV (v*d))).tdiv s))=ZC u v s d:=by
 obtain⟨h1,h2,h3⟩:=aF4 hs QF hd hd2 hU hU2 hu hu2 hv XR
 rw[h1]
 exact aDF hs oM oM
abbrev up(k:Nat):Nat:=(aV ((k:Int)+1)).toNat
theorem aH7{k:Nat}(h:k≤1000000):up k=k+1:=by
 unfold up
 rw[aG oM oM];omega
theorem TH{s0 s1 s2 s3 t:SV}{o:Option E6}{p:E6}{l:Bool}(ho:Q3 o=p)(hl:o.isSome=l)(h0:X0 s0 (.d (dI p.offset)))(h1:X0 s1 (.d (dI p.half)))(h2:X0 s2 (.d (dI p.qF)))(h3:X0 s3 (.d (dI p.run)))(h4:X0 t (.d (.val (.bool l)))):
  aC (.t [.g [s0,s1,s2,s3],.s t]) (Y0 o):=by
 subst ho;subst hl
 exact aC.t ⟨⟨h0,h1,h2,h3,oO⟩,h4,oO⟩
abbrev aX(c:jS)(k:Nat):Ap:=c.aX.getD k default
def aIT(a b:Ap)(p:Pt):E6:=⟨LB a.pt b.pt p,ZC a.half b.half (mV a.pt b.pt b.pt) (mV a.pt b.pt p),ZC a.level b.level (mV a.pt b.pt b.pt) (mV a.pt b.pt p),a.run⟩
theorem aIX(c:jS)(k:Nat)(p:Pt)(hv:Val c)(hk:k+1<c.aX.length)(hp:eR p=true):aF prog 330 [chan c,vI k,pt p] (Y0 (EH c k p)):=by
 have hn:=hv.n20
 have ha:=hv.wL k oM
 have hb:=hv.wL (k+1) hk
 have II:=hv.apart k hk
 obtain⟨d1,d2,d3⟩:=zH ha hb hp
 obtain⟨s1,s2,s3⟩:=zH ha hb hb
 have s4:=sq_pos II
 have hh:=hv.half k oM
 have AY:=hv.half (k+1) hk
 have hl:=hv.level k oM
 have hl':=hv.level (k+1) hk
 have ho:=hv.over
 have e:aV ((k:Int)+1)=((k+1:Nat):Int):=aG oM oM
 have eup:up k=k+1:=aH7 oM
 have eu:(aV ((k:Int)+1)).toNat=k+1:=eup
 refine eP func330 rfl rfl call330 rfl rfl fun cx aA=>?_
 refine aB (cdot c k p hk oM) ?_
 rw[d1,s1]
 repeat refine aR ?_
 refine aI (fun h=>?_) (fun h=>?_)
 ·exact TG (by unfold EH ZG;rw[h];rfl) (by unfold EH ZG;rw[h];rfl)
 have h:(decide (mV (c.aX.getD k default).pt (c.aX.getD (k+1) default).pt p<0)||decide (mV (c.aX.getD k default).pt (c.aX.getD (k+1) default).pt p>mV (c.aX.getD k default).pt (c.aX.getD (k+1) default).pt (c.aX.getD (k+1) default).pt))=false:=h
 have h':=h
 simp only [Bool.or_eq_false_iff,decide_eq_false_iff_not]at h'
 refine oi ⟨oM,oM⟩ ?_
 refine oi (by show 0≤aV ((k:Int)+1)∧aV ((k:Int)+1)<_;rw[e];exact⟨oM,oM⟩) ?_
 refine aD ?_
 refine aB (place (c.aX.getD k default)) ?_
 refine aB (place (c.aX.getD (up k) default)) ?_
 refine aB (aC9 (c.aX.getD k default).pt (c.aX.getD (up k) default).pt p ha (by rw[eup];exact hb) hp (by rw[eup];exact II)) ?_
 refine aD ?_
 refine aB (down _ _ oM) ?_
 refine aB (down _ _ oM) ?_
 refine aD ?_
 refine TH (p:=aIT (aX c k) (aX c (k+1)) p) (l:=true) (by unfold EH ZG;rw[h];rfl) (by unfold EH ZG;rw[h];rfl) ?_ ?_ ?_ ?_ ?_
 ·exact aL.of_eq (congrArg dI (by rw[eup];rfl))
 ·refine aL.of_eq (congrArg dI ?_)
  simp only [eu,Int.toNat_natCast]
  exact PH (U:=100000) s4 oM oM oM oM oM oM oM oM oM
 ·refine aL.of_eq (congrArg dI ?_)
  simp only [eu,Int.toNat_natCast]
  exact PH (U:=20000) s4 oM oM oM oM oM oM oM oM oM
 ·exact aL.refl _
 ·exact fun _ _ r=>r
def P2(a q b:Ap)(p:Pt):Option E6:=
 bif decide (mV a.pt q.pt p≤mV a.pt q.pt q.pt)||decide (mV q.pt b.pt p≥0)then none else some ⟨span q.pt p,q.half,q.level,q.run⟩
def uX(c:jS)(j:Nat)(p:Pt):Option E6:=P2 (aX c j) (aX c (j+1)) (aX c (j+2)) p
theorem aF1(c:jS)(j:Nat)(p:Pt)(hv:Val c)(hk:j+2<c.aX.length)(hp:eR p=true):aF prog 331 [chan c,vI ((j+1:Nat):Int),pt p] (Y0 (uX c j p)):=by
 have hn:=hv.n20
 have ha:=hv.wL j oM
 have hq:=hv.wL (j+1) oM
 have hb:=hv.wL (j+2) hk
 obtain⟨d1,_,_⟩:=zH ha hq hp
 obtain⟨s1,_,_⟩:=zH ha hq hq
 obtain⟨e1,_,_⟩:=zH hq hb hp
 have em:aV (((j+1:Nat):Int) - 1)=(j:Int):=by rw[aG oM oM];omega
 have c1:aF prog 356 [chan c,vI (aV (((j+1:Nat):Int) - 1)),pt p] (.t [.s (.d (dI (mV (aX c j).pt (aX c (j+1)).pt p))),.s (.d (dI (mV (aX c j).pt (aX c (j+1)).pt (aX c (j+1)).pt)))]):=by
  rw[em,←d1,←s1];exact cdot c j p oM oM
 have c2:=cdot c (j+1) p hk oM
 rw[e1]at c2
 refine eP func331 rfl rfl call331 rfl rfl fun cx aA=>?_
 refine aB c1 ?_
 refine aB c2 ?_
 repeat refine aR ?_
 refine aI (fun h=>?_) (fun h=>?_)
 ·exact TG (by unfold uX P2;rw[h];rfl) (by unfold uX P2;rw[h];rfl)
 refine oi ⟨oM,oM⟩ ?_
 refine aB (place (aX c (j+1))) ?_
 refine aB (aKF (aX c (j+1)).pt p hq hp) ?_
 refine aD ?_
 refine TH (p:=⟨span (aX c (j+1)).pt p,(aX c (j+1)).half,(aX c (j+1)).level,(aX c (j+1)).run⟩) (l:=true) (by unfold uX P2;rw[h];rfl) (by unfold uX P2;rw[h];rfl) ?_ ?_ ?_ ?_ ?_
 ·exact aL.refl _
 ·exact aL.refl _
 ·exact aL.refl _
 ·exact aL.refl _
 ·exact fun _ _ r=>r
def kJ(c:jS)(p:Pt)(i:Nat):List E6:=(List.range i).filterMap fun k=>EH c k p
def lK(c:jS)(p:Pt)(i:Nat):List E6:=(List.range i).filterMap fun j=>uX c j p
def FX(c:jS)(p:Pt):List E6:=kJ c p (c.aX.length - 1)++lK c p (c.aX.length - 2)
abbrev HH(c:jS):jE:=.cells [.d (dS c.name),.d (xC c.aX),.d (dI c.over),.d (dI c.buffer),.d (yM c.regions)]
abbrev ptB(p:Pt):jE:=.cells [.d (dI p.x),.d (dI p.y)]
theorem parts(c:jS)(p:Pt)(hv:Val c)(hp:eR p=true):aF prog 279 [chan c,pt p] (.s (.d (PJ (FX c p)))):=by
 have h2:=hv.n2
 have h20:=hv.n20
 have el:aV ((c.aX.length:Int) - 1)=(c.aX.length:Int) - 1:=aG oM oM
 refine eP func279 rfl rfl call279 rfl rfl fun cx aA=>?_
 refine AW.cV (fun i:Nat=>⟨[(2,.s (.ptr 2 0)),(3,.s (.ptr 3 0)),(5,.s (.mo (kJ c p i).isEmpty 100)),(15,vI (aV ((c.aX.length:Int) - 1))),(16,vI i)],[(2,some (HH c)),(3,some (ptB p)),(100,some (.cA 348 (kJ c p i).length 4 (uO (kJ c p i))))]⟩)
  (fun i=>i≤c.aX.length - 1) (fun i=>c.aX.length - 1 - i) 0 (Nat.zero_le _) ?_ ?_
 ·exact aS.bO aA [(100,1000)] rfl ⟨bQ,bQ,⟨rfl,rfl⟩,oO⟩ ⟨qZ,qZ,⟨rfl,aU.nil rfl⟩,qZ,qZ,oO⟩
 ·intro i hi
  refine eX aA ?_
  refine aI (fun h=>?_) (fun h=>?_)
  ·have h:(i:Int)<aV ((c.aX.length:Int) - 1):=bL h
   rw[el]at h
   refine aB (aIX c i p hv oM hp) ?_
   refine aI (fun h'=>?_) (fun h'=>?_)
   ·have h':(EH c i p).isSome=true:=h'
    have e':kJ c p (i+1)=kJ c p i++ [Q3 (EH c i p)]:=by
     unfold kJ
     rw[cW]
     obtain⟨x,hx⟩:=Option.isSome_iff_exists.1 h'
     rw[hx];rfl
    have hlen:(kJ c p i).length≤i:=by unfold kJ;exact Nat.le_trans (List.length_filterMap_le _ _) sM
    refine ob dC ?_
    refine ob (by rw[eL];show _*32≤_;omega) ?_
    refine ob (nZ (lt4 rfl rfl rfl rfl)) ?_
    refine⟨i+1,oM,oM,?_⟩
    refine aS.bO aA [(100,30)] rfl ⟨bQ,bQ,⟨rfl,?_⟩,oO⟩ ⟨qZ,qZ,⟨rfl,aU.mo ?_⟩,qZ,⟨rfl,aU.of_eq (congrArg vI (aG oM oM))⟩,oO⟩
    ·show aZ _ (.cA 348 (kJ c p (i+1)).length 4 (uO (kJ c p (i+1))))
     rw[e']
     exact aZ.snoc (el:=VM) (x:=Q3 (EH c i p)) (lt4 rfl rfl rfl rfl)
    ·rw[e'];exact cG _ _
   ·have h':(EH c i p).isSome=false:=h'
    have e':kJ c p (i+1)=kJ c p i:=by
     unfold kJ
     rw[cW]
     cases hx:EH c i p with
     |none=>simp
     |some x=>rw[hx]at h';cases h'
    refine⟨i+1,oM,oM,?_⟩
    refine aS.bO aA [] rfl ⟨bQ,bQ,⟨rfl,aZ.of_eq (by rw[e'];rfl)⟩,oO⟩ ⟨qZ,qZ,⟨rfl,aU.of_eq (by rw[e'];rfl)⟩,qZ,⟨rfl,aU.of_eq (congrArg vI (aG oM oM))⟩,oO⟩
  ·have h:¬(i:Int)<aV ((c.aX.length:Int) - 1):=bG h
   rw[el]at h
   have bK:i=c.aX.length - 1:=oM
   subst bK
   refine AW.cV (fun j:Nat=>⟨[(2,.s (.ptr 2 0)),(3,.s (.ptr 3 0)),(5,.s (.mo (kJ c p (c.aX.length - 1)++lK c p j).isEmpty 100)),(9,vI ((j+1:Nat):Int))],[(2,some (HH c)),(3,some (ptB p)),(100,some (.cA 348 (kJ c p (c.aX.length - 1)++lK c p j).length 4 (uO (kJ c p (c.aX.length - 1)++lK c p j))))]⟩)
    (fun j=>j≤c.aX.length - 2) (fun j=>c.aX.length - j) 0 (Nat.zero_le _) ?_ ?_
   ·exact aS.bO aA [] rfl ⟨bQ,bQ,⟨rfl,aZ.of_eq (by simp[lK,jF])⟩,oO⟩ ⟨qZ,qZ,⟨rfl,aU.of_eq (by simp[lK,nH,vD];rfl)⟩,qZ,oO⟩
   ·intro j hj
    refine eX aA ?_
    refine aI (fun h=>?_) (fun h=>?_)
    ·have h:((j+1:Nat):Int)<aV ((c.aX.length:Int) - 1):=bL h
     rw[el]at h
     refine aB (aF1 c j p hv oM hp) ?_
     refine aI (fun h'=>?_) (fun h'=>?_)
     ·have h':(uX c j p).isSome=true:=h'
      have e':kJ c p (c.aX.length - 1)++lK c p (j+1)=(kJ c p (c.aX.length - 1)++lK c p j)++ [Q3 (uX c j p)]:=by
       unfold lK
       rw[cW,List.append_assoc]
       obtain⟨x,hx⟩:=Option.isSome_iff_exists.1 h'
       rw[hx];rfl
      have hlen:(kJ c p (c.aX.length - 1)++lK c p j).length≤c.aX.length - 1+j:=by
       rw[List.length_append]
       exact Nat.add_le_add (Nat.le_trans (List.length_filterMap_le _ _) sM) (Nat.le_trans (List.length_filterMap_le _ _) sM)
      refine ob dC ?_
      refine ob (by rw[eL];show _*32≤_;omega) ?_
      refine ob (nZ (lt4 rfl rfl rfl rfl)) ?_
      refine⟨j+1,oM,oM,?_⟩
      refine aS.bO aA [(100,51)] rfl ⟨bQ,bQ,⟨rfl,?_⟩,oO⟩ ⟨qZ,qZ,⟨rfl,aU.mo ?_⟩,⟨rfl,aU.of_eq (congrArg vI (aG oM oM))⟩,oO⟩
      ·show aZ _ (.cA 348 (kJ c p (c.aX.length - 1)++lK c p (j+1)).length 4 (uO (kJ c p (c.aX.length - 1)++lK c p (j+1))))
       rw[e']
       exact aZ.snoc (el:=VM) (x:=Q3 (uX c j p)) (lt4 rfl rfl rfl rfl)
      ·rw[e'];exact cG _ _
     ·have h':(uX c j p).isSome=false:=h'
      have e':lK c p (j+1)=lK c p j:=by
       unfold lK
       rw[cW]
       cases hx:uX c j p with
       |none=>simp
       |some x=>rw[hx]at h';cases h'
      refine⟨j+1,oM,oM,?_⟩
      refine aS.bO aA [] rfl ⟨bQ,bQ,⟨rfl,aZ.of_eq (by rw[e'];rfl)⟩,oO⟩ ⟨qZ,qZ,⟨rfl,aU.of_eq (by rw[e'];rfl)⟩,⟨rfl,aU.of_eq (congrArg vI (aG oM oM))⟩,oO⟩
    ·have h:¬((j+1:Nat):Int)<aV ((c.aX.length:Int) - 1):=bG h
     rw[el]at h
     have pX:j=c.aX.length - 2:=oM
     subst pX
     exact aC.mo
def Q7(x:E6):Int×Bool:=lvl x.offset x.half x.qF x.run
def M9(r:Int×Bool)(x:E6):Int×Bool:=bif (Q7 x).2&&(!r.2||decide ((Q7 x).1<r.1))then((Q7 x).1,true)else r
def EL(l:List E6):Int×Bool:=l.foldl M9 (0,false)
theorem WU(l:List E6)(x:E6):EL (l++ [x])=M9 (EL l) x:=by simp[EL]
def SC(c:jS)(p:Pt):Int×Bool:=EL (FX c p)
theorem U0{l:List E6}{i:Nat}(h:i<l.length):EL (l.take (i+1))=M9 (EL (l.take i)) (l.getD i default):=by
 rw[List.take_succ_eq_append_getElem h,WU,a7 h]
theorem aG0(c:jS)(p:Pt)(hv:Val c)(hp:eR p=true):aF prog 231 [chan c,pt p] (rIB (SC c p)):=by
 have hlen:(FX c p).length≤40:=by
  have:=hv.n20
  unfold FX kJ lK
  rw[List.length_append]
  have h1:=List.length_filterMap_le (fun k=>EH c k p) (List.range (c.aX.length - 1))
  have h2:=List.length_filterMap_le (fun k=>uX c k p) (List.range (c.aX.length - 2))
  simp at h1 h2;omega
 unfold SC
 refine eP func231 rfl rfl call231 rfl rfl fun cx aA=>?_
 refine aB (parts c p hv hp) ?_
 generalize FX c p=l at hlen
 refine AW.cV (fun i:Nat=>⟨[(6,vI (EL (l.take i)).1),(7,vB (EL (l.take i)).2),(14,.s (.d (PJ l))),(15,vI l.length),(16,vI i)],[]⟩) (fun i=>i≤l.length) (fun i=>l.length - i) 0 (Nat.zero_le _) ?_ ?_
 ·exact aS.bO aA [] rfl trivial ⟨qZ,⟨rfl,aU.lit rfl⟩,qZ,qZ,qZ,oO⟩
 ·intro i hi
  refine eX aA ?_
  refine aI (fun h=>?_) (fun h=>?_)
  ·have h:(i:Int)<l.length:=bL h
   have bK:i<l.length:=oM
   have ew:aV ((i:Int)+1)=((i+1:Nat):Int):=aG oM oM
   have iU:=U0 bK
   refine oi ⟨oM,oM⟩ ?_
   refine aB (level (l.getD i default).offset (l.getD i default).half (l.getD i default).qF (l.getD i default).run) ?_
   repeat refine aR ?_
   refine aI (fun h'=>?_) (fun h'=>?_)
   ·have h':((Q7 (l.getD i default)).2&&(!(EL (l.take i)).2||decide ((Q7 (l.getD i default)).1<(EL (l.take i)).1)))=true:=h'
    unfold M9 at iU
    rw[h']at iU
    refine⟨i+1,oM,oM,?_⟩
    exact aS.bO aA [] rfl trivial ⟨⟨rfl,aU.int (by rw[iU];rfl)⟩,⟨rfl,aU.lit (by rw[iU];rfl)⟩,qZ,qZ,⟨rfl,aU.int ew⟩,oO⟩
   ·have h':((Q7 (l.getD i default)).2&&(!(EL (l.take i)).2||decide ((Q7 (l.getD i default)).1<(EL (l.take i)).1)))=false:=h'
    unfold M9 at iU
    rw[h']at iU
    refine⟨i+1,oM,oM,?_⟩
    exact aS.bO aA [] rfl trivial ⟨⟨rfl,aU.int (by rw[iU];rfl)⟩,⟨rfl,aU.bool (by rw[iU];rfl)⟩,qZ,qZ,⟨rfl,aU.int ew⟩,oO⟩
  ·have h:¬(i:Int)<l.length:=bG h
   have bK:i=l.length:=oM
   subst bK
   exact aC.of_eq (by rw[List.take_length];rfl)
abbrev rF(l:List Pt)(i:Nat):Pt:=l.getD i default
abbrev pJ(l:List Pt)(i:Nat):Pt:=l.getD (i%l.length) default
def oI(a b:Pt):Bool:=a.x==b.x&&(a.y==b.y&&true)
theorem l0{a b:Pt}:oI a b=true↔a=b:=by
 cases a;cases b;simp[oI]
def yD(n:Nat)(p:Nat→Bool):Bool:=(List.range n).any p
theorem dX{n:Nat}{p:Nat→Bool}{i:Nat}(h:i<n)(hp:p i=true):yD n p=true:=by
 unfold yD;rw[List.any_eq_true];exact⟨i,List.mem_range.2 h,hp⟩
theorem nP{n:Nat}{p:Nat→Bool}(h:∀i,i<n→p i=false):yD n p=false:=by
 unfold yD;rw[List.any_eq_false];intro i hi;rw[h i (List.mem_range.1 hi)];simp
theorem E4{n:Nat}{p:Nat→Bool}(h:yD n p=true):∃i,i<n∧p i=true:=by
 unfold yD at h;rw[List.any_eq_true]at h
 obtain⟨i,hi,hp⟩:=h
 exact⟨i,List.mem_range.1 hi,hp⟩
def BC(l:List Pt)(i:Nat):Bool:=iV (rF l i) (pJ l (i+1)) (pJ l (i+2))||iV (pJ l (i+1)) (pJ l (i+2)) (rF l i)
def LH(l:List Pt)(i k:Nat):Bool:=((((k+1)%l.length:Nat):Int) !=(i:Int))&&meet (rF l i) (pJ l (i+1)) (rF l k) (pJ l (k+1))
def iB(l:List Pt)(i k:Nat):Bool:=decide (i+2≤k)&&LH l i k
def CZ(l:List Pt)(i:Nat):Bool:=BC l i||yD l.length (iB l i)
def IZ(l:List Pt)(i:Nat):Bool:=oI (rF l i) (pJ l (i+1))||CZ l i
def K9(l:List Pt)(i:Nat):Bool:=yD i fun k=>oI (rF l i) (rF l k)
def pA(l:List Pt):Bool:=yD l.length (IZ l)
def pZ(l:List Pt):Bool:=yD l.length (K9 l)||yD l.length (CZ l)
theorem ML(a b:Pt):iV a b a=true:=by
 unfold iV mW
 have e:aV (aV (aV (b.x - a.x)*aV (a.y - a.y)) - aV (aV (b.y - a.y)*aV (a.x - a.x)))=0:=by
  rw[Int.sub_self,Int.sub_self,show aV 0=0 from rfl,Int.mul_zero,Int.mul_zero];rfl
 rw[e]
 simp[within,mm]
 constructor
 ·constructor <;> split <;> omega
 ·constructor <;> split <;> omega
theorem R1(l:List Pt)(h3:3≤l.length):pZ l=pA l:=by
 rw[Bool.eq_iff_iff]
 unfold pA pZ
 rw[Bool.or_eq_true]
 constructor
 ·rintro(h|h)
  ·obtain⟨i,hi,h⟩:=E4 h
   obtain⟨k,hk,h⟩:=E4 h
   have e:=l0.1 h
   by_cases h1:i=k+1
   ·refine dX (i:=k) oM ?_
    unfold IZ
    have:oI (rF l k) (pJ l (k+1))=true:=by
     rw[l0]
     unfold pJ
     rw[Nat.mod_eq_of_lt oM,←h1];exact e.symm
    rw[this];rfl
   ·by_cases h2:(i+1)%l.length=k
    ·refine dX (i:=i) hi ?_
     unfold IZ
     have:oI (rF l i) (pJ l (i+1))=true:=by
      rw[l0]
      unfold pJ
      rw[h2];exact e
     rw[this];rfl
    ·refine dX (i:=k) oM ?_
     unfold IZ CZ
     have:yD l.length (iB l k)=true:=by
      refine dX (i:=i) hi ?_
      unfold iB LH
      rw[decide_eq_true oM,Bool.true_and,Bool.and_eq_true]
      refine⟨by rw[bne_iff_ne];intro h;exact h2 (by exact_mod_cast h),?_⟩
      unfold meet
      rw[e,ML];rfl
     rw[this];simp
  ·obtain⟨i,hi,h⟩:=E4 h
   refine dX hi ?_
   unfold IZ;rw[h];simp
 ·intro h
  obtain⟨i,hi,h⟩:=E4 h
  unfold IZ at h
  rw[Bool.or_eq_true]at h
  rcases h with h|h
  ·left
   have e:=l0.1 h
   unfold pJ at e
   have hm:=Nat.mod_lt (i+1) (show 0<l.length by omega)
   have gI:(i+1)%l.length≠i:=by
    intro h'
    by_cases hc:i+1<l.length
    ·rw[Nat.mod_eq_of_lt hc]at h';omega
    ·have:i+1=l.length:=oM
     rw[this,Nat.mod_self]at h';omega
   rcases Nat.lt_or_gt_of_ne gI with h1|h1
   ·refine dX hi (dX h1 ?_)
    rw[l0];exact e
   ·refine dX hm (dX h1 ?_)
    rw[l0];exact e.symm
  ·exact .inr (dX hi h)
theorem simple(l:List Pt)(h3:3≤l.length)(h40:l.length≤40):aF prog 243 [wL l] (vB (!pA l)):=by
 have gI:l≠[]:=by intro h;subst h;simp at h3
 refine eP func243 rfl rfl call243 rfl rfl fun cx aA=>?_
 refine AW.cV (fun i:Nat=>⟨[(0,wL l),(3,vI l.length),(11,vI l.length),(12,vI i)],[]⟩) (fun i=>i≤l.length∧∀j,j<i→IZ l j=false) (fun i=>l.length - i) 0 ⟨Nat.zero_le _,fun j hj=>absurd hj (Nat.not_lt_zero j)⟩ ?_ ?_
 ·exact aS.bO aA [] rfl trivial ⟨qZ,qZ,qZ,qZ,oO⟩
 ·rintro i ⟨hi,hj⟩
  refine eX aA ?_
  refine aI (fun h=>?_) (fun h=>?_)
  ·have h:(i:Int)<l.length:=bL h
   have e1:aV ((i:Int)+1)=((i+1:Nat):Int):=aG oM oM
   have e2:aV ((i:Int)+2)=((i+2:Nat):Int):=aG oM oM
   have c1:aF prog 285 [wL l,vI (aV ((i:Int)+1))] (pt (pJ l (i+1))):=by rw[e1];exact L1 l (i+1) gI
   have c2:aF prog 285 [wL l,vI (aV ((i:Int)+2))] (pt (pJ l (i+2))):=by rw[e2];exact L1 l (i+2) gI
   refine oi ⟨oM,oM⟩ ?_
   refine aB c1 ?_
   refine aB c2 ?_
   refine aD ?_
   repeat refine aR ?_
   refine bS (on (rF l i) (pJ l (i+1)) (pJ l (i+2))) ?_
   repeat refine aR ?_
   refine bS (on (pJ l (i+1)) (pJ l (i+2)) (rF l i)) ?_
   repeat refine aR ?_
   refine aI (fun h'=>?_) (fun h'=>?_)
   ·have h':(oI (rF l i) (pJ l (i+1))||iV (rF l i) (pJ l (i+1)) (pJ l (i+2))||iV (pJ l (i+1)) (pJ l (i+2)) (rF l i))=true:=h'
    refine aC.lit ?_
    have:pA l=true:=dX (i:=i) oM (by unfold IZ CZ BC;rw[Bool.or_assoc]at h';rw[←Bool.or_assoc,h'];rfl)
    rw[this];rfl
   ·have h':(oI (rF l i) (pJ l (i+1))||iV (rF l i) (pJ l (i+1)) (pJ l (i+2))||iV (pJ l (i+1)) (pJ l (i+2)) (rF l i))=false:=h'
    refine AW.cV (fun k:Nat=>⟨[(0,wL l),(3,vI l.length),(11,vI l.length),(12,vI i),(4,vI i),(5,.s (.ptr 5 0)),(6,.s (.ptr 6 0)),(8,vI k)],[(5,some (ptB (rF l i))),(6,some (ptB (pJ l (i+1))))]⟩) (fun k=>i+2≤k∧k≤l.length+2∧∀m,m<k→iB l i m=false) (fun k=>l.length+2 - k) (i+2) ⟨oM,oM,fun m hm=>by unfold iB;rw[decide_eq_false oM];rfl⟩ ?_ ?_
    ·exact aS.bO aA [] rfl ⟨bQ,bQ,oO⟩ ⟨qZ,qZ,qZ,qZ,qZ,qZ,qZ,⟨rfl,aU.int e2⟩,oO⟩
    ·rintro k ⟨hk1,WC,hm⟩
     refine eX aA ?_
     refine aI (fun LZ=>?_) (fun LZ=>?_)
     ·have LZ:(k:Int)<l.length:=bL LZ
      have e3:aV ((k:Int)+1)=((k+1:Nat):Int):=aG oM oM
      have e4:(aV ((k:Int)+1)).tmod l.length=(((k+1)%l.length:Nat):Int):=by
       rw[e3,Int.tmod_eq_emod_of_nonneg oM];rfl
      have c3:aF prog 285 [wL l,vI (aV ((k:Int)+1))] (pt (pJ l (k+1))):=by rw[e3];exact L1 l (k+1) gI
      refine oi oM ?_
      repeat refine aR ?_
      refine og (fun _=>⟨oM,oM⟩) ?_
      repeat refine aR ?_
      refine bS c3 ?_
      repeat refine aR ?_
      refine bS (aKC (rF l i) (pJ l (i+1)) (rF l k) (pJ l (k+1))) ?_
      repeat refine aR ?_
      refine aD ?_
      have key:(((aV ((k:Int)+1)).tmod l.length !=(i:Int))&&meet (rF l i) (pJ l (i+1)) (rF l k) (pJ l (k+1)))=iB l i k:=by
       unfold iB LH
       rw[decide_eq_true hk1,e4];rfl
      refine aI (fun DT=>?_) (fun DT=>?_)
      ·have DT:iB l i k=true:=key.symm.trans DT
       refine aC.lit ?_
       have:pA l=true:=dX (i:=i) oM (by unfold IZ CZ;rw[dX (i:=k) oM DT];simp)
       rw[this];rfl
      ·have DT:iB l i k=false:=key.symm.trans DT
       refine⟨k+1,⟨oM,oM,fun m LU=>?_⟩,oM,?_⟩
       ·by_cases hmk:m=k
        ·rw[hmk];exact DT
        ·exact hm m oM
       ·exact aS.bO aA [] rfl ⟨bQ,bQ,oO⟩ ⟨qZ,qZ,qZ,qZ,qZ,qZ,qZ,⟨rfl,aU.int e3⟩,oO⟩
     ·have LZ:¬(k:Int)<l.length:=bG LZ
      refine⟨i+1,⟨oM,fun j pX=>?_⟩,oM,?_⟩
      ·by_cases x8:j=i
       ·subst x8
        have hb:yD l.length (iB l j)=false:=nP fun m LU=>hm m oM
        unfold IZ CZ BC
        rw[hb]
        simp only [Bool.or_eq_false_iff]at h' ⊢
        exact⟨h'.1.1,⟨h'.1.2,h'.2⟩,oO⟩
       ·exact hj j oM
      ·exact aS.bO aA [] rfl trivial ⟨qZ,qZ,qZ,⟨rfl,aU.int e1⟩,oO⟩
  ·have h:¬(i:Int)<l.length:=bG h
   refine aC.lit ?_
   have:pA l=false:=nP fun j pX=>hj j oM
   rw[this];rfl
def kW(l:List Pt):Int:=
 bif decide ((l.length:Int)<3)then 10 else bif decide ((l.length:Int)>40)then 8 else bif l.any (fun p=> !eR p)then 2 else bif pA l then 3 else 0
theorem aFG(l:List Pt):aF prog 238 [wL l] (vB (decide ((l.length:Int)<3))):=by
 refine eP func238 rfl rfl call238 rfl rfl fun cx aA=>?_
 exact aC.refl _
theorem aFF(l:List Pt):aF prog 239 [wL l] (vB (decide ((l.length:Int)>40))):=by
 refine eP func239 rfl rfl call239 rfl rfl fun cx aA=>?_
 exact aC.refl _
theorem aFE(l:List Pt)(hl:l.length≤9223372036854775807):aF prog 240 [wL l] (vB (l.any fun p=> !eR p)):=by
 refine eP func240 rfl rfl call240 rfl rfl fun cx aA=>?_
 exact aB (A2 l hl) (aC.refl _)
theorem aFD(l:List Pt)(h3:3≤l.length)(h40:l.length≤40):aF prog 242 [wL l] (vB (pA l)):=by
 refine eP func242 rfl rfl call242 rfl rfl fun cx aA=>?_
 exact aB (simple l h3 h40) (aC.of_eq (by show vB (!(!_))=_;simp))
abbrev YJ:List SV:=[.d (dI 10),.d (.dR 238 0 fun _=>.bF),.d (dI 8),.d (.dR 239 0 fun _=>.bF),.d (dI 2),.d (.dR 240 0 fun _=>.bF),.d (dI 3),.d (.dR 242 0 fun _=>.bF)]
theorem aFC:aF prog 190 [] (.g YJ):=by
 refine eP func190 rfl rfl call190 rfl rfl fun cx aA=>?_
 exact aC.le ⟨aL.refl _,aL.dR fun j hj=>absurd hj (Nat.not_lt_zero j),aL.refl _,aL.dR fun j hj=>absurd hj (Nat.not_lt_zero j),aL.refl _,aL.dR fun j hj=>absurd hj (Nat.not_lt_zero j),aL.refl _,aL.dR fun j hj=>absurd hj (Nat.not_lt_zero j),oO⟩
theorem IK(l:List Pt)(hl:l.length≤9223372036854775807):aF prog 136 [wL l] (vI (kW l)):=by
 refine eP func136 rfl rfl call136 rfl rfl fun cx aA=>?_
 refine aB aFC ?_
 refine AW.cV (fun i:Nat=>⟨[(0,wL l),(5,.g YJ),(6,vI i)],[]⟩)
  (fun i=>i≤4∧(0<i→decide ((l.length:Int)<3)=false)∧(1<i→decide ((l.length:Int)>40)=false)∧(2<i→(l.any fun p=> !eR p)=false)∧(3<i→pA l=false)) (fun i=>4 - i) 0 ⟨oM,fun h=>absurd h oM,fun h=>absurd h oM,fun h=>absurd h oM,fun h=>absurd h oM⟩ ?_ ?_
 ·exact aS.bO aA [] rfl trivial ⟨qZ,qZ,qZ,oO⟩
 ·rintro i ⟨hi,h1,h2,h3,h4⟩
  refine eX aA ?_
  match i,hi with
  |0,_=>
   refine aI (fun _=>?_) (fun h=>by cases h)
   refine oi ⟨oM,oM⟩ ?_
   refine aB (aFG l) ?_
   refine aI (fun h=>?_) (fun h=>?_)
   ·exact aC.of_eq (by unfold kW;rw[h];rfl)
   ·refine⟨1,⟨oM,fun _=>h,fun h=>absurd h oM,fun h=>absurd h oM,fun h=>absurd h oM⟩,oM,?_⟩
    exact aS.bO aA [] rfl trivial ⟨qZ,qZ,qZ,oO⟩
  |1,_=>
   refine aI (fun _=>?_) (fun h=>by cases h)
   refine oi ⟨oM,oM⟩ ?_
   refine aB (aFF l) ?_
   refine aI (fun h=>?_) (fun h=>?_)
   ·exact aC.of_eq (by unfold kW;rw[h1 oM,h];rfl)
   ·refine⟨2,⟨oM,fun _=>h1 oM,fun _=>h,fun h=>absurd h oM,fun h=>absurd h oM⟩,oM,?_⟩
    exact aS.bO aA [] rfl trivial ⟨qZ,qZ,qZ,oO⟩
  |2,_=>
   refine aI (fun _=>?_) (fun h=>by cases h)
   refine oi ⟨oM,oM⟩ ?_
   refine aB (aFE l hl) ?_
   refine aI (fun h=>?_) (fun h=>?_)
   ·exact aC.of_eq (by unfold kW;rw[h1 oM,h2 oM,h];rfl)
   ·refine⟨3,⟨oM,fun _=>h1 oM,fun _=>h2 oM,fun _=>h,fun h=>absurd h oM⟩,oM,?_⟩
    exact aS.bO aA [] rfl trivial ⟨qZ,qZ,qZ,oO⟩
  |3,_=>
   refine aI (fun _=>?_) (fun h=>by cases h)
   refine oi ⟨oM,oM⟩ ?_
   have g1:=bG (h1 oM)
   have g2:=bG (h2 oM)
   refine aB (aFD l oM oM) ?_
   refine aI (fun h=>?_) (fun h=>?_)
   ·exact aC.of_eq (by unfold kW;rw[h1 oM,h2 oM,h3 oM,h];rfl)
   ·refine⟨4,⟨oM,fun _=>h1 oM,fun _=>h2 oM,fun _=>h3 oM,fun _=>h⟩,oM,?_⟩
    exact aS.bO aA [] rfl trivial ⟨qZ,qZ,qZ,oO⟩
  |4,_=>
   refine aI (fun h=>by cases h) (fun _=>?_)
   exact aC.of_eq (by unfold kW;rw[h1 oM,h2 oM,h3 oM,h4 oM];rfl)
theorem P5{α:Type} [Inhabited α] (p:α→Bool)(l:List α)(i:Nat)(hi:i<l.length)(h:p (l.getD i default)=true):l.any p=true:=by
 rw[List.any_eq_true]
 exact⟨l[i],sM,by rw[a7 hi]at h;exact h⟩
theorem P6{α:Type} [Inhabited α] (p:α→Bool)(l:List α)(h:∀i,i<l.length→p (l.getD i default)=false):l.any p=false:=by
 rw[List.any_eq_false]
 intro x hx
 obtain⟨i,hi,rfl⟩:=List.getElem_of_mem hx
 have:=h i hi
 rw[a7 hi]at this
 rw[this];simp
theorem H9(l:List Pt)(hl:l.length≤9223372036854775807):aF prog 163 [wL l] (vI (kW l)):=by
 refine eP func163 rfl rfl call163 rfl rfl fun cx aA=>?_
 refine aI (fun h1=>?_) (fun h1=>?_)
 ·exact aC.of_eq (by unfold kW;rw[h1];rfl)
 refine aI (fun h2=>?_) (fun h2=>?_)
 ·exact aC.of_eq (by unfold kW;rw[h1,h2];rfl)
 have g1:=bG h1
 have g2:=bG h2
 have gI:l≠[]:=by intro h;subst h;simp at g1
 refine AW.cV (fun i:Nat=>⟨[(0,wL l),(3,vI i)],[]⟩) (fun i=>i≤l.length∧∀j,j<i→eR (rF l j)=true) (fun i=>l.length - i) 0 ⟨Nat.zero_le _,fun j hj=>absurd hj (Nat.not_lt_zero j)⟩ ?_ ?_
 ·exact aS.bO aA [] rfl trivial ⟨qZ,qZ,oO⟩
 ·rintro i ⟨hi,hj⟩
  refine eX aA ?_
  refine aI (fun h=>?_) (fun h=>?_)
  ·have h:(i:Int)<l.length:=bL h
   refine oi ⟨oM,oM⟩ ?_
   refine aB (Good (rF l i)) ?_
   refine aI (fun h'=>?_) (fun h'=>?_)
   ·have h':(!eR (rF l i))=true:=h'
    refine aC.of_eq ?_
    unfold kW
    rw[h1,h2,P5 (fun p=> !eR p) l i oM h'];rfl
   ·have h':(!eR (rF l i))=false:=h'
    refine⟨i+1,⟨oM,fun j pX=>?_⟩,oM,?_⟩
    ·by_cases x8:j=i
     ·rw[x8];simpa using h'
     ·exact hj j oM
    ·exact aS.bO aA [] rfl trivial ⟨qZ,⟨rfl,aU.int (aG oM oM)⟩,oO⟩
  ·have h:¬(i:Int)<l.length:=bG h
   have h3:(l.any fun p=> !eR p)=false:=P6 _ l fun j pX=>by rw[hj j oM];rfl
   have fin:∀b,pZ l=b→kW l=bif b then 3 else 0:=by
    intro b hb
    unfold kW
    rw[h1,h2,h3,←R1 l oM,hb];rfl
   refine AW.cV (fun i:Nat=>⟨[(0,wL l),(4,vI l.length),(5,vI i)],[]⟩) (fun i=>i≤l.length∧∀j,j<i→K9 l j=false) (fun i=>l.length - i) 0 ⟨Nat.zero_le _,fun j hj=>absurd hj (Nat.not_lt_zero j)⟩ ?_ ?_
   ·exact aS.bO aA [] rfl trivial ⟨qZ,qZ,qZ,oO⟩
   ·rintro i ⟨hi,hj⟩
    refine eX aA ?_
    refine aI (fun h=>?_) (fun h=>?_)
    ·have h:(i:Int)<l.length:=bL h
     refine AW.cV (fun k:Nat=>⟨[(0,wL l),(4,vI l.length),(5,vI i),(6,vI k)],[]⟩) (fun k=>k≤i∧∀j,j<k→oI (rF l i) (rF l j)=false) (fun k=>i - k) 0 ⟨Nat.zero_le _,fun j hj=>absurd hj (Nat.not_lt_zero j)⟩ ?_ ?_
     ·exact aS.bO aA [] rfl trivial ⟨qZ,qZ,qZ,qZ,oO⟩
     ·rintro k ⟨hk,hm⟩
      refine eX aA ?_
      refine aI (fun h'=>?_) (fun h'=>?_)
      ·have h':(k:Int)<i:=bL h'
       refine oi ⟨oM,oM⟩ ?_
       refine oi ⟨oM,oM⟩ ?_
       refine aD ?_
       refine aI (fun LZ=>?_) (fun LZ=>?_)
       ·have LZ:oI (rF l i) (rF l k)=true:=LZ
        exact aC.of_eq (by rw[fin true (by unfold pZ;rw[dX (i:=i) oM (dX (i:=k) oM LZ)];rfl)];rfl)
       ·have LZ:oI (rF l i) (rF l k)=false:=LZ
        refine⟨k+1,⟨oM,fun j pX=>?_⟩,oM,?_⟩
        ·by_cases QK:j=k
         ·rw[QK];exact LZ
         ·exact hm j oM
        ·exact aS.bO aA [] rfl trivial ⟨qZ,qZ,qZ,⟨rfl,aU.int (aG oM oM)⟩,oO⟩
      ·have h':¬(k:Int)<i:=bG h'
       refine⟨i+1,⟨oM,fun j pX=>?_⟩,oM,?_⟩
       ·by_cases x8:j=i
        ·rw[x8];exact nP fun m LU=>hm m oM
        ·exact hj j oM
       ·exact aS.bO aA [] rfl trivial ⟨qZ,qZ,⟨rfl,aU.int (aG oM oM)⟩,oO⟩
    ·have h:¬(i:Int)<l.length:=bG h
     have aJN:yD l.length (K9 l)=false:=nP fun j pX=>hj j oM
     refine AW.cV (fun i:Nat=>⟨[(0,wL l),(4,vI l.length),(7,vI i)],[]⟩) (fun i=>i≤l.length∧∀j,j<i→CZ l j=false) (fun i=>l.length - i) 0 ⟨Nat.zero_le _,fun j hj=>absurd hj (Nat.not_lt_zero j)⟩ ?_ ?_
     ·exact aS.bO aA [] rfl trivial ⟨qZ,qZ,qZ,oO⟩
     ·rintro i ⟨hi,hj⟩
      refine eX aA ?_
      refine aI (fun h=>?_) (fun h=>?_)
      ·have h:(i:Int)<l.length:=bL h
       have e1:aV ((i:Int)+1)=((i+1:Nat):Int):=aG oM oM
       have e2:aV ((i:Int)+2)=((i+2:Nat):Int):=aG oM oM
       have c0:aF prog 198 [wL l,vI i] (pt (rF l i)):=by have:=HD l i gI;rw[Nat.mod_eq_of_lt oM]at this;exact this
       have c1:aF prog 198 [wL l,vI (aV ((i:Int)+1))] (pt (pJ l (i+1))):=by rw[e1];exact HD l (i+1) gI
       have c2:aF prog 198 [wL l,vI (aV ((i:Int)+2))] (pt (pJ l (i+2))):=by rw[e2];exact HD l (i+2) gI
       refine aB c0 ?_
       refine aB c1 ?_
       refine aB c2 ?_
       refine aB (xZ (rF l i) (pJ l (i+1)) (pJ l (i+2))) ?_
       repeat refine aR ?_
       refine bS (xZ (pJ l (i+1)) (pJ l (i+2)) (rF l i)) ?_
       repeat refine aR ?_
       refine aI (fun h'=>?_) (fun h'=>?_)
       ·have h':BC l i=true:=h'
        exact aC.of_eq (by rw[fin true (by unfold pZ;rw[dX (i:=i) (p:=CZ l) oM (by unfold CZ;rw[h'];rfl)];simp)];rfl)
       ·have h':BC l i=false:=h'
        refine AW.cV (fun k:Nat=>⟨[(0,wL l),(4,vI l.length),(7,vI i),(8,.s (.ptr 8 0)),(9,.s (.ptr 9 0)),(11,vI k)],[(8,some (ptB (rF l i))),(9,some (ptB (pJ l (i+1))))]⟩) (fun k=>i+2≤k∧k≤l.length+2∧∀m,m<k→iB l i m=false) (fun k=>l.length+2 - k) (i+2) ⟨oM,oM,fun m hm=>by unfold iB;rw[decide_eq_false oM];rfl⟩ ?_ ?_
        ·exact aS.bO aA [] rfl ⟨bQ,bQ,oO⟩ ⟨qZ,qZ,qZ,qZ,qZ,⟨rfl,aU.int e2⟩,oO⟩
        ·rintro k ⟨hk1,WC,hm⟩
         refine eX aA ?_
         refine aI (fun LZ=>?_) (fun LZ=>?_)
         ·have LZ:(k:Int)<l.length:=bL LZ
          have e3:aV ((k:Int)+1)=((k+1:Nat):Int):=aG oM oM
          have e4:(aV ((k:Int)+1)).tmod l.length=(((k+1)%l.length:Nat):Int):=by
           rw[e3,Int.tmod_eq_emod_of_nonneg oM];rfl
          have d0:aF prog 198 [wL l,vI k] (pt (rF l k)):=by have:=HD l k gI;rw[Nat.mod_eq_of_lt oM]at this;exact this
          have d1:aF prog 198 [wL l,vI (aV ((k:Int)+1))] (pt (pJ l (k+1))):=by rw[e3];exact HD l (k+1) gI
          refine oi oM ?_
          repeat refine aR ?_
          refine bS d0 ?_
          repeat refine aR ?_
          refine bS d1 ?_
          repeat refine aR ?_
          refine bS (aNP (rF l i) (pJ l (i+1)) (rF l k) (pJ l (k+1))) ?_
          repeat refine aR ?_
          refine aD ?_
          have key:(((aV ((k:Int)+1)).tmod l.length !=(i:Int))&&meet (rF l i) (pJ l (i+1)) (rF l k) (pJ l (k+1)))=iB l i k:=by
           unfold iB LH
           rw[decide_eq_true hk1,e4];rfl
          refine aI (fun DT=>?_) (fun DT=>?_)
          ·have DT:iB l i k=true:=key.symm.trans DT
           exact aC.of_eq (by rw[fin true (by unfold pZ;rw[dX (i:=i) (p:=CZ l) oM (by unfold CZ;rw[dX (i:=k) oM DT];simp)];simp)];rfl)
          ·have DT:iB l i k=false:=key.symm.trans DT
           refine⟨k+1,⟨oM,oM,fun m LU=>?_⟩,oM,?_⟩
           ·by_cases hmk:m=k
            ·rw[hmk];exact DT
            ·exact hm m oM
           ·exact aS.bO aA [] rfl ⟨bQ,bQ,oO⟩ ⟨qZ,qZ,qZ,qZ,qZ,⟨rfl,aU.int e3⟩,oO⟩
         ·have LZ:¬(k:Int)<l.length:=bG LZ
          refine⟨i+1,⟨oM,fun j pX=>?_⟩,oM,?_⟩
          ·by_cases x8:j=i
           ·subst x8
            have hb:yD l.length (iB l j)=false:=nP fun m LU=>hm m oM
            unfold CZ
            rw[hb,h'];rfl
           ·exact hj j oM
          ·exact aS.bO aA [] rfl trivial ⟨qZ,qZ,⟨rfl,aU.int e1⟩,oO⟩
      ·have h:¬(i:Int)<l.length:=bG h
       exact aC.of_eq (by rw[fin false (by unfold pZ;rw[aJN,nP (p:=CZ l) fun j pX=>hj j oM];rfl)];rfl)
def bB(a b:ByteArray):Bool:=a.toList==b.toList
def oK(r:yP)(before:List yP):Int:=
 bif !isName r.name then 4 else bif before.any (fun q=>bB q.name r.name)then 5 else bif !within r.kind 0 3 then 2 else kW r.kZ
def SK(s:ByteArray):Nat→DV
 |0=>dS s
 |_=>.bF
theorem aCE(q:yP)(s:ByteArray)(f:Nat→DV)(hf:f 0=dS s):aF prog 135 [reg q,.s (.d (.rp 3 f))] (vB (bB q.name s)):=by
 refine aF.conv (args:=[reg q,.s (.d (.rp 3 (SK s)))]) ?_ ⟨⟨aL.refl _,aL.refl _,aL.refl _,oO⟩,aL.rp fun j hj=>?_,oO⟩
 ·refine eP func135 rfl rfl call135 rfl rfl fun cx _=>?_
  exact aC.refl _
 ·match j with
  |0=>exact aL.of_eq hf
  |_+1=>exact fun _ _ _=>trivial
theorem PT(r:yP)(before:List yP)(hr:r.name.size≤9223372036854775807)(hc:r.kZ.length≤9223372036854775807)(hb:before.length≤9223372036854775807):
  aF prog 74 [reg r,E9 before] (vI (oK r before)):=by
 refine eP func74 rfl rfl call74 rfl rfl fun cx aA=>?_
 refine aB (named r.name hr) ?_
 refine aI (fun h1=>?_) (fun h1=>?_)
 ·exact aC.of_eq (by unfold oK;rw[h1];rfl)
 refine aB (W0 before hb 135 1 _ (fun q=>bB q.name r.name) (fun q _=>aCE q r.name _ rfl)) ?_
 refine aI (fun h2=>?_) (fun h2=>?_)
 ·exact aC.of_eq (by unfold oK;rw[h1,h2];rfl)
 refine aB (outside _ _ _) ?_
 refine aI (fun h3=>?_) (fun h3=>?_)
 ·exact aC.of_eq (by unfold oK;rw[h1,h2,h3];rfl)
 refine aB (IK r.kZ hc) ?_
 exact aC.of_eq (by unfold oK;rw[h1,h2,h3];rfl)
theorem Q0(r:yP)(before:List yP)(hr:r.name.size≤9223372036854775807)(hc:r.kZ.length≤9223372036854775807)(hb:before.length≤9223372036854775807):
  aF prog 92 [reg r,E9 before] (vI (oK r before)):=by
 refine eP func92 rfl rfl call92 rfl rfl fun cx aA=>?_
 refine aB (rT r.name hr) ?_
 refine aI (fun h1=>?_) (fun h1=>?_)
 ·exact aC.of_eq (by unfold oK;rw[h1];rfl)
 refine AW.cV (fun i:Nat=>⟨[(1,E9 before),(2,.s (.ptr 2 0)),(5,vI i)],[(2,some (.cells [.d (dS r.name),.d (dI r.kind),.d (WZ r.kZ)]))]⟩) (fun i=>i≤before.length∧∀j,j<i→bB (before.getD j default).name r.name=false) (fun i=>before.length - i) 0 ⟨Nat.zero_le _,fun j hj=>absurd hj (Nat.not_lt_zero j)⟩ ?_ ?_
 ·exact aS.bO aA [] rfl ⟨bQ,oO⟩ ⟨qZ,qZ,qZ,oO⟩
 ·rintro i ⟨hi,hj⟩
  refine eX aA ?_
  refine aI (fun h=>?_) (fun h=>?_)
  ·have h:(i:Int)<before.length:=bL h
   refine oi ⟨oM,oM⟩ ?_
   refine aD ?_
   refine aI (fun h'=>?_) (fun h'=>?_)
   ·have h':bB (before.getD i default).name r.name=true:=h'
    exact aC.of_eq (by unfold oK;rw[h1,P5 (fun q:yP=>bB q.name r.name) before i oM h'];rfl)
   ·refine⟨i+1,⟨oM,fun j pX=>?_⟩,oM,?_⟩
    ·by_cases x8:j=i
     ·rw[x8];exact h'
     ·exact hj j oM
    ·exact aS.bO aA [] rfl ⟨bQ,oO⟩ ⟨qZ,qZ,⟨rfl,aU.int (aG oM oM)⟩,oO⟩
  ·have h:¬(i:Int)<before.length:=bG h
   have h2:(before.any fun q=>bB q.name r.name)=false:=P6 _ before fun j pX=>hj j oM
   refine aB (cD _ _ _) ?_
   refine aI (fun h3=>?_) (fun h3=>?_)
   ·exact aC.of_eq (by unfold oK;rw[h1,h2,h3];rfl)
   refine aB (H9 r.kZ hc) ?_
   exact aC.of_eq (by unfold oK;rw[h1,h2,h3];rfl)
def HP(over:Int)(a:Ap):Bool:= !eR a.pt|| !within a.half 1 100000|| !within a.level (aV (over - 20000)) 20000|| !within a.run 0 1000
def z8(l:List Ap)(i:Nat):Bool:=decide ((i:Int)>0)&&oI (l.getD i default).pt (l.getD (aV ((i:Int) - 1)).toNat default).pt
def qH(over:Int)(l:List Ap):Nat→Nat→Int
 |0,_=>0
 |n+1,i=>bif HP over (l.getD i default)then 2 else bif z8 l i then 5 else qH over l n (i+1)
def lD(c:jS):Int:=bif decide ((c.aX.length:Int)<2)then 10 else bif decide ((c.aX.length:Int)>20)then 8 else qH c.over c.aX c.aX.length 0
theorem W8(c:jS):aF prog 73 [chan c] (vI (lD c)):=by
 refine eP func73 rfl rfl call73 rfl rfl fun cx aA=>?_
 refine aI (fun h1=>?_) (fun h1=>?_)
 ·exact aC.of_eq (by unfold lD;rw[h1];rfl)
 refine aI (fun h2=>?_) (fun h2=>?_)
 ·exact aC.of_eq (by unfold lD;rw[h1,h2];rfl)
 have g2:=bG h2
 refine AW.cV (fun i:Nat=>⟨[(1,.s (.ptr 1 0)),(14,aLJ c.aX),(15,vI c.aX.length),(16,vI i)],[(1,some (HH c))]⟩) (fun i=>i≤c.aX.length∧qH c.over c.aX c.aX.length 0=qH c.over c.aX (c.aX.length - i) i) (fun i=>c.aX.length - i) 0 ⟨Nat.zero_le _,rfl⟩ ?_ ?_
 ·exact aS.bO aA [] rfl ⟨bQ,oO⟩ ⟨qZ,qZ,qZ,qZ,oO⟩
 ·rintro i ⟨hi,hj⟩
  refine eX aA ?_
  refine aI (fun h=>?_) (fun h=>?_)
  ·have h:(i:Int)<c.aX.length:=bL h
   rw[show c.aX.length - i=(c.aX.length - (i+1))+1 by omega,qH]at hj
   refine oi ⟨oM,oM⟩ ?_
   refine aB (place (aX c i)) ?_
   refine aB (aC3 (aX c i).pt) ?_
   repeat refine aR ?_
   refine bS (outside _ _ _) ?_
   repeat refine aR ?_
   refine bS (outside _ _ _) ?_
   repeat refine aR ?_
   refine bS (outside _ _ _) ?_
   repeat refine aR ?_
   refine aI (fun h3=>?_) (fun h3=>?_)
   ·have h3:HP c.over (aX c i)=true:=h3
    exact aC.of_eq (by unfold lD;rw[h1,h2,hj,h3];rfl)
   have h3:HP c.over (aX c i)=false:=h3
   repeat refine aR ?_
   refine bS (place (aX c i)) ?_
   repeat refine aR ?_
   refine og (fun hb=>?_) ?_
   ·have:=bL hb
    show 0≤aV ((i:Int) - 1)∧aV ((i:Int) - 1)<_
    rw[aG (n:=(i:Int) - 1) oM oM]
    exact⟨oM,oM⟩
   repeat refine aR ?_
   refine bS (place (c.aX.getD (aV ((i:Int) - 1)).toNat default)) ?_
   repeat refine aR ?_
   refine aD ?_
   refine aI (fun h4=>?_) (fun h4=>?_)
   ·have h4:z8 c.aX i=true:=h4
    exact aC.of_eq (by unfold lD;rw[h1,h2,hj,h3,h4];rfl)
   ·have h4:z8 c.aX i=false:=h4
    refine⟨i+1,⟨oM,by rw[hj,h3,h4];rfl⟩,oM,?_⟩
    exact aS.bO aA [] rfl ⟨bQ,oO⟩ ⟨qZ,qZ,qZ,⟨rfl,aU.int (aG oM oM)⟩,oO⟩
  ·have h:¬(i:Int)<c.aX.length:=bG h
   exact aC.of_eq (by unfold lD;rw[h1,h2,hj,show c.aX.length - i=0 by omega];rfl)
def qW(l:List yP):Nat→Nat→Int
 |0,_=>0
 |n+1,i=>bif oK (l.getD i default) (l.take i) !=0 then oK (l.getD i default) (l.take i)else qW l n (i+1)
def l8(c:jS):Int:=
 bif !isName c.name then 4
 else bif !within c.over 0 1000|| !within c.buffer 0 100000 then 2
 else bif lD c !=0 then lD c
 else bif decide ((c.regions.length:Int)>20)then 8
 else qW c.regions c.regions.length 0
theorem I5(l:List yP)(i:Nat)(hi:i≤l.length):aL (.fW (i:Int).toNat 3 (YX l)) (yM (l.take i)):=by
 refine aL.zZ (by simp;omega) fun a b ha hb=>aL.of_eq ?_
 have ha:a<i:=ha
 unfold YX
 congr 1
 simp[ha]
theorem yP.okD{l:List yP}(h:∀a∈l,a.ok){i:Nat}(hi:i<l.length):(l.getD i default).ok:=by
 rw[a7 hi];exact h _ (List.getElem_mem hi)
theorem aAK(c:jS)(hc:c.ok):aF prog 26 [chan c] (vI (l8 c)):=by
 refine eP func26 rfl rfl call26 rfl rfl fun cx aA=>?_
 refine aB (named c.name hc.name) ?_
 refine aI (fun h1=>?_) (fun h1=>?_)
 ·exact aC.of_eq (by unfold l8;rw[h1];rfl)
 refine aB (outside _ _ _) ?_
 repeat refine aR ?_
 refine bS (outside _ _ _) ?_
 repeat refine aR ?_
 refine aI (fun h2=>?_) (fun h2=>?_)
 ·exact aC.of_eq (by unfold l8;rw[h1,h2];rfl)
 refine aB (W8 c) ?_
 refine aI (fun h3=>?_) (fun h3=>?_)
 ·exact aC.of_eq (by unfold l8;rw[h1,h2,h3];rfl)
 refine aI (fun h4=>?_) (fun h4=>?_)
 ·exact aC.of_eq (by unfold l8;rw[h1,h2,h3,h4];rfl)
 have g4:=bG h4
 refine AW.cV (fun i:Nat=>⟨[(1,.s (.ptr 1 0)),(29,E9 c.regions),(30,vI c.regions.length),(31,vI i)],[(1,some (HH c))]⟩) (fun i=>i≤c.regions.length∧qW c.regions c.regions.length 0=qW c.regions (c.regions.length - i) i) (fun i=>c.regions.length - i) 0 ⟨Nat.zero_le _,rfl⟩ ?_ ?_
 ·exact aS.bO aA [] rfl ⟨bQ,oO⟩ ⟨qZ,qZ,qZ,qZ,oO⟩
 ·rintro i ⟨hi,hj⟩
  refine eX aA ?_
  refine aI (fun h=>?_) (fun h=>?_)
  ·have h:(i:Int)<c.regions.length:=bL h
   rw[show c.regions.length - i=(c.regions.length - (i+1))+1 by omega,qW]at hj
   have fG:=yP.okD hc.aIF (show i<c.regions.length by omega)
   refine oi ⟨oM,oM⟩ ?_
   refine oi ⟨dC,by show(0:Int)≤(i:Int);omega,by show(i:Int)≤_;omega⟩ ?_
   refine aB ((PT (c.regions.getD i default) (c.regions.take i) fG.1 fG.2.2.1 (by simp;omega)).conv (args':=_) ⟨⟨aL.refl _,aL.refl _,aL.refl _,oO⟩,I5 c.regions i hi,oO⟩) ?_
   refine aD ?_
   refine aI (fun h5=>?_) (fun h5=>?_)
   ·exact aC.of_eq (by unfold l8;rw[h1,h2,h3,h4,hj,h5];rfl)
   ·refine⟨i+1,⟨oM,by rw[hj,h5];rfl⟩,oM,?_⟩
    exact aS.bO aA [] rfl ⟨bQ,oO⟩ ⟨qZ,qZ,qZ,⟨rfl,aU.int (aG oM oM)⟩,oO⟩
  ·have h:¬(i:Int)<c.regions.length:=bG h
   exact aC.of_eq (by unfold l8;rw[h1,h2,h3,h4,hj,show c.regions.length - i=0 by omega];rfl)
theorem aFT(c:jS)(hc:c.ok):aF prog 34 [chan c] (vI (l8 c)):=by
 refine eP func34 rfl rfl call34 rfl rfl fun cx aA=>?_
 refine aB (rT c.name hc.name) ?_
 refine aI (fun h1=>?_) (fun h1=>?_)
 ·exact aC.of_eq (by unfold l8;rw[h1];rfl)
 refine aB (cD _ _ _) ?_
 repeat refine aR ?_
 refine bS (cD _ _ _) ?_
 repeat refine aR ?_
 refine aI (fun h2=>?_) (fun h2=>?_)
 ·exact aC.of_eq (by unfold l8;rw[h1,h2];rfl)
 refine aI (fun a1=>?_) (fun a1=>?_)
 ·have h3:lD c=10:=by unfold lD;rw[a1];rfl
  exact aC.of_eq (by unfold l8;rw[h1,h2,h3];rfl)
 refine aI (fun a2=>?_) (fun a2=>?_)
 ·have h3:lD c=8:=by unfold lD;rw[a1,a2];rfl
  exact aC.of_eq (by unfold l8;rw[h1,h2,h3];rfl)
 have g2:=bG a2
 refine AW.cV (fun i:Nat=>⟨[(1,.s (.ptr 1 0)),(3,vI i)],[(1,some (HH c))]⟩) (fun i=>i≤c.aX.length∧qH c.over c.aX c.aX.length 0=qH c.over c.aX (c.aX.length - i) i) (fun i=>c.aX.length - i) 0 ⟨Nat.zero_le _,rfl⟩ ?_ ?_
 ·exact aS.bO aA [] rfl ⟨bQ,oO⟩ ⟨qZ,qZ,oO⟩
 ·rintro i ⟨hi,hj⟩
  refine eX aA ?_
  refine aI (fun h=>?_) (fun h=>?_)
  ·have h:(i:Int)<c.aX.length:=bL h
   rw[show c.aX.length - i=(c.aX.length - (i+1))+1 by omega,qH]at hj
   refine oi ⟨oM,oM⟩ ?_
   refine aB (Place (aX c i)) ?_
   refine aB (Good (aX c i).pt) ?_
   repeat refine aR ?_
   refine bS (cD _ _ _) ?_
   repeat refine aR ?_
   refine bS (cD _ _ _) ?_
   repeat refine aR ?_
   refine bS (cD _ _ _) ?_
   repeat refine aR ?_
   have key:(!eR (aX c i).pt|| !within (aX c i).half 1 100000|| !within (aX c i).level (aV (-20000+c.over)) 20000|| !within (aX c i).run 0 1000)=HP c.over (aX c i):=by
    unfold HP
    rw[show -20000+c.over=c.over - 20000 by omega]
   refine aI (fun h3=>?_) (fun h3=>?_)
   ·have h3:HP c.over (aX c i)=true:=key.symm.trans h3
    have DT:lD c=2:=by unfold lD;rw[a1,a2,hj,h3];rfl
    exact aC.of_eq (by unfold l8;rw[h1,h2,DT];rfl)
   have h3:HP c.over (aX c i)=false:=key.symm.trans h3
   repeat refine aR ?_
   refine bS (Place (aX c i)) ?_
   repeat refine aR ?_
   refine og (fun hb=>?_) ?_
   ·have:=bL hb
    show 0≤aV ((i:Int) - 1)∧aV ((i:Int) - 1)<_
    rw[aG (n:=(i:Int) - 1) oM oM]
    exact⟨oM,oM⟩
   repeat refine aR ?_
   refine bS (Place (c.aX.getD (aV ((i:Int) - 1)).toNat default)) ?_
   repeat refine aR ?_
   refine aD ?_
   refine aI (fun h4=>?_) (fun h4=>?_)
   ·have h4:z8 c.aX i=true:=h4
    have DT:lD c=5:=by unfold lD;rw[a1,a2,hj,h3,h4];rfl
    exact aC.of_eq (by unfold l8;rw[h1,h2,DT];rfl)
   ·have h4:z8 c.aX i=false:=h4
    refine⟨i+1,⟨oM,by rw[hj,h3,h4];rfl⟩,oM,?_⟩
    exact aS.bO aA [] rfl ⟨bQ,oO⟩ ⟨qZ,⟨rfl,aU.int (aG oM oM)⟩,oO⟩
  ·have h:¬(i:Int)<c.aX.length:=bG h
   have h3:lD c=0:=by unfold lD;rw[a1,a2,hj,show c.aX.length - i=0 by omega];rfl
   refine aI (fun h4=>?_) (fun h4=>?_)
   ·exact aC.of_eq (by unfold l8;rw[h1,h2,h3,h4];rfl)
   have g4:=bG h4
   refine AW.cV (fun i:Nat=>⟨[(1,.s (.ptr 1 0)),(5,vI i)],[(1,some (HH c))]⟩) (fun i=>i≤c.regions.length∧qW c.regions c.regions.length 0=qW c.regions (c.regions.length - i) i) (fun i=>c.regions.length - i) 0 ⟨Nat.zero_le _,rfl⟩ ?_ ?_
   ·exact aS.bO aA [] rfl ⟨bQ,oO⟩ ⟨qZ,qZ,oO⟩
   ·rintro i ⟨hi,hj⟩
    refine eX aA ?_
    refine aI (fun h=>?_) (fun h=>?_)
    ·have h:(i:Int)<c.regions.length:=bL h
     rw[show c.regions.length - i=(c.regions.length - (i+1))+1 by omega,qW]at hj
     have fG:=yP.okD hc.aIF (show i<c.regions.length by omega)
     refine oi ⟨oM,oM⟩ ?_
     refine oi ⟨dC,by show(0:Int)≤(i:Int);omega,by show(i:Int)≤_;omega⟩ ?_
     refine aB ((Q0 (c.regions.getD i default) (c.regions.take i) fG.1 fG.2.2.1 (by simp;omega)).conv (args':=_) ⟨⟨aL.refl _,aL.refl _,aL.refl _,oO⟩,I5 c.regions i hi,oO⟩) ?_
     refine aD ?_
     refine aI (fun h5=>?_) (fun h5=>?_)
     ·exact aC.of_eq (by unfold l8;rw[h1,h2,h3,h4,hj,h5];rfl)
     ·refine⟨i+1,⟨oM,by rw[hj,h5];rfl⟩,oM,?_⟩
      exact aS.bO aA [] rfl ⟨bQ,oO⟩ ⟨qZ,⟨rfl,aU.int (aG oM oM)⟩,oO⟩
    ·have h:¬(i:Int)<c.regions.length:=bG h
     exact aC.of_eq (by unfold l8;rw[h1,h2,h3,h4,hj,show c.regions.length - i=0 by omega];rfl)
def aET(g:eZ):Nat→DV
 |0=>dI g.x
 |1=>dI g.y
 |2=>dI g.side
 |3=>dI g.dL
 |4=>dI g.rows
 |5=>cE g.levels
 |_=>.bF
def CN(l:List eZ):Nat→Nat→DV:=fun i=>aET (l.getD i default)
def cU(l:List eZ):DV:=.fW l.length 6 (CN l)
def GY(l:List eZ):Nat→Nat→Int
 |0,_=>bif ((l.length:Int)==2)&& !alike (l.getD 0 default) (l.getD 1 default)then 10 else 0
 |n+1,i=>bif jP (l.getD i default) !=0 then jP (l.getD i default)else GY l n (i+1)
def lV(c:jS)(l:List eZ):Int:=bif l8 c !=0 then l8 c else GY l l.length 0
theorem MZ(c:jS)(g:eZ):lV c [g]=bif l8 c !=0 then l8 c else jP g:=by
 unfold lV
 cases h:l8 c !=0
 ·show GY [g] 1 0=jP g
  show(bif jP g !=0 then jP g else 0)=jP g
  cases h':jP g !=0
  ·simp at h';exact h'.symm
  ·rfl
 ·rfl
attribute [local irreducible] jP l8 in
theorem aK2(c:jS)(g:eZ)(hc:c.ok)(hg:g.ok):aF prog 229 [chan c,w3 g] (vI (lV c [g])):=by
 rw[MZ]
 refine eP func229 rfl rfl call229 rfl rfl fun cx aA=>?_
 refine aB (aAK c hc) ?_
 refine aI (fun h1=>?_) (fun h1=>?_)
 ·exact aC.of_eq (by rw[h1];rfl)
 refine aB (SQ g hg.levels) ?_
 exact aC.of_eq (by rw[h1];rfl)
theorem EB{over:Int}{l:List Ap}:∀{n i:Nat},qH over l n i=0→∀j,i≤j→j<i+n→HP over (l.getD j default)=false∧z8 l j=false
 |0,i,_,j,h1,h2=>by omega
 |n+1,i,h,j,h1,h2=>by
  rw[qH]at h
  cases hb:HP over (l.getD i default)with
  |true=>rw[hb]at h;cases h
  |false=>
   cases hs:z8 l i with
   |true=>rw[hb,hs]at h;cases h
   |false=>
    rw[hb,hs]at h
    by_cases XU:j=i
    ·subst XU;exact⟨hb,hs⟩
    ·exact EB (n:=n) (i:=i+1) h j oM oM
theorem aE4(c:jS)(h:l8 c=0):Val c:=by
 unfold l8 at h
 cases h1:isName c.name with
 |false=>rw[h1]at h;cases h
 |true=>
  rw[h1]at h
  cases h2:(!within c.over 0 1000|| !within c.buffer 0 100000)with
  |true=>rw[h2]at h;cases h
  |false=>
   rw[h2]at h
   cases h3:lD c !=0 with
   |true=>
    rw[h3]at h
    have h:lD c=0:=h
    rw[h]at h3;cases h3
   |false=>
    have h3:lD c=0:=by simpa using h3
    unfold lD at h3
    cases a1:decide ((c.aX.length:Int)<2)with
    |true=>rw[a1]at h3;cases h3
    |false=>
     cases a2:decide ((c.aX.length:Int)>20)with
     |true=>rw[a1,a2]at h3;cases h3
     |false=>
      rw[a1,a2]at h3
      have h3:qH c.over c.aX c.aX.length 0=0:=h3
      have g1:=bG a1
      have g2:=bG a2
      simp[within]at h2
      have hov:aV (c.over - 20000)=c.over - 20000:=aG oM oM
      have hA:∀i,i<c.aX.length→HP c.over (aX c i)=false∧z8 c.aX i=false:=fun i hi=>EB h3 i (Nat.zero_le _) oM
      have hB:∀i,i<c.aX.length→eR (aX c i).pt=true∧(1≤(aX c i).half∧(aX c i).half≤100000)∧(c.over - 20000≤(aX c i).level∧(aX c i).level≤20000)∧(0≤(aX c i).run∧(aX c i).run≤1000):=by
       intro i hi
       have:=(hA i hi).1
       unfold HP at this
       rw[hov]at this
       simp only [Bool.or_eq_false_iff,Bool.not_eq_false']at this
       obtain⟨⟨⟨q1,q2⟩,q3⟩,q4⟩:=this
       simp only [within,Bool.and_eq_true,decide_eq_true_eq,ge_iff_le]at q2 q3 q4
       exact⟨q1,q2,q3,q4⟩
      refine⟨oM,oM,fun i hi=>(hB i hi).1,fun i hi=>(hB i hi).2.1,fun i hi=>(hB i hi).2.2.1,fun i hi=>(hB i hi).2.2.2,fun i hi=>?_,oM,oM⟩
      intro he
      have:=(hA (i+1) hi).2
      unfold z8 at this
      rw[decide_eq_true oM,Bool.true_and,aG oM oM]at this
      have e:((((i+1:Nat):Int) - 1).toNat)=i:=oM
      rw[e]at this
      rw[l0.2 he.symm]at this
      cases this
structure EO(g:eZ):Prop where
 x: -1000000≤g.x∧g.x≤1000000
 y: -1000000≤g.y∧g.y≤1000000
 side:100≤g.side∧g.side≤10000
 dL:1≤g.dL∧g.dL≤1024
 rows:1≤g.rows∧g.rows≤1024
 aMC:g.dL*g.rows≤1024
 right:g.x+g.dL*g.side≤1000000
 top:g.y+g.rows*g.side≤1000000
 len:(g.levels.length:Int)=g.dL*g.rows
 lev:∀n∈g.levels,n=30000∨(-20000≤n∧n≤20000)
theorem EO.of{g:eZ}(h:jP g=0):EO g:=by
 unfold jP at h
 cases h1:e1 g with
 |true=>rw[h1]at h;cases h
 |false=>
  rw[h1]at h
  unfold e1 at h1
  simp only [Bool.or_eq_false_iff,Bool.not_eq_false']at h1
  obtain⟨⟨⟨⟨q1,q2⟩,q3⟩,q4⟩,q5⟩:=h1
  simp only [within,Bool.and_eq_true,decide_eq_true_eq,ge_iff_le]at q1 q2 q3 q4 q5
  have m1:=jZ (a:=g.dL) (b:=g.rows) (A:=1024) (B:=1024) oM oM oM oM
  have m2:=jZ (a:=g.dL) (b:=g.side) (A:=1024) (B:=10000) oM oM oM oM
  have m3:=jZ (a:=g.rows) (b:=g.side) (A:=1024) (B:=10000) oM oM oM oM
  rw[aG (n:=g.dL*g.rows) oM oM,aG (n:=g.dL*g.side) oM oM,aG (n:=g.rows*g.side) oM oM,
   aG (n:=g.x+g.dL*g.side) oM oM,aG (n:=g.y+g.rows*g.side) oM oM]at h
  cases h2:decide (g.dL*g.rows>1024)with
  |true=>rw[h2]at h;cases h
  |false=>
   rw[h2]at h
   cases h3:(decide (g.x+g.dL*g.side>1000000)||decide (g.y+g.rows*g.side>1000000))with
   |true=>rw[h3]at h;cases h
   |false=>
    rw[h3]at h
    cases h4:((g.levels.length:Int) !=g.dL*g.rows)with
    |true=>rw[h4]at h;cases h
    |false=>
     rw[h4]at h
     cases h5:g.levels.any iR with
     |true=>rw[h5]at h;cases h
     |false=>
      simp only [Bool.or_eq_false_iff,decide_eq_false_iff_not]at h2 h3
      have h4:(g.levels.length:Int)=g.dL*g.rows:=by simpa using h4
      refine⟨q1,q2,q3,q4,q5,oM,oM,oM,h4,fun n hn=>?_⟩
      rw[List.any_eq_false]at h5
      have:=h5 n hn
      by_cases hu:n=30000
      ·exact .inl hu
      ·right
       simp[iR,within,hu]at this
       omega
theorem EO.n{g:eZ}(h:EO g):g.levels.length≤1024:=by have:=h.len;have:=h.aMC;omega
theorem PX{g:eZ}(h:EO g){i:Nat}(hi:i<g.levels.length):eR (dG g i)=true∧
  dG g i=⟨g.x+(i:Int)%g.dL*g.side+g.side / 2,g.y+(i:Int) / g.dL*g.side+g.side / 2⟩:=by
 obtain⟨hx,hy,hs,hc,hr,hm,hR,hT,hl,_⟩:=h
 have i0:(0:Int)≤(i:Int):=oM
 have e1:(i:Int).tmod g.dL=(i:Int)%g.dL:=Int.tmod_eq_emod_of_nonneg i0
 have e2:(i:Int).tdiv g.dL=(i:Int) / g.dL:=Int.tdiv_eq_ediv_of_nonneg i0
 have m0:=Int.emod_nonneg (i:Int) (show g.dL≠0 by omega)
 have m1:=Int.emod_lt_of_pos (i:Int) (show 0<g.dL by omega)
 have d0:=Int.ediv_nonneg i0 (show 0≤g.dL by omega)
 have d1:(i:Int) / g.dL<g.rows:=by
  apply Int.ediv_lt_of_lt_mul oM
  rw[Int.mul_comm g.rows,←hl];omega
 have p1:(i:Int)%g.dL*g.side≤(g.dL - 1)*g.side:=Int.mul_le_mul_of_nonneg_right oM oM
 have p0:0≤(i:Int)%g.dL*g.side:=Int.mul_nonneg m0 oM
 have p2:(i:Int) / g.dL*g.side≤(g.rows - 1)*g.side:=Int.mul_le_mul_of_nonneg_right oM oM
 have p3:0≤(i:Int) / g.dL*g.side:=Int.mul_nonneg d0 oM
 rw[Int.sub_mul]at p1 p2
 have hh:g.side.tdiv 2=g.side / 2:=Int.tdiv_eq_ediv_of_nonneg oM
 have key:dG g i=⟨g.x+(i:Int)%g.dL*g.side+g.side / 2,g.y+(i:Int) / g.dL*g.side+g.side / 2⟩:=by
  unfold dG E2
  simp only [e1,e2,hh]
  have lt:(i:Int) / g.dL≤1024:=oM
  rw[aG (n:=(i:Int)%g.dL*g.side) oM oM,aG (n:=(i:Int) / g.dL) oM oM,aG (n:=(i:Int) / g.dL*g.side) oM oM,aG (n:=g.side / 2) oM oM,
   aG (n:=g.x+(i:Int)%g.dL*g.side) oM oM,aG (n:=g.y+(i:Int) / g.dL*g.side) oM oM,aG oM oM,aG oM oM]
 refine⟨?_,key⟩
 rw[GZ,key]
 simp only
 omega
abbrev aJ9(g:eZ):jE:=.cells [.d (dI g.x),.d (dI g.y),.d (dI g.side),.d (dI g.dL),.d (dI g.rows),.d (cE g.levels)]

def KK(c:jS)(g:eZ)(less:Int)(i:Nat):Int:=bif (SC c (dG g i)).2 then aV ((SC c (dG g i)).1 - less)else 30000
def lX(c:jS)(g:eZ)(less:Int):eZ:={g with levels:=(List.range g.levels.length).map (KK c g less)}
theorem wK{f:Nat→Nat→DV}{i:Nat}{x:DV}:fL f i 0 [.d x] i 0=x:=by
 unfold fL;rw[if_pos rfl];rfl
theorem B8{f:Nat→Nat→DV}{i k j:Nat}{cs:List SV}(h:k≠i):fL f i 0 cs k j=f k j:=by
 unfold fL;rw[if_neg h]
theorem D4(c:jS)(g:eZ)(less:Int):(lX c g less).levels.length=g.levels.length:=by simp[lX]
abbrev uI(x:Int):AV:=.s (.d (.val (.int .u64 x)))
abbrev duI(x:Int):DV:=.val (.int .u64 x)
theorem QO{n:Int}(h:0≤n)(k:n≤18446744073709551615):IntKind.u64.wrap n=n:=by
 rw[IntKind.wrap_u64];omega
theorem andM{y:Int}(h:0≤y)(k:y<4294967296):XC .u64 y 4294967295=y:=by
 obtain⟨n,rfl⟩:=Int.eq_ofNat_of_zero_le h
 have hn:n<4294967296:=oM
 unfold XC
 have e:(BitVec.ofInt IntKind.u64.bits (n:Int)&&&BitVec.ofInt IntKind.u64.bits 4294967295).toNat=n:=by
  show(BitVec.ofInt 64 (n:Int)&&&BitVec.ofInt 64 4294967295).toNat=n
  rw[BitVec.toNat_and,show(BitVec.ofInt 64 4294967295).toNat=2^32 - 1 from rfl,Nat.and_two_pow_sub_one_eq_mod,BitVec.toNat_ofInt]
  omega
 rw[e]
 exact QO oM oM
theorem aFB{y:Int}(h:0≤y)(k:y<4294967296):YI .u64 y 32=0:=by
 show y.fdiv 4294967296=0
 rw[Int.fdiv_eq_ediv_of_nonneg _ oM]
 omega
def BA(v:Int)(k:Nat):Nat→Nat→DV:=fun i _=>if i<k then dI v else dI 0
theorem aA5{v:Int}{k q:Nat}{i j:Nat}(hq:q≤k):MD k q (BA v k) (fun i=>BA v k (0+i)) i j=BA v (k+q) i j:=by
 unfold MD
 show(if k≤i∧i<k+q then(if 0+(i - k)<k then dI v else dI 0)else(if i<k then dI v else dI 0))=(if i<k+q then dI v else dI 0)
 by_cases h1:k≤i∧i<k+q
 ·rw[if_pos h1,if_pos oM,if_pos oM]
 ·rw[if_neg h1]
  by_cases h2:i<k
  ·rw[if_pos h2,if_pos oM]
  ·rw[if_neg h2,if_neg oM]




theorem H2{c:jS}{g:eZ}(h:lV c [g]=0):l8 c=0∧jP g=0:=by
 rw[MZ]at h
 cases h1:l8 c !=0 with
 |true=>rw[h1]at h;simp at h1;exact absurd h h1
 |false=>rw[h1]at h;exact⟨by simpa using h1,h⟩



abbrev rGE(g:eZ)(e:Int):AV:=.t [.g [.d (dI g.x),.d (dI g.y),.d (dI g.side),.d (dI g.dL),.d (dI g.rows),.d (cE g.levels)],.s (.d (dI e))]
def X3:eZ:=⟨0,0,0,0,0,[]⟩
theorem X2{e e':Int}(h:e=e'):aC (.t [.g (iS ty24.zero),.s (.d (dI e))]) (rGE X3 e'):=by
 subst h
 exact aC.t ⟨⟨aL.refl _,aL.refl _,aL.refl _,aL.refl _,aL.refl _,aL.nil,oO⟩,aL.refl _,oO⟩





end Go.Ch
namespace Go.Ax
open Go Go.RowKit
theorem cH.rowAt{M:Mem}{β β':Nm}{w:World}{a k:Nat}{e:TypeId}{n m s:Nat}{g g':Nat→Nat→DV}(hn:n=m)(hg:∀i j,i<n→j<s→aL (g i j) (g' i j))(he:β' k=β a)(h:cH M β w a (.row e n s g)):cH M β' w k (.row e m s g'):=by
 subst hn
 obtain⟨b,c,cur,h1,h2,h3,h4,h5,h6,h7⟩:=h
 exact⟨b,c,cur,he.trans h1,h2,h3,h4,h5,h6,fun i j hi hj=>let⟨u,hu,hr⟩:=h7 i j hi hj;⟨u,hu,hg i j hi hj M u hr⟩⟩
section
variable{P:Program}{f:FuncId}{args:List AV}{a e n m s:Nat}{g g':Nat→Nat→DV}
theorem bT.named(k:Nat){r r':AV}(hn:n=m)(hg:∀i j,i<n→j<s→aL (g i j) (g' i j))(h:bT P f args [] r [(a,.row e n s g)])(hr:∀(M:Mem) (β β':Nm) v,β' k=β a→r.bD M β v→r'.bD M β' v):bT P f args [] r' [(k,.row e m s g')]:=by
 refine⟨h.1,fun M β w vs hG hA hM qP hβ=>(h.2 M β w vs hG hA hM qP hβ).mono ?_⟩
 rintro q w' ⟨v,M',β',he,hle,dU,QM,aGD,fG,EJ,ho,ht,hu,hs,hk,hd⟩
 let β2:Nm:=fun y=>if y=k then β' a else none
 have h2:β2 k=β' a:=if_pos rfl
 have only:∀x,x∈names [(k,jE.row e m s g')]→x=k:=fun x hx=>List.mem_singleton.1 hx
 refine⟨v,M',β2,he,fun x p hx=>absurd (hβ x p hx) (by simp[names]),hr M' β' β2 v h2 dU,QM,aGD,⟨?_,?_,?_,?_⟩,?_,ho,ht,hu,hs,hk,hd⟩
 ·intro x hx
  obtain rfl:=only x hx
  rw[h2]
  exact fG.has a (by simp[names])
 ·intro x b hb
  have hb:=List.mem_singleton.1 hb
  cases hb
  exact cH.rowAt hn hg h2 (fG.rep a _ (List.mem_singleton.2 rfl))
 ·intro x y b c c' hx hy _ _
  rw[only x hx,only y hy]
 ·intro x b c hx hb o
  obtain rfl:=only x hx
  rw[h2]at hb
  exact fG.apart a b c (by simp[names]) hb o
 ·intro x b c hx hb
  obtain rfl:=only x hx
  rw[h2]at hb
  exact EJ a b c (by simp[names]) hb
theorem SV.bD.own{M:Mem}{β β':Nm}{k:Nat}{v:Value}(he:β' k=β a)(h:(SV.own a).bD M β v):(SV.own k).bD M β' v:=by
 obtain⟨b,c,h1,h2⟩:=h
 exact⟨b,c,he.trans h1,h2⟩
theorem bT.LF(k:Nat)(hn:n=m)(hg:∀i j,i<n→j<s→aL (g i j) (g' i j)){x:DV}(h:bT P f args [] (.t [.s (.own a),.s (.d x)]) [(a,.row e n s g)]):bT P f args [] (.t [.s (.own k),.s (.d x)]) [(k,.row e m s g')]:=
 bT.named k hn hg h fun M _ _ v he hr=>by
  obtain⟨vs,e,hr⟩:=hr
  refine⟨vs,e,?_⟩
  match vs,hr with
  |[v1,v2],⟨h1,h2,_⟩=>exact⟨SV.bD.own (M:=M) he h1,h2,oO⟩
end
end Go.Ax
namespace Go.Ch
open Go Go.Ax Go.Proofs Go.Proofs.Tryz
def bs(l:List UInt8):ByteArray:=⟨l.toArray⟩
abbrev dT(l:List UInt8):DV:=.val (.string (bs l))
abbrev vT(l:List UInt8):AV:=.s (.d (dT l))
theorem fH(l:List UInt8):(bs l).size=l.length:=by simp[bs,ByteArray.size]
theorem jR(a b:List UInt8):bs a++bs b=bs (a++b):=by
 apply ByteArray.ext
 simp[bs,ByteArray.data_append]
theorem mH(l:List UInt8):(bs l).toList=l:=by
 rw[ByteArray.toList_eq];rfl
open Go.Lib in
theorem nI:∀(n u:Nat),u≤n→nDigits u≤u / 10+2
 |n,u,h=>by
  by_cases hu:u<10
  ·rw[nDigits_small hu];omega
  ·rw[nDigits_big hu]
   match n with
   |0=>omega
   |n+1=>
    have:=nI n (u / 10) oM
    omega
def o0(d:Nat):UInt8:=UInt8.ofNat (48+d)
abbrev YA:ByteArray:=⟨#[48,49,50,51,52,53,54,55,56,57]⟩
theorem I4:∀d:Fin 10,YA.extract d.val (d.val+1)=bs [o0 d.val]:=by decide+kernel
theorem MJ(l:List UInt8):((bs l).toList==(bs []).toList)=l.isEmpty:=by
 rw[mH,mH];cases l <;> rfl
open Go.Lib in
theorem w8{u:Nat}(h:¬u<10):decDigits u=decDigits (u / 10)++ [o0 (u%10)]:=by rw[decDigits,dif_neg h];rfl
open Go.Lib in
theorem BF{u:Nat}(h:u<10):decDigits u=[o0 u]:=by rw[decDigits,dif_pos h];rfl
open Go.Lib in
theorem aAZ(u:Nat):decDigits u≠[]:=by
 by_cases h:u<10
 ·rw[BF h];simp
 ·rw[w8 h];simp
open Go.Lib in
def aLF(n0:Int)(q:Int×List UInt8):Prop:=(q.2≠[]∧q.1=0∧q.2=decDigits n0.natAbs)∨((q.1≠0∨q.2=[])∧decDigits q.1.natAbs++q.2=decDigits n0.natAbs∧q.1.natAbs≤n0.natAbs)
def qQ(n:Int):Int:=mm true (n.tmod 10) (aV (0 - n.tmod 10))
theorem UD(n:Int):qQ n=((n.natAbs%10:Nat):Int):=by
 have h1:=Int.tmod_add_mul_tdiv n 10
 have h2:=Int.tmod_lt_of_pos n (show(0:Int)<10 by decide)
 have h3: -10<n.tmod 10:=by
  have:=Int.tmod_lt_of_pos (-n) (show(0:Int)<10 by decide)
  rw[Int.neg_tmod]at this;omega
 unfold qQ
 rw[aG oM oM]
 unfold mm
 simp only
 rcases Int.le_total 0 n with h|h
 ·rw[Int.tmod_eq_emod_of_nonneg h]at*
  split <;> omega
 ·have e:n.tmod 10= -((-n)%10):=by rw[←Int.tmod_eq_emod_of_nonneg (by omega:(0:Int)≤ -n),Int.neg_tmod,Int.neg_neg]
  rw[e]at*
  split <;> omega
theorem UC(n:Int):(n.tdiv 10).natAbs=n.natAbs / 10:=by
 rw[Int.natAbs_tdiv];rfl
open Go.Lib in
theorem E7(n:Int)(h0: -9223372036854775808<n)(h1:n≤9223372036854775807):aF prog 45 [vI n] (vT (itoa n)):=by
 refine eP func45 rfl rfl call45 rfl rfl fun cx aA=>?_
 refine aI (fun h=>?_) (fun h=>?_)
 ·have h:n<0:=bL h
  refine AW.cV (fun q:Int×List UInt8=>⟨[(0,vI q.1),(3,vT [45]),(4,vT q.2)],[]⟩) (aLF n) (fun q=>q.1.natAbs+(if q.2=[]then 1 else 0)) (n,[]) (.inr ⟨.inr rfl,sM,Nat.le_refl _⟩) ?_ ?_
  ·exact aS.bO aA [] rfl trivial ⟨qZ,qZ,qZ,oO⟩
  ·rintro⟨m,s⟩ hJ
   refine eX aA ?_
   repeat refine aR ?_
   refine aI (fun h2=>?_) (fun h2=>?_)
   ·have h2:(((bs s).toList==(bs []).toList)||(m !=0))=true:=h2
    rw[MJ]at h2
    obtain⟨hd,e,hle⟩:(m≠0∨s=[])∧decDigits m.natAbs++s=decDigits n.natAbs∧m.natAbs≤n.natAbs:=by
     rcases hJ with⟨q1,q2,_⟩|h
     ·exfalso
      simp only at q1 q2
      rw[q2]at h2
      cases s with
      |nil=>exact q1 rfl
      |cons _ _=>cases h2
     ·exact h
    have hdg:=UD m
    have hlen:s.length≤n.natAbs / 10+2:=by
     have:=congrArg List.length e
     rw[List.length_append,decDigits_length n.natAbs]at this
     have:=nI n.natAbs n.natAbs (Nat.le_refl _)
     omega
    have hw:aV (qQ m+1)=qQ m+1:=aG oM oM
    have hp:YA.extract (qQ m).toNat (aV (qQ m+1)).toNat=bs [o0 (m.natAbs%10)]:=by
     rw[hw,hdg]
     exact I4 ⟨m.natAbs%10,oM⟩
    refine oi dC ?_
    refine oi dC ?_
    refine oi ⟨by show 0≤qQ m;omega,by show qQ m≤aV (qQ m+1);omega,by show aV (qQ m+1)≤10;omega⟩ ?_
    refine oi (show(YA.extract (qQ m).toNat (aV (qQ m+1)).toNat).size+(bs s).size≤9223372036854775807 by rw[hp,fH,fH];simp;omega) ?_
    refine oi dC ?_
    have hdv:=UC m
    have hr:m.tdiv 10=aV (m.tdiv 10):=(aG oM oM).symm
    refine⟨(m.tdiv 10,o0 (m.natAbs%10)::s),?_,?_,?_⟩
    ·by_cases h10:m.natAbs<10
     ·left
      refine⟨sM,by show m.tdiv 10=0;omega,?_⟩
      show o0 (m.natAbs%10)::s=_
      rw[←e,BF h10,Nat.mod_eq_of_lt h10];rfl
     ·right
      refine⟨.inl (by show m.tdiv 10≠0;omega),?_,by show(m.tdiv 10).natAbs≤_;omega⟩
      show decDigits (m.tdiv 10).natAbs++o0 (m.natAbs%10)::s=_
      rw[←e,w8 h10,hdv];simp
    ·show(m.tdiv 10).natAbs+(if o0 (m.natAbs%10)::s=[]then 1 else 0)<m.natAbs+(if s=[]then 1 else 0)
     rw[if_neg sM,hdv]
     rcases hd with h|h
     ·split <;> omega
     ·rw[if_pos h];omega
    ·exact aS.bO aA [] rfl trivial ⟨⟨rfl,aU.int hr.symm⟩,qZ,⟨rfl,aU.of_eq (congrArg (fun x=>AV.s (.d (.val (.string x)))) ((congrArg (· ++bs s) hp).trans (jR _ _)))⟩,oO⟩
   ·have h2:(((bs s).toList==(bs []).toList)||(m !=0))=false:=h2
    rw[MJ,Bool.or_eq_false_iff]at h2
    have hs:s=decDigits n.natAbs:=by
     rcases hJ with⟨_,_,q3⟩|⟨q1,_,_⟩
     ·exact q3
     ·exfalso
      simp only at q1
      rcases q1 with q1|q1
      ·have:=h2.2;simp at this;exact q1 this
      ·rw[q1]at h2;cases h2.1
    have hlen:s.length≤n.natAbs / 10+2:=by
     rw[hs,decDigits_length]
     exact nI n.natAbs n.natAbs (Nat.le_refl _)
    refine oi (show(bs [45]).size+(bs s).size≤9223372036854775807 by rw[fH,fH];simp;omega) ?_
    refine aC.of_eq (congrArg (fun x=>AV.s (.d (.val (.string x)))) ((jR _ _).trans (congrArg bs ?_)))
    rw[hs]
    unfold itoa
    rw[if_pos h];rfl
 ·have h:¬n<0:=bG h
  refine AW.cV (fun q:Int×List UInt8=>⟨[(0,vI q.1),(3,vT []),(4,vT q.2)],[]⟩) (aLF n) (fun q=>q.1.natAbs+(if q.2=[]then 1 else 0)) (n,[]) (.inr ⟨.inr rfl,sM,Nat.le_refl _⟩) ?_ ?_
  ·exact aS.bO aA [] rfl trivial ⟨qZ,qZ,qZ,oO⟩
  ·rintro⟨m,s⟩ hJ
   refine eX aA ?_
   repeat refine aR ?_
   refine aI (fun h2=>?_) (fun h2=>?_)
   ·have h2:(((bs s).toList==(bs []).toList)||(m !=0))=true:=h2
    rw[MJ]at h2
    obtain⟨hd,e,hle⟩:(m≠0∨s=[])∧decDigits m.natAbs++s=decDigits n.natAbs∧m.natAbs≤n.natAbs:=by
     rcases hJ with⟨q1,q2,_⟩|h
     ·exfalso
      simp only at q1 q2
      rw[q2]at h2
      cases s with
      |nil=>exact q1 rfl
      |cons _ _=>cases h2
     ·exact h
    have hdg:=UD m
    have hlen:s.length≤n.natAbs / 10+2:=by
     have:=congrArg List.length e
     rw[List.length_append,decDigits_length n.natAbs]at this
     have:=nI n.natAbs n.natAbs (Nat.le_refl _)
     omega
    have hw:aV (qQ m+1)=qQ m+1:=aG oM oM
    have hp:YA.extract (qQ m).toNat (aV (qQ m+1)).toNat=bs [o0 (m.natAbs%10)]:=by
     rw[hw,hdg]
     exact I4 ⟨m.natAbs%10,oM⟩
    refine oi dC ?_
    refine oi dC ?_
    refine oi ⟨by show 0≤qQ m;omega,by show qQ m≤aV (qQ m+1);omega,by show aV (qQ m+1)≤10;omega⟩ ?_
    refine oi (show(YA.extract (qQ m).toNat (aV (qQ m+1)).toNat).size+(bs s).size≤9223372036854775807 by rw[hp,fH,fH];simp;omega) ?_
    refine oi dC ?_
    have hdv:=UC m
    have hr:m.tdiv 10=aV (m.tdiv 10):=(aG oM oM).symm
    refine⟨(m.tdiv 10,o0 (m.natAbs%10)::s),?_,?_,?_⟩
    ·by_cases h10:m.natAbs<10
     ·left
      refine⟨sM,by show m.tdiv 10=0;omega,?_⟩
      show o0 (m.natAbs%10)::s=_
      rw[←e,BF h10,Nat.mod_eq_of_lt h10];rfl
     ·right
      refine⟨.inl (by show m.tdiv 10≠0;omega),?_,by show(m.tdiv 10).natAbs≤_;omega⟩
      show decDigits (m.tdiv 10).natAbs++o0 (m.natAbs%10)::s=_
      rw[←e,w8 h10,hdv];simp
    ·show(m.tdiv 10).natAbs+(if o0 (m.natAbs%10)::s=[]then 1 else 0)<m.natAbs+(if s=[]then 1 else 0)
     rw[if_neg sM,hdv]
     rcases hd with h|h
     ·split <;> omega
     ·rw[if_pos h];omega
    ·exact aS.bO aA [] rfl trivial ⟨⟨rfl,aU.int hr.symm⟩,qZ,⟨rfl,aU.of_eq (congrArg (fun x=>AV.s (.d (.val (.string x)))) ((congrArg (· ++bs s) hp).trans (jR _ _)))⟩,oO⟩
   ·have h2:(((bs s).toList==(bs []).toList)||(m !=0))=false:=h2
    rw[MJ,Bool.or_eq_false_iff]at h2
    have hs:s=decDigits n.natAbs:=by
     rcases hJ with⟨_,_,q3⟩|⟨q1,_,_⟩
     ·exact q3
     ·exfalso
      simp only at q1
      rcases q1 with q1|q1
      ·have:=h2.2;simp at this;exact q1 this
      ·rw[q1]at h2;cases h2.1
    have hlen:s.length≤n.natAbs / 10+2:=by
     rw[hs,decDigits_length]
     exact nI n.natAbs n.natAbs (Nat.le_refl _)
    refine oi (show(bs []).size+(bs s).size≤9223372036854775807 by rw[fH,fH];simp;omega) ?_
    refine aC.of_eq (congrArg (fun x=>AV.s (.d (.val (.string x)))) ((jR _ _).trans (congrArg bs ?_)))
    rw[hs]
    unfold itoa
    rw[if_neg h,show n.natAbs=n.toNat by omega];rfl
end Go.Ch
namespace Go.Pj
open Go Go.Ax Go.Ch
structure kQ where
 name:ByteArray
 run:Int
 aDJ:Int
 num:Int
 den:Int
 deriving Inhabited
def aD7(p:kQ):Nat→DV
 |0=>dS p.name
 |1=>dI p.run
 |2=>dI p.aDJ
 |3=>dI p.num
 |4=>dI p.den
 |_=>.bF
abbrev wG(p:kQ):AV:=.g [.d (dS p.name),.d (dI p.run),.d (dI p.aDJ),.d (dI p.num),.d (dI p.den)]
def aFA(l:List kQ):Nat→Nat→DV:=fun i=>aD7 (l.getD i default)
def j8(l:List kQ):DV:=.fW l.length 5 (aFA l)
abbrev iW(l:List kQ):AV:=.s (.d (j8 l))
structure q9 where
 top:Int
 aO:ByteArray
 deriving Inhabited
def aI5(p:q9):Nat→DV
 |0=>dI p.top
 |1=>dS p.aO
 |_=>.bF
def aI4(l:List q9):Nat→Nat→DV:=fun i=>aI5 (l.getD i default)
def lY(l:List q9):DV:=.fW l.length 2 (aI4 l)
abbrev zS(l:List q9):AV:=.s (.d (lY l))
structure fF where
 name:ByteArray
 x:Int
 y:Int
 bA:List q9
 deriving Inhabited
def aK7(p:fF):Nat→DV
 |0=>dS p.name
 |1=>dI p.x
 |2=>dI p.y
 |3=>lY p.bA
 |_=>.bF
abbrev SO(p:fF):AV:=.g [.d (dS p.name),.d (dI p.x),.d (dI p.y),.d (lY p.bA)]
def aK6(l:List fF):Nat→Nat→DV:=fun i=>aK7 (l.getD i default)
def oY(l:List fF):DV:=.fW l.length 4 (aK6 l)
abbrev FA(l:List fF):AV:=.s (.d (oY l))
structure o4 where
 aO:ByteArray
 uW:Int
 deriving Inhabited
def aFW(p:o4):Nat→DV
 |0=>dS p.aO
 |1=>dI p.uW
 |_=>.bF
abbrev aCI(p:o4):AV:=.g [.d (dS p.aO),.d (dI p.uW)]
def aIR(l:List o4):Nat→Nat→DV:=fun i=>aFW (l.getD i default)
def BI(l:List o4):DV:=.fW l.length 2 (aIR l)
abbrev M4(l:List o4):AV:=.s (.d (BI l))
structure yE where
 name:ByteArray
 due:Int
 Y5:Int
 deriving Inhabited
def aFH(p:yE):Nat→DV
 |0=>dS p.name
 |1=>dI p.due
 |2=>dI p.Y5
 |_=>.bF
abbrev aB8(p:yE):AV:=.g [.d (dS p.name),.d (dI p.due),.d (dI p.Y5)]
def aID(l:List yE):Nat→Nat→DV:=fun i=>aFH (l.getD i default)
def PI(l:List yE):DV:=.fW l.length 3 (aID l)
abbrev S5(l:List yE):AV:=.s (.d (PI l))
structure tD where
 name:ByteArray
 MN:Int
 base:Int
 top:Int
 aT:List Int
 FQ:Int
 deriving Inhabited
def VO(p:tD):Nat→DV
 |0=>dS p.name
 |1=>dI p.MN
 |2=>dI p.base
 |3=>dI p.top
 |4=>cE p.aT
 |5=>dI p.FQ
 |_=>.bF
abbrev FT(p:tD):AV:=.g [.d (dS p.name),.d (dI p.MN),.d (dI p.base),.d (dI p.top),.d (cE p.aT),.d (dI p.FQ)]
def DB(l:List tD):Nat→Nat→DV:=fun i=>VO (l.getD i default)
def qC(l:List tD):DV:=.fW l.length 6 (DB l)
abbrev uM(l:List tD):AV:=.s (.d (qC l))
structure mM where
 aO:ByteArray
 num:Int
 den:Int
 deriving Inhabited
def aK9(p:mM):Nat→DV
 |0=>dS p.aO
 |1=>dI p.num
 |2=>dI p.den
 |_=>.bF
abbrev aDS(p:mM):AV:=.g [.d (dS p.aO),.d (dI p.num),.d (dI p.den)]
def aEX(l:List mM):Nat→Nat→DV:=fun i=>aK9 (l.getD i default)
def oA(l:List mM):DV:=.fW l.length 3 (aEX l)
abbrev zT(l:List mM):AV:=.s (.d (oA l))
structure MY where
 batch:Int
 dO:ByteArray
 iE:Int
 deriving Inhabited
def aDI(p:MY):Nat→DV
 |0=>dI p.batch
 |1=>dS p.dO
 |2=>dI p.iE
 |_=>.bF
abbrev aDH(p:MY):AV:=.g [.d (dI p.batch),.d (dS p.dO),.d (dI p.iE)]
def D5(l:List MY):Nat→Nat→DV:=fun i=>aDI (l.getD i default)
def KE(l:List MY):DV:=.fW l.length 3 (D5 l)
abbrev vX(l:List MY):AV:=.s (.d (KE l))
structure Fact where
 kind:Int
 seq:Int
 bM:Int
 month:Int
 number:Int
 aW:Int
 over:Int
 cls:Int
 target:Int
 aO:ByteArray
 dO:ByteArray
 eO:ByteArray
 levels:List Int
 deriving Inhabited
def R4(p:Fact):Nat→DV
 |0=>dI p.kind
 |1=>dI p.seq
 |2=>dI p.bM
 |3=>dI p.month
 |4=>dI p.number
 |5=>dI p.aW
 |6=>dI p.over
 |7=>dI p.cls
 |8=>dI p.target
 |9=>dS p.aO
 |10=>dS p.dO
 |11=>dS p.eO
 |12=>cE p.levels
 |_=>.bF
abbrev p8(p:Fact):AV:=.g [.d (dI p.kind),.d (dI p.seq),.d (dI p.bM),.d (dI p.month),.d (dI p.number),.d (dI p.aW),.d (dI p.over),.d (dI p.cls),.d (dI p.target),.d (dS p.aO),.d (dS p.dO),.d (dS p.eO),.d (cE p.levels)]
def p9(l:List Fact):Nat→Nat→DV:=fun i=>R4 (l.getD i default)
def UH(l:List Fact):DV:=.fW l.length 13 (p9 l)
abbrev iX(l:List Fact):AV:=.s (.d (UH l))
structure Piece where
 month:Int
 cell:Int
 aO:ByteArray
 iE:Int
 gH:Int
 load:Int
 dO:ByteArray
 deriving Inhabited
def aCL(p:Piece):Nat→DV
 |0=>dI p.month
 |1=>dI p.cell
 |2=>dS p.aO
 |3=>dI p.iE
 |4=>dI p.gH
 |5=>dI p.load
 |6=>dS p.dO
 |_=>.bF
abbrev aFY(p:Piece):AV:=.g [.d (dI p.month),.d (dI p.cell),.d (dS p.aO),.d (dI p.iE),.d (dI p.gH),.d (dI p.load),.d (dS p.dO)]
def dY(l:List Piece):Nat→Nat→DV:=fun i=>aCL (l.getD i default)
def UG(l:List Piece):DV:=.fW l.length 7 (dY l)
abbrev gQ(l:List Piece):AV:=.s (.d (UG l))
structure Due where
 aO:ByteArray
 iE:Int
 FQ:Int
 HS:Int
 deriving Inhabited
def aKP(p:Due):Nat→DV
 |0=>dS p.aO
 |1=>dI p.iE
 |2=>dI p.FQ
 |3=>dI p.HS
 |_=>.bF
def D3(l:List Due):Nat→Nat→DV:=fun i=>aKP (l.getD i default)
def xB(l:List Due):DV:=.fW l.length 4 (D3 l)
abbrev aD5(l:List Due):AV:=.s (.d (xB l))
structure MS where
 eO:ByteArray
 HS:Int
 deriving Inhabited
def aMF(p:MS):Nat→DV
 |0=>dS p.eO
 |1=>dI p.HS
 |_=>.bF
def aI9(l:List MS):Nat→Nat→DV:=fun i=>aMF (l.getD i default)
def xA(l:List MS):DV:=.fW l.length 2 (aI9 l)
abbrev S6(l:List MS):AV:=.s (.d (xA l))
structure Part where
 aO:ByteArray
 top:Int
 bot:Int
 deriving Inhabited
def VM(p:Part):Nat→DV
 |0=>dS p.aO
 |1=>dI p.top
 |2=>dI p.bot
 |_=>.bF
def uO(l:List Part):Nat→Nat→DV:=fun i=>VM (l.getD i default)
def PJ(l:List Part):DV:=.fW l.length 3 (uO l)
abbrev gP(l:List Part):AV:=.s (.d (PJ l))
structure Ground where
 bE:List kQ
 b6:List fF
 deriving Inhabited
abbrev RZ(g:Ground):AV:=.g [.d (j8 g.bE),.d (oY g.b6)]
structure Batch where
 number:Int
 aW:Int
 over:Int
 aO:ByteArray
 cls:Int
 deriving Inhabited
abbrev aDW(b:Batch):AV:=.g [.d (dI b.number),.d (dI b.aW),.d (dI b.over),.d (dS b.aO),.d (dI b.cls)]
structure fV where
 aP:List tD
 a8:List mM
 bC:List MY
 carry:List Int
 deriving Inhabited
abbrev r8(y:fV):AV:=.g [.d (qC y.aP),.d (oA y.a8),.d (KE y.bC),.d (cE y.carry)]
structure Proj where
 name:ByteArray
 aW:eZ
 chan:jS
 gr:Ground
 agree:Int
 eU:Int
 cI:List o4
 cN:List yE
 aP:List tD
 a8:List mM
 deriving Inhabited
abbrev vE(p:Proj):AV:=.g [.d (dS p.name),.d (dI p.aW.x),.d (dI p.aW.y),.d (dI p.aW.side),.d (dI p.aW.dL),.d (dI p.aW.rows),.d (cE p.aW.levels),.d (dS p.chan.name),.d (xC p.chan.aX),.d (dI p.chan.over),.d (dI p.chan.buffer),.d (yM p.chan.regions),.d (j8 p.gr.bE),.d (oY p.gr.b6),.d (dI p.agree),.d (dI p.eU),.d (BI p.cI),.d (PI p.cN),.d (qC p.aP),.d (oA p.a8)]
structure Stmt where
 month:Int
 over:Int
 eU:Int
 total:Int
 WS:List Due
 aME:List MS
 aNC:List Int
 deriving Inhabited
end Go.Pj
namespace Go.Pj
open Go Go.Ax Go.Ch Go.Proofs Go.Proofs.Tryz
theorem JT(l:List kQ)(hl:l.length≤9223372036854775807)(f k:Nat)(c:Nat→DV)(p:kQ→Bool)(hp:∀x∈l,aF prog f (wG x::iJ c k 0) (vB (p x))):
  aF prog 146 [iW l,.s (.d (.dR f k c))] (vI (cJ p l 0)):=by
 refine eP func146 rfl rfl call146 rfl rfl fun cx aA=>?_
 refine AW.loop (fun i:Nat=>⟨[(0,iW l),(1,.s (.d (.dR f k c))),(7,vI l.length),(8,vI i),(4,vI 0)],[]⟩) (fun i=>i≤l.length∧cJ p l 0=cJ p (l.drop i) i) (fun i=>l.length - i) 0 ⟨Nat.zero_le _,rfl⟩ ?_ ?_
 ·refine Sub.bO aA trivial ⟨rQ,rQ,rQ,rQ,rQ,oO⟩
 ·rintro i ⟨hi,he⟩
  refine eX aA ?_
  refine aI (fun h=>?_) (fun h=>?_)
  ·have h:(i:Int)<l.length:=bL h
   have bK:i<l.length:=oM
   have hd:l.drop i=l[i]::l.drop (i+1):=List.drop_eq_getElem_cons bK
   have hg:l.getD i default=l[i]:=a7 bK
   refine oi ⟨oM,oM⟩ ?_
   refine aB ((hp (l.getD i default) (by rw[hg];simp)).conv (args':=_) ⟨⟨aL.refl _,aL.refl _,aL.refl _,aL.refl _,aL.refl _,oO⟩,rR.iJ⟩) ?_
   rw[hd,cJ]at he
   rw[hg]
   refine aI (fun h=>?_) (fun h=>?_)
   ·refine aC.of_eq ?_
    rw[he,h];rfl
   ·refine⟨i+1,⟨oM,?_⟩,oM,?_⟩
    ·rw[he,h];rfl
    ·refine Sub.bO aA trivial ⟨rQ,rQ,rQ,⟨rfl,?_⟩,rQ,oO⟩
     exact congrArg vI (aG oM oM)
  ·have h:¬(i:Int)<l.length:=bG h
   have bK:i=l.length:=oM
   subst bK
   refine aC.of_eq ?_
   rw[he,List.drop_length];rfl
theorem BJ(l:List kQ)(hl:l.length≤9223372036854775807)(f k:Nat)(c:Nat→DV)(p:kQ→Bool)(hp:∀x∈l,aF prog f (wG x::iJ c k 0) (vB (p x))):
  aF prog 80 [iW l,.s (.d (.dR f k c))] (vB (l.any p)):=by
 refine eP func80 rfl rfl call80 rfl rfl fun cx aA=>?_
 refine aB (JT l hl f k c p hp) ?_
 exact aC.of_eq (congrArg vB (jV p l 0))
theorem OL(l:List fF)(hl:l.length≤9223372036854775807)(f k:Nat)(c:Nat→DV)(p:fF→Bool)(hp:∀x∈l,aF prog f (SO x::iJ c k 0) (vB (p x))):
  aF prog 193 [FA l,.s (.d (.dR f k c))] (vI (cJ p l 0)):=by
 refine eP func193 rfl rfl call193 rfl rfl fun cx aA=>?_
 refine AW.loop (fun i:Nat=>⟨[(0,FA l),(1,.s (.d (.dR f k c))),(7,vI l.length),(8,vI i),(4,vI 0)],[]⟩) (fun i=>i≤l.length∧cJ p l 0=cJ p (l.drop i) i) (fun i=>l.length - i) 0 ⟨Nat.zero_le _,rfl⟩ ?_ ?_
 ·refine Sub.bO aA trivial ⟨rQ,rQ,rQ,rQ,rQ,oO⟩
 ·rintro i ⟨hi,he⟩
  refine eX aA ?_
  refine aI (fun h=>?_) (fun h=>?_)
  ·have h:(i:Int)<l.length:=bL h
   have bK:i<l.length:=oM
   have hd:l.drop i=l[i]::l.drop (i+1):=List.drop_eq_getElem_cons bK
   have hg:l.getD i default=l[i]:=a7 bK
   refine oi ⟨oM,oM⟩ ?_
   refine aB ((hp (l.getD i default) (by rw[hg];simp)).conv (args':=_) ⟨⟨aL.refl _,aL.refl _,aL.refl _,aL.refl _,oO⟩,rR.iJ⟩) ?_
   rw[hd,cJ]at he
   rw[hg]
   refine aI (fun h=>?_) (fun h=>?_)
   ·refine aC.of_eq ?_
    rw[he,h];rfl
   ·refine⟨i+1,⟨oM,?_⟩,oM,?_⟩
    ·rw[he,h];rfl
    ·refine Sub.bO aA trivial ⟨rQ,rQ,rQ,⟨rfl,?_⟩,rQ,oO⟩
     exact congrArg vI (aG oM oM)
  ·have h:¬(i:Int)<l.length:=bG h
   have bK:i=l.length:=oM
   subst bK
   refine aC.of_eq ?_
   rw[he,List.drop_length];rfl
theorem HE(l:List fF)(hl:l.length≤9223372036854775807)(f k:Nat)(c:Nat→DV)(p:fF→Bool)(hp:∀x∈l,aF prog f (SO x::iJ c k 0) (vB (p x))):
  aF prog 141 [FA l,.s (.d (.dR f k c))] (vB (l.any p)):=by
 refine eP func141 rfl rfl call141 rfl rfl fun cx aA=>?_
 refine aB (OL l hl f k c p hp) ?_
 exact aC.of_eq (congrArg vB (jV p l 0))
theorem RD(l:List o4)(hl:l.length≤9223372036854775807)(f k:Nat)(c:Nat→DV)(p:o4→Bool)(hp:∀x∈l,aF prog f (aCI x::iJ c k 0) (vB (p x))):
  aF prog 147 [M4 l,.s (.d (.dR f k c))] (vI (cJ p l 0)):=by
 refine eP func147 rfl rfl call147 rfl rfl fun cx aA=>?_
 refine AW.loop (fun i:Nat=>⟨[(0,M4 l),(1,.s (.d (.dR f k c))),(7,vI l.length),(8,vI i),(4,vI 0)],[]⟩) (fun i=>i≤l.length∧cJ p l 0=cJ p (l.drop i) i) (fun i=>l.length - i) 0 ⟨Nat.zero_le _,rfl⟩ ?_ ?_
 ·refine Sub.bO aA trivial ⟨rQ,rQ,rQ,rQ,rQ,oO⟩
 ·rintro i ⟨hi,he⟩
  refine eX aA ?_
  refine aI (fun h=>?_) (fun h=>?_)
  ·have h:(i:Int)<l.length:=bL h
   have bK:i<l.length:=oM
   have hd:l.drop i=l[i]::l.drop (i+1):=List.drop_eq_getElem_cons bK
   have hg:l.getD i default=l[i]:=a7 bK
   refine oi ⟨oM,oM⟩ ?_
   refine aB ((hp (l.getD i default) (by rw[hg];simp)).conv (args':=_) ⟨⟨aL.refl _,aL.refl _,oO⟩,rR.iJ⟩) ?_
   rw[hd,cJ]at he
   rw[hg]
   refine aI (fun h=>?_) (fun h=>?_)
   ·refine aC.of_eq ?_
    rw[he,h];rfl
   ·refine⟨i+1,⟨oM,?_⟩,oM,?_⟩
    ·rw[he,h];rfl
    ·refine Sub.bO aA trivial ⟨rQ,rQ,rQ,⟨rfl,?_⟩,rQ,oO⟩
     exact congrArg vI (aG oM oM)
  ·have h:¬(i:Int)<l.length:=bG h
   have bK:i=l.length:=oM
   subst bK
   refine aC.of_eq ?_
   rw[he,List.drop_length];rfl
theorem IQ(l:List o4)(hl:l.length≤9223372036854775807)(f k:Nat)(c:Nat→DV)(p:o4→Bool)(hp:∀x∈l,aF prog f (aCI x::iJ c k 0) (vB (p x))):
  aF prog 82 [M4 l,.s (.d (.dR f k c))] (vB (l.any p)):=by
 refine eP func82 rfl rfl call82 rfl rfl fun cx aA=>?_
 refine aB (RD l hl f k c p hp) ?_
 exact aC.of_eq (congrArg vB (jV p l 0))
theorem V1(l:List yE)(hl:l.length≤9223372036854775807)(f k:Nat)(c:Nat→DV)(p:yE→Bool)(hp:∀x∈l,aF prog f (aB8 x::iJ c k 0) (vB (p x))):
  aF prog 150 [S5 l,.s (.d (.dR f k c))] (vI (cJ p l 0)):=by
 refine eP func150 rfl rfl call150 rfl rfl fun cx aA=>?_
 refine AW.loop (fun i:Nat=>⟨[(0,S5 l),(1,.s (.d (.dR f k c))),(7,vI l.length),(8,vI i),(4,vI 0)],[]⟩) (fun i=>i≤l.length∧cJ p l 0=cJ p (l.drop i) i) (fun i=>l.length - i) 0 ⟨Nat.zero_le _,rfl⟩ ?_ ?_
 ·refine Sub.bO aA trivial ⟨rQ,rQ,rQ,rQ,rQ,oO⟩
 ·rintro i ⟨hi,he⟩
  refine eX aA ?_
  refine aI (fun h=>?_) (fun h=>?_)
  ·have h:(i:Int)<l.length:=bL h
   have bK:i<l.length:=oM
   have hd:l.drop i=l[i]::l.drop (i+1):=List.drop_eq_getElem_cons bK
   have hg:l.getD i default=l[i]:=a7 bK
   refine oi ⟨oM,oM⟩ ?_
   refine aB ((hp (l.getD i default) (by rw[hg];simp)).conv (args':=_) ⟨⟨aL.refl _,aL.refl _,aL.refl _,oO⟩,rR.iJ⟩) ?_
   rw[hd,cJ]at he
   rw[hg]
   refine aI (fun h=>?_) (fun h=>?_)
   ·refine aC.of_eq ?_
    rw[he,h];rfl
   ·refine⟨i+1,⟨oM,?_⟩,oM,?_⟩
    ·rw[he,h];rfl
    ·refine Sub.bO aA trivial ⟨rQ,rQ,rQ,⟨rfl,?_⟩,rQ,oO⟩
     exact congrArg vI (aG oM oM)
  ·have h:¬(i:Int)<l.length:=bG h
   have bK:i=l.length:=oM
   subst bK
   refine aC.of_eq ?_
   rw[he,List.drop_length];rfl
theorem ME(l:List yE)(hl:l.length≤9223372036854775807)(f k:Nat)(c:Nat→DV)(p:yE→Bool)(hp:∀x∈l,aF prog f (aB8 x::iJ c k 0) (vB (p x))):
  aF prog 85 [S5 l,.s (.d (.dR f k c))] (vB (l.any p)):=by
 refine eP func85 rfl rfl call85 rfl rfl fun cx aA=>?_
 refine aB (V1 l hl f k c p hp) ?_
 exact aC.of_eq (congrArg vB (jV p l 0))
theorem ZP(l:List tD)(hl:l.length≤9223372036854775807)(f k:Nat)(c:Nat→DV)(p:tD→Bool)(hp:∀x∈l,aF prog f (FT x::iJ c k 0) (vB (p x))):
  aF prog 245 [uM l,.s (.d (.dR f k c))] (vI (cJ p l 0)):=by
 refine eP func245 rfl rfl call245 rfl rfl fun cx aA=>?_
 refine AW.loop (fun i:Nat=>⟨[(0,uM l),(1,.s (.d (.dR f k c))),(7,vI l.length),(8,vI i),(4,vI 0)],[]⟩) (fun i=>i≤l.length∧cJ p l 0=cJ p (l.drop i) i) (fun i=>l.length - i) 0 ⟨Nat.zero_le _,rfl⟩ ?_ ?_
 ·refine Sub.bO aA trivial ⟨rQ,rQ,rQ,rQ,rQ,oO⟩
 ·rintro i ⟨hi,he⟩
  refine eX aA ?_
  refine aI (fun h=>?_) (fun h=>?_)
  ·have h:(i:Int)<l.length:=bL h
   have bK:i<l.length:=oM
   have hd:l.drop i=l[i]::l.drop (i+1):=List.drop_eq_getElem_cons bK
   have hg:l.getD i default=l[i]:=a7 bK
   refine oi ⟨oM,oM⟩ ?_
   refine aB ((hp (l.getD i default) (by rw[hg];simp)).conv (args':=_) ⟨⟨aL.refl _,aL.refl _,aL.refl _,aL.refl _,aL.refl _,aL.refl _,oO⟩,rR.iJ⟩) ?_
   rw[hd,cJ]at he
   rw[hg]
   refine aI (fun h=>?_) (fun h=>?_)
   ·refine aC.of_eq ?_
    rw[he,h];rfl
   ·refine⟨i+1,⟨oM,?_⟩,oM,?_⟩
    ·rw[he,h];rfl
    ·refine Sub.bO aA trivial ⟨rQ,rQ,rQ,⟨rfl,?_⟩,rQ,oO⟩
     exact congrArg vI (aG oM oM)
  ·have h:¬(i:Int)<l.length:=bG h
   have bK:i=l.length:=oM
   subst bK
   refine aC.of_eq ?_
   rw[he,List.drop_length];rfl
theorem V3(l:List mM)(hl:l.length≤9223372036854775807)(f k:Nat)(c:Nat→DV)(p:mM→Bool)(hp:∀x∈l,aF prog f (aDS x::iJ c k 0) (vB (p x))):
  aF prog 351 [zT l,.s (.d (.dR f k c))] (vI (cJ p l 0)):=by
 refine eP func351 rfl rfl call351 rfl rfl fun cx aA=>?_
 refine AW.loop (fun i:Nat=>⟨[(0,zT l),(1,.s (.d (.dR f k c))),(7,vI l.length),(8,vI i),(4,vI 0)],[]⟩) (fun i=>i≤l.length∧cJ p l 0=cJ p (l.drop i) i) (fun i=>l.length - i) 0 ⟨Nat.zero_le _,rfl⟩ ?_ ?_
 ·refine Sub.bO aA trivial ⟨rQ,rQ,rQ,rQ,rQ,oO⟩
 ·rintro i ⟨hi,he⟩
  refine eX aA ?_
  refine aI (fun h=>?_) (fun h=>?_)
  ·have h:(i:Int)<l.length:=bL h
   have bK:i<l.length:=oM
   have hd:l.drop i=l[i]::l.drop (i+1):=List.drop_eq_getElem_cons bK
   have hg:l.getD i default=l[i]:=a7 bK
   refine oi ⟨oM,oM⟩ ?_
   refine aB ((hp (l.getD i default) (by rw[hg];simp)).conv (args':=_) ⟨⟨aL.refl _,aL.refl _,aL.refl _,oO⟩,rR.iJ⟩) ?_
   rw[hd,cJ]at he
   rw[hg]
   refine aI (fun h=>?_) (fun h=>?_)
   ·refine aC.of_eq ?_
    rw[he,h];rfl
   ·refine⟨i+1,⟨oM,?_⟩,oM,?_⟩
    ·rw[he,h];rfl
    ·refine Sub.bO aA trivial ⟨rQ,rQ,rQ,⟨rfl,?_⟩,rQ,oO⟩
     exact congrArg vI (aG oM oM)
  ·have h:¬(i:Int)<l.length:=bG h
   have bK:i=l.length:=oM
   subst bK
   refine aC.of_eq ?_
   rw[he,List.drop_length];rfl
theorem ZQ(l:List MY)(hl:l.length≤9223372036854775807)(f k:Nat)(c:Nat→DV)(p:MY→Bool)(hp:∀x∈l,aF prog f (aDH x::iJ c k 0) (vB (p x))):
  aF prog 350 [vX l,.s (.d (.dR f k c))] (vI (cJ p l 0)):=by
 refine eP func350 rfl rfl call350 rfl rfl fun cx aA=>?_
 refine AW.loop (fun i:Nat=>⟨[(0,vX l),(1,.s (.d (.dR f k c))),(7,vI l.length),(8,vI i),(4,vI 0)],[]⟩) (fun i=>i≤l.length∧cJ p l 0=cJ p (l.drop i) i) (fun i=>l.length - i) 0 ⟨Nat.zero_le _,rfl⟩ ?_ ?_
 ·refine Sub.bO aA trivial ⟨rQ,rQ,rQ,rQ,rQ,oO⟩
 ·rintro i ⟨hi,he⟩
  refine eX aA ?_
  refine aI (fun h=>?_) (fun h=>?_)
  ·have h:(i:Int)<l.length:=bL h
   have bK:i<l.length:=oM
   have hd:l.drop i=l[i]::l.drop (i+1):=List.drop_eq_getElem_cons bK
   have hg:l.getD i default=l[i]:=a7 bK
   refine oi ⟨oM,oM⟩ ?_
   refine aB ((hp (l.getD i default) (by rw[hg];simp)).conv (args':=_) ⟨⟨aL.refl _,aL.refl _,aL.refl _,oO⟩,rR.iJ⟩) ?_
   rw[hd,cJ]at he
   rw[hg]
   refine aI (fun h=>?_) (fun h=>?_)
   ·refine aC.of_eq ?_
    rw[he,h];rfl
   ·refine⟨i+1,⟨oM,?_⟩,oM,?_⟩
    ·rw[he,h];rfl
    ·refine Sub.bO aA trivial ⟨rQ,rQ,rQ,⟨rfl,?_⟩,rQ,oO⟩
     exact congrArg vI (aG oM oM)
  ·have h:¬(i:Int)<l.length:=bG h
   have bK:i=l.length:=oM
   subst bK
   refine aC.of_eq ?_
   rw[he,List.drop_length];rfl
theorem PO(l:List MY)(hl:l.length≤9223372036854775807)(f k:Nat)(c:Nat→DV)(p:MY→Bool)(hp:∀x∈l,aF prog f (aDH x::iJ c k 0) (vB (p x))):
  aF prog 325 [vX l,.s (.d (.dR f k c))] (vB (l.any p)):=by
 refine eP func325 rfl rfl call325 rfl rfl fun cx aA=>?_
 refine aB (ZQ l hl f k c p hp) ?_
 exact aC.of_eq (congrArg vB (jV p l 0))
theorem V2(l:List Fact)(hl:l.length≤9223372036854775807)(f k:Nat)(c:Nat→DV)(p:Fact→Bool)(hp:∀x∈l,aF prog f (p8 x::iJ c k 0) (vB (p x))):
  aF prog 186 [iX l,.s (.d (.dR f k c))] (vI (cJ p l 0)):=by
 refine eP func186 rfl rfl call186 rfl rfl fun cx aA=>?_
 refine AW.loop (fun i:Nat=>⟨[(0,iX l),(1,.s (.d (.dR f k c))),(7,vI l.length),(8,vI i),(4,vI 0)],[]⟩) (fun i=>i≤l.length∧cJ p l 0=cJ p (l.drop i) i) (fun i=>l.length - i) 0 ⟨Nat.zero_le _,rfl⟩ ?_ ?_
 ·refine Sub.bO aA trivial ⟨rQ,rQ,rQ,rQ,rQ,oO⟩
 ·rintro i ⟨hi,he⟩
  refine eX aA ?_
  refine aI (fun h=>?_) (fun h=>?_)
  ·have h:(i:Int)<l.length:=bL h
   have bK:i<l.length:=oM
   have hd:l.drop i=l[i]::l.drop (i+1):=List.drop_eq_getElem_cons bK
   have hg:l.getD i default=l[i]:=a7 bK
   refine oi ⟨oM,oM⟩ ?_
   refine aB ((hp (l.getD i default) (by rw[hg];simp)).conv (args':=_) ⟨⟨aL.refl _,aL.refl _,aL.refl _,aL.refl _,aL.refl _,aL.refl _,aL.refl _,aL.refl _,aL.refl _,aL.refl _,aL.refl _,aL.refl _,aL.refl _,oO⟩,rR.iJ⟩) ?_
   rw[hd,cJ]at he
   rw[hg]
   refine aI (fun h=>?_) (fun h=>?_)
   ·refine aC.of_eq ?_
    rw[he,h];rfl
   ·refine⟨i+1,⟨oM,?_⟩,oM,?_⟩
    ·rw[he,h];rfl
    ·refine Sub.bO aA trivial ⟨rQ,rQ,rQ,⟨rfl,?_⟩,rQ,oO⟩
     exact congrArg vI (aG oM oM)
  ·have h:¬(i:Int)<l.length:=bG h
   have bK:i=l.length:=oM
   subst bK
   refine aC.of_eq ?_
   rw[he,List.drop_length];rfl
theorem VP(n lo hi:Int)(f g:Nat→DV)(hf:f 0=dI lo)(hg:g 0=dI hi):aF prog 79 [vI n,.s (.d (.rp 1 f)),.s (.d (.rp 1 g))] (vB (!within n lo hi)):=by
 have h1:rR [vI n,.s (.d (.rp 1 f)),.s (.d (.rp 1 g))] [vI n,.s (.d (.rp 1 fun _=>dI lo)),.s (.d (.rp 1 fun _=>dI hi))]:=
  ⟨aL.refl _,aL.rp fun j hj=>aL.of_eq (by rw[show j=0 by omega];exact hf),aL.rp fun j hj=>aL.of_eq (by rw[show j=0 by omega];exact hg),oO⟩
 refine aF.conv ?_ h1
 refine eP func79 rfl rfl call79 rfl rfl fun cx _=>?_
 repeat first|refine sk ?_|refine st ?_|refine sg ?_
 refine aC.of_eq ?_
 show vB _=vB _
 refine congrArg vB ?_
 rw[Bool.eq_iff_iff]
 simp[within]
theorem Y6(lo hi:Int)(l:List Int)(hl:l.length≤9223372036854775807):aF prog 28 [vI lo,vI hi,pK l] (vB (!IC lo hi l)):=by
 refine eP func28 rfl rfl call28 rfl rfl fun cx _=>?_
 refine aB (sY l hl 79 2 _ (fun n=> !within n lo hi) (fun x _=>VP x lo hi _ _ rfl rfl)) ?_
 exact aC.refl _
theorem aL8{a:Int}{f:Nat→Nat→DV}(h0:f 0 0=dI a):aL (.fW 1 1 f) (cE [a]):=by
 refine aL.fW fun i j hi hj=>?_
 have:j=0:=oM
 have:i=0:=oM
 subst i j
 exact aL.of_eq h0
theorem lQ(lo hi a:Int){f:Nat→Nat→DV}(h0:f 0 0=dI a):aF prog 28 [vI lo,vI hi,.s (.d (.fW 1 1 f))] (vB (within a lo hi)):=by
 have h:=(Y6 lo hi [a] sM).conv (args':=[vI lo,vI hi,.s (.d (.fW 1 1 f))]) ⟨aL.refl _,aL.refl _,aL8 h0,oO⟩
 rwa [show(!IC lo hi [a])=within a lo hi by simp[IC]]at h
theorem tQ(s:ByteArray):isName s=(within s.size 1 12&& !fI s s.size 0):=by
 rw[isName]
 congr 1
 rw[Bool.eq_iff_iff]
 simp[within]
theorem AI(s:ByteArray)(hl:s.size≤9223372036854775807):aF prog 24 [vS s] (vB (isName s)):=by
 refine eP func24 rfl rfl call24 rfl rfl fun cx aA=>?_
 refine aB (lQ 1 12 s.size rfl) ?_
 refine aI (fun h=>?_) (fun h=>?_)
 ·have h:within s.size 1 12=false:=by simpa using h
  exact aC.lit (by rw[tQ,h];rfl)
 have h:within s.size 1 12=true:=by simpa using h
 refine AW.loop (fun i:Nat=>⟨[(12,.s (.d (.fW s.size 1 (aBB s)))),(13,vI s.size),(14,vI i),(2,.s (.d (.lit false)))],[]⟩) (fun i=>i≤s.size∧fI s s.size 0=fI s (s.size - i) i) (fun i=>s.size - i) 0 ⟨Nat.zero_le _,rfl⟩ ?_ ?_
 ·refine Sub.bO aA trivial ⟨rQ,rQ,rQ,rQ,oO⟩
 ·rintro i ⟨hi,hj⟩
  refine eX aA ?_
  refine aI (fun h5=>?_) (fun h5=>?_)
  ·have h5:(i:Int)<s.size:=bL h5
   rw[show s.size - i=(s.size - (i+1))+1 by omega,fI]at hj
   refine oi ⟨oM,oM⟩ ?_
   repeat refine aR ?_
   refine aI (fun h6=>?_) (fun h6=>?_)
   ·have h6:vM i (u8 s i)=true:=(xY i (u8 s i)).symm.trans h6
    exact aC.lit (by rw[tQ,h,hj,h6];rfl)
   ·have h6:vM i (u8 s i)=false:=(xY i (u8 s i)).symm.trans h6
    refine⟨i+1,⟨oM,by rw[hj,h6];rfl⟩,oM,?_⟩
    refine Sub.bO aA trivial ⟨rQ,rQ,⟨rfl,?_⟩,rQ,oO⟩
    exact congrArg vI (aG oM oM)
  ·have h5:¬(i:Int)<s.size:=bG h5
   have bK:i=s.size:=oM
   exact aC.lit (by rw[tQ,h,hj,bK,Nat.sub_self];rfl)
theorem tH(n lo hi:Int):aF prog 192 [vI n,vI lo,vI hi] (vB (within n lo hi)):=by
 refine eP func192 rfl rfl call192 rfl rfl fun cx _=>?_
 repeat first|refine sk ?_|refine st ?_|refine sg ?_
 exact aC.refl _
theorem jQ(n lo hi:Int):aF prog 157 [vI n,vI lo,vI hi] (vB (within n lo hi)):=by
 refine eP func157 rfl rfl call157 rfl rfl fun cx _=>?_
 repeat first|refine sk ?_|refine st ?_|refine sg ?_
 exact aC.refl _
theorem S9(s:ByteArray)(hl:s.size≤9223372036854775807):aF prog 140 [vS s] (vB (isName s)):=by
 refine eP func140 rfl rfl call140 rfl rfl fun cx aA=>?_
 repeat refine aR ?_
 refine aI (fun h=>?_) (fun h=>?_)
 ·exact aC.lit (by rw[isName,h];rfl)
 refine AW.loop (fun i:Nat=>⟨[(0,vS s),(15,vI s.size),(16,vI i),(2,.s (.d (.lit false)))],[]⟩) (fun i=>i≤s.size∧fI s s.size 0=fI s (s.size - i) i) (fun i=>s.size - i) 0 ⟨Nat.zero_le _,rfl⟩ ?_ ?_
 ·refine Sub.bO aA trivial ⟨rQ,rQ,rQ,rQ,oO⟩
 ·rintro i ⟨hi,hj⟩
  refine eX aA ?_
  refine aI (fun h5=>?_) (fun h5=>?_)
  ·have h5:(i:Int)<s.size:=bL h5
   rw[show s.size - i=(s.size - (i+1))+1 by omega,fI]at hj
   refine oi ⟨oM,oM⟩ ?_
   repeat refine aR ?_
   refine aI (fun h6=>?_) (fun h6=>?_)
   ·have h6:vM i (u8 s i)=true:=(xY i (u8 s i)).symm.trans h6
    exact aC.lit (by rw[isName,h,hj,h6];rfl)
   ·have h6:vM i (u8 s i)=false:=(xY i (u8 s i)).symm.trans h6
    refine⟨i+1,⟨oM,by rw[hj,h6];rfl⟩,oM,?_⟩
    refine Sub.bO aA trivial ⟨rQ,rQ,⟨rfl,?_⟩,rQ,oO⟩
    exact congrArg vI (aG oM oM)
  ·have h5:¬(i:Int)<s.size:=bG h5
   have bK:i=s.size:=oM
   exact aC.lit (by rw[isName,h,hj,bK,Nat.sub_self];rfl)
theorem UA(c:Int):aF prog 244 [.s (.d (.val (.int .u8 c)))] (vB (letter c)):=by
 refine eP func244 rfl rfl call244 rfl rfl fun cx _=>?_
 repeat refine aR ?_
 exact aC.refl _
def XB(c:Int):Bool:= !letter c&&c !=45&& !within c 48 57
def BO(s:ByteArray):Nat→Nat→Bool
 |0,_=>false
 |n+1,i=>XB (u8 s i)||BO s n (i+1)
theorem aDY(c:Int)(i:Nat)(h:i≠0):vM i c=XB c:=by
 rw[vM,XB,Bool.eq_iff_iff]
 simp[within,h]
 exact⟨fun ⟨a,b,c⟩=>⟨⟨a,c⟩,b⟩,fun ⟨⟨a,c⟩,b⟩=>⟨a,b,c⟩⟩
theorem P4(s:ByteArray):∀n i,i≠0→fI s n i=BO s n i
 |0,_,_=>rfl
 |n+1,i,h=>by rw[fI,BO,aDY _ i h,P4 s n (i+1) oM]
theorem KN(s:ByteArray)(h:0<s.size):fI s s.size 0=(!letter (u8 s 0)||BO s s.size 0):=by
 obtain⟨n,hn⟩:∃n,s.size=n+1:=⟨s.size - 1,oM⟩
 rw[hn,fI,BO,P4 s n 1 oM]
 have:vM ((0:Nat):Int) (u8 s 0)= !letter (u8 s 0):=by simp[vM]
 rw[this,XB]
 cases letter (u8 s 0) <;> simp
theorem aEV(s:ByteArray)(hl:s.size≤9223372036854775807):aF prog 195 [vS s] (vB (isName s)):=by
 refine eP func195 rfl rfl call195 rfl rfl fun cx aA=>?_
 repeat refine aR ?_
 refine og (fun hb=>⟨oM,?_⟩) ?_
 ·have:decide ((s.size:Int)<1)=false:=by simp[rL]at hb;simpa using hb.1
  have:=bG this;omega
 repeat refine aR ?_
 refine bS (UA _) ?_
 repeat refine aR ?_
 have z:((0:Int)).toNat=0:=rfl
 refine aI (fun h=>?_) (fun h=>?_)
 ·refine aC.lit ?_
  cases h1:(decide ((s.size:Int)<1)||decide ((s.size:Int)>12))with
  |true=>rw[isName,h1];rfl
  |false=>
   rw[h1]at h
   simp only [Bool.or_eq_false_iff,decide_eq_false_iff_not]at h1
   have h2:letter (u8 s 0)=false:=by simpa [u8]using h
   rw[isName,KN s oM,h2];simp
 have h1:(decide ((s.size:Int)<1)||decide ((s.size:Int)>12))=false:=by
  cases h1:(decide ((s.size:Int)<1)||decide ((s.size:Int)>12))with
  |false=>rfl
  |true=>rw[h1]at h;simp at h
 have h2:letter (u8 s 0)=true:=by rw[h1]at h;simpa [u8]using h
 have hs:0<s.size:=by simp only [Bool.or_eq_false_iff,decide_eq_false_iff_not]at h1;omega
 have hN:isName s= !BO s s.size 0:=by rw[isName,KN s hs,h2,h1];rfl
 refine AW.loop (fun i:Nat=>⟨[(0,vS s),(20,vI s.size),(21,vI i),(2,.s (.d (.lit false)))],[]⟩) (fun i=>i≤s.size∧BO s s.size 0=BO s (s.size - i) i) (fun i=>s.size - i) 0 ⟨Nat.zero_le _,rfl⟩ ?_ ?_
 ·refine Sub.bO aA trivial ⟨rQ,rQ,rQ,rQ,oO⟩
 ·rintro i ⟨hi,hj⟩
  refine eX aA ?_
  refine aI (fun h5=>?_) (fun h5=>?_)
  ·have h5:(i:Int)<s.size:=bL h5
   rw[show s.size - i=(s.size - (i+1))+1 by omega,BO]at hj
   refine oi ⟨oM,oM⟩ ?_
   refine aB (UA _) ?_
   repeat refine aR ?_
   refine bS (jQ _ _ _) ?_
   repeat refine aR ?_
   have hw:IntKind.i64.wrap (u8 s i)=u8 s i:=by
    have:u8 s i<256:=by have:=(s[i]!).toNat_lt;unfold u8;omega
    have:0≤u8 s i:=by unfold u8;omega
    exact aG oM oM
   refine aI (fun h6=>?_) (fun h6=>?_)
   ·have h6:XB (u8 s i)=true:=by
     have h6:(!letter (u8 s i)&&u8 s i !=45&& !within (IntKind.i64.wrap (u8 s i)) 48 57)=true:=h6
     rw[hw]at h6;exact h6
    exact aC.lit (by rw[hN,hj,h6];rfl)
   ·have h6:XB (u8 s i)=false:=by
     have h6:(!letter (u8 s i)&&u8 s i !=45&& !within (IntKind.i64.wrap (u8 s i)) 48 57)=false:=h6
     rw[hw]at h6;exact h6
    refine⟨i+1,⟨oM,by rw[hj,h6];rfl⟩,oM,?_⟩
    refine Sub.bO aA trivial ⟨rQ,rQ,⟨rfl,?_⟩,rQ,oO⟩
    exact congrArg vI (aG oM oM)
  ·have h5:¬(i:Int)<s.size:=bG h5
   have bK:i=s.size:=oM
   exact aC.lit (by rw[hN,hj,bK,Nat.sub_self];rfl)
abbrev vF(p:Proj):List SV:=[.d (dS p.name),.d (dI p.aW.x),.d (dI p.aW.y),.d (dI p.aW.side),.d (dI p.aW.dL),.d (dI p.aW.rows),.d (cE p.aW.levels),.d (dS p.chan.name),.d (xC p.chan.aX),.d (dI p.chan.over),.d (dI p.chan.buffer),.d (yM p.chan.regions),.d (j8 p.gr.bE),.d (oY p.gr.b6),.d (dI p.agree),.d (dI p.eU),.d (BI p.cI),.d (PI p.cN),.d (qC p.aP),.d (oA p.a8)]
def oG(l:List kQ)(s:ByteArray):Int:=cJ (fun x=>bB x.name s) l 0
def NP(l:List yP)(s:ByteArray):Int:=cJ (fun r=>bB r.name s&&r.kind==0) l 0
def aM(f:Nat→Int):Nat→Nat→Int
 |0,_=>0
 |n+1,i=>bif f i !=0 then f i else aM f n (i+1)
def rE(p:Proj)(i:Nat):Int:=
 bif !(p.gr.bE.any fun s=>bB s.name (p.cI.getD i default).aO)then 6
 else bif (p.cI.take i).any (fun y=>bB y.aO (p.cI.getD i default).aO)then 5
 else bif !within (p.cI.getD i default).uW 0 1000000 then 2 else 0
def qX(p:Proj):Int:=bif decide ((p.cI.length:Int)>20)then 8 else aM (rE p) p.cI.length 0
def pO(p:Proj)(i:Nat):Int:=
 bif decide (NP p.chan.regions (p.cN.getD i default).name<0)then 6
 else bif (p.cN.take i).any (fun y=>bB y.name (p.cN.getD i default).name)then 5
 else bif !within (p.cN.getD i default).due 1 24|| !within (p.cN.getD i default).Y5 0 1000000000 then 2 else 0
def qV(p:Proj):Int:=bif decide ((p.cN.length:Int)>20)then 8 else aM (pO p) p.cN.length 0
def mN(p:Proj):Int:=bif qX p !=0 then qX p else qV p
def PZ(a b:DV):Nat→DV
 |0=>a
 |1=>b
 |_=>.bF
theorem aFV(q:kQ)(s:ByteArray)(f:Nat→DV)(hf:f 0=dS s):aF prog 81 [wG q,.s (.d (.rp 2 f))] (vB (bB q.name s)):=by
 refine aF.conv (args:=[wG q,.s (.d (.rp 2 (SK s)))]) ?_ ⟨⟨aL.refl _,aL.refl _,aL.refl _,aL.refl _,aL.refl _,oO⟩,aL.rp fun j hj=>?_,oO⟩
 ·refine eP func81 rfl rfl call81 rfl rfl fun cx _=>?_
  exact aC.refl _
 ·match j with
  |0=>exact aL.of_eq hf
  |_+1=>exact fun _ _ _=>trivial
theorem aFU(q:o4)(s:ByteArray)(f:Nat→DV)(hf:f 0=dS s):aF prog 83 [aCI q,.s (.d (.rp 2 f))] (vB (bB q.aO s)):=by
 refine aF.conv (args:=[aCI q,.s (.d (.rp 2 (SK s)))]) ?_ ⟨⟨aL.refl _,aL.refl _,oO⟩,aL.rp fun j hj=>?_,oO⟩
 ·refine eP func83 rfl rfl call83 rfl rfl fun cx _=>?_
  exact aC.refl _
 ·match j with
  |0=>exact aL.of_eq hf
  |_+1=>exact fun _ _ _=>trivial
theorem aIC(q:yE)(s:ByteArray)(f:Nat→DV)(hf:f 0=dS s):aF prog 86 [aB8 q,.s (.d (.rp 3 f))] (vB (bB q.name s)):=by
 refine aF.conv (args:=[aB8 q,.s (.d (.rp 3 (SK s)))]) ?_ ⟨⟨aL.refl _,aL.refl _,aL.refl _,oO⟩,aL.rp fun j hj=>?_,oO⟩
 ·refine eP func86 rfl rfl call86 rfl rfl fun cx _=>?_
  exact aC.refl _
 ·match j with
  |0=>exact aL.of_eq hf
  |_+1=>exact fun _ _ _=>trivial
theorem aCD(q:yP)(s:ByteArray)(f:Nat→DV)(hf:f 0=dS s):aF prog 149 [reg q,.s (.d (.rp 1 f))] (vB (bB q.name s&&q.kind==0)):=by
 refine aF.conv (args:=[reg q,.s (.d (.rp 1 (SK s)))]) ?_ ⟨⟨aL.refl _,aL.refl _,aL.refl _,oO⟩,aL.rp fun j hj=>?_,oO⟩
 ·refine eP func149 rfl rfl call149 rfl rfl fun cx _=>?_
  repeat first|refine sk ?_|refine st ?_|refine sg ?_|refine sh ?_
  exact aC.refl _
 ·match j with
  |0=>exact aL.of_eq hf
  |_+1=>exact fun _ _ _=>trivial
theorem YW(c:jS)(s:ByteArray)(hl:c.regions.length≤9223372036854775807):aF prog 84 [chan c,vS s] (vI (NP c.regions s)):=by
 refine eP func84 rfl rfl call84 rfl rfl fun cx aA=>?_
 refine aB (GI c.regions hl 149 1 _ (fun q=>bB q.name s&&q.kind==0) (fun q _=>aCD q s _ rfl)) ?_
 exact aC.refl _
theorem nF{α:Type} [Inhabited α] {s:Nat}{el:α→Nat→DV}(l:List α)(i:Nat)(hi:i≤l.length):
  aL (.fW i s (fun k=>el (l.getD k default))) (.fW (l.take i).length s (fun k=>el ((l.take i).getD k default))):=by
 refine aL.zZ (by simp;omega) fun k j hk hj=>aL.of_eq ?_
 rw[List.getD_eq_getElem?_getD,List.getD_eq_getElem?_getD,List.getElem?_take_of_lt hk]
theorem aK1{f m:Nat}{c g h:Nat→DV}(hc:c 0=.rp m h)(hg:∀j,j<m→aL (h j) (g j)):aL (.dR f 1 c) (.dR f 1 fun _=>.rp m g):=by
 refine aL.dR fun j hj=>?_
 have:j=0:=oM
 subst this
 rw[hc]
 exact aL.rp hg
theorem PU(p:Proj)(hs:p.gr.bE.length≤9223372036854775807)(hp:p.cI.length≤9223372036854775807):aF prog 29 [vE p] (vI (qX p)):=by
 refine eP func29 rfl rfl call29 rfl rfl fun cx aA=>?_
 refine aI (fun h0=>?_) (fun h0=>?_)
 ·exact aC.of_eq (by unfold qX;rw[h0];rfl)
 have hE:qX p=aM (rE p) p.cI.length 0:=by unfold qX;rw[h0];rfl
 refine AW.loop (fun i:Nat=>⟨[(1,.s (.ptr 1 0)),(10,M4 p.cI),(11,vI p.cI.length),(12,vI i),(2,vI 0)],[(1,some (.cells (vF p)))]⟩) (fun i=>i≤p.cI.length∧qX p=aM (rE p) (p.cI.length - i) i) (fun i=>p.cI.length - i) 0 ⟨Nat.zero_le _,hE⟩ ?_ ?_
 ·refine Sub.bO aA ⟨rQ,oO⟩ ⟨rQ,rQ,rQ,rQ,rQ,oO⟩
 ·rintro i ⟨hi,hj⟩
  refine eX aA ?_
  refine aI (fun h5=>?_) (fun h5=>?_)
  ·have h5:(i:Int)<p.cI.length:=bL h5
   rw[show p.cI.length - i=(p.cI.length - (i+1))+1 by omega,aM]at hj
   refine oi ⟨oM,oM⟩ ?_
   refine aB (BJ p.gr.bE hs 81 1 _ (fun q=>bB q.name (p.cI.getD i default).aO) (fun q _=>aFV q _ _ rfl)) ?_
   refine aI (fun h6=>?_) (fun h6=>?_)
   ·have h:rE p i=6:=by unfold rE;rw[h6];rfl
    exact aC.of_eq (by rw[hj,h];rfl)
   refine oi ⟨dC,by show(0:Int)≤(i:Int);omega,by show(i:Int)≤(p.cI.length:Int);omega⟩ ?_
   refine aB ((IQ (p.cI.take i) (by simp;omega) 83 1 (fun _=>.rp 2 (aFW (p.cI.getD i default))) (fun q=>bB q.aO (p.cI.getD i default).aO) (fun q _=>aFU q _ _ rfl)).conv (args':=_) ⟨nF p.cI i hi,aK1 rfl (lt2 (aL.refl _) (aL.refl _)),oO⟩) ?_
   refine aI (fun h7=>?_) (fun h7=>?_)
   ·have h:rE p i=5:=by unfold rE;rw[h6,h7];rfl
    exact aC.of_eq (by rw[hj,h];rfl)
   refine aB (lQ 0 1000000 (p.cI.getD i default).uW rfl) ?_
   refine aI (fun h8=>?_) (fun h8=>?_)
   ·have h:rE p i=2:=by unfold rE;rw[h6,h7,h8];rfl
    exact aC.of_eq (by rw[hj,h];rfl)
   have h:rE p i=0:=by unfold rE;rw[h6,h7,h8];rfl
   refine⟨i+1,⟨oM,by rw[hj,h];rfl⟩,oM,?_⟩
   refine Sub.bO aA ⟨rQ,oO⟩ ⟨rQ,rQ,rQ,⟨rfl,?_⟩,rQ,oO⟩
   exact congrArg vI (aG oM oM)
  ·have h5:¬(i:Int)<p.cI.length:=bG h5
   have bK:i=p.cI.length:=oM
   exact aC.of_eq (by rw[hj,bK,Nat.sub_self];rfl)
theorem IS(p:Proj)(hs:p.chan.regions.length≤9223372036854775807)(hp:p.cN.length≤9223372036854775807):aF prog 30 [vE p] (vI (qV p)):=by
 refine eP func30 rfl rfl call30 rfl rfl fun cx aA=>?_
 refine aI (fun h0=>?_) (fun h0=>?_)
 ·exact aC.of_eq (by unfold qV;rw[h0];rfl)
 have hE:qV p=aM (pO p) p.cN.length 0:=by unfold qV;rw[h0];rfl
 refine AW.loop (fun i:Nat=>⟨[(1,.s (.ptr 1 0)),(10,S5 p.cN),(11,vI p.cN.length),(12,vI i),(2,vI 0)],[(1,some (.cells (vF p)))]⟩) (fun i=>i≤p.cN.length∧qV p=aM (pO p) (p.cN.length - i) i) (fun i=>p.cN.length - i) 0 ⟨Nat.zero_le _,hE⟩ ?_ ?_
 ·refine Sub.bO aA ⟨rQ,oO⟩ ⟨rQ,rQ,rQ,rQ,rQ,oO⟩
 ·rintro i ⟨hi,hj⟩
  refine eX aA ?_
  refine aI (fun h5=>?_) (fun h5=>?_)
  ·have h5:(i:Int)<p.cN.length:=bL h5
   rw[show p.cN.length - i=(p.cN.length - (i+1))+1 by omega,aM]at hj
   refine oi ⟨oM,oM⟩ ?_
   refine aB (YW p.chan (p.cN.getD i default).name hs) ?_
   refine aI (fun h6=>?_) (fun h6=>?_)
   ·have h:pO p i=6:=by unfold pO;rw[h6];rfl
    exact aC.of_eq (by rw[hj,h];rfl)
   refine oi ⟨dC,by show(0:Int)≤(i:Int);omega,by show(i:Int)≤(p.cN.length:Int);omega⟩ ?_
   refine aB ((ME (p.cN.take i) (by simp;omega) 86 1 (fun _=>.rp 3 (aFH (p.cN.getD i default))) (fun q=>bB q.name (p.cN.getD i default).name) (fun q _=>aIC q _ _ rfl)).conv (args':=_) ⟨nF p.cN i hi,aK1 rfl (lt3 (aL.refl _) (aL.refl _) (aL.refl _)),oO⟩) ?_
   refine aI (fun h7=>?_) (fun h7=>?_)
   ·have h:pO p i=5:=by unfold pO;rw[h6,h7];rfl
    exact aC.of_eq (by rw[hj,h];rfl)
   refine aB (lQ 1 24 (p.cN.getD i default).due rfl) ?_
   repeat refine aR ?_
   refine aI (fun h8=>?_) (fun h8=>?_)
   ·refine ob (by rw[h8];rfl) ?_
    refine aB (lQ 0 1000000000 (p.cN.getD i default).Y5 rfl) ?_
    repeat refine aR ?_
    refine aI (fun h9=>?_) (fun h9=>?_)
    ·have h9:(!within (p.cN.getD i default).Y5 0 1000000000)=true:=h9
     have h:pO p i=2:=by unfold pO;rw[h6,h7,h8,h9];rfl
     exact aC.of_eq (by rw[hj,h];rfl)
    ·have h9:(!within (p.cN.getD i default).Y5 0 1000000000)=false:=h9
     have h:pO p i=0:=by unfold pO;rw[h6,h7,h8,h9];rfl
     refine⟨i+1,⟨oM,by rw[hj,h];rfl⟩,oM,?_⟩
     refine Sub.bO aA ⟨rQ,oO⟩ ⟨rQ,rQ,rQ,⟨rfl,?_⟩,rQ,oO⟩
     exact congrArg vI (aG oM oM)
   ·have h8:(!within (p.cN.getD i default).due 1 24)=true:=h8
    have h:pO p i=2:=by unfold pO;rw[h6,h7,h8];rfl
    exact aC.of_eq (by rw[hj,h];rfl)
  ·have h5:¬(i:Int)<p.cN.length:=bG h5
   have bK:i=p.cN.length:=oM
   exact aC.of_eq (by rw[hj,bK,Nat.sub_self];rfl)
theorem K7(l:List kQ)(s:ByteArray)(hl:l.length≤9223372036854775807):aF prog 95 [iW l,vS s] (vI (oG l s)):=by
 refine eP func95 rfl rfl call95 rfl rfl fun cx aA=>?_
 refine AW.loop (fun i:Nat=>⟨[(0,iW l),(1,vS s),(5,vI i),(4,vI 0)],[]⟩) (fun i=>i≤l.length∧oG l s=cJ (fun x=>bB x.name s) (l.drop i) i) (fun i=>l.length - i) 0 ⟨Nat.zero_le _,rfl⟩ ?_ ?_
 ·refine Sub.bO aA trivial ⟨rQ,rQ,rQ,rQ,oO⟩
 ·rintro i ⟨hi,he⟩
  refine eX aA ?_
  refine aI (fun h=>?_) (fun h=>?_)
  ·have h:(i:Int)<l.length:=bL h
   have bK:i<l.length:=oM
   have hd:l.drop i=l[i]::l.drop (i+1):=List.drop_eq_getElem_cons bK
   have hg:l.getD i default=l[i]:=a7 bK
   refine oi ⟨oM,oM⟩ ?_
   rw[hd,cJ,←hg]at he
   refine aI (fun h=>?_) (fun h=>?_)
   ·have h:bB (l.getD i default).name s=true:=h
    exact aC.of_eq (by rw[he,h];rfl)
   ·have h:bB (l.getD i default).name s=false:=h
    refine⟨i+1,⟨oM,by rw[he,h];rfl⟩,oM,?_⟩
    refine Sub.bO aA trivial ⟨rQ,rQ,⟨rfl,?_⟩,rQ,oO⟩
    exact congrArg vI (aG oM oM)
  ·have h:¬(i:Int)<l.length:=bG h
   have bK:i=l.length:=oM
   subst bK
   exact aC.of_eq (by rw[he,List.drop_length];rfl)
theorem YM(c:jS)(s:ByteArray)(hl:c.regions.length≤9223372036854775807):aF prog 96 [chan c,vS s] (vI (NP c.regions s)):=by
 refine eP func96 rfl rfl call96 rfl rfl fun cx aA=>?_
 refine AW.loop (fun i:Nat=>⟨[(1,vS s),(2,.s (.ptr 2 0)),(5,vI i),(4,vI 0)],[(2,some (.cells [.d (dS c.name),.d (xC c.aX),.d (dI c.over),.d (dI c.buffer),.d (yM c.regions)]))]⟩) (fun i=>i≤c.regions.length∧NP c.regions s=cJ (fun r=>bB r.name s&&r.kind==0) (c.regions.drop i) i) (fun i=>c.regions.length - i) 0 ⟨Nat.zero_le _,rfl⟩ ?_ ?_
 ·refine Sub.bO aA ⟨rQ,oO⟩ ⟨rQ,rQ,rQ,rQ,oO⟩
 ·rintro i ⟨hi,he⟩
  refine eX aA ?_
  refine aI (fun h=>?_) (fun h=>?_)
  ·have h:(i:Int)<c.regions.length:=bL h
   have bK:i<c.regions.length:=oM
   have hd:c.regions.drop i=c.regions[i]::c.regions.drop (i+1):=List.drop_eq_getElem_cons bK
   have hg:c.regions.getD i default=c.regions[i]:=a7 bK
   refine oi ⟨oM,oM⟩ ?_
   repeat refine aR ?_
   refine og (fun _=>⟨oM,oM⟩) ?_
   repeat refine aR ?_
   rw[hd,cJ,←hg]at he
   refine aI (fun h=>?_) (fun h=>?_)
   ·have h:(bB (c.regions.getD i default).name s&&(c.regions.getD i default).kind==0)=true:=h
    exact aC.of_eq (by rw[he,h];rfl)
   ·have h:(bB (c.regions.getD i default).name s&&(c.regions.getD i default).kind==0)=false:=h
    refine⟨i+1,⟨oM,by rw[he,h];rfl⟩,oM,?_⟩
    refine Sub.bO aA ⟨rQ,oO⟩ ⟨rQ,rQ,⟨rfl,?_⟩,rQ,oO⟩
    exact congrArg vI (aG oM oM)
  ·have h:¬(i:Int)<c.regions.length:=bG h
   have bK:i=c.regions.length:=oM
   exact aC.of_eq (by rw[he,bK,List.drop_length];rfl)
theorem FH(l:List kQ)(s:ByteArray):decide (oG l s<0)= !(l.any fun x=>bB x.name s):=by
 have:=jV (fun x:kQ=>bB x.name s) l 0
 rw[←this,oG]
 by_cases h:cJ (fun x:kQ=>bB x.name s) l 0<0
 ·simp[h]
 ·simp[h];omega
theorem HQ{α:Type} [Inhabited α] (q:α→Bool)(l:List α):∀k,k≤l.length→(∀j,j<k→q (l.getD j default)=false)→(l.take k).any q=false:=by
 intro k hk h
 rw[List.any_eq_false]
 intro x hx
 obtain⟨j,hj,rfl⟩:=List.getElem_of_mem hx
 have pX:j<k:=by simp at hj;omega
 have:=h j pX
 rw[a7 oM]at this
 simpa using this
theorem rN{α:Type} [Inhabited α] (q:α→Bool)(l:List α){k j:Nat}(hk:k≤l.length)(hj:j<k)(h:q (l.getD j default)=true):(l.take k).any q=true:=by
 rw[List.any_eq_true]
 refine⟨l[j],?_,by rw[a7 oM]at h;exact h⟩
 rw[List.mem_take_iff_getElem]
 exact⟨j,oM,rfl⟩
theorem NR(p:Proj)(hs:p.gr.bE.length≤9223372036854775807)(hp:p.cI.length≤9223372036854775807)(hr:p.chan.regions.length≤9223372036854775807)(hc:p.cN.length≤9223372036854775807):aF prog 37 [vE p] (vI (mN p)):=by
 refine eP func37 rfl rfl call37 rfl rfl fun cx aA=>?_
 refine aI (fun h0=>?_) (fun h0=>?_)
 ·exact aC.of_eq (by unfold mN qX;rw[h0];rfl)
 have hE:qX p=aM (rE p) p.cI.length 0:=by unfold qX;rw[h0];rfl
 refine AW.loop (fun i:Nat=>⟨[(1,.s (.ptr 1 0)),(3,vI i),(2,vI 0)],[(1,some (.cells (vF p)))]⟩) (fun i=>i≤p.cI.length∧qX p=aM (rE p) (p.cI.length - i) i) (fun i=>p.cI.length - i) 0 ⟨Nat.zero_le _,hE⟩ ?_ ?_
 ·refine Sub.bO aA ⟨rQ,oO⟩ ⟨rQ,rQ,rQ,oO⟩
 ·rintro i ⟨hi,hj⟩
  refine eX aA ?_
  refine aI (fun h5=>?_) (fun h5=>?_)
  ·have h5:(i:Int)<p.cI.length:=bL h5
   rw[show p.cI.length - i=(p.cI.length - (i+1))+1 by omega,aM]at hj
   refine oi ⟨oM,oM⟩ ?_
   refine aB (K7 p.gr.bE (p.cI.getD i default).aO hs) ?_
   refine aD ?_
   refine aI (fun h6=>?_) (fun h6=>?_)
   ·have h6:decide (oG p.gr.bE (p.cI.getD i default).aO<0)=true:=h6
    rw[FH]at h6
    have h:rE p i=6:=by unfold rE;rw[h6];rfl
    exact aC.of_eq (by unfold mN;rw[hj,h];rfl)
   have h6:decide (oG p.gr.bE (p.cI.getD i default).aO<0)=false:=h6
   rw[FH]at h6
   refine AW.loop (fun k:Nat=>⟨[(1,.s (.ptr 1 0)),(3,vI i),(4,vI k),(2,vI 0)],[(1,some (.cells (vF p)))]⟩) (fun k=>k≤i∧∀j,j<k→bB (p.cI.getD j default).aO (p.cI.getD i default).aO=false) (fun k=>i - k) 0 ⟨Nat.zero_le _,fun j hj=>absurd hj (Nat.not_lt_zero j)⟩ ?_ ?_
   ·refine Sub.bO aA ⟨rQ,oO⟩ ⟨rQ,rQ,rQ,rQ,oO⟩
   ·rintro k ⟨hk,hq⟩
    refine eX aA ?_
    refine aI (fun h9=>?_) (fun h9=>?_)
    ·have h9:(k:Int)<i:=bL h9
     refine oi ⟨oM,oM⟩ ?_
     refine oi ⟨oM,oM⟩ ?_
     refine aD ?_
     refine aI (fun h'=>?_) (fun h'=>?_)
     ·have h':bB (p.cI.getD k default).aO (p.cI.getD i default).aO=true:=h'
      have h7:=rN (fun y:o4=>bB y.aO (p.cI.getD i default).aO) p.cI (k:=i) (j:=k) hi oM h'
      have h:rE p i=5:=by unfold rE;rw[h6,h7];rfl
      exact aC.of_eq (by unfold mN;rw[hj,h];rfl)
     ·have h':bB (p.cI.getD k default).aO (p.cI.getD i default).aO=false:=h'
      refine⟨k+1,⟨oM,fun j pX=>?_⟩,oM,?_⟩
      ·by_cases QK:j=k
       ·rw[QK];exact h'
       ·exact hq j oM
      refine Sub.bO aA ⟨rQ,oO⟩ ⟨rQ,rQ,⟨rfl,?_⟩,rQ,oO⟩
      exact congrArg vI (aG oM oM)
    ·have h9:¬(k:Int)<i:=bG h9
     have h7:=HQ (fun y:o4=>bB y.aO (p.cI.getD i default).aO) p.cI i hi (fun j hj=>hq j oM)
     refine oi ⟨oM,oM⟩ ?_
     refine aB (cD _ _ _) ?_
     refine aI (fun h8=>?_) (fun h8=>?_)
     ·have h8:(!within (p.cI.getD i default).uW 0 1000000)=true:=h8
      have h:rE p i=2:=by unfold rE;rw[h6,h7,h8];rfl
      exact aC.of_eq (by unfold mN;rw[hj,h];rfl)
     have h8:(!within (p.cI.getD i default).uW 0 1000000)=false:=h8
     have h:rE p i=0:=by unfold rE;rw[h6,h7,h8];rfl
     refine⟨i+1,⟨oM,by rw[hj,h];rfl⟩,oM,?_⟩
     refine Sub.bO aA ⟨rQ,oO⟩ ⟨rQ,⟨rfl,?_⟩,rQ,oO⟩
     exact congrArg vI (aG oM oM)
  ·have h5:¬(i:Int)<p.cI.length:=bG h5
   have bK:i=p.cI.length:=oM
   have hp0:qX p=0:=by rw[hj,bK,Nat.sub_self];rfl
   have ht:mN p=qV p:=by unfold mN;rw[hp0];rfl
   rw[ht]
   refine aI (fun h0=>?_) (fun h0=>?_)
   ·exact aC.of_eq (by unfold qV;rw[h0];rfl)
   have hE:qV p=aM (pO p) p.cN.length 0:=by unfold qV;rw[h0];rfl
   clear hj hi
   refine AW.loop (fun i:Nat=>⟨[(1,.s (.ptr 1 0)),(5,vI i),(2,vI 0)],[(1,some (.cells (vF p)))]⟩) (fun i=>i≤p.cN.length∧qV p=aM (pO p) (p.cN.length - i) i) (fun i=>p.cN.length - i) 0 ⟨Nat.zero_le _,hE⟩ ?_ ?_
   ·refine Sub.bO aA ⟨rQ,oO⟩ ⟨rQ,rQ,rQ,oO⟩
   ·rintro i ⟨hi,hj⟩
    refine eX aA ?_
    refine aI (fun h5=>?_) (fun h5=>?_)
    ·have h5:(i:Int)<p.cN.length:=bL h5
     rw[show p.cN.length - i=(p.cN.length - (i+1))+1 by omega,aM]at hj
     refine oi ⟨oM,oM⟩ ?_
     refine aB (YM p.chan (p.cN.getD i default).name hr) ?_
     refine aI (fun h6=>?_) (fun h6=>?_)
     ·have h:pO p i=6:=by unfold pO;rw[h6];rfl
      exact aC.of_eq (by rw[hj,h];rfl)
     refine AW.loop (fun k:Nat=>⟨[(1,.s (.ptr 1 0)),(5,vI i),(6,.s (.ptr 6 0)),(7,vI k),(2,vI 0)],[(1,some (.cells (vF p))),(6,some (.cells [.d (dS (p.cN.getD i default).name),.d (dI (p.cN.getD i default).due),.d (dI (p.cN.getD i default).Y5)]))]⟩) (fun k=>k≤i∧∀j,j<k→bB (p.cN.getD j default).name (p.cN.getD i default).name=false) (fun k=>i - k) 0 ⟨Nat.zero_le _,fun j hj=>absurd hj (Nat.not_lt_zero j)⟩ ?_ ?_
     ·refine Sub.bO aA ⟨rQ,rQ,oO⟩ ⟨rQ,rQ,rQ,rQ,rQ,oO⟩
     ·rintro k ⟨hk,hq⟩
      refine eX aA ?_
      refine aI (fun h9=>?_) (fun h9=>?_)
      ·have h9:(k:Int)<i:=bL h9
       refine oi ⟨oM,oM⟩ ?_
       refine aD ?_
       refine aI (fun h'=>?_) (fun h'=>?_)
       ·have h':bB (p.cN.getD k default).name (p.cN.getD i default).name=true:=h'
        have h7:=rN (fun y:yE=>bB y.name (p.cN.getD i default).name) p.cN (k:=i) (j:=k) hi oM h'
        have h:pO p i=5:=by unfold pO;rw[h6,h7];rfl
        exact aC.of_eq (by rw[hj,h];rfl)
       ·have h':bB (p.cN.getD k default).name (p.cN.getD i default).name=false:=h'
        refine⟨k+1,⟨oM,fun j pX=>?_⟩,oM,?_⟩
        ·by_cases QK:j=k
         ·rw[QK];exact h'
         ·exact hq j oM
        refine Sub.bO aA ⟨rQ,rQ,oO⟩ ⟨rQ,rQ,rQ,⟨rfl,?_⟩,rQ,oO⟩
        exact congrArg vI (aG oM oM)
      ·have h9:¬(k:Int)<i:=bG h9
       have h7:=HQ (fun y:yE=>bB y.name (p.cN.getD i default).name) p.cN i hi (fun j hj=>hq j oM)
       refine aB (cD _ _ _) ?_
       repeat refine aR ?_
       refine bS (cD _ _ _) ?_
       repeat refine aR ?_
       refine aI (fun h8=>?_) (fun h8=>?_)
       ·have h8:(!within (p.cN.getD i default).due 1 24|| !within (p.cN.getD i default).Y5 0 1000000000)=true:=h8
        have h:pO p i=2:=by unfold pO;rw[h6,h7,h8];rfl
        exact aC.of_eq (by rw[hj,h];rfl)
       have h8:(!within (p.cN.getD i default).due 1 24|| !within (p.cN.getD i default).Y5 0 1000000000)=false:=h8
       have h:pO p i=0:=by unfold pO;rw[h6,h7,h8];rfl
       refine⟨i+1,⟨oM,by rw[hj,h];rfl⟩,oM,?_⟩
       refine Sub.bO aA ⟨rQ,oO⟩ ⟨rQ,⟨rfl,?_⟩,rQ,oO⟩
       exact congrArg vI (aG oM oM)
    ·have h5:¬(i:Int)<p.cN.length:=bG h5
     have bK:i=p.cN.length:=oM
     exact aC.of_eq (by rw[hj,bK,Nat.sub_self];rfl)
def zY(x:kQ):Int:=bif !within x.run 1 1000|| !within x.aDJ 1 5000|| !within x.num 1 1000|| !within x.den 1 1000||decide (x.num<x.den)then 2 else 0
def vC(l:List kQ)(i:Nat):Int:=
 bif !isName (l.getD i default).name then 4 else bif (l.take i).any (fun y=>bB y.name (l.getD i default).name)then 5 else zY (l.getD i default)
def lZ(l:List kQ):Int:=bif (l.length:Int)==0 then 10 else bif decide ((l.length:Int)>8)then 8 else aM (vC l) l.length 0
def rH(s:List kQ)(b:fF)(i:Nat):Int:=
 bif !within (b.bA.getD i default).top (-20000) 20000 then 2
 else bif decide ((i:Int)>0)&&decide ((b.bA.getD i default).top≥(b.bA.getD (i - 1) default).top)then 9
 else bif decide (oG s (b.bA.getD i default).aO<0)then 6 else 0
def uJ(s:List kQ)(b:fF):Int:=
 bif !eR ⟨b.x,b.y⟩then 2 else bif (b.bA.length:Int)==0 then 10 else bif decide ((b.bA.length:Int)>12)then 8 else aM (rH s b) b.bA.length 0
def tB(s:List kQ)(l:List fF)(i:Nat):Int:=
 bif !isName (l.getD i default).name then 4 else bif (l.take i).any (fun y=>bB y.name (l.getD i default).name)then 5 else uJ s (l.getD i default)
def dP(g:Ground):Int:=
 bif lZ g.bE !=0 then lZ g.bE else bif (g.b6.length:Int)==0 then 10 else bif decide ((g.b6.length:Int)>20)then 8 else aM (tB g.bE g.b6) g.b6.length 0
theorem cT{α:Type} [Inhabited α] {l:List α}{i:Nat}(h:i<l.length):l.getD i default∈l:=by rw[a7 h];simp
theorem numbers(x:kQ):aF prog 139 [wG x] (vI (zY x)):=by
 refine eP func139 rfl rfl call139 rfl rfl fun cx _=>?_
 refine aB (tH _ _ _) ?_
 repeat refine aR ?_
 refine bS (tH _ _ _) ?_
 repeat refine aR ?_
 refine bS (tH _ _ _) ?_
 repeat refine aR ?_
 refine bS (tH _ _ _) ?_
 repeat refine aR ?_
 refine aI (fun h=>?_) (fun h=>?_)
 ·exact aC.of_eq (by unfold zY;rw[h];rfl)
 ·exact aC.of_eq (by unfold zY;rw[h];rfl)
theorem YQ(x:kQ):aF prog 164 [wG x] (vI (zY x)):=by
 refine eP func164 rfl rfl call164 rfl rfl fun cx _=>?_
 refine aB (cD _ _ _) ?_
 repeat refine aR ?_
 refine bS (cD _ _ _) ?_
 repeat refine aR ?_
 refine bS (cD _ _ _) ?_
 repeat refine aR ?_
 refine bS (cD _ _ _) ?_
 repeat refine aR ?_
 refine aI (fun h=>?_) (fun h=>?_)
 ·exact aC.of_eq (by unfold zY;rw[h];rfl)
 ·exact aC.of_eq (by unfold zY;rw[h];rfl)
theorem NF(x:kQ):aF prog 138 [wG x] (vS x.name):=by
 refine eP func138 rfl rfl call138 rfl rfl fun cx _=>?_
 exact aC.refl _
theorem HN(x:fF):aF prog 77 [SO x] (vS x.name):=by
 refine eP func77 rfl rfl call77 rfl rfl fun cx _=>?_
 exact aC.refl _
theorem YH(q:kQ)(s:ByteArray)(c f g:Nat→DV)(hf:f 0=.dR 138 0 c)(hg:g 0=dS s):aF prog 191 [wG q,.s (.d (.rp 1 f)),.s (.d (.rp 1 g))] (vB (bB q.name s)):=by
 refine aF.conv (args:=[wG q,.s (.d (.rp 1 fun _=>.dR 138 0 c)),.s (.d (.rp 1 fun _=>dS s))]) ?_ ⟨⟨aL.refl _,aL.refl _,aL.refl _,aL.refl _,aL.refl _,oO⟩,aL.rp fun j hj=>aL.of_eq (by rw[show j=0 by omega];exact hf),aL.rp fun j hj=>aL.of_eq (by rw[show j=0 by omega];exact hg),oO⟩
 refine eP func191 rfl rfl call191 rfl rfl fun cx _=>?_
 refine aB (NF q) ?_
 refine aD ?_
 exact aC.refl _
theorem SN(q:fF)(s:ByteArray)(c f g:Nat→DV)(hf:f 0=.dR 77 0 c)(hg:g 0=dS s):aF prog 142 [SO q,.s (.d (.rp 1 f)),.s (.d (.rp 1 g))] (vB (bB q.name s)):=by
 refine aF.conv (args:=[SO q,.s (.d (.rp 1 fun _=>.dR 77 0 c)),.s (.d (.rp 1 fun _=>dS s))]) ?_ ⟨⟨aL.refl _,aL.refl _,aL.refl _,aL.refl _,oO⟩,aL.rp fun j hj=>aL.of_eq (by rw[show j=0 by omega];exact hf),aL.rp fun j hj=>aL.of_eq (by rw[show j=0 by omega];exact hg),oO⟩
 refine eP func142 rfl rfl call142 rfl rfl fun cx _=>?_
 refine aB (HN q) ?_
 refine aD ?_
 exact aC.refl _
theorem aK0{f m n:Nat}{c g h g' h':Nat→DV}(hc:c 0=.rp m h)(O1:c 1=.rp n h')(hg:∀j,j<m→aL (h j) (g j))(hg':∀j,j<n→aL (h' j) (g' j)):aL (.dR f 2 c) (.dR f 2 (PZ (.rp m g) (.rp n g'))):=by
 refine aL.dR fun j hj=>?_
 match j,hj with
 |0,_=>rw[hc];exact aL.rp hg
 |1,_=>rw[O1];exact aL.rp hg'
theorem aAT(l:List kQ)(c d:Nat→DV)(hl:l.length≤9223372036854775807)(hn:∀x∈l,x.name.size≤9223372036854775807):aF prog 137 [iW l,.s (.d (.dR 138 0 c)),.s (.d (.dR 139 0 d))] (vI (aM (vC l) l.length 0)):=by
 refine eP func137 rfl rfl call137 rfl rfl fun cx aA=>?_
 refine AW.loop (fun i:Nat=>⟨[(0,iW l),(2,.s (.d (.dR 139 0 d))),(4,.s (.ptr 4 0)),(11,iW l),(12,vI l.length),(13,vI i),(6,vI 0)],[(4,some (.cells [.d (.dR 138 0 c)]))]⟩) (fun i=>i≤l.length∧aM (vC l) l.length 0=aM (vC l) (l.length - i) i) (fun i=>l.length - i) 0 ⟨Nat.zero_le _,rfl⟩ ?_ ?_
 ·refine Sub.bO aA ⟨rQ,oO⟩ ⟨rQ,rQ,rQ,rQ,rQ,rQ,rQ,oO⟩
 ·rintro i ⟨hi,hj⟩
  refine eX aA ?_
  refine aI (fun h5=>?_) (fun h5=>?_)
  ·have h5:(i:Int)<l.length:=bL h5
   rw[show l.length - i=(l.length - (i+1))+1 by omega,aM]at hj
   refine oi ⟨oM,oM⟩ ?_
   refine aB (NF (l.getD i default)) ?_
   refine aB (S9 (l.getD i default).name (hn _ (cT oM))) ?_
   refine aI (fun h6=>?_) (fun h6=>?_)
   ·have h:vC l i=4:=by unfold vC;rw[h6];rfl
    exact aC.of_eq (by rw[hj,h];rfl)
   refine oi ⟨dC,by show(0:Int)≤(i:Int);omega,by show(i:Int)≤(l.length:Int);omega⟩ ?_
   refine aB ((BJ (l.take i) (by simp;omega) 191 2 (PZ (.rp 1 fun _=>.dR 138 0 c) (.rp 1 fun _=>dS (l.getD i default).name)) (fun q=>bB q.name (l.getD i default).name) (fun q _=>YH q _ c _ _ rfl rfl)).conv (args':=_) ⟨nF l i hi,aK0 rfl rfl (AN (aL.refl _)) (AN (aL.refl _)),oO⟩) ?_
   refine aI (fun h7=>?_) (fun h7=>?_)
   ·have h:vC l i=5:=by unfold vC;rw[h6,h7];rfl
    exact aC.of_eq (by rw[hj,h];rfl)
   refine aB (numbers (l.getD i default)) ?_
   have h:vC l i=zY (l.getD i default):=by unfold vC;rw[h6,h7];rfl
   rw[h]at hj
   refine aI (fun h8=>?_) (fun h8=>?_)
   ·exact aC.of_eq (by rw[hj,h8];rfl)
   refine⟨i+1,⟨oM,by rw[hj,h8];rfl⟩,oM,?_⟩
   refine Sub.bO aA ⟨rQ,oO⟩ ⟨rQ,rQ,rQ,rQ,rQ,⟨rfl,?_⟩,rQ,oO⟩
   exact congrArg vI (aG oM oM)
  ·have h5:¬(i:Int)<l.length:=bG h5
   have bK:i=l.length:=oM
   exact aC.of_eq (by rw[hj,bK,Nat.sub_self];rfl)
theorem SG(l:List kQ)(hl:l.length≤9223372036854775807)(hn:∀x∈l,x.name.size≤9223372036854775807):aF prog 75 [iW l] (vI (lZ l)):=by
 refine eP func75 rfl rfl call75 rfl rfl fun cx _=>?_
 refine aI (fun h=>?_) (fun h=>?_)
 ·exact aC.of_eq (by unfold lZ;rw[h];rfl)
 refine aI (fun h'=>?_) (fun h'=>?_)
 ·exact aC.of_eq (by unfold lZ;rw[h,h'];rfl)
 refine aB ((aAT l (fun _=>.bF) (fun _=>.bF) hl hn).conv (args':=_) ⟨aL.refl _,aL.dR fun j hj=>absurd hj (Nat.not_lt_zero j),aL.dR fun j hj=>absurd hj (Nat.not_lt_zero j),oO⟩) ?_
 exact aC.of_eq (by unfold lZ;rw[h,h'];rfl)
theorem Y4(p:Pt):aF prog 143 [pt p] (vB (eR p)):=by
 refine eP func143 rfl rfl call143 rfl rfl fun cx _=>?_
 refine aB (tH _ _ _) ?_
 repeat refine aR ?_
 refine bS (tH _ _ _) ?_
 repeat refine aR ?_
 exact aC.refl _
theorem NG(n:Int):aF prog 144 [vI n] (vB (within n (-20000) 20000)):=by
 refine eP func144 rfl rfl call144 rfl rfl fun cx _=>?_
 refine aB (tH _ _ _) ?_
 exact aC.refl _
theorem aB7(q:kQ)(s:ByteArray)(f:Nat→DV)(hf:f 0=dS s):aF prog 194 [wG q,.s (.d (.rp 1 f))] (vB (bB q.name s)):=by
 refine aF.conv (args:=[wG q,.s (.d (.rp 1 (SK s)))]) ?_ ⟨⟨aL.refl _,aL.refl _,aL.refl _,aL.refl _,aL.refl _,oO⟩,aL.rp fun j hj=>?_,oO⟩
 ·refine eP func194 rfl rfl call194 rfl rfl fun cx _=>?_
  exact aC.refl _
 ·match j with
  |0=>exact aL.of_eq hf
  |_+1=>exact fun _ _ _=>trivial
theorem aE9(l:List kQ)(s:ByteArray)(hl:l.length≤9223372036854775807):aF prog 145 [iW l,vS s] (vI (oG l s)):=by
 refine eP func145 rfl rfl call145 rfl rfl fun cx aA=>?_
 refine aB (JT l hl 194 1 _ (fun q=>bB q.name s) (fun q _=>aB7 q s _ rfl)) ?_
 exact aC.refl _
abbrev aK8(b:fF):List SV:=[.d (dS b.name),.d (dI b.x),.d (dI b.y),.d (lY b.bA)]
theorem W9(g:Ground)(b:fF)(hs:g.bE.length≤9223372036854775807)(hl:b.bA.length≤9223372036854775807):aF prog 78 [RZ g,SO b] (vI (uJ g.bE b)):=by
 refine eP func78 rfl rfl call78 rfl rfl fun cx aA=>?_
 refine aB (Y4 ⟨b.x,b.y⟩) ?_
 refine aI (fun h1=>?_) (fun h1=>?_)
 ·exact aC.of_eq (by unfold uJ;rw[h1];rfl)
 refine aI (fun h2=>?_) (fun h2=>?_)
 ·exact aC.of_eq (by unfold uJ;rw[h1,h2];rfl)
 refine aI (fun h3=>?_) (fun h3=>?_)
 ·exact aC.of_eq (by unfold uJ;rw[h1,h2,h3];rfl)
 have hE:uJ g.bE b=aM (rH g.bE b) b.bA.length 0:=by unfold uJ;rw[h1,h2,h3];rfl
 refine AW.loop (fun i:Nat=>⟨[(2,.s (.ptr 2 0)),(3,.s (.ptr 3 0)),(26,zS b.bA),(27,vI b.bA.length),(28,vI i),(4,vI 0)],[(2,some (.cells [.d (j8 g.bE),.d (oY g.b6)])),(3,some (.cells (aK8 b)))]⟩) (fun i=>i≤b.bA.length∧uJ g.bE b=aM (rH g.bE b) (b.bA.length - i) i) (fun i=>b.bA.length - i) 0 ⟨Nat.zero_le _,hE⟩ ?_ ?_
 ·refine Sub.bO aA ⟨rQ,rQ,oO⟩ ⟨rQ,rQ,rQ,rQ,rQ,rQ,oO⟩
 ·rintro i ⟨hi,hj⟩
  refine eX aA ?_
  refine aI (fun h5=>?_) (fun h5=>?_)
  ·have h5:(i:Int)<b.bA.length:=bL h5
   rw[show b.bA.length - i=(b.bA.length - (i+1))+1 by omega,aM]at hj
   refine oi ⟨oM,oM⟩ ?_
   refine aB (NG _) ?_
   refine aI (fun h6=>?_) (fun h6=>?_)
   ·have h6:(!within (b.bA.getD i default).top (-20000) 20000)=true:=h6
    have h:rH g.bE b i=2:=by unfold rH;rw[h6];rfl
    exact aC.of_eq (by rw[hj,h];rfl)
   have h6:(!within (b.bA.getD i default).top (-20000) 20000)=false:=h6
   repeat refine aR ?_
   have fD:0<i→aV ((i:Int) - 1)=((i - 1:Nat):Int):=fun h=>by rw[aG oM oM];omega
   refine og (fun hb=>?_) ?_
   ·have hb:0<i:=by simp[rL]at hb;omega
    show 0≤aV ((i:Int) - 1)∧aV ((i:Int) - 1)<(b.bA.length:Int)
    rw[fD hb];exact⟨oM,oM⟩
   repeat refine aR ?_
   refine aD ?_
   have hk:∀v:Bool,(decide ((i:Int)>0)&&decide ((b.bA.getD i default).top≥(b.bA.getD (aV ((i:Int) - 1)).toNat default).top))=v→(decide ((i:Int)>0)&&decide ((b.bA.getD i default).top≥(b.bA.getD (i - 1) default).top))=v:=by
    intro v h
    by_cases h0:0<i
    ·rw[fD h0]at h;exact h
    ·rw[show decide ((i:Int)>0)=false by simp;omega]at h ⊢;exact h
   refine aI (fun h7=>?_) (fun h7=>?_)
   ·have h7:=hk true h7
    have h:rH g.bE b i=9:=by unfold rH;rw[h6,h7];rfl
    exact aC.of_eq (by rw[hj,h];rfl)
   have h7:=hk false h7
   refine aB (aE9 g.bE (b.bA.getD i default).aO hs) ?_
   refine aI (fun h8=>?_) (fun h8=>?_)
   ·have h:rH g.bE b i=6:=by unfold rH;rw[h6,h7,h8];rfl
    exact aC.of_eq (by rw[hj,h];rfl)
   have h:rH g.bE b i=0:=by unfold rH;rw[h6,h7,h8];rfl
   refine⟨i+1,⟨oM,by rw[hj,h];rfl⟩,oM,?_⟩
   refine Sub.bO aA ⟨rQ,rQ,oO⟩ ⟨rQ,rQ,rQ,rQ,⟨rfl,?_⟩,rQ,oO⟩
   exact congrArg vI (aG oM oM)
  ·have h5:¬(i:Int)<b.bA.length:=bG h5
   have bK:i=b.bA.length:=oM
   exact aC.of_eq (by rw[hj,bK,Nat.sub_self];rfl)
abbrev aJ8(g:Ground):DV:=.bnd 78 2 (PZ (j8 g.bE) (oY g.b6))
theorem R9(g:Ground)(l:List fF)(c:Nat→DV)(hs:g.bE.length≤9223372036854775807)(hl:l.length≤9223372036854775807)(hn:∀x∈l,x.name.size≤9223372036854775807)(hy:∀x∈l,x.bA.length≤9223372036854775807):
  aF prog 76 [FA l,.s (.d (.dR 77 0 c)),.s (.d (aJ8 g))] (vI (aM (tB g.bE l) l.length 0)):=by
 refine eP func76 rfl rfl call76 rfl rfl fun cx aA=>?_
 refine AW.loop (fun i:Nat=>⟨[(0,FA l),(2,.s (.d (aJ8 g))),(4,.s (.ptr 4 0)),(11,FA l),(12,vI l.length),(13,vI i),(6,vI 0)],[(4,some (.cells [.d (.dR 77 0 c)]))]⟩) (fun i=>i≤l.length∧aM (tB g.bE l) l.length 0=aM (tB g.bE l) (l.length - i) i) (fun i=>l.length - i) 0 ⟨Nat.zero_le _,rfl⟩ ?_ ?_
 ·refine Sub.bO aA ⟨rQ,oO⟩ ⟨rQ,rQ,rQ,rQ,rQ,rQ,rQ,oO⟩
 ·rintro i ⟨hi,hj⟩
  refine eX aA ?_
  refine aI (fun h5=>?_) (fun h5=>?_)
  ·have h5:(i:Int)<l.length:=bL h5
   rw[show l.length - i=(l.length - (i+1))+1 by omega,aM]at hj
   refine oi ⟨oM,oM⟩ ?_
   refine aB (HN (l.getD i default)) ?_
   refine aB (S9 (l.getD i default).name (hn _ (cT oM))) ?_
   refine aI (fun h6=>?_) (fun h6=>?_)
   ·have h:tB g.bE l i=4:=by unfold tB;rw[h6];rfl
    exact aC.of_eq (by rw[hj,h];rfl)
   refine oi ⟨dC,by show(0:Int)≤(i:Int);omega,by show(i:Int)≤(l.length:Int);omega⟩ ?_
   refine aB ((HE (l.take i) (by simp;omega) 142 2 (PZ (.rp 1 fun _=>.dR 77 0 c) (.rp 1 fun _=>dS (l.getD i default).name)) (fun q=>bB q.name (l.getD i default).name) (fun q _=>SN q _ c _ _ rfl rfl)).conv (args':=_) ⟨nF l i hi,aK0 rfl rfl (AN (aL.refl _)) (AN (aL.refl _)),oO⟩) ?_
   refine aI (fun h7=>?_) (fun h7=>?_)
   ·have h:tB g.bE l i=5:=by unfold tB;rw[h6,h7];rfl
    exact aC.of_eq (by rw[hj,h];rfl)
   refine⟨_,W9 g (l.getD i default) hs (hy _ (cT oM)),?_⟩
   have h:tB g.bE l i=uJ g.bE (l.getD i default):=by unfold tB;rw[h6,h7];rfl
   rw[h]at hj
   refine aI (fun h8=>?_) (fun h8=>?_)
   ·exact aC.of_eq (by rw[hj,h8];rfl)
   refine⟨i+1,⟨oM,by rw[hj,h8];rfl⟩,oM,?_⟩
   refine Sub.bO aA ⟨rQ,oO⟩ ⟨rQ,rQ,rQ,rQ,rQ,⟨rfl,?_⟩,rQ,oO⟩
   exact congrArg vI (aG oM oM)
  ·have h5:¬(i:Int)<l.length:=bG h5
   have bK:i=l.length:=oM
   exact aC.of_eq (by rw[hj,bK,Nat.sub_self];rfl)
structure Ground.fits(g:Ground):Prop where
 bE:g.bE.length≤9223372036854775807
 b6:g.b6.length≤9223372036854775807
 aD8:∀x∈g.bE,x.name.size≤9223372036854775807
 qG:∀x∈g.b6,x.name.size≤9223372036854775807
 bA:∀x∈g.b6,x.bA.length≤9223372036854775807
theorem D6(g:Ground)(hg:g.fits):aF prog 27 [RZ g] (vI (dP g)):=by
 refine eP func27 rfl rfl call27 rfl rfl fun cx _=>?_
 refine aB (SG g.bE hg.bE hg.aD8) ?_
 refine aI (fun h=>?_) (fun h=>?_)
 ·exact aC.of_eq (by unfold dP;rw[h];rfl)
 refine aI (fun h'=>?_) (fun h'=>?_)
 ·exact aC.of_eq (by unfold dP;rw[h,h'];rfl)
 refine aI (fun h2=>?_) (fun h2=>?_)
 ·exact aC.of_eq (by unfold dP;rw[h,h',h2];rfl)
 refine aB ((R9 g g.b6 (fun _=>.bF) hg.bE hg.b6 hg.qG hg.bA).conv (args':=_) ⟨aL.refl _,aL.dR fun j hj=>absurd hj (Nat.not_lt_zero j),aL.bnd (lt2 (aL.refl _) (aL.refl _)),oO⟩) ?_
 exact aC.of_eq (by unfold dP;rw[h,h',h2];rfl)
theorem TU{α:Type} [Inhabited α] (p:α→Bool):∀(l:List α) (k i:Nat),i<l.length→p (l.getD i default)=true→(cJ p l k !=((k+i:Nat):Int))=(l.take i).any p
 |[],_,_,h,_=>by simp at h
 |x::r,k,0,_,h=>by
  have:p x=true:=h
  simp[cJ,this]
 |x::r,k,i+1,hi,h=>by
  rw[cJ,List.take_succ_cons,List.any_cons]
  cases hx:p x with
  |true=>simp;omega
  |false=>
   have:=TU p r (k+1) i (by simpa using hi) h
   rw[show k+1+i=k+(i+1) by omega]at this
   simpa using this
theorem QU(s:ByteArray):bB s s=true:=by simp[bB]
theorem NS(l:List kQ)(hl:l.length≤9223372036854775807)(hn:∀x∈l,x.name.size≤9223372036854775807):aF prog 93 [iW l] (vI (lZ l)):=by
 refine eP func93 rfl rfl call93 rfl rfl fun cx aA=>?_
 refine aI (fun h=>?_) (fun h=>?_)
 ·exact aC.of_eq (by unfold lZ;rw[h];rfl)
 refine aI (fun h'=>?_) (fun h'=>?_)
 ·exact aC.of_eq (by unfold lZ;rw[h,h'];rfl)
 have hE:lZ l=aM (vC l) l.length 0:=by unfold lZ;rw[h,h'];rfl
 refine AW.loop (fun i:Nat=>⟨[(0,iW l),(3,vI i),(2,vI 0)],[]⟩) (fun i=>i≤l.length∧lZ l=aM (vC l) (l.length - i) i) (fun i=>l.length - i) 0 ⟨Nat.zero_le _,hE⟩ ?_ ?_
 ·refine Sub.bO aA trivial ⟨rQ,rQ,rQ,oO⟩
 ·rintro i ⟨hi,hj⟩
  refine eX aA ?_
  refine aI (fun h5=>?_) (fun h5=>?_)
  ·have h5:(i:Int)<l.length:=bL h5
   rw[show l.length - i=(l.length - (i+1))+1 by omega,aM]at hj
   refine oi ⟨oM,oM⟩ ?_
   refine aB (rT (l.getD i default).name (hn _ (cT oM))) ?_
   refine aI (fun h6=>?_) (fun h6=>?_)
   ·have h:vC l i=4:=by unfold vC;rw[h6];rfl
    exact aC.of_eq (by rw[hj,h];rfl)
   refine oi ⟨oM,oM⟩ ?_
   refine aB (K7 l (l.getD i default).name hl) ?_
   have he:=TU (fun x:kQ=>bB x.name (l.getD i default).name) l 0 i oM (QU _)
   rw[Nat.zero_add]at he
   refine aI (fun h7=>?_) (fun h7=>?_)
   ·have h7:(oG l (l.getD i default).name !=(i:Int))=true:=h7
    rw[oG,he]at h7
    have h:vC l i=5:=by unfold vC;rw[h6,h7];rfl
    exact aC.of_eq (by rw[hj,h];rfl)
   have h7:(oG l (l.getD i default).name !=(i:Int))=false:=h7
   rw[oG,he]at h7
   refine oi ⟨oM,oM⟩ ?_
   refine aB (YQ (l.getD i default)) ?_
   have h:vC l i=zY (l.getD i default):=by unfold vC;rw[h6,h7];rfl
   rw[h]at hj
   refine aI (fun h8=>?_) (fun h8=>?_)
   ·exact aC.of_eq (by rw[hj,h8];rfl)
   refine⟨i+1,⟨oM,by rw[hj,h8];rfl⟩,oM,?_⟩
   refine Sub.bO aA trivial ⟨rQ,⟨rfl,?_⟩,rQ,oO⟩
   exact congrArg vI (aG oM oM)
  ·have h5:¬(i:Int)<l.length:=bG h5
   have bK:i=l.length:=oM
   exact aC.of_eq (by rw[hj,bK,Nat.sub_self];rfl)
theorem K4(s:List kQ)(b:fF)(hs:s.length≤9223372036854775807)(hl:b.bA.length≤9223372036854775807):aF prog 94 [iW s,SO b] (vI (uJ s b)):=by
 refine eP func94 rfl rfl call94 rfl rfl fun cx aA=>?_
 refine aB (Go.Ch.Good ⟨b.x,b.y⟩) ?_
 refine aI (fun h1=>?_) (fun h1=>?_)
 ·exact aC.of_eq (by unfold uJ;rw[h1];rfl)
 refine aI (fun h2=>?_) (fun h2=>?_)
 ·exact aC.of_eq (by unfold uJ;rw[h1,h2];rfl)
 refine aI (fun h3=>?_) (fun h3=>?_)
 ·exact aC.of_eq (by unfold uJ;rw[h1,h2,h3];rfl)
 have hE:uJ s b=aM (rH s b) b.bA.length 0:=by unfold uJ;rw[h1,h2,h3];rfl
 refine AW.loop (fun i:Nat=>⟨[(0,iW s),(3,.s (.ptr 3 0)),(5,vI i),(4,vI 0)],[(3,some (.cells (aK8 b)))]⟩) (fun i=>i≤b.bA.length∧uJ s b=aM (rH s b) (b.bA.length - i) i) (fun i=>b.bA.length - i) 0 ⟨Nat.zero_le _,hE⟩ ?_ ?_
 ·refine Sub.bO aA ⟨rQ,oO⟩ ⟨rQ,rQ,rQ,rQ,oO⟩
 ·rintro i ⟨hi,hj⟩
  refine eX aA ?_
  refine aI (fun h5=>?_) (fun h5=>?_)
  ·have h5:(i:Int)<b.bA.length:=bL h5
   rw[show b.bA.length - i=(b.bA.length - (i+1))+1 by omega,aM]at hj
   refine oi ⟨oM,oM⟩ ?_
   refine aB (US _) ?_
   refine aI (fun h6=>?_) (fun h6=>?_)
   ·have h6:(!within (b.bA.getD i default).top (-20000) 20000)=true:=h6
    have h:rH s b i=2:=by unfold rH;rw[h6];rfl
    exact aC.of_eq (by rw[hj,h];rfl)
   have h6:(!within (b.bA.getD i default).top (-20000) 20000)=false:=h6
   repeat refine aR ?_
   refine og (fun _=>⟨oM,oM⟩) ?_
   repeat refine aR ?_
   have fD:0<i→aV ((i:Int) - 1)=((i - 1:Nat):Int):=fun h=>by rw[aG oM oM];omega
   refine og (fun hb=>?_) ?_
   ·have hb:0<i:=by simp[rL]at hb;omega
    show 0≤aV ((i:Int) - 1)∧aV ((i:Int) - 1)<(b.bA.length:Int)
    rw[fD hb];exact⟨oM,oM⟩
   repeat refine aR ?_
   refine aD ?_
   have hk:∀v:Bool,(decide ((i:Int)>0)&&decide ((b.bA.getD i default).top≥(b.bA.getD (aV ((i:Int) - 1)).toNat default).top))=v→(decide ((i:Int)>0)&&decide ((b.bA.getD i default).top≥(b.bA.getD (i - 1) default).top))=v:=by
    intro v h
    by_cases h0:0<i
    ·rw[fD h0]at h;exact h
    ·rw[show decide ((i:Int)>0)=false by simp;omega]at h ⊢;exact h
   refine aI (fun h7=>?_) (fun h7=>?_)
   ·have h7:=hk true h7
    have h:rH s b i=9:=by unfold rH;rw[h6,h7];rfl
    exact aC.of_eq (by rw[hj,h];rfl)
   have h7:=hk false h7
   refine oi ⟨oM,oM⟩ ?_
   refine aB (K7 s (b.bA.getD i default).aO hs) ?_
   refine aI (fun h8=>?_) (fun h8=>?_)
   ·have h:rH s b i=6:=by unfold rH;rw[h6,h7,h8];rfl
    exact aC.of_eq (by rw[hj,h];rfl)
   have h:rH s b i=0:=by unfold rH;rw[h6,h7,h8];rfl
   refine⟨i+1,⟨oM,by rw[hj,h];rfl⟩,oM,?_⟩
   refine Sub.bO aA ⟨rQ,oO⟩ ⟨rQ,rQ,⟨rfl,?_⟩,rQ,oO⟩
   exact congrArg vI (aG oM oM)
  ·have h5:¬(i:Int)<b.bA.length:=bG h5
   have bK:i=b.bA.length:=oM
   exact aC.of_eq (by rw[hj,bK,Nat.sub_self];rfl)
theorem K3(g:Ground)(hg:g.fits):aF prog 35 [RZ g] (vI (dP g)):=by
 refine eP func35 rfl rfl call35 rfl rfl fun cx aA=>?_
 refine aB (NS g.bE hg.bE hg.aD8) ?_
 refine aI (fun h=>?_) (fun h=>?_)
 ·exact aC.of_eq (by unfold dP;rw[h];rfl)
 refine aI (fun h'=>?_) (fun h'=>?_)
 ·exact aC.of_eq (by unfold dP;rw[h,h'];rfl)
 refine aI (fun h2=>?_) (fun h2=>?_)
 ·exact aC.of_eq (by unfold dP;rw[h,h',h2];rfl)
 have hl:=hg.b6
 have hE:dP g=aM (tB g.bE g.b6) g.b6.length 0:=by unfold dP;rw[h,h',h2];rfl
 refine AW.loop (fun i:Nat=>⟨[(1,.s (.ptr 1 0)),(4,vI i),(2,vI 0)],[(1,some (.cells [.d (j8 g.bE),.d (oY g.b6)]))]⟩) (fun i=>i≤g.b6.length∧dP g=aM (tB g.bE g.b6) (g.b6.length - i) i) (fun i=>g.b6.length - i) 0 ⟨Nat.zero_le _,hE⟩ ?_ ?_
 ·refine Sub.bO aA ⟨rQ,oO⟩ ⟨rQ,rQ,rQ,oO⟩
 ·rintro i ⟨hi,hj⟩
  refine eX aA ?_
  refine aI (fun h5=>?_) (fun h5=>?_)
  ·have h5:(i:Int)<g.b6.length:=bL h5
   rw[show g.b6.length - i=(g.b6.length - (i+1))+1 by omega,aM]at hj
   refine oi ⟨oM,oM⟩ ?_
   refine aB (rT (g.b6.getD i default).name (hg.qG _ (cT oM))) ?_
   refine aI (fun h6=>?_) (fun h6=>?_)
   ·have h:tB g.bE g.b6 i=4:=by unfold tB;rw[h6];rfl
    exact aC.of_eq (by rw[hj,h];rfl)
   refine AW.loop (fun k:Nat=>⟨[(1,.s (.ptr 1 0)),(4,vI i),(5,vI k),(2,vI 0)],[(1,some (.cells [.d (j8 g.bE),.d (oY g.b6)]))]⟩) (fun k=>k≤i∧∀j,j<k→bB (g.b6.getD j default).name (g.b6.getD i default).name=false) (fun k=>i - k) 0 ⟨Nat.zero_le _,fun j hj=>absurd hj (Nat.not_lt_zero j)⟩ ?_ ?_
   ·refine Sub.bO aA ⟨rQ,oO⟩ ⟨rQ,rQ,rQ,rQ,oO⟩
   ·rintro k ⟨hk,hq⟩
    refine eX aA ?_
    refine aI (fun h9=>?_) (fun h9=>?_)
    ·have h9:(k:Int)<i:=bL h9
     refine oi ⟨oM,oM⟩ ?_
     refine oi ⟨oM,oM⟩ ?_
     refine aD ?_
     refine aI (fun h'=>?_) (fun h'=>?_)
     ·have h':bB (g.b6.getD k default).name (g.b6.getD i default).name=true:=h'
      have h7:=rN (fun y:fF=>bB y.name (g.b6.getD i default).name) g.b6 (k:=i) (j:=k) hi oM h'
      have h:tB g.bE g.b6 i=5:=by unfold tB;rw[h6,h7];rfl
      exact aC.of_eq (by rw[hj,h];rfl)
     ·have h':bB (g.b6.getD k default).name (g.b6.getD i default).name=false:=h'
      refine⟨k+1,⟨oM,fun j pX=>?_⟩,oM,?_⟩
      ·by_cases QK:j=k
       ·rw[QK];exact h'
       ·exact hq j oM
      refine Sub.bO aA ⟨rQ,oO⟩ ⟨rQ,rQ,⟨rfl,?_⟩,rQ,oO⟩
      exact congrArg vI (aG oM oM)
    ·have h9:¬(k:Int)<i:=bG h9
     have h7:=HQ (fun y:fF=>bB y.name (g.b6.getD i default).name) g.b6 i hi (fun j hj=>hq j oM)
     refine oi ⟨oM,oM⟩ ?_
     refine aB (K4 g.bE (g.b6.getD i default) hg.bE (hg.bA _ (cT oM))) ?_
     refine aD ?_
     have h:tB g.bE g.b6 i=uJ g.bE (g.b6.getD i default):=by unfold tB;rw[h6,h7];rfl
     rw[h]at hj
     refine aI (fun h8=>?_) (fun h8=>?_)
     ·exact aC.of_eq (by rw[hj,h8];rfl)
     refine⟨i+1,⟨oM,by rw[hj,h8];rfl⟩,oM,?_⟩
     refine Sub.bO aA ⟨rQ,oO⟩ ⟨rQ,⟨rfl,?_⟩,rQ,oO⟩
     exact congrArg vI (aG oM oM)
  ·have h5:¬(i:Int)<g.b6.length:=bG h5
   have bK:i=g.b6.length:=oM
   exact aC.of_eq (by rw[hj,bK,Nat.sub_self];rfl)
theorem CO:∀(l:List (ByteArray×Int)) (a:ByteArray) (v:Int) (k:ByteArray),iO (iY l a v) k=bif k==a then v else iO l k
 |[],a,v,k=>by
  rw[iY]
  cases h:k==a with
  |true=>simp[iO,mT,h]
  |false=>simp[iO,mT,h]
 |(b,u)::r,a,v,k=>by
  rw[iY]
  cases II:a==b with
  |true=>
   have e:=eq_of_beq II
   subst e
   cases h:k==a with
   |true=>simp[iO,mT,h]
   |false=>simp[iO,mT,h]
  |false=>
   have ih:=CO r a v k
   cases h:k==b with
   |true=>
    have e:=eq_of_beq h
    subst e
    have:(k==a)=false:=by
     rw[Bool.eq_false_iff]at II ⊢
     exact fun e=>II (by rw[eq_of_beq e];simp)
    simp[iO,mT,this]
   |false=>
    simp only [iO,mT,h,cond_false]at ih ⊢
    exact ih
theorem JG(a b:ByteArray):bB a b=(a==b):=by
 rw[bytes_beq,bB,Bool.eq_iff_iff]
 simp only [beq_iff_eq,decide_eq_true_eq]
 constructor
 ·intro h
  rw[ByteArray.toList_eq,ByteArray.toList_eq]at h
  cases a;cases b
  simp at h
  rw[h]
 ·intro h;rw[h]
def xE(l:List Int)(i:Nat):Int:=
 bif !within (l.getD i 0) 0 9 then 2 else bif decide ((i:Int)>0)&&decide (l.getD i 0≤l.getD (i - 1) 0)then 9 else 0
def pP(p:tD):Int:=
 bif !within p.MN 1 1000000000|| !within p.base (-20000) 20000|| !within p.top (-20000) 20000 then 2
 else bif decide (p.top≤p.base)then 9 else bif !within p.FQ 0 10000 then 2 else aM (xE p.aT) p.aT.length 0
def IL(b:mM):Int:=bif !within b.den 1 1000|| !within b.num 1 (aV (10*b.den))then 2 else 0
def sF(l:List tD)(i:Nat):Int:=
 bif !isName (l.getD i default).name then 4 else bif (l.take i).any (fun y=>bB y.name (l.getD i default).name)then 5 else pP (l.getD i default)
def xQ(l:List tD):Nat→List (ByteArray×Int)
 |0=>[]
 |i+1=>iY (xQ l i) (l.getD i default).name 1
theorem wH(l:List tD)(k:ByteArray):∀i,i≤l.length→(iO (xQ l i) k !=0)=(l.take i).any (fun y=>bB y.name k)
 |0,_=>rfl
 |i+1,h=>by
  have hd:l.take (i+1)=l.take i++ [l.getD i default]:=by rw[a7 oM];rw[List.take_succ_eq_append_getElem oM]
  rw[xQ,CO,hd,List.any_append,←wH l k i oM,List.any_cons,List.any_nil,Bool.or_false,JG]
  cases h:k==(l.getD i default).name with
  |true=>rw[show((l.getD i default).name==k)=true by rw[eq_of_beq h];simp];simp
  |false=>rw[show((l.getD i default).name==k)=false by rw[Bool.eq_false_iff]at h ⊢;exact fun e=>h (by rw[eq_of_beq e];simp)];simp
theorem aCJ(x:tD):aF prog 152 [FT x] (vS x.name):=by
 refine eP func152 rfl rfl call152 rfl rfl fun cx _=>?_
 exact aC.refl _
theorem Y9(l:List tD)(c d:Nat→DV)(hl:l.length≤9223372036854775807)(hn:∀x∈l,x.name.size≤9223372036854775807)(ho:∀x∈l,aF prog 153 [FT x] (vI (pP x))):
  aF prog 151 [uM l,.s (.d (.dR 152 0 c)),.s (.d (.dR 153 0 d))] (vI (aM (sF l) l.length 0)):=by
 refine eP func151 rfl rfl call151 rfl rfl fun cx aA=>?_
 refine AW.loop (fun i:Nat=>⟨[(1,.s (.d (.dR 152 0 c))),(2,.s (.d (.dR 153 0 d))),(7,.s (.mp 12)),(13,uM l),(14,vI l.length),(15,vI i),(6,vI 0)],[(12,some (.smap .bool (xQ l i)))]⟩) (fun i=>i≤l.length∧aM (sF l) l.length 0=aM (sF l) (l.length - i) i) (fun i=>l.length - i) 0 ⟨Nat.zero_le _,rfl⟩ ?_ ?_
 ·refine Sub.bO aA ⟨rQ,oO⟩ ⟨rQ,rQ,rQ,rQ,rQ,rQ,rQ,oO⟩
 ·rintro i ⟨hi,hj⟩
  refine eX aA ?_
  refine aI (fun h5=>?_) (fun h5=>?_)
  ·have h5:(i:Int)<l.length:=bL h5
   rw[show l.length - i=(l.length - (i+1))+1 by omega,aM]at hj
   refine oi ⟨oM,oM⟩ ?_
   refine aB (aCJ (l.getD i default)) ?_
   refine aB (aEV (l.getD i default).name (hn _ (cT oM))) ?_
   refine aI (fun h6=>?_) (fun h6=>?_)
   ·have h:sF l i=4:=by unfold sF;rw[h6];rfl
    exact aC.of_eq (by rw[hj,h];rfl)
   refine aI (fun h7=>?_) (fun h7=>?_)
   ·have h7:(iO (xQ l i) (l.getD i default).name !=0)=true:=h7
    rw[wH l _ i hi]at h7
    have h:sF l i=5:=by unfold sF;rw[h6,h7];rfl
    exact aC.of_eq (by rw[hj,h];rfl)
   have h7:(iO (xQ l i) (l.getD i default).name !=0)=false:=h7
   rw[wH l _ i hi]at h7
   refine aB (ho (l.getD i default) (cT oM)) ?_
   have h:sF l i=pP (l.getD i default):=by unfold sF;rw[h6,h7];rfl
   rw[h]at hj
   refine aI (fun h8=>?_) (fun h8=>?_)
   ·exact aC.of_eq (by rw[hj,h8];rfl)
   refine⟨i+1,⟨oM,by rw[hj,h8];rfl⟩,oM,?_⟩
   refine Sub.bO aA ⟨rQ,oO⟩ ⟨rQ,rQ,rQ,rQ,rQ,⟨rfl,?_⟩,rQ,oO⟩
   exact congrArg vI (aG oM oM)
  ·have h5:¬(i:Int)<l.length:=bG h5
   have bK:i=l.length:=oM
   exact aC.of_eq (by rw[hj,bK,Nat.sub_self];rfl)
def qR(l:List mM)(i:Nat):Int:=
 bif !isName (l.getD i default).aO then 4 else bif (l.take i).any (fun y=>bB y.aO (l.getD i default).aO)then 5 else IL (l.getD i default)
def r9(l:List mM):Nat→List (ByteArray×Int)
 |0=>[]
 |i+1=>iY (r9 l i) (l.getD i default).aO 1
theorem tL(l:List mM)(k:ByteArray):∀i,i≤l.length→(iO (r9 l i) k !=0)=(l.take i).any (fun y=>bB y.aO k)
 |0,_=>rfl
 |i+1,h=>by
  have hd:l.take (i+1)=l.take i++ [l.getD i default]:=by rw[a7 oM];rw[List.take_succ_eq_append_getElem oM]
  rw[r9,CO,hd,List.any_append,←tL l k i oM,List.any_cons,List.any_nil,Bool.or_false,JG]
  cases h:k==(l.getD i default).aO with
  |true=>rw[show((l.getD i default).aO==k)=true by rw[eq_of_beq h];simp];simp
  |false=>rw[show((l.getD i default).aO==k)=false by rw[Bool.eq_false_iff]at h ⊢;exact fun e=>h (by rw[eq_of_beq e];simp)];simp
theorem aBD(x:mM):aF prog 155 [aDS x] (vS x.aO):=by
 refine eP func155 rfl rfl call155 rfl rfl fun cx _=>?_
 exact aC.refl _
theorem VQ(l:List mM)(c d:Nat→DV)(hl:l.length≤9223372036854775807)(hn:∀x∈l,x.aO.size≤9223372036854775807)(ho:∀x∈l,aF prog 156 [aDS x] (vI (IL x))):
  aF prog 154 [zT l,.s (.d (.dR 155 0 c)),.s (.d (.dR 156 0 d))] (vI (aM (qR l) l.length 0)):=by
 refine eP func154 rfl rfl call154 rfl rfl fun cx aA=>?_
 refine AW.loop (fun i:Nat=>⟨[(1,.s (.d (.dR 155 0 c))),(2,.s (.d (.dR 156 0 d))),(7,.s (.mp 12)),(13,zT l),(14,vI l.length),(15,vI i),(6,vI 0)],[(12,some (.smap .bool (r9 l i)))]⟩) (fun i=>i≤l.length∧aM (qR l) l.length 0=aM (qR l) (l.length - i) i) (fun i=>l.length - i) 0 ⟨Nat.zero_le _,rfl⟩ ?_ ?_
 ·refine Sub.bO aA ⟨rQ,oO⟩ ⟨rQ,rQ,rQ,rQ,rQ,rQ,rQ,oO⟩
 ·rintro i ⟨hi,hj⟩
  refine eX aA ?_
  refine aI (fun h5=>?_) (fun h5=>?_)
  ·have h5:(i:Int)<l.length:=bL h5
   rw[show l.length - i=(l.length - (i+1))+1 by omega,aM]at hj
   refine oi ⟨oM,oM⟩ ?_
   refine aB (aBD (l.getD i default)) ?_
   refine aB (aEV (l.getD i default).aO (hn _ (cT oM))) ?_
   refine aI (fun h6=>?_) (fun h6=>?_)
   ·have h:qR l i=4:=by unfold qR;rw[h6];rfl
    exact aC.of_eq (by rw[hj,h];rfl)
   refine aI (fun h7=>?_) (fun h7=>?_)
   ·have h7:(iO (r9 l i) (l.getD i default).aO !=0)=true:=h7
    rw[tL l _ i hi]at h7
    have h:qR l i=5:=by unfold qR;rw[h6,h7];rfl
    exact aC.of_eq (by rw[hj,h];rfl)
   have h7:(iO (r9 l i) (l.getD i default).aO !=0)=false:=h7
   rw[tL l _ i hi]at h7
   refine aB (ho (l.getD i default) (cT oM)) ?_
   have h:qR l i=IL (l.getD i default):=by unfold qR;rw[h6,h7];rfl
   rw[h]at hj
   refine aI (fun h8=>?_) (fun h8=>?_)
   ·exact aC.of_eq (by rw[hj,h8];rfl)
   refine⟨i+1,⟨oM,by rw[hj,h8];rfl⟩,oM,?_⟩
   refine Sub.bO aA ⟨rQ,oO⟩ ⟨rQ,rQ,rQ,rQ,rQ,⟨rfl,?_⟩,rQ,oO⟩
   exact congrArg vI (aG oM oM)
  ·have h5:¬(i:Int)<l.length:=bG h5
   have bK:i=l.length:=oM
   exact aC.of_eq (by rw[hj,bK,Nat.sub_self];rfl)
def k9(l:List tD)(s:ByteArray):Int:=cJ (fun x=>bB x.name s) l 0
theorem YN(l:List tD)(s:ByteArray)(hl:l.length≤9223372036854775807):aF prog 100 [uM l,vS s] (vI (k9 l s)):=by
 refine eP func100 rfl rfl call100 rfl rfl fun cx aA=>?_
 refine AW.loop (fun i:Nat=>⟨[(0,uM l),(1,vS s),(5,vI i),(4,vI 0)],[]⟩) (fun i=>i≤l.length∧k9 l s=cJ (fun x=>bB x.name s) (l.drop i) i) (fun i=>l.length - i) 0 ⟨Nat.zero_le _,rfl⟩ ?_ ?_
 ·refine Sub.bO aA trivial ⟨rQ,rQ,rQ,rQ,oO⟩
 ·rintro i ⟨hi,he⟩
  refine eX aA ?_
  refine aI (fun h=>?_) (fun h=>?_)
  ·have h:(i:Int)<l.length:=bL h
   have bK:i<l.length:=oM
   have hd:l.drop i=l[i]::l.drop (i+1):=List.drop_eq_getElem_cons bK
   have hg:l.getD i default=l[i]:=a7 bK
   refine oi ⟨oM,oM⟩ ?_
   rw[hd,cJ,←hg]at he
   refine aI (fun h=>?_) (fun h=>?_)
   ·have h:bB (l.getD i default).name s=true:=h
    exact aC.of_eq (by rw[he,h];rfl)
   ·have h:bB (l.getD i default).name s=false:=h
    refine⟨i+1,⟨oM,by rw[he,h];rfl⟩,oM,?_⟩
    refine Sub.bO aA trivial ⟨rQ,rQ,⟨rfl,?_⟩,rQ,oO⟩
    exact congrArg vI (aG oM oM)
  ·have h:¬(i:Int)<l.length:=bG h
   have bK:i=l.length:=oM
   subst bK
   exact aC.of_eq (by rw[he,List.drop_length];rfl)
def PA(l:List mM)(s:ByteArray):Int:=cJ (fun x=>bB x.aO s) l 0
theorem aFK(l:List mM)(s:ByteArray)(hl:l.length≤9223372036854775807):aF prog 165 [zT l,vS s] (vI (PA l s)):=by
 refine eP func165 rfl rfl call165 rfl rfl fun cx aA=>?_
 refine AW.loop (fun i:Nat=>⟨[(0,zT l),(1,vS s),(5,vI i),(4,vI 0)],[]⟩) (fun i=>i≤l.length∧PA l s=cJ (fun x=>bB x.aO s) (l.drop i) i) (fun i=>l.length - i) 0 ⟨Nat.zero_le _,rfl⟩ ?_ ?_
 ·refine Sub.bO aA trivial ⟨rQ,rQ,rQ,rQ,oO⟩
 ·rintro i ⟨hi,he⟩
  refine eX aA ?_
  refine aI (fun h=>?_) (fun h=>?_)
  ·have h:(i:Int)<l.length:=bL h
   have bK:i<l.length:=oM
   have hd:l.drop i=l[i]::l.drop (i+1):=List.drop_eq_getElem_cons bK
   have hg:l.getD i default=l[i]:=a7 bK
   refine oi ⟨oM,oM⟩ ?_
   rw[hd,cJ,←hg]at he
   refine aI (fun h=>?_) (fun h=>?_)
   ·have h:bB (l.getD i default).aO s=true:=h
    exact aC.of_eq (by rw[he,h];rfl)
   ·have h:bB (l.getD i default).aO s=false:=h
    refine⟨i+1,⟨oM,by rw[he,h];rfl⟩,oM,?_⟩
    refine Sub.bO aA trivial ⟨rQ,rQ,⟨rfl,?_⟩,rQ,oO⟩
    exact congrArg vI (aG oM oM)
  ·have h:¬(i:Int)<l.length:=bG h
   have bK:i=l.length:=oM
   subst bK
   exact aC.of_eq (by rw[he,List.drop_length];rfl)
abbrev aIS(p:tD):List SV:=[.d (dS p.name),.d (dI p.MN),.d (dI p.base),.d (dI p.top),.d (cE p.aT),.d (dI p.FQ)]
abbrev tF(y:fV):List SV:=[.d (qC y.aP),.d (oA y.a8),.d (KE y.bC),.d (cE y.carry)]
def CT(y:fV)(i:Nat):Int:=bif !within (y.carry.getD i 0) 0 (aV ((y.a8.getD i default).den - 1))then 2 else 0
def oQ(y:fV)(i:Nat):Int:=
 bif !within (y.bC.getD i default).batch 1 1000000 then 2
 else bif (y.bC.take i).any (fun d=>d.batch==(y.bC.getD i default).batch)then 5
 else bif decide (k9 y.aP (y.bC.getD i default).dO<0)then 6
 else bif !within (y.bC.getD i default).iE 0 100000000000000 then 2 else 0
def MH(p:tD):Int:=aV (p.MN*aV (p.top - p.base))
def H4(l:List MY)(n:ByteArray):Nat→Nat→Int→Int
 |0,_,s=>s
 |k+1,i,s=>H4 l n k (i+1) (bif bB (l.getD i default).dO n then aV (s+(l.getD i default).iE)else s)
def H3(y:fV)(n:ByteArray):Int:=H4 y.bC n y.bC.length 0 0
def FJ(y:fV)(p:tD):Int:=aV (MH p - H3 y p.name)
def CU(y:fV)(i:Nat):Int:=bif decide (FJ y (y.aP.getD i default)<0)then 19 else 0
def oX(y:fV):Int:=
 bif decide ((y.bC.length:Int)>200)then 8
 else bif aM (oQ y) y.bC.length 0 !=0 then aM (oQ y) y.bC.length 0
 else aM (CU y) y.aP.length 0
def oD(y:fV):Int:=
 bif decide ((y.a8.length:Int)>20)then 8
 else bif aM (qR y.a8) y.a8.length 0 !=0 then aM (qR y.a8) y.a8.length 0
 else bif (y.carry.length:Int) !=(y.a8.length:Int)then 10
 else aM (CT y) y.carry.length 0
def kA(y:fV):Int:=
 bif decide ((y.aP.length:Int)>8)then 8
 else bif aM (sF y.aP) y.aP.length 0 !=0 then aM (sF y.aP) y.aP.length 0
 else bif oD y !=0 then oD y else oX y
theorem aA8(p:tD)(hl:p.aT.length≤9223372036854775807):aF prog 153 [FT p] (vI (pP p)):=by
 refine eP func153 rfl rfl call153 rfl rfl fun cx aA=>?_
 refine aB (jQ _ _ _) ?_
 repeat refine aR ?_
 refine bS (jQ _ _ _) ?_
 repeat refine aR ?_
 refine bS (jQ _ _ _) ?_
 repeat refine aR ?_
 refine aI (fun h1=>?_) (fun h1=>?_)
 ·exact aC.of_eq (by unfold pP;rw[h1];rfl)
 refine aI (fun h2=>?_) (fun h2=>?_)
 ·exact aC.of_eq (by unfold pP;rw[h1,h2];rfl)
 refine aB (jQ _ _ _) ?_
 refine aI (fun h3=>?_) (fun h3=>?_)
 ·exact aC.of_eq (by unfold pP;rw[h1,h2,h3];rfl)
 have hE:pP p=aM (xE p.aT) p.aT.length 0:=by unfold pP;rw[h1,h2,h3];rfl
 refine AW.loop (fun i:Nat=>⟨[(1,.s (.ptr 1 0)),(34,pK p.aT),(35,vI p.aT.length),(36,vI i),(2,vI 0)],[(1,some (.cells (aIS p)))]⟩) (fun i=>i≤p.aT.length∧pP p=aM (xE p.aT) (p.aT.length - i) i) (fun i=>p.aT.length - i) 0 ⟨Nat.zero_le _,hE⟩ ?_ ?_
 ·refine Sub.bO aA ⟨rQ,oO⟩ ⟨rQ,rQ,rQ,rQ,rQ,oO⟩
 ·rintro i ⟨hi,hj⟩
  refine eX aA ?_
  refine aI (fun h5=>?_) (fun h5=>?_)
  ·have h5:(i:Int)<p.aT.length:=bL h5
   rw[show p.aT.length - i=(p.aT.length - (i+1))+1 by omega,aM]at hj
   refine oi ⟨oM,oM⟩ ?_
   refine aB (jQ _ _ _) ?_
   refine aI (fun h6=>?_) (fun h6=>?_)
   ·have h6:(!within (p.aT.getD i 0) 0 9)=true:=h6
    have h:xE p.aT i=2:=by unfold xE;rw[h6];rfl
    exact aC.of_eq (by rw[hj,h];rfl)
   have h6:(!within (p.aT.getD i 0) 0 9)=false:=h6
   repeat refine aR ?_
   have fD:0<i→aV ((i:Int) - 1)=((i - 1:Nat):Int):=fun h=>by rw[aG oM oM];omega
   refine og (fun hb=>?_) ?_
   ·have hb:0<i:=by simp[rL]at hb;omega
    show 0≤aV ((i:Int) - 1)∧aV ((i:Int) - 1)<(p.aT.length:Int)
    rw[fD hb];exact⟨oM,oM⟩
   repeat refine aR ?_
   have hk:∀v:Bool,(decide ((i:Int)>0)&&decide (p.aT.getD i 0≤p.aT.getD (aV ((i:Int) - 1)).toNat 0))=v→(decide ((i:Int)>0)&&decide (p.aT.getD i 0≤p.aT.getD (i - 1) 0))=v:=by
    intro v h
    by_cases h0:0<i
    ·rw[fD h0]at h;exact h
    ·rw[show decide ((i:Int)>0)=false by simp;omega]at h ⊢;exact h
   refine aI (fun h7=>?_) (fun h7=>?_)
   ·have h7:=hk true h7
    have h:xE p.aT i=9:=by unfold xE;rw[h6,h7];rfl
    exact aC.of_eq (by rw[hj,h];rfl)
   have h7:=hk false h7
   have h:xE p.aT i=0:=by unfold xE;rw[h6,h7];rfl
   refine⟨i+1,⟨oM,by rw[hj,h];rfl⟩,oM,?_⟩
   refine Sub.bO aA ⟨rQ,oO⟩ ⟨rQ,rQ,rQ,⟨rfl,?_⟩,rQ,oO⟩
   exact congrArg vI (aG oM oM)
  ·have h5:¬(i:Int)<p.aT.length:=bG h5
   have bK:i=p.aT.length:=oM
   exact aC.of_eq (by rw[hj,bK,Nat.sub_self];rfl)
theorem PW(b:mM):aF prog 156 [aDS b] (vI (IL b)):=by
 refine eP func156 rfl rfl call156 rfl rfl fun cx _=>?_
 refine aB (jQ _ _ _) ?_
 repeat refine aR ?_
 refine bS (jQ _ _ _) ?_
 repeat refine aR ?_
 refine aI (fun h=>?_) (fun h=>?_)
 ·exact aC.of_eq (by unfold IL;rw[h];rfl)
 ·exact aC.of_eq (by unfold IL;rw[h];rfl)
theorem aFX(q:tD)(s:ByteArray)(f:Nat→DV)(hf:f 0=dS s):aF prog 246 [FT q,.s (.d (.rp 1 f))] (vB (bB q.name s)):=by
 refine aF.conv (args:=[FT q,.s (.d (.rp 1 (SK s)))]) ?_ ⟨⟨aL.refl _,aL.refl _,aL.refl _,aL.refl _,aL.refl _,aL.refl _,oO⟩,aL.rp fun j hj=>?_,oO⟩
 ·refine eP func246 rfl rfl call246 rfl rfl fun cx _=>?_
  exact aC.refl _
 ·match j with
  |0=>exact aL.of_eq hf
  |_+1=>exact fun _ _ _=>trivial
theorem aEB(y:fV)(s:ByteArray)(hl:y.aP.length≤9223372036854775807):aF prog 196 [r8 y,vS s] (vI (k9 y.aP s)):=by
 refine eP func196 rfl rfl call196 rfl rfl fun cx aA=>?_
 refine aB (ZP y.aP hl 246 1 _ (fun q=>bB q.name s) (fun q _=>aFX q s _ rfl)) ?_
 exact aC.refl _
theorem capacity(p:tD):aF prog 247 [FT p] (vI (MH p)):=by
 refine eP func247 rfl rfl call247 rfl rfl fun cx _=>?_
 exact aC.refl _
theorem VL(p:tD):aF prog 102 [FT p] (vI (MH p)):=by
 refine eP func102 rfl rfl call102 rfl rfl fun cx _=>?_
 exact aC.refl _
theorem taken(y:fV)(n:ByteArray)(hl:y.bC.length≤9223372036854775807):aF prog 248 [r8 y,vS n] (vI (H3 y n)):=by
 refine eP func248 rfl rfl call248 rfl rfl fun cx aA=>?_
 refine AW.loop (fun s:Nat×Int=>⟨[(1,vS n),(2,.s (.ptr 2 0)),(5,vI s.2),(9,vX y.bC),(10,vI y.bC.length),(11,vI s.1),(4,vI 0)],[(2,some (.cells (tF y)))]⟩) (fun s=>s.1≤y.bC.length∧H3 y n=H4 y.bC n (y.bC.length - s.1) s.1 s.2) (fun s=>y.bC.length - s.1) (0,0) ⟨Nat.zero_le _,rfl⟩ ?_ ?_
 ·refine Sub.bO aA ⟨rQ,oO⟩ ⟨rQ,rQ,rQ,rQ,rQ,rQ,rQ,oO⟩
 ·rintro⟨i,s⟩ ⟨hi,hj⟩
  simp only at hi hj
  refine eX aA ?_
  refine aI (fun h5=>?_) (fun h5=>?_)
  ·have h5:(i:Int)<y.bC.length:=bL h5
   rw[show y.bC.length - i=(y.bC.length - (i+1))+1 by omega,H4]at hj
   refine oi ⟨oM,oM⟩ ?_
   refine aI (fun h6=>?_) (fun h6=>?_)
   ·have h6:bB (y.bC.getD i default).dO n=true:=h6
    rw[h6]at hj
    refine⟨(i+1,aV (s+(y.bC.getD i default).iE)),⟨by show i+1≤_;omega,hj⟩,by show _ - (i+1)<_;omega,?_⟩
    refine Sub.bO aA ⟨rQ,oO⟩ ⟨rQ,rQ,rQ,rQ,rQ,⟨rfl,?_⟩,rQ,oO⟩
    exact congrArg vI (aG oM oM)
   ·have h6:bB (y.bC.getD i default).dO n=false:=h6
    rw[h6]at hj
    refine⟨(i+1,s),⟨by show i+1≤_;omega,hj⟩,by show _ - (i+1)<_;omega,?_⟩
    refine Sub.bO aA ⟨rQ,oO⟩ ⟨rQ,rQ,rQ,rQ,rQ,⟨rfl,?_⟩,rQ,oO⟩
    exact congrArg vI (aG oM oM)
  ·have h5:¬(i:Int)<y.bC.length:=bG h5
   have bK:i=y.bC.length:=oM
   exact aC.of_eq (by rw[hj,bK,Nat.sub_self];rfl)
theorem aEU(y:fV)(p:tD)(hl:y.bC.length≤9223372036854775807):aF prog 197 [r8 y,FT p] (vI (FJ y p)):=by
 refine eP func197 rfl rfl call197 rfl rfl fun cx _=>?_
 refine aB (capacity p) ?_
 refine aB (taken y p.name hl) ?_
 refine aD ?_
 exact aC.refl _
def JF(l:List MY):Nat→List (Int×Int)
 |0=>[]
 |i+1=>o5 (JF l i) (l.getD i default).batch 1
theorem J6(k v x:Int):∀l:List (Int×Int),n9 (o5 l k v) x=bif x==k then some v else n9 l x
 |[]=>rfl
 |(a,u)::r=>by
  rw[o5]
  cases hk:k==a with
  |true=>
   simp only [cond_true,n9]
   have:k=a:=by simpa using hk
   subst this
   cases x==k <;> rfl
  |false=>
   simp only [cond_false,n9,J6 k v x r]
   cases hx:x==a with
   |true=>
    have:x=a:=by simpa using hx
    subst this
    have:(x==k)=false:=by
     cases h:x==k with
     |false=>rfl
     |true=>have:x=k:=(by simpa using h);subst this;simp at hk
    rw[this];rfl
   |false=>rfl
theorem WH(l:List (Int×Int))(a v k:Int):getM (o5 l a v) k=bif k==a then v else getM l k:=by
 rw[getM,J6]
 cases k==a <;> rfl
theorem B6(l:List MY)(k:Int):∀i,i≤l.length→(getM (JF l i) k !=0)=(l.take i).any (fun y=>y.batch==k)
 |0,_=>rfl
 |i+1,h=>by
  have hd:l.take (i+1)=l.take i++ [l.getD i default]:=by rw[a7 oM];rw[List.take_succ_eq_append_getElem oM]
  rw[JF,WH,hd,List.any_append,←B6 l k i oM,List.any_cons,List.any_nil,Bool.or_false]
  by_cases h:k=(l.getD i default).batch
  ·subst h;simp
  ·have h1:(k==(l.getD i default).batch)=false:=by simpa using h
   have h2:((l.getD i default).batch==k)=false:=by simpa using fun e=>h e.symm
   rw[h1,h2];simp
structure fV.fits(y:fV):Prop where
 aP:y.aP.length≤9223372036854775807
 a8:y.a8.length≤9223372036854775807
 bC:y.bC.length≤9223372036854775807
 carry:y.carry.length≤9223372036854775807
 uQ:∀x∈y.aP,x.name.size≤9223372036854775807
 qG:∀x∈y.a8,x.aO.size≤9223372036854775807
 aT:∀x∈y.aP,x.aT.length≤9223372036854775807
theorem IT(y:fV)(hy:y.fits):aF prog 158 [r8 y] (vI (oX y)):=by
 have hl:=hy.bC
 have hp:=hy.aP
 refine eP func158 rfl rfl call158 rfl rfl fun cx aA=>?_
 refine aI (fun h0=>?_) (fun h0=>?_)
 ·exact aC.of_eq (by unfold oX;rw[h0];rfl)
 refine AW.loop (fun i:Nat=>⟨[(1,.s (.ptr 1 0)),(3,.s (.mp 12)),(14,vX y.bC),(15,vI y.bC.length),(16,vI i),(2,vI 0)],[(1,some (.cells (tF y))),(12,some (.map .bool (JF y.bC i)))]⟩) (fun i=>i≤y.bC.length∧aM (oQ y) y.bC.length 0=aM (oQ y) (y.bC.length - i) i) (fun i=>y.bC.length - i) 0 ⟨Nat.zero_le _,rfl⟩ ?_ ?_
 ·refine Sub.bO aA ⟨rQ,rQ,oO⟩ ⟨rQ,rQ,rQ,rQ,rQ,rQ,oO⟩
 ·rintro i ⟨hi,hj⟩
  refine eX aA ?_
  refine aI (fun h5=>?_) (fun h5=>?_)
  ·have h5:(i:Int)<y.bC.length:=bL h5
   rw[show y.bC.length - i=(y.bC.length - (i+1))+1 by omega,aM]at hj
   refine oi ⟨oM,oM⟩ ?_
   refine aB (jQ _ _ _) ?_
   have hE:∀e:Int,e≠0→oQ y i=e→oX y=e:=fun e he h=>by
    have gI:(oQ y i !=0)=true:=by rw[h];simpa using he
    rw[gI]at hj
    have CM:(e !=0)=true:=by simpa using he
    unfold oX;rw[h0,hj,h]
    simp only [cond_false,cond_true];rw[CM];rfl
   refine aI (fun h6=>?_) (fun h6=>?_)
   ·have h6:(!within (y.bC.getD i default).batch 1 1000000)=true:=h6
    exact aC.of_eq (by rw[hE 2 dC (by unfold oQ;rw[h6];rfl)];rfl)
   have h6:(!within (y.bC.getD i default).batch 1 1000000)=false:=h6
   refine oi (.inr rfl) ?_
   refine aI (fun h7=>?_) (fun h7=>?_)
   ·have h7:(getM (JF y.bC i) (y.bC.getD i default).batch !=0)=true:=h7
    rw[B6 _ _ i hi]at h7
    exact aC.of_eq (by rw[hE 5 dC (by unfold oQ;rw[h6,h7];rfl)];rfl)
   have h7:(getM (JF y.bC i) (y.bC.getD i default).batch !=0)=false:=h7
   rw[B6 _ _ i hi]at h7
   refine aB (aEB y (y.bC.getD i default).dO hp) ?_
   refine aI (fun h8=>?_) (fun h8=>?_)
   ·exact aC.of_eq (by rw[hE 6 dC (by unfold oQ;rw[h6,h7,h8];rfl)];rfl)
   refine aB (jQ _ _ _) ?_
   refine aI (fun h9=>?_) (fun h9=>?_)
   ·have h9:(!within (y.bC.getD i default).iE 0 100000000000000)=true:=h9
    exact aC.of_eq (by rw[hE 2 dC (by unfold oQ;rw[h6,h7,h8,h9];rfl)];rfl)
   have h9:(!within (y.bC.getD i default).iE 0 100000000000000)=false:=h9
   have h:oQ y i=0:=by unfold oQ;rw[h6,h7,h8,h9];rfl
   refine⟨i+1,⟨oM,by rw[hj,h];rfl⟩,oM,?_⟩
   refine Sub.bO aA ⟨rQ,rQ,oO⟩ ⟨rQ,rQ,rQ,rQ,⟨rfl,?_⟩,rQ,oO⟩
   exact congrArg vI (aG oM oM)
  ·have h5:¬(i:Int)<y.bC.length:=bG h5
   have bK:i=y.bC.length:=oM
   have hz:aM (oQ y) y.bC.length 0=0:=by rw[hj,bK,Nat.sub_self];rfl
   have hD:oX y=aM (CU y) y.aP.length 0:=by unfold oX;rw[h0,hz];rfl
   clear hj hi
   refine AW.loop (fun i:Nat=>⟨[(1,.s (.ptr 1 0)),(46,uM y.aP),(47,vI y.aP.length),(48,vI i),(2,vI 0)],[(1,some (.cells (tF y)))]⟩) (fun i=>i≤y.aP.length∧oX y=aM (CU y) (y.aP.length - i) i) (fun i=>y.aP.length - i) 0 ⟨Nat.zero_le _,hD⟩ ?_ ?_
   ·refine Sub.bO aA ⟨rQ,oO⟩ ⟨rQ,rQ,rQ,rQ,rQ,oO⟩
   ·rintro i ⟨hi,hj⟩
    refine eX aA ?_
    refine aI (fun h5=>?_) (fun h5=>?_)
    ·have h5:(i:Int)<y.aP.length:=bL h5
     rw[show y.aP.length - i=(y.aP.length - (i+1))+1 by omega,aM]at hj
     refine oi ⟨oM,oM⟩ ?_
     refine aB (aEU y (y.aP.getD i default) hl) ?_
     refine aI (fun h6=>?_) (fun h6=>?_)
     ·have h:CU y i=19:=by unfold CU;rw[h6];rfl
      exact aC.of_eq (by rw[hj,h];rfl)
     have h:CU y i=0:=by unfold CU;rw[h6];rfl
     refine⟨i+1,⟨oM,by rw[hj,h];rfl⟩,oM,?_⟩
     refine Sub.bO aA ⟨rQ,oO⟩ ⟨rQ,rQ,rQ,⟨rfl,?_⟩,rQ,oO⟩
     exact congrArg vI (aG oM oM)
    ·have h5:¬(i:Int)<y.aP.length:=bG h5
     have bK:i=y.aP.length:=oM
     exact aC.of_eq (by rw[hj,bK,Nat.sub_self];rfl)
theorem aA1(y:fV)(hy:y.fits):aF prog 87 [r8 y] (vI (kA y)):=by
 refine eP func87 rfl rfl call87 rfl rfl fun cx aA=>?_
 refine aI (fun h0=>?_) (fun h0=>?_)
 ·exact aC.of_eq (by unfold kA;rw[h0];rfl)
 refine aB ((Y9 y.aP (fun _=>.bF) (fun _=>.bF) hy.aP hy.uQ (fun x hx=>aA8 x (hy.aT x hx))).conv (args':=_) ⟨aL.refl _,aL.dR fun j hj=>absurd hj (Nat.not_lt_zero j),aL.dR fun j hj=>absurd hj (Nat.not_lt_zero j),oO⟩) ?_
 refine aI (fun h1=>?_) (fun h1=>?_)
 ·exact aC.of_eq (by unfold kA;rw[h0,h1];rfl)
 have hY:oD y≠0→kA y=oD y:=fun gI=>by unfold kA;rw[h0,h1,show(oD y !=0)=true by simpa using gI];rfl
 have hZ:oD y=0→kA y=oX y:=fun he=>by unfold kA;rw[h0,h1,he];rfl
 refine aI (fun h2=>?_) (fun h2=>?_)
 ·have:oD y=8:=by unfold oD;rw[h2];rfl
  exact aC.of_eq (by rw[hY (by rw[this];decide),this];rfl)
 refine aB ((VQ y.a8 (fun _=>.bF) (fun _=>.bF) hy.a8 hy.qG (fun x _=>PW x)).conv (args':=_) ⟨aL.refl _,aL.dR fun j hj=>absurd hj (Nat.not_lt_zero j),aL.dR fun j hj=>absurd hj (Nat.not_lt_zero j),oO⟩) ?_
 refine aI (fun h3=>?_) (fun h3=>?_)
 ·have:oD y=aM (qR y.a8) y.a8.length 0:=by unfold oD;rw[h2,h3];rfl
  exact aC.of_eq (by rw[hY (by rw[this];simpa using h3),this];rfl)
 refine aI (fun h4=>?_) (fun h4=>?_)
 ·have h4:((y.carry.length:Int) !=(y.a8.length:Int))=true:=h4
  have:oD y=10:=by unfold oD;rw[h2,h3,h4];rfl
  exact aC.of_eq (by rw[hY (by rw[this];decide),this];rfl)
 have h4:((y.carry.length:Int) !=(y.a8.length:Int))=false:=h4
 have xU:y.carry.length=y.a8.length:=by have:(y.carry.length:Int)=y.a8.length:=(by simpa using h4);omega
 have hE:oD y=aM (CT y) y.carry.length 0:=by unfold oD;rw[h2,h3,h4];rfl
 have hc:=hy.carry
 refine AW.loop (fun i:Nat=>⟨[(1,.s (.ptr 1 0)),(35,pK y.carry),(36,vI y.carry.length),(37,vI i),(2,vI 0)],[(1,some (.cells (tF y)))]⟩) (fun i=>i≤y.carry.length∧oD y=aM (CT y) (y.carry.length - i) i) (fun i=>y.carry.length - i) 0 ⟨Nat.zero_le _,hE⟩ ?_ ?_
 ·refine Sub.bO aA ⟨rQ,oO⟩ ⟨rQ,rQ,rQ,rQ,rQ,oO⟩
 ·rintro i ⟨hi,hj⟩
  refine eX aA ?_
  refine aI (fun h5=>?_) (fun h5=>?_)
  ·have h5:(i:Int)<y.carry.length:=bL h5
   rw[show y.carry.length - i=(y.carry.length - (i+1))+1 by omega,aM]at hj
   refine oi ⟨oM,oM⟩ ?_
   refine oi ⟨oM,oM⟩ ?_
   refine aB (jQ _ _ _) ?_
   refine aI (fun h6=>?_) (fun h6=>?_)
   ·have h6:(!within (y.carry.getD i 0) 0 (aV ((y.a8.getD i default).den - 1)))=true:=h6
    have h:CT y i=2:=by unfold CT;rw[h6];rfl
    have:oD y=2:=by rw[hj,h];rfl
    exact aC.of_eq (by rw[hY (by rw[this];decide),this];rfl)
   have h6:(!within (y.carry.getD i 0) 0 (aV ((y.a8.getD i default).den - 1)))=false:=h6
   have h:CT y i=0:=by unfold CT;rw[h6];rfl
   refine⟨i+1,⟨oM,by rw[hj,h];rfl⟩,oM,?_⟩
   refine Sub.bO aA ⟨rQ,oO⟩ ⟨rQ,rQ,rQ,⟨rfl,?_⟩,rQ,oO⟩
   exact congrArg vI (aG oM oM)
  ·have h5:¬(i:Int)<y.carry.length:=bG h5
   have bK:i=y.carry.length:=oM
   have hz:oD y=0:=by rw[hj,bK,Nat.sub_self];rfl
   refine aB (IT y hy) ?_
   exact aC.of_eq (by rw[hZ hz];rfl)
theorem kX{f:Nat→Int}:∀{n i:Nat},aM f n i=0→∀j,i≤j→j<i+n→f j=0
 |0,_,_,j,h1,h2=>by omega
 |n+1,i,h,j,h1,h2=>by
  rw[aM]at h
  cases hf:(f i !=0)with
  |true=>rw[hf]at h;simp only [cond_true]at h;rw[h]at hf;simp at hf
  |false=>
   rw[hf]at h
   by_cases hj:j=i
   ·subst hj;simpa using hf
   ·exact kX (n:=n) (i:=i+1) h j oM oM
theorem aCA(p:tD)(before:List tD)(hn:p.name.size≤9223372036854775807)(hb:before.length≤9223372036854775807)(hl:p.aT.length≤9223372036854775807):
  aF prog 97 [FT p,uM before] (vI (bif !isName p.name then 4 else bif before.any (fun y=>bB y.name p.name)then 5 else pP p)):=by
 refine eP func97 rfl rfl call97 rfl rfl fun cx aA=>?_
 refine aB (rT p.name hn) ?_
 refine aI (fun h0=>?_) (fun h0=>?_)
 ·exact aC.of_eq (by rw[h0];rfl)
 refine aB (YN before p.name hb) ?_
 have ha:decide (k9 before p.name≥0)=before.any (fun y=>bB y.name p.name):=jV _ _ _
 refine aI (fun h0'=>?_) (fun h0'=>?_)
 ·have h0':decide (k9 before p.name≥0)=true:=h0'
  rw[ha]at h0'
  exact aC.of_eq (by rw[h0,h0'];rfl)
 have h0':decide (k9 before p.name≥0)=false:=h0'
 rw[ha]at h0'
 rw[h0,h0']
 refine aB (cD _ _ _) ?_
 repeat refine aR ?_
 refine bS (cD _ _ _) ?_
 repeat refine aR ?_
 refine bS (cD _ _ _) ?_
 repeat refine aR ?_
 refine aI (fun h1=>?_) (fun h1=>?_)
 ·exact aC.of_eq (by unfold pP;rw[h1];rfl)
 refine aI (fun h2=>?_) (fun h2=>?_)
 ·exact aC.of_eq (by unfold pP;rw[h1,h2];rfl)
 refine aB (cD _ _ _) ?_
 refine aI (fun h3=>?_) (fun h3=>?_)
 ·exact aC.of_eq (by unfold pP;rw[h1,h2,h3];rfl)
 have hE:pP p=aM (xE p.aT) p.aT.length 0:=by unfold pP;rw[h1,h2,h3];rfl
 refine AW.loop (fun i:Nat=>⟨[(2,.s (.ptr 2 0)),(5,vI i),(4,vI 0)],[(2,some (.cells (aIS p)))]⟩) (fun i=>i≤p.aT.length∧pP p=aM (xE p.aT) (p.aT.length - i) i) (fun i=>p.aT.length - i) 0 ⟨Nat.zero_le _,hE⟩ ?_ ?_
 ·refine Sub.bO aA ⟨rQ,oO⟩ ⟨rQ,rQ,rQ,oO⟩
 ·rintro i ⟨hi,hj⟩
  refine eX aA ?_
  refine aI (fun h5=>?_) (fun h5=>?_)
  ·have h5:(i:Int)<p.aT.length:=bL h5
   rw[show p.aT.length - i=(p.aT.length - (i+1))+1 by omega,aM]at hj
   refine oi ⟨oM,oM⟩ ?_
   refine aB (cD _ _ _) ?_
   refine aI (fun h6=>?_) (fun h6=>?_)
   ·have h6:(!within (p.aT.getD i 0) 0 9)=true:=h6
    have h:xE p.aT i=2:=by unfold xE;rw[h6];rfl
    exact aC.of_eq (by show vI _=vI (pP p);rw[hj,h];rfl)
   have h6:(!within (p.aT.getD i 0) 0 9)=false:=h6
   repeat refine aR ?_
   refine og (fun _=>⟨oM,oM⟩) ?_
   repeat refine aR ?_
   have fD:0<i→aV ((i:Int) - 1)=((i - 1:Nat):Int):=fun h=>by rw[aG oM oM];omega
   refine og (fun hb=>?_) ?_
   ·have hb:0<i:=by simp[rL]at hb;omega
    show 0≤aV ((i:Int) - 1)∧aV ((i:Int) - 1)<(p.aT.length:Int)
    rw[fD hb];exact⟨oM,oM⟩
   repeat refine aR ?_
   refine aD ?_
   have hk:∀v:Bool,(decide ((i:Int)>0)&&decide (p.aT.getD i 0≤p.aT.getD (aV ((i:Int) - 1)).toNat 0))=v→(decide ((i:Int)>0)&&decide (p.aT.getD i 0≤p.aT.getD (i - 1) 0))=v:=by
    intro v h
    by_cases h0:0<i
    ·rw[fD h0]at h;exact h
    ·rw[show decide ((i:Int)>0)=false by simp;omega]at h ⊢;exact h
   refine aI (fun h7=>?_) (fun h7=>?_)
   ·have h7:=hk true h7
    have h:xE p.aT i=9:=by unfold xE;rw[h6,h7];rfl
    exact aC.of_eq (by show vI _=vI (pP p);rw[hj,h];rfl)
   have h7:=hk false h7
   have h:xE p.aT i=0:=by unfold xE;rw[h6,h7];rfl
   refine⟨i+1,⟨oM,by rw[hj,h];rfl⟩,oM,?_⟩
   refine Sub.bO aA ⟨rQ,oO⟩ ⟨rQ,⟨rfl,?_⟩,rQ,oO⟩
   exact congrArg vI (aG oM oM)
  ·have h5:¬(i:Int)<p.aT.length:=bG h5
   have bK:i=p.aT.length:=oM
   exact aC.of_eq (by show vI _=vI (pP p);rw[hj,bK,Nat.sub_self];rfl)
theorem Q1(l:List MY)(n:Int)(hl:l.length≤9223372036854775807):aF prog 99 [vX l,vI n] (vB (l.any fun d=>d.batch==n)):=by
 refine eP func99 rfl rfl call99 rfl rfl fun cx aA=>?_
 refine AW.loop (fun i:Nat=>⟨[(0,vX l),(1,vI n),(5,vI i),(4,.s (.d (.lit false)))],[]⟩) (fun i=>i≤l.length∧(l.any fun d=>d.batch==n)=(l.drop i).any fun d=>d.batch==n) (fun i=>l.length - i) 0 ⟨Nat.zero_le _,rfl⟩ ?_ ?_
 ·refine Sub.bO aA trivial ⟨rQ,rQ,rQ,rQ,oO⟩
 ·rintro i ⟨hi,he⟩
  refine eX aA ?_
  refine aI (fun h=>?_) (fun h=>?_)
  ·have h:(i:Int)<l.length:=bL h
   have bK:i<l.length:=oM
   have hd:l.drop i=l[i]::l.drop (i+1):=List.drop_eq_getElem_cons bK
   have hg:l.getD i default=l[i]:=a7 bK
   refine oi ⟨oM,oM⟩ ?_
   rw[hd,List.any_cons,←hg]at he
   refine aI (fun h=>?_) (fun h=>?_)
   ·have h:((l.getD i default).batch==n)=true:=h
    exact aC.lit (by rw[he,h];rfl)
   ·have h:((l.getD i default).batch==n)=false:=h
    refine⟨i+1,⟨oM,by rw[he,h];rfl⟩,oM,?_⟩
    refine Sub.bO aA trivial ⟨rQ,rQ,⟨rfl,?_⟩,rQ,oO⟩
    exact congrArg vI (aG oM oM)
  ·have h:¬(i:Int)<l.length:=bG h
   have bK:i=l.length:=oM
   subst bK
   exact aC.lit (by rw[he,List.drop_length];rfl)
theorem aFQ(y:fV)(k:Nat)(hk:k<y.aP.length)(hl:y.bC.length≤9223372036854775807):aF prog 101 [r8 y,vI k] (vI (H3 y (y.aP.getD k default).name)):=by
 refine eP func101 rfl rfl call101 rfl rfl fun cx aA=>?_
 refine AW.loop (fun s:Nat×Int=>⟨[(1,vI k),(2,.s (.ptr 2 0)),(5,vI s.2),(6,vI s.1),(4,vI 0)],[(2,some (.cells (tF y)))]⟩) (fun s=>s.1≤y.bC.length∧H3 y (y.aP.getD k default).name=H4 y.bC (y.aP.getD k default).name (y.bC.length - s.1) s.1 s.2) (fun s=>y.bC.length - s.1) (0,0) ⟨Nat.zero_le _,rfl⟩ ?_ ?_
 ·refine Sub.bO aA ⟨rQ,oO⟩ ⟨rQ,rQ,rQ,rQ,rQ,oO⟩
 ·rintro⟨i,s⟩ ⟨hi,hj⟩
  simp only at hi hj
  refine eX aA ?_
  refine aI (fun h5=>?_) (fun h5=>?_)
  ·have h5:(i:Int)<y.bC.length:=bL h5
   rw[show y.bC.length - i=(y.bC.length - (i+1))+1 by omega,H4]at hj
   refine oi ⟨oM,oM⟩ ?_
   refine oi ⟨oM,oM⟩ ?_
   refine aD ?_
   refine aI (fun h6=>?_) (fun h6=>?_)
   ·have h6:bB (y.bC.getD i default).dO (y.aP.getD k default).name=true:=h6
    rw[h6]at hj
    refine oi ⟨oM,oM⟩ ?_
    refine⟨(i+1,aV (s+(y.bC.getD i default).iE)),⟨by show i+1≤_;omega,hj⟩,by show _ - (i+1)<_;omega,?_⟩
    refine Sub.bO aA ⟨rQ,oO⟩ ⟨rQ,rQ,rQ,⟨rfl,?_⟩,rQ,oO⟩
    exact congrArg vI (aG oM oM)
   ·have h6:bB (y.bC.getD i default).dO (y.aP.getD k default).name=false:=h6
    rw[h6]at hj
    refine⟨(i+1,s),⟨by show i+1≤_;omega,hj⟩,by show _ - (i+1)<_;omega,?_⟩
    refine Sub.bO aA ⟨rQ,oO⟩ ⟨rQ,rQ,rQ,⟨rfl,?_⟩,rQ,oO⟩
    exact congrArg vI (aG oM oM)
  ·have h5:¬(i:Int)<y.bC.length:=bG h5
   have bK:i=y.bC.length:=oM
   exact aC.of_eq (by rw[hj,bK,Nat.sub_self];rfl)
theorem yS(l:List MY)(n:ByteArray):∀(k i:Nat) (s:Int),0≤s→s+k*100000000000000≤9000000000000000000→(∀j,i≤j→j<i+k→0≤(l.getD j default).iE∧(l.getD j default).iE≤100000000000000)→0≤H4 l n k i s∧H4 l n k i s≤s+k*100000000000000
 |0,_,s,h0,_,_=>by simp[H4];exact h0
 |k+1,i,s,h0,h1,hv=>by
  have hi:=hv i oM oM
  have e:((k+1:Nat):Int)=(k:Int)+1:=oM
  rw[e]at h1 ⊢
  rw[H4]
  cases bB (l.getD i default).dO n with
  |true=>
   simp only [cond_true]
   rw[aG oM oM]
   have:=yS l n k (i+1) (s+(l.getD i default).iE) oM oM (fun j h2 h3=>hv j oM oM)
   omega
  |false=>
   simp only [cond_false]
   have:=yS l n k (i+1) s h0 oM (fun j h2 h3=>hv j oM oM)
   omega
theorem NT(y:fV)(hy:y.fits):aF prog 98 [r8 y] (vI (oD y)):=by
 have hb:=hy.a8
 have hc:=hy.carry
 refine eP func98 rfl rfl call98 rfl rfl fun cx aA=>?_
 refine aI (fun h2=>?_) (fun h2=>?_)
 ·exact aC.of_eq (by unfold oD;rw[h2];rfl)
 refine AW.loop (fun i:Nat=>⟨[(1,.s (.ptr 1 0)),(3,vI i),(2,vI 0)],[(1,some (.cells (tF y)))]⟩) (fun i=>i≤y.a8.length∧aM (qR y.a8) y.a8.length 0=aM (qR y.a8) (y.a8.length - i) i) (fun i=>y.a8.length - i) 0 ⟨Nat.zero_le _,rfl⟩ ?_ ?_
 ·refine Sub.bO aA ⟨rQ,oO⟩ ⟨rQ,rQ,rQ,oO⟩
 ·rintro i ⟨hi,hj⟩
  refine eX aA ?_
  refine aI (fun h5=>?_) (fun h5=>?_)
  ·have h5:(i:Int)<y.a8.length:=bL h5
   rw[show y.a8.length - i=(y.a8.length - (i+1))+1 by omega,aM]at hj
   have hE:∀e:Int,e≠0→qR y.a8 i=e→oD y=e:=fun e he h=>by
    have CM:(e !=0)=true:=by simpa using he
    rw[h,CM]at hj
    unfold oD;rw[h2,hj]
    simp only [cond_false,cond_true];rw[CM];rfl
   refine oi ⟨oM,oM⟩ ?_
   refine aB (rT (y.a8.getD i default).aO (hy.qG _ (cT oM))) ?_
   refine aI (fun h6=>?_) (fun h6=>?_)
   ·exact aC.of_eq (by rw[hE 4 dC (by unfold qR;rw[h6];rfl)];rfl)
   refine oi ⟨dC,by show(0:Int)≤(i:Int);omega,by show(i:Int)≤(y.a8.length:Int);omega⟩ ?_
   refine aB ((aFK (y.a8.take i) (y.a8.getD i default).aO (by simp;omega)).conv (args':=_) ⟨nF y.a8 i hi,aL.refl _,oO⟩) ?_
   refine aD ?_
   have ha:decide (PA (y.a8.take i) (y.a8.getD i default).aO≥0)=(y.a8.take i).any (fun x=>bB x.aO (y.a8.getD i default).aO):=jV _ _ _
   refine aI (fun h7=>?_) (fun h7=>?_)
   ·have h7:decide (PA (y.a8.take i) (y.a8.getD i default).aO≥0)=true:=h7
    rw[ha]at h7
    exact aC.of_eq (by rw[hE 5 dC (by unfold qR;rw[h6,h7];rfl)];rfl)
   have h7:decide (PA (y.a8.take i) (y.a8.getD i default).aO≥0)=false:=h7
   rw[ha]at h7
   refine aB (cD _ _ _) ?_
   repeat refine aR ?_
   refine bS (cD _ _ _) ?_
   repeat refine aR ?_
   have hf:qR y.a8 i=IL (y.a8.getD i default):=by unfold qR;rw[h6,h7];rfl
   refine aI (fun h8=>?_) (fun h8=>?_)
   ·have h8:(!within (y.a8.getD i default).den 1 1000|| !within (y.a8.getD i default).num 1 (aV (10*(y.a8.getD i default).den)))=true:=h8
    exact aC.of_eq (by rw[hE 2 dC (by rw[hf];unfold IL;rw[h8];rfl)];rfl)
   have h8:(!within (y.a8.getD i default).den 1 1000|| !within (y.a8.getD i default).num 1 (aV (10*(y.a8.getD i default).den)))=false:=h8
   have h:qR y.a8 i=0:=by rw[hf];unfold IL;rw[h8];rfl
   refine⟨i+1,⟨oM,by rw[hj,h];rfl⟩,oM,?_⟩
   refine Sub.bO aA ⟨rQ,oO⟩ ⟨rQ,⟨rfl,?_⟩,rQ,oO⟩
   exact congrArg vI (aG oM oM)
  ·have h5:¬(i:Int)<y.a8.length:=bG h5
   have bK:i=y.a8.length:=oM
   have hz:aM (qR y.a8) y.a8.length 0=0:=by rw[hj,bK,Nat.sub_self];rfl
   clear hj hi
   refine aI (fun h4=>?_) (fun h4=>?_)
   ·have h4:((y.carry.length:Int) !=(y.a8.length:Int))=true:=h4
    exact aC.of_eq (by unfold oD;rw[h2,hz,h4];rfl)
   have h4:((y.carry.length:Int) !=(y.a8.length:Int))=false:=h4
   have xU:y.carry.length=y.a8.length:=by
    have:(y.carry.length:Int)=y.a8.length:=by simpa using h4
    omega
   have hE:oD y=aM (CT y) y.carry.length 0:=by unfold oD;rw[h2,hz,h4];rfl
   refine AW.loop (fun i:Nat=>⟨[(1,.s (.ptr 1 0)),(5,vI i),(2,vI 0)],[(1,some (.cells (tF y)))]⟩) (fun i=>i≤y.carry.length∧oD y=aM (CT y) (y.carry.length - i) i) (fun i=>y.carry.length - i) 0 ⟨Nat.zero_le _,hE⟩ ?_ ?_
   ·refine Sub.bO aA ⟨rQ,oO⟩ ⟨rQ,rQ,rQ,oO⟩
   ·rintro i ⟨hi,hj⟩
    refine eX aA ?_
    refine aI (fun h5=>?_) (fun h5=>?_)
    ·have h5:(i:Int)<y.carry.length:=bL h5
     rw[show y.carry.length - i=(y.carry.length - (i+1))+1 by omega,aM]at hj
     refine oi ⟨oM,oM⟩ ?_
     refine oi ⟨oM,oM⟩ ?_
     refine aB (cD _ _ _) ?_
     refine aD ?_
     refine aI (fun h6=>?_) (fun h6=>?_)
     ·have h6:(!within (y.carry.getD i 0) 0 (aV ((y.a8.getD i default).den - 1)))=true:=h6
      have h:CT y i=2:=by unfold CT;rw[h6];rfl
      exact aC.of_eq (by rw[hj,h];rfl)
     have h6:(!within (y.carry.getD i 0) 0 (aV ((y.a8.getD i default).den - 1)))=false:=h6
     have h:CT y i=0:=by unfold CT;rw[h6];rfl
     refine⟨i+1,⟨oM,by rw[hj,h];rfl⟩,oM,?_⟩
     refine Sub.bO aA ⟨rQ,oO⟩ ⟨rQ,⟨rfl,?_⟩,rQ,oO⟩
     exact congrArg vI (aG oM oM)
    ·have h5:¬(i:Int)<y.carry.length:=bG h5
     have bK:i=y.carry.length:=oM
     exact aC.of_eq (by rw[hj,bK,Nat.sub_self];rfl)
theorem within_iff{n lo hi:Int}:within n lo hi=true↔lo≤n∧n≤hi:=by simp[within]
theorem aKW{a b c d:Int}{p q r s:Bool}(h:(bif p then a else bif q then b else bif r then c else bif s then d else 0)=0)(ha:a≠0)(hb:b≠0)(hc:c≠0)(hd:d≠0):p=false∧q=false∧r=false∧s=false:=by
 cases p <;> cases q <;> cases r <;> cases s <;> simp_all
theorem aHN(y:fV)(h1:aM (sF y.aP) y.aP.length 0=0)(h2:aM (oQ y) y.bC.length 0=0)(h3:y.bC.length≤200){i:Nat}(hi:i<y.aP.length):
  decide (H3 y (y.aP.getD i default).name>MH (y.aP.getD i default))=decide (FJ y (y.aP.getD i default)<0):=by
 have hp:=kX h1 i (Nat.zero_le _) oM
 have hd:∀j,0≤j→j<0+y.bC.length→0≤(y.bC.getD j default).iE∧(y.bC.getD j default).iE≤100000000000000:=fun j _ hj=>by
  have h:=kX h2 j (Nat.zero_le _) hj
  unfold oQ at h
  have:=(aKW h dC dC dC dC).2.2.2
  exact within_iff.1 (by simpa using this)
 obtain⟨t0,t1⟩:=yS y.bC (y.aP.getD i default).name y.bC.length 0 0 dC oM hd
 have hc: -40000000000000≤MH (y.aP.getD i default)∧MH (y.aP.getD i default)≤40000000000000:=by
  unfold sF at hp
  have hp':pP (y.aP.getD i default)=0:=by
   revert hp
   cases(!isName (y.aP.getD i default).name) <;> cases((y.aP.take i).any fun z=>bB z.name (y.aP.getD i default).name) <;> simp
  unfold pP at hp'
  have hr:(!within (y.aP.getD i default).MN 1 1000000000|| !within (y.aP.getD i default).base (-20000) 20000|| !within (y.aP.getD i default).top (-20000) 20000)=false:=by
   revert hp'
   cases(!within (y.aP.getD i default).MN 1 1000000000|| !within (y.aP.getD i default).base (-20000) 20000|| !within (y.aP.getD i default).top (-20000) 20000) <;> simp
  simp only [Bool.or_eq_false_iff,Bool.not_eq_false']at hr
  obtain⟨⟨ha,hb⟩,ht⟩:=hr
  have ha:=within_iff.1 ha
  have hb:=within_iff.1 hb
  have ht:=within_iff.1 ht
  unfold MH
  generalize (y.aP.getD i default).MN=A at*
  generalize (y.aP.getD i default).base=B at*
  generalize (y.aP.getD i default).top=T at*
  rw[aG (n:=T - B) oM oM]
  have u1:A*(T - B)≤1000000000*40000:=Int.le_trans (Int.mul_le_mul_of_nonneg_left (show T - B≤40000 by omega) oM) (Int.mul_le_mul_of_nonneg_right oM dC)
  have u2: -(A*(T - B))≤1000000000*40000:=by
   rw[←Int.mul_neg]
   exact Int.le_trans (Int.mul_le_mul_of_nonneg_left (show -(T - B)≤40000 by omega) oM) (Int.mul_le_mul_of_nonneg_right oM dC)
  rw[aG oM oM]
  omega
 unfold FJ
 have t0':0≤H3 y (y.aP.getD i default).name:=t0
 have t1':H3 y (y.aP.getD i default).name≤0+(y.bC.length:Int)*100000000000000:=t1
 rw[aG oM oM]
 rw[Bool.eq_iff_iff]
 simp
 omega
theorem aCF(y:fV)(hy:y.fits):aF prog 38 [r8 y] (vI (kA y)):=by
 have hp:=hy.aP
 have hd:=hy.bC
 refine eP func38 rfl rfl call38 rfl rfl fun cx aA=>?_
 refine aI (fun h0=>?_) (fun h0=>?_)
 ·exact aC.of_eq (by unfold kA;rw[h0];rfl)
 refine AW.loop (fun i:Nat=>⟨[(1,.s (.ptr 1 0)),(3,vI i),(2,vI 0)],[(1,some (.cells (tF y)))]⟩) (fun i=>i≤y.aP.length∧aM (sF y.aP) y.aP.length 0=aM (sF y.aP) (y.aP.length - i) i) (fun i=>y.aP.length - i) 0 ⟨Nat.zero_le _,rfl⟩ ?_ ?_
 ·refine Sub.bO aA ⟨rQ,oO⟩ ⟨rQ,rQ,rQ,oO⟩
 rintro i ⟨hi,hj⟩
 refine eX aA ?_
 refine aI (fun h5=>?_) (fun h5=>?_)
 ·have h5:(i:Int)<y.aP.length:=bL h5
  rw[show y.aP.length - i=(y.aP.length - (i+1))+1 by omega,aM]at hj
  refine oi ⟨oM,oM⟩ ?_
  refine oi ⟨dC,by show(0:Int)≤(i:Int);omega,by show(i:Int)≤(y.aP.length:Int);omega⟩ ?_
  have hm:=cT (l:=y.aP) (i:=i) oM
  refine aB ((aCA (y.aP.getD i default) (y.aP.take i) (hy.uQ _ hm) (by simp;omega) (hy.aT _ hm)).conv (args':=_) ⟨⟨aL.refl _,aL.refl _,aL.refl _,aL.refl _,aL.refl _,aL.refl _,oO⟩,nF y.aP i hi,oO⟩) ?_
  refine aD ?_
  have hq:(bif !isName (y.aP.getD i default).name then 4 else bif (y.aP.take i).any (fun z=>bB z.name (y.aP.getD i default).name)then 5 else pP (y.aP.getD i default))=sF y.aP i:=rfl
  refine aI (fun h6=>?_) (fun h6=>?_)
  ·have h6:(sF y.aP i !=0)=true:=h6
   rw[h6]at hj
   exact aC.of_eq (by show vI (sF y.aP i)=_;unfold kA;rw[h0,hj];simp only [cond_false,cond_true];rw[h6];rfl)
  have h6:(sF y.aP i !=0)=false:=h6
  refine⟨i+1,⟨oM,by rw[hj,h6];rfl⟩,oM,?_⟩
  refine Sub.bO aA ⟨rQ,oO⟩ ⟨rQ,⟨rfl,?_⟩,rQ,oO⟩
  exact congrArg vI (aG oM oM)
 have h5:¬(i:Int)<y.aP.length:=bG h5
 have bK:i=y.aP.length:=oM
 have hz1:aM (sF y.aP) y.aP.length 0=0:=by rw[hj,bK,Nat.sub_self];rfl
 clear hj hi
 refine aB (NT y hy) ?_
 refine aI (fun h1=>?_) (fun h1=>?_)
 ·exact aC.of_eq (by unfold kA;rw[h0,hz1,h1];rfl)
 have hY:kA y=oX y:=by unfold kA;rw[h0,hz1,h1];rfl
 rw[hY]
 refine aI (fun h2=>?_) (fun h2=>?_)
 ·exact aC.of_eq (by unfold oX;rw[h2];rfl)
 refine AW.loop (fun i:Nat=>⟨[(1,.s (.ptr 1 0)),(6,vI i),(2,vI 0)],[(1,some (.cells (tF y)))]⟩) (fun i=>i≤y.bC.length∧aM (oQ y) y.bC.length 0=aM (oQ y) (y.bC.length - i) i) (fun i=>y.bC.length - i) 0 ⟨Nat.zero_le _,rfl⟩ ?_ ?_
 ·refine Sub.bO aA ⟨rQ,oO⟩ ⟨rQ,rQ,rQ,oO⟩
 rintro i ⟨hi,hj⟩
 refine eX aA ?_
 refine aI (fun h5=>?_) (fun h5=>?_)
 ·have h5:(i:Int)<y.bC.length:=bL h5
  rw[show y.bC.length - i=(y.bC.length - (i+1))+1 by omega,aM]at hj
  have hE:∀e:Int,e≠0→oQ y i=e→oX y=e:=fun e he h=>by
   have CM:(e !=0)=true:=by simpa using he
   rw[h,CM]at hj
   unfold oX;rw[h2,hj]
   simp only [cond_false,cond_true];rw[CM];rfl
  refine oi ⟨oM,oM⟩ ?_
  refine aB (cD _ _ _) ?_
  refine aI (fun h6=>?_) (fun h6=>?_)
  ·have h6:(!within (y.bC.getD i default).batch 1 1000000)=true:=h6
   exact aC.of_eq (by rw[hE 2 dC (by unfold oQ;rw[h6];rfl)];rfl)
  have h6:(!within (y.bC.getD i default).batch 1 1000000)=false:=h6
  refine oi ⟨dC,by show(0:Int)≤(i:Int);omega,by show(i:Int)≤(y.bC.length:Int);omega⟩ ?_
  refine aB ((Q1 (y.bC.take i) (y.bC.getD i default).batch (by simp;omega)).conv (args':=_) ⟨nF y.bC i hi,aL.refl _,oO⟩) ?_
  refine aD ?_
  refine aI (fun h7=>?_) (fun h7=>?_)
  ·exact aC.of_eq (by rw[hE 5 dC (by unfold oQ;rw[h6,h7];rfl)];rfl)
  refine aB (YN y.aP (y.bC.getD i default).dO hp) ?_
  refine aI (fun h8=>?_) (fun h8=>?_)
  ·exact aC.of_eq (by rw[hE 6 dC (by unfold oQ;rw[h6,h7,h8];rfl)];rfl)
  refine aB (cD _ _ _) ?_
  refine aI (fun h9=>?_) (fun h9=>?_)
  ·have h9:(!within (y.bC.getD i default).iE 0 100000000000000)=true:=h9
   exact aC.of_eq (by rw[hE 2 dC (by unfold oQ;rw[h6,h7,h8,h9];rfl)];rfl)
  have h9:(!within (y.bC.getD i default).iE 0 100000000000000)=false:=h9
  have h:oQ y i=0:=by unfold oQ;rw[h6,h7,h8,h9];rfl
  refine⟨i+1,⟨oM,by rw[hj,h];rfl⟩,oM,?_⟩
  refine Sub.bO aA ⟨rQ,oO⟩ ⟨rQ,⟨rfl,?_⟩,rQ,oO⟩
  exact congrArg vI (aG oM oM)
 have h5:¬(i:Int)<y.bC.length:=bG h5
 have bK:i=y.bC.length:=oM
 have hz2:aM (oQ y) y.bC.length 0=0:=by rw[hj,bK,Nat.sub_self];rfl
 clear hj hi
 have hD:oX y=aM (CU y) y.aP.length 0:=by unfold oX;rw[h2,hz2];rfl
 have aNA:y.bC.length≤200:=by have:=bG h2;omega
 refine AW.loop (fun i:Nat=>⟨[(1,.s (.ptr 1 0)),(8,vI i),(2,vI 0)],[(1,some (.cells (tF y)))]⟩) (fun i=>i≤y.aP.length∧oX y=aM (CU y) (y.aP.length - i) i) (fun i=>y.aP.length - i) 0 ⟨Nat.zero_le _,hD⟩ ?_ ?_
 ·refine Sub.bO aA ⟨rQ,oO⟩ ⟨rQ,rQ,rQ,oO⟩
 rintro i ⟨hi,hj⟩
 refine eX aA ?_
 refine aI (fun h5=>?_) (fun h5=>?_)
 ·have h5:(i:Int)<y.aP.length:=bL h5
  rw[show y.aP.length - i=(y.aP.length - (i+1))+1 by omega,aM]at hj
  refine aB (aFQ y i oM hd) ?_
  refine oi ⟨oM,oM⟩ ?_
  refine aB (VL (y.aP.getD i default)) ?_
  refine aD ?_
  have he:=aHN y hz1 hz2 aNA (i:=i) oM
  refine aI (fun h6=>?_) (fun h6=>?_)
  ·have h6:decide (H3 y (y.aP.getD i default).name>MH (y.aP.getD i default))=true:=h6
   rw[he]at h6
   have h:CU y i=19:=by unfold CU;rw[h6];rfl
   exact aC.of_eq (by rw[hj,h];rfl)
  have h6:decide (H3 y (y.aP.getD i default).name>MH (y.aP.getD i default))=false:=h6
  rw[he]at h6
  have h:CU y i=0:=by unfold CU;rw[h6];rfl
  refine⟨i+1,⟨oM,by rw[hj,h];rfl⟩,oM,?_⟩
  refine Sub.bO aA ⟨rQ,oO⟩ ⟨rQ,⟨rfl,?_⟩,rQ,oO⟩
  exact congrArg vI (aG oM oM)
 have h5:¬(i:Int)<y.aP.length:=bG h5
 have bK:i=y.aP.length:=oM
 exact aC.of_eq (by rw[hj,bK,Nat.sub_self];rfl)
def W7(z:List Value)(n:Nat)(g:Nat→Nat→DV):Nat→Nat→DV:=MD 0 n (fun _ j=>match (iS z)[j]? with|some c=>MW c|none=>.bF) g
theorem HG{z:List Value}{n:Nat}{g:Nat→Nat→DV}{i j:Nat}(h:i<n):W7 z n g i j=g i j:=by
 unfold W7 MD
 rw[if_pos ⟨Nat.zero_le _,oM⟩,Nat.sub_zero]
theorem zJ(l:List tD)(h0:0<l.length)(hl:l.length≤1000000):bT prog 159 [uM l] [] (.s (.own 9)) [(9,.row 69 l.length 6 (W7 ty69.zero l.length (DB l)))]:=by
 refine fC (rc:=[]) (N:=14) func159 rfl rfl call159 aJ mix rfl rfl rfl rfl (fun cx _=>?_)
 refine aI (fun h=>?_) (fun _=>?_)
 ·have h:((l.length:Int)==0)=true:=h
  have:(l.length:Int)=0:=by simpa using h
  omega
 refine⟨oM,Int.le_refl _,by show(72:Int)*(l.length:Int)≤281474976710656;omega,?_⟩
 refine ob (fun k j hk hj=>by
  have hj:j<6:=hj
  match j,hj with
  |0,_=>rfl
  |1,_=>rfl
  |2,_=>rfl
  |3,_=>rfl
  |4,_=>rfl
  |5,_=>rfl) ?_
 refine⟨aU.rfl,?_,oO⟩
 have e:Nat.min l.length l.length=l.length:=Nat.min_self _
 show some (some (jE.row 69 l.length 6 (W7 ty69.zero (Nat.min l.length l.length) (DB l))))=_
 rw[e]
theorem W5(l:List tD)(hl:l.length≤1000000):aF prog 159 [uM l] (uM l):=by
 refine eP func159 rfl rfl call159 rfl rfl fun cx _=>?_
 refine aI (fun h=>?_) (fun _=>?_)
 ·have h:((l.length:Int)==0)=true:=h
  have:l=[]:=by
   have:(l.length:Int)=0:=by simpa using h
   exact List.eq_nil_of_length_eq_zero oM
  subst this
  exact aC.le aL.nil
 refine⟨oM,Int.le_refl _,by show(72:Int)*(l.length:Int)≤281474976710656;omega,?_⟩
 refine ob (fun k j hk hj=>by
  have hj:j<6:=hj
  match j,hj with
  |0,_=>rfl
  |1,_=>rfl
  |2,_=>rfl
  |3,_=>rfl
  |4,_=>rfl
  |5,_=>rfl) ?_
 have e:Nat.min l.length l.length=l.length:=Nat.min_self _
 refine aC.le (x:=.s (.d (.fW l.length 6 (W7 ty69.zero (Nat.min l.length l.length) (DB l))))) (aL.fW fun i j hi hj=>aL.of_eq ?_)
 rw[e]
 exact HG hi
theorem uD(l:List mM)(hl:l.length≤1000000):aF prog 160 [zT l] (zT l):=by
 refine eP func160 rfl rfl call160 rfl rfl fun cx _=>?_
 refine aI (fun h=>?_) (fun _=>?_)
 ·have h:((l.length:Int)==0)=true:=h
  have:l=[]:=by
   have:(l.length:Int)=0:=by simpa using h
   exact List.eq_nil_of_length_eq_zero oM
  subst this
  exact aC.le aL.nil
 refine⟨oM,Int.le_refl _,by show(32:Int)*(l.length:Int)≤281474976710656;omega,?_⟩
 refine ob (fun k j hk hj=>by
  have hj:j<3:=hj
  match j,hj with
  |0,_=>rfl
  |1,_=>rfl
  |2,_=>rfl) ?_
 have e:Nat.min l.length l.length=l.length:=Nat.min_self _
 refine aC.le (x:=.s (.d (.fW l.length 3 (W7 ty145.zero (Nat.min l.length l.length) (aEX l))))) (aL.fW fun i j hi hj=>aL.of_eq ?_)
 rw[e]
 exact HG hi
theorem SF(l:List MY)(h0:0<l.length)(hl:l.length≤1000000):bT prog 161 [vX l] [] (.s (.own 9)) [(9,.row 177 l.length 3 (W7 ty177.zero l.length (D5 l)))]:=by
 refine fC (rc:=[]) (N:=14) func161 rfl rfl call161 aJ mix rfl rfl rfl rfl (fun cx _=>?_)
 refine aI (fun h=>?_) (fun _=>?_)
 ·have h:((l.length:Int)==0)=true:=h
  have:(l.length:Int)=0:=by simpa using h
  omega
 refine⟨oM,Int.le_refl _,by show(32:Int)*(l.length:Int)≤281474976710656;omega,?_⟩
 refine ob (fun k j hk hj=>by
  have hj:j<3:=hj
  match j,hj with
  |0,_=>rfl
  |1,_=>rfl
  |2,_=>rfl) ?_
 refine⟨aU.rfl,?_,oO⟩
 have e:Nat.min l.length l.length=l.length:=Nat.min_self _
 show some (some (jE.row 177 l.length 3 (W7 ty177.zero (Nat.min l.length l.length) (D5 l))))=_
 rw[e]
theorem KI(l:List MY)(hl:l.length≤1000000):aF prog 161 [vX l] (vX l):=by
 refine eP func161 rfl rfl call161 rfl rfl fun cx _=>?_
 refine aI (fun h=>?_) (fun _=>?_)
 ·have h:((l.length:Int)==0)=true:=h
  have:l=[]:=by
   have:(l.length:Int)=0:=by simpa using h
   exact List.eq_nil_of_length_eq_zero oM
  subst this
  exact aC.le aL.nil
 refine⟨oM,Int.le_refl _,by show(32:Int)*(l.length:Int)≤281474976710656;omega,?_⟩
 refine ob (fun k j hk hj=>by
  have hj:j<3:=hj
  match j,hj with
  |0,_=>rfl
  |1,_=>rfl
  |2,_=>rfl) ?_
 have e:Nat.min l.length l.length=l.length:=Nat.min_self _
 refine aC.le (x:=.s (.d (.fW l.length 3 (W7 ty177.zero (Nat.min l.length l.length) (D5 l))))) (aL.fW fun i j hi hj=>aL.of_eq ?_)
 rw[e]
 exact HG hi
theorem HF(l:List Int)(h0:0<l.length)(hl:l.length≤1000000):bT prog 162 [pK l] [] (.s (.own 9)) [(9,.row 3 l.length 1 (W7 ty3.zero l.length (eH l)))]:=by
 refine fC (rc:=[]) (N:=14) func162 rfl rfl call162 aJ mix rfl rfl rfl rfl (fun cx _=>?_)
 refine aI (fun h=>?_) (fun _=>?_)
 ·have h:((l.length:Int)==0)=true:=h
  have:(l.length:Int)=0:=by simpa using h
  omega
 refine⟨oM,Int.le_refl _,by show(8:Int)*(l.length:Int)≤281474976710656;omega,?_⟩
 refine ob (fun k j hk hj=>by
  have hj:j<1:=hj
  match j,hj with
  |0,_=>rfl) ?_
 refine⟨aU.rfl,?_,oO⟩
 have e:Nat.min l.length l.length=l.length:=Nat.min_self _
 show some (some (jE.row 3 l.length 1 (W7 ty3.zero (Nat.min l.length l.length) (eH l))))=_
 rw[e]
theorem sZ(l:List Int)(hl:l.length≤1000000):aF prog 162 [pK l] (pK l):=by
 refine eP func162 rfl rfl call162 rfl rfl fun cx _=>?_
 refine aI (fun h=>?_) (fun _=>?_)
 ·have h:((l.length:Int)==0)=true:=h
  have:l=[]:=by
   have:(l.length:Int)=0:=by simpa using h
   exact List.eq_nil_of_length_eq_zero oM
  subst this
  exact aC.le aL.nil
 refine⟨oM,Int.le_refl _,by show(8:Int)*(l.length:Int)≤281474976710656;omega,?_⟩
 refine ob (fun k j hk hj=>by
  have hj:j<1:=hj
  match j,hj with
  |0,_=>rfl) ?_
 have e:Nat.min l.length l.length=l.length:=Nat.min_self _
 refine aC.le (x:=.s (.d (.fW l.length 1 (W7 ty3.zero (Nat.min l.length l.length) (eH l))))) (aL.fW fun i j hi hj=>aL.of_eq ?_)
 rw[e]
 exact HG hi
structure fV.small(y:fV):Prop where
 aP:y.aP.length≤1000000
 a8:y.a8.length≤1000000
 bC:y.bC.length≤1000000
 carry:y.carry.length≤1000000
 aT:∀x∈y.aP,x.aT.length≤1000000
theorem xX{α:Type} [Inhabited α] {z:List Value}{s:Nat}{el:α→Nat→DV}(l:List α):gT s l.length (W7 z l.length (fun i=>el (l.getD i default))) el l:=
 ⟨rfl,fun _ _ hi _=>HG hi⟩
theorem MF(l:List tD)(i:Nat):gT 6 l.length (fL (DB l) i 4 [.d (cE (l.getD i default).aT)]) VO l:=by
 refine⟨rfl,fun k j hk hj=>?_⟩
 unfold fL
 by_cases h:k=i
 ·subst h
  rw[if_pos rfl]
  match j,hj with
  |0,_=>rfl
  |1,_=>rfl
  |2,_=>rfl
  |3,_=>rfl
  |4,_=>rfl
  |5,_=>rfl
 ·rw[if_neg h];rfl
theorem copied(y:fV)(h:y.small):aF prog 88 [r8 y] (r8 y):=by
 have hp:=h.aP
 by_cases h0:y.aP=[]
 ·refine eP func88 rfl rfl call88 rfl rfl fun cx aA=>?_
  refine aB (W5 y.aP h.aP) ?_
  refine aB (uD y.a8 h.a8) ?_
  refine aB (KI y.bC h.bC) ?_
  refine aB (sZ y.carry h.carry) ?_
  refine aD ?_
  have hz:y.aP.length=0:=by rw[h0];rfl
  refine AW.loop (fun _:Nat=>⟨[(2,.s (.ptr 2 0)),(3,.s (.ptr 3 0)),(20,vI y.aP.length),(21,vI 0)],[(2,some (.cells (iS ty88.zero))),(3,some (.cells (tF y)))]⟩) (fun _=>True) (fun _=>0) 0 trivial ?_ ?_
  ·refine Sub.bO aA ⟨rQ,rQ,oO⟩ ⟨rQ,rQ,rQ,rQ,oO⟩
  ·rintro i -
   refine eX aA ?_
   refine aI (fun h5=>?_) (fun h5=>?_)
   ·have h5:(0:Int)<y.aP.length:=bL h5
    omega
   ·exact aC.refl _
 ·have x7:0<y.aP.length:=List.length_pos_iff.2 h0
  refine fU (rc:=[1000159]) (N:=38) func88 rfl rfl call88 aJ mix rfl rfl (fun cx aA=>?_)
  refine⟨[(9,501)],_,_,_,_,zJ y.aP x7 h.aP,rfl,rfl,rfl,?_⟩
  refine aB (uD y.a8 h.a8) ?_
  refine aB (KI y.bC h.bC) ?_
  refine aB (sZ y.carry h.carry) ?_
  refine aD ?_
  refine AW.cV (fun i:Nat=>⟨[(2,.s (.ptr 2 0)),(3,.s (.ptr 3 0)),(20,vI y.aP.length),(21,vI i)],[(2,some (.cells (iS ty88.zero))),(3,some (.cells [.own 501,.d (oA y.a8),.d (KE y.bC),.d (cE y.carry)])),(501,some (.row 69 y.aP.length 6 (DB y.aP)))]⟩) (fun i=>i≤y.aP.length) (fun i=>y.aP.length - i) 0 (Nat.zero_le _) ?_ ?_
  ·exact aS.bO aA [] rfl ⟨bQ,bQ,⟨rfl,(xX (el:=VO) y.aP).row⟩,oO⟩ ⟨qZ,qZ,qZ,qZ,oO⟩
  ·intro i hi
   refine eX aA ?_
   refine aI (fun h5=>?_) (fun h5=>?_)
   ·have h5:(i:Int)<y.aP.length:=bL h5
    refine oi ⟨oM,oM⟩ ?_
    refine oi (by show(i:Int).toNat<y.aP.length;omega) ?_
    refine aB (sZ (y.aP.getD i default).aT (h.aT _ (cT oM))) ?_
    refine oi ⟨oM,oM⟩ ?_
    refine ob (by show(i:Int).toNat<y.aP.length;omega) ?_
    refine aD ?_
    refine⟨i+1,oM,oM,?_⟩
    exact aS.bO aA [] rfl ⟨bQ,bQ,⟨rfl,(MF y.aP i).row⟩,oO⟩ ⟨qZ,qZ,qZ,⟨rfl,aU.int (aG oM oM)⟩,oO⟩
   ·exact aC.refl _
def AK(p:List tD)(b:List mM):fV:=⟨p,b,[],List.replicate b.length 0⟩
def noY:fV:=⟨[],[],[],[]⟩
def N0(p:List tD)(b:List mM):Int:=kA (AK p b)
def F2(p:List tD)(b:List mM):fV:=bif N0 p b !=0 then noY else AK p b
theorem CF{p:List tD}{b:List mM}(h:(AK p b).small)(h1:∀x∈p,x.name.size≤9223372036854775807)(h2:∀x∈b,x.aO.size≤9223372036854775807):(AK p b).fits where
 aP:=by have:=h.aP;omega
 a8:=by have:=h.a8;omega
 bC:=by have:=h.bC;omega
 carry:=by have:=h.carry;omega
 uQ:=h1
 qG:=h2
 aT:=fun x hx=>by have:=h.aT x hx;omega
theorem X1(n:Nat):aL (.fW n 1 fun _ j=>match (iS [Value.int .i64 0])[j]? with|some c=>MW c|none=>.bF) (cE (List.replicate n 0)):=by
 refine aL.zZ sM fun i j hi hj=>?_
 have:j=0:=oM
 subst this
 refine aL.of_eq ?_
 show dI 0=dI _
 rw[a7 (by simpa using hi)]
 simp
theorem aKS(p:List tD)(b:List mM)(h:(AK p b).small)(h1:∀x∈p,x.name.size≤9223372036854775807)(h2:∀x∈b,x.aO.size≤9223372036854775807):
  aF prog 31 [uM p,zT b] (.t [.g (tF (F2 p b)),.s (.d (dI (N0 p b)))]):=by
 have hb:=h.a8
 have hb:b.length≤1000000:=hb
 refine fU (rc:=[2000088]) (N:=22) func31 rfl rfl call31 aJ mix rfl rfl (fun cx aA=>?_)
 refine⟨oM,Int.le_refl _,by show(8:Int)*(b.length:Int)≤281474976710656;omega,?_⟩
 refine aB ((aA1 (AK p b) (CF h h1 h2)).conv (args':=_) ⟨⟨aL.refl _,aL.refl _,aL.nil,X1 _,oO⟩,oO⟩) ?_
 refine aI (fun h5=>?_) (fun h5=>?_)
 ·have hr:F2 p b=noY:=by unfold F2 N0;rw[h5];rfl
  rw[hr]
  exact aC.t ⟨⟨aL.nil,aL.nil,aL.nil,aL.nil,oO⟩,aL.refl _,oO⟩
 ·have hr:F2 p b=AK p b:=by unfold F2 N0;rw[h5];rfl
  have h0:N0 p b=0:=by unfold N0;simpa using h5
  rw[hr,h0]
  refine⟨[12],_,(copied (AK p b) h).conv (args':=_) ⟨⟨aL.refl _,aL.refl _,aL.nil,X1 _,oO⟩,oO⟩,?_⟩
  exact aC.refl _
structure Proj.fits(p:Proj):Prop where
 name:p.name.size≤9223372036854775807
 aW:p.aW.levels.length≤9223372036854775807
 chan:p.chan.ok
 regions:p.chan.regions.length≤9223372036854775807
 gr:p.gr.fits
 cI:p.cI.length≤9223372036854775807
 cN:p.cN.length≤9223372036854775807
 small:(AK p.aP p.a8).small
 uQ:∀x∈p.aP,x.name.size≤9223372036854775807
 qG:∀x∈p.a8,x.aO.size≤9223372036854775807
def fJ(p:Proj):Int:=
 bif !isName p.name then 4
 else bif jP p.aW !=0 then jP p.aW
 else bif decide (p.aW.side>1000)||decide ((p.aW.levels.length:Int)>100)then 8
 else bif l8 p.chan !=0 then l8 p.chan
 else bif dP p.gr !=0 then dP p.gr
 else bif !within p.agree 0 1000|| !within p.eU 0 1000000 then 2
 else bif mN p !=0 then mN p
 else N0 p.aP p.a8
theorem uF(p:Proj)(h:p.fits):aF prog 8 [vE p] (vI (fJ p)):=by
 refine eP func8 rfl rfl call8 rfl rfl fun cx aA=>?_
 refine aB (AI p.name h.name) ?_
 refine aI (fun h1=>?_) (fun h1=>?_)
 ·exact aC.of_eq (by unfold fJ;rw[h1];rfl)
 refine aB (SQ p.aW h.aW) ?_
 refine aI (fun h2=>?_) (fun h2=>?_)
 ·exact aC.of_eq (by unfold fJ;rw[h1,h2];rfl)
 repeat refine aR ?_
 refine aI (fun h3=>?_) (fun h3=>?_)
 ·exact aC.of_eq (by unfold fJ;rw[h1,h2,h3];rfl)
 refine aB (aAK p.chan h.chan) ?_
 refine aI (fun h4=>?_) (fun h4=>?_)
 ·exact aC.of_eq (by unfold fJ;rw[h1,h2,h3,h4];rfl)
 refine aB (D6 p.gr h.gr) ?_
 refine aI (fun h5=>?_) (fun h5=>?_)
 ·exact aC.of_eq (by unfold fJ;rw[h1,h2,h3,h4,h5];rfl)
 refine aB (lQ 0 1000 p.agree rfl) ?_
 repeat refine aR ?_
 have rest:(!within p.agree 0 1000|| !within p.eU 0 1000000)=true→fJ p=2:=fun h6=>by unfold fJ;rw[h1,h2,h3,h4,h5,h6];rfl
 refine aI (fun h6=>?_) (fun h6=>?_)
 ·refine ob (by rw[h6];rfl) ?_
  refine aB (lQ 0 1000000 p.eU rfl) ?_
  repeat refine aR ?_
  refine aI (fun h7=>?_) (fun h7=>?_)
  ·have h7:(!within p.eU 0 1000000)=true:=h7
   exact aC.of_eq (by rw[rest (by rw[h6,h7];rfl)];rfl)
  have h7:(!within p.eU 0 1000000)=false:=h7
  have h8:(!within p.agree 0 1000|| !within p.eU 0 1000000)=false:=by rw[h6,h7];rfl
  refine aB (PU p h.gr.bE h.cI) ?_
  refine aI (fun h9=>?_) (fun h9=>?_)
  ·have ht:mN p=qX p:=by unfold mN;rw[h9];rfl
   exact aC.of_eq (by unfold fJ;rw[h1,h2,h3,h4,h5,h8,ht,h9];rfl)
  have ht:mN p=qV p:=by unfold mN;rw[h9];rfl
  refine aB (IS p h.regions h.cN) ?_
  refine aI (fun h10=>?_) (fun h10=>?_)
  ·exact aC.of_eq (by unfold fJ;rw[h1,h2,h3,h4,h5,h8,ht,h10];rfl)
  refine aB (aKS p.aP p.a8 h.small h.uQ h.qG) ?_
  exact aC.of_eq (by unfold fJ;rw[h1,h2,h3,h4,h5,h8,ht,h10];rfl)
 ·have h6:(!within p.agree 0 1000)=true:=h6
  exact aC.of_eq (by rw[rest (by rw[h6];rfl)];rfl)
theorem aFL(p:Proj)(h:(AK p.aP p.a8).small):aF prog 39 [vE p] (r8 (AK p.aP p.a8)):=by
 have hb:p.a8.length≤1000000:=h.a8
 refine eP func39 rfl rfl call39 rfl rfl fun cx aA=>?_
 refine⟨oM,Int.le_refl _,by show(8:Int)*(p.a8.length:Int)≤281474976710656;omega,?_⟩
 refine aD ?_
 exact aC.le ⟨aL.refl _,aL.refl _,aL.nil,X1 _,oO⟩
theorem yG(p:Proj)(h:p.fits):aF prog 9 [vE p] (vI (fJ p)):=by
 refine eP func9 rfl rfl call9 rfl rfl fun cx aA=>?_
 refine aB (rT p.name h.name) ?_
 refine aI (fun h1=>?_) (fun h1=>?_)
 ·exact aC.of_eq (by unfold fJ;rw[h1];rfl)
 refine aB (aHW p.aW h.aW) ?_
 refine aI (fun h2=>?_) (fun h2=>?_)
 ·exact aC.of_eq (by unfold fJ;rw[h1,h2];rfl)
 repeat refine aR ?_
 refine aI (fun h3=>?_) (fun h3=>?_)
 ·exact aC.of_eq (by unfold fJ;rw[h1,h2,h3];rfl)
 refine aB (aFT p.chan h.chan) ?_
 refine aI (fun h4=>?_) (fun h4=>?_)
 ·exact aC.of_eq (by unfold fJ;rw[h1,h2,h3,h4];rfl)
 refine aB (K3 p.gr h.gr) ?_
 refine aI (fun h5=>?_) (fun h5=>?_)
 ·exact aC.of_eq (by unfold fJ;rw[h1,h2,h3,h4,h5];rfl)
 refine aB (cD _ _ _) ?_
 repeat refine aR ?_
 refine bS (cD _ _ _) ?_
 repeat refine aR ?_
 refine aI (fun h6=>?_) (fun h6=>?_)
 ·exact aC.of_eq (by unfold fJ;rw[h1,h2,h3,h4,h5,h6];rfl)
 refine aB (NR p h.gr.bE h.cI h.regions h.cN) ?_
 refine aI (fun h7=>?_) (fun h7=>?_)
 ·exact aC.of_eq (by unfold fJ;rw[h1,h2,h3,h4,h5,h6,h7];rfl)
 refine aB (aFL p h.small) ?_
 refine aB (aCF (AK p.aP p.a8) (CF h.small h.uQ h.qG)) ?_
 exact aC.of_eq (by unfold fJ;rw[h1,h2,h3,h4,h5,h6,h7];rfl)
abbrev IM(f:Fact):List SV:=[.d (dI f.kind),.d (dI f.seq),.d (dI f.bM),.d (dI f.month),.d (dI f.number),.d (dI f.aW),.d (dI f.over),.d (dI f.cls),.d (dI f.target),.d (dS f.aO),.d (dS f.dO),.d (dS f.eO),.d (cE f.levels)]
def jN(f:Fact):Bool:= !within f.month 1 24|| !within f.aW 1 1000000000000|| !within f.over 0 f.aW|| !within f.cls 0 9
def iZ(f:Fact):Int:=
 bif !within f.seq 0 1000000 then 2
 else bif f.kind==0 then(bif f.levels.any iR then 2 else bif decide ((f.levels.length:Int)>100)then 8 else 0)
 else bif f.kind==1 then(bif jN f then 2 else bif !isName f.aO|| !isName f.dO then 4 else 0)
 else 0
theorem VE(n:Int):aF prog 107 [vI n] (vB (iR n)):=by
 refine eP func107 rfl rfl call107 rfl rfl fun cx _=>?_
 repeat refine aR ?_
 refine aI (fun h=>?_) (fun h=>?_)
 ·refine ob (by rw[h];rfl) ?_
  refine aB (lQ (-20000) 20000 n rfl) ?_
  repeat refine aR ?_
  exact aC.of_eq (by show vB _=vB _;unfold iR;rw[h];rfl)
 ·have h:(n !=30000)=false:=h
  exact aC.lit (by unfold iR;rw[h];rfl)
structure Fact.fits(f:Fact):Prop where
 levels:f.levels.length≤9223372036854775807
 aO:f.aO.size≤9223372036854775807
 dO:f.dO.size≤9223372036854775807
 eO:f.eO.size≤9223372036854775807
theorem tA(f:Fact)(hf:f.fits):aF prog 46 [p8 f] (vI (iZ f)):=by
 refine eP func46 rfl rfl call46 rfl rfl fun cx _=>?_
 refine aB (lQ 0 1000000 f.seq rfl) ?_
 refine aI (fun h1=>?_) (fun h1=>?_)
 ·exact aC.of_eq (by unfold iZ;rw[h1];rfl)
 refine aI (fun h2=>?_) (fun h2=>?_)
 ·have h2:(f.kind==0)=true:=h2
  refine aB ((sY f.levels hf.levels 107 0 (fun _=>.bF) iR (fun x _=>VE x)).conv (args':=_) ⟨aL.refl _,aL.dR fun j hj=>absurd hj (Nat.not_lt_zero j),oO⟩) ?_
  refine aI (fun h3=>?_) (fun h3=>?_)
  ·exact aC.of_eq (by unfold iZ;rw[h1,h2,h3];rfl)
  refine aI (fun h4=>?_) (fun h4=>?_)
  ·exact aC.of_eq (by unfold iZ;rw[h1,h2,h3,h4];rfl)
  ·exact aC.of_eq (by unfold iZ;rw[h1,h2,h3,h4];rfl)
 have h2:(f.kind==0)=false:=h2
 refine aI (fun h3=>?_) (fun h3=>?_)
 ·have h3:(f.kind==1)=true:=h3
  refine aB (lQ 1 24 f.month rfl) ?_
  repeat refine aR ?_
  have bad:jN f=true→iZ f=2:=fun h=>by unfold iZ;rw[h1,h2,h3,h];rfl
  refine aI (fun h4=>?_) (fun h4=>?_)
  ·refine ob (by rw[h4];rfl) ?_
   refine aB (lQ 1 1000000000000 f.aW rfl) ?_
   repeat refine aR ?_
   refine aI (fun h5=>?_) (fun h5=>?_)
   ·have h5':(!within f.aW 1 1000000000000)=false:=h5
    refine ob (by rw[h5];rfl) ?_
    refine ob (by rw[h5];rfl) ?_
    refine aB (lQ 0 f.aW f.over rfl) ?_
    repeat refine aR ?_
    refine aI (fun h6=>?_) (fun h6=>?_)
    ·have h6':(!within f.over 0 f.aW)=false:=h6
     refine ob (by rw[h6];rfl) ?_
     refine aB (lQ 0 9 f.cls rfl) ?_
     repeat refine aR ?_
     refine aI (fun h7=>?_) (fun h7=>?_)
     ·have h7':(!within f.cls 0 9)=true:=h7
      exact aC.of_eq (by rw[bad (by unfold jN;rw[h4,h5',h6',h7'];rfl)];rfl)
     have h7':(!within f.cls 0 9)=false:=h7
     have hb:jN f=false:=by unfold jN;rw[h4,h5',h6',h7'];rfl
     refine aB (AI f.aO hf.aO) ?_
     repeat refine aR ?_
     refine bS (AI f.dO hf.dO) ?_
     repeat refine aR ?_
     refine aI (fun h8=>?_) (fun h8=>?_)
     ·have h8:(!isName f.aO|| !isName f.dO)=true:=h8
      exact aC.of_eq (by unfold iZ;rw[h1,h2,h3,hb,h8];rfl)
     ·have h8:(!isName f.aO|| !isName f.dO)=false:=h8
      exact aC.of_eq (by unfold iZ;rw[h1,h2,h3,hb,h8];rfl)
    ·have h6':(!within f.over 0 f.aW)=true:=h6
     exact aC.of_eq (by rw[bad (by unfold jN;rw[h4,h5',h6'];rfl)];rfl)
   ·have h5':(!within f.aW 1 1000000000000)=true:=h5
    exact aC.of_eq (by rw[bad (by unfold jN;rw[h4,h5'];rfl)];rfl)
  ·have h4:(!within f.month 1 24)=true:=h4
   exact aC.of_eq (by rw[bad (by unfold jN;rw[h4];rfl)];rfl)
 have h3:(f.kind==1)=false:=h3
 exact aC.of_eq (by unfold iZ;rw[h1,h2,h3];rfl)
theorem aFI(n:Int):aF prog 170 [vI n] (vB (!iR n)):=by
 refine eP func170 rfl rfl call170 rfl rfl fun cx _=>?_
 repeat refine aR ?_
 refine bS (cD _ _ _) ?_
 repeat refine aR ?_
 refine aC.of_eq ?_
 show vB (n==30000||within n (-20000) 20000)=vB (!iR n)
 unfold iR
 cases h:n==30000 <;> simp[bne,h]
theorem aFJ(f:Fact):aF prog 44 [p8 f] (vI (bif f.kind==3 then f.target else f.kind)):=by
 refine eP func44 rfl rfl call44 rfl rfl fun cx _=>?_
 refine aI (fun h=>?_) (fun h=>?_)
 ·have h:(f.kind==3)=true:=h
  exact aC.of_eq (by rw[h];rfl)
 ·have h:(f.kind==3)=false:=h
  exact aC.of_eq (by rw[h];rfl)
def lW(f:Fact):Bool:=
 bif !within f.seq 0 1000000 then false else bif f.kind==1 then !jN f else bif f.kind==0 then !f.levels.any iR else true
theorem DC(f:Fact):(within f.month 1 24&&within f.aW 1 1000000000000&&within f.over 0 f.aW&&within f.cls 0 9)= !jN f:=by
 unfold jN
 cases within f.month 1 24 <;> cases within f.aW 1 1000000000000 <;> cases within f.over 0 f.aW <;> cases within f.cls 0 9 <;> rfl
theorem aB9(f:Fact)(hf:f.fits):aF prog 111 [p8 f] (vB (lW f)):=by
 have hl:=hf.levels
 refine eP func111 rfl rfl call111 rfl rfl fun cx aA=>?_
 refine aB (cD _ _ _) ?_
 refine aI (fun h1=>?_) (fun h1=>?_)
 ·exact aC.lit (by unfold lW;rw[h1];rfl)
 refine aI (fun h2=>?_) (fun h2=>?_)
 ·have h2:(f.kind==1)=true:=h2
  refine aB (cD _ _ _) ?_
  repeat refine aR ?_
  refine bS (cD _ _ _) ?_
  repeat refine aR ?_
  refine bS (cD _ _ _) ?_
  repeat refine aR ?_
  refine bS (cD _ _ _) ?_
  repeat refine aR ?_
  refine aC.of_eq ?_
  have he:lW f= !jN f:=by unfold lW;rw[h1,h2];rfl
  rw[he,←DC]
  rfl
 have h2:(f.kind==1)=false:=h2
 have he:lW f=bif f.kind==0 then !f.levels.any iR else true:=by unfold lW;rw[h1,h2];rfl
 refine AW.loop (fun i:Nat=>⟨[(1,.s (.ptr 1 0)),(3,vI i),(2,.s (.d (.lit false)))],[(1,some (.cells (IM f)))]⟩) (fun i=>i≤f.levels.length∧f.levels.any iR=(f.levels.drop i).any iR) (fun i=>f.levels.length - i) 0 ⟨Nat.zero_le _,rfl⟩ ?_ ?_
 ·refine Sub.bO aA ⟨rQ,oO⟩ ⟨rQ,rQ,rQ,oO⟩
 ·rintro i ⟨hi,hj⟩
  refine eX aA ?_
  repeat refine aR ?_
  refine aI (fun h5=>?_) (fun h5=>?_)
  ·have h5:(decide ((i:Int)<f.levels.length)&&f.kind==0)=true:=h5
   simp only [Bool.and_eq_true,decide_eq_true_eq]at h5
   obtain⟨h5,h0⟩:=h5
   have bK:i<f.levels.length:=oM
   have hd:f.levels.drop i=f.levels[i]::f.levels.drop (i+1):=List.drop_eq_getElem_cons bK
   have hg:f.levels.getD i 0=f.levels[i]:=a7 bK
   refine oi ⟨oM,oM⟩ ?_
   refine aB (aFI _) ?_
   rw[hd,List.any_cons,←hg]at hj
   refine aI (fun h6=>?_) (fun h6=>?_)
   ·have h6:(!(!iR (f.levels.getD i 0)))=true:=h6
    rw[Bool.not_not]at h6
    exact aC.lit (by rw[he,h0,hj,h6];rfl)
   ·have h6:(!(!iR (f.levels.getD i 0)))=false:=h6
    rw[Bool.not_not]at h6
    refine⟨i+1,⟨oM,by rw[hj,h6];rfl⟩,oM,?_⟩
    refine Sub.bO aA ⟨rQ,oO⟩ ⟨rQ,⟨rfl,?_⟩,rQ,oO⟩
    exact congrArg vI (aG oM oM)
  ·have h5:(decide ((i:Int)<f.levels.length)&&f.kind==0)=false:=h5
   refine aC.lit ?_
   rw[he]
   cases h0:f.kind==0 with
   |false=>rfl
   |true=>
    rw[h0,Bool.and_true]at h5
    have h5:=bG h5
    have bK:i=f.levels.length:=oM
    rw[hj,bK,List.drop_length];rfl
end Go.Pj
namespace Go.Ch
open Go Go.Ax Go.Proofs Go.Proofs.Tryz


def tS(l:List Int)(x:Int):Nat→Nat→Int
 |0,_=> -1
 |n+1,i=>bif x==l.getD i 0 then(i:Int)else tS l x n (i+1)
theorem aH0(l:List Int)(x:Int)(hl:l.length≤1000000):aF prog 353 [pK l,vI x] (vI (tS l x l.length 0)):=by
 refine eP func353 rfl rfl call353 rfl rfl fun cx aA=>?_
 refine AW.cV (fun i:Nat=>⟨[(0,pK l),(1,vI x),(7,vI l.length),(8,vI i)],[]⟩) (fun i=>i≤l.length∧tS l x l.length 0=tS l x (l.length - i) i) (fun i=>l.length - i) 0 ⟨Nat.zero_le _,rfl⟩ ?_ ?_
 ·exact aS.bO aA [] rfl trivial ⟨qZ,qZ,qZ,qZ,oO⟩
 ·rintro i ⟨hi,hj⟩
  refine eX aA ?_
  refine aI (fun h=>?_) (fun h=>?_)
  ·have h:(i:Int)<l.length:=bL h
   rw[show l.length - i=(l.length - (i+1))+1 by omega,tS]at hj
   refine oi ⟨oM,oM⟩ ?_
   refine aI (fun h2=>?_) (fun h2=>?_)
   ·have h2:(x==l.getD i 0)=true:=h2
    exact aC.of_eq (by rw[hj,h2];rfl)
   ·have h2:(x==l.getD i 0)=false:=h2
    refine⟨i+1,⟨oM,by rw[hj,h2];rfl⟩,oM,?_⟩
    exact aS.bO aA [] rfl trivial ⟨qZ,qZ,qZ,⟨rfl,aU.int (aG oM oM)⟩,oO⟩
  ·have h:¬(i:Int)<l.length:=bG h
   rw[show l.length - i=0 by omega]at hj
   exact aC.of_eq (by rw[hj];rfl)
theorem OO{l:List Int}{x:Int}:∀n i,i+n=l.length→decide (tS l x n i≥0)=(l.drop i).contains x
 |0,i,h=>by
  rw[List.drop_eq_nil_of_le oM];rfl
 |n+1,i,h=>by
  have hi:i<l.length:=oM
  rw[tS,List.drop_eq_getElem_cons hi]
  have e:l.getD i 0=l[i]:=by simp[hi]
  rw[e]
  cases hx:x==l[i]with
  |true=>
   simp only [cond_true,List.contains_cons,hx,Bool.true_or]
   exact decide_eq_true oM
  |false=>
   simp only [cond_false,List.contains_cons,hx,Bool.false_or]
   exact OO n (i+1) oM
theorem XN(l:List Int)(x:Int)(hl:l.length≤1000000):aF prog 328 [pK l,vI x] (vB (l.contains x)):=by
 refine eP func328 rfl rfl call328 rfl rfl fun cx aA=>?_
 refine aB (aH0 l x hl) ?_
 refine aC.of_eq ?_
 show vB (decide (tS l x l.length 0≥0))=_
 rw[OO l.length 0 oM];rfl
end Go.Ch
