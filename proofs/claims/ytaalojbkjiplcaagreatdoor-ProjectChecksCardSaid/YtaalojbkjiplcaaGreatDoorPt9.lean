/- Part 9: lemmas that the proofs of this seat share; by itself it claims nothing. -/
import Derived.WalkKit
import Derived.Lib.Walk
import Derived.Deep.RegionWith
import Derived.Handy
import Derived.Shelf.Slices.In.SortNone
import Derived.Test.YtaalojbkjiplcaaGreatDoorPt8
set_option maxRecDepth 100000
set_option maxHeartbeats 2000000
namespace Go.Ch
open Go Go.Ax Go.Proofs Go.Proofs.Tryz
theorem Mul64(n:Int)(h:0≤n)(k:n<4294967296):aF prog 355 [uI 1,uI n] (.t [.s (.d (duI 0)),.s (.d (duI n))]):=by
 refine eP func355 rfl rfl call355 rfl rfl fun cx _=>?_
 refine oi dC ?_
 refine oi dC ?_
 refine oi dC ?_
 refine oi dC ?_
 refine oi dC ?_
 refine aC.of_eq ?_
 have e1:XC .u64 1 4294967295=1:=andM dC dC
 have e2:YI .u64 1 32=0:=aFB dC dC
 have e3:=andM h k
 have e4:=aFB h k
 have e5:IntKind.u64.wrap n=n:=QO h oM
 have e6:IntKind.u64.wrap 0=0:=rfl
 have e7:XC .u64 0 4294967295=0:=andM dC dC
 have e8:YI .u64 0 32=0:=aFB dC dC
 show AV.t [.s (.d (.val (.int .u64 _))),.s (.d (.val (.int .u64 _)))]=_
 simp only [e1,e2,e3,e4,e5,e6,e7,e8,Int.one_mul,Int.zero_mul,Int.mul_zero,Int.add_zero]
theorem Mul(n:Int)(h:0≤n)(k:n<4294967296):aF prog 329 [uI 1,uI n] (.t [.s (.d (duI 0)),.s (.d (duI n))]):=by
 refine eP func329 rfl rfl call329 rfl rfl fun cx _=>?_
 refine aB (Mul64 n h k) ?_
 exact aC.refl _
theorem aD2{f:Nat→Nat→DV}{v:Int}{n:Nat}(hf:f 0 0=dI v)(hn:n≤1000000):bT prog 278 [.s (.own 1001),vI n] [(1001,.row 3 1 1 f)] (.s (.own 30)) [(1001,.row 3 1 1 f),(30,.row 3 n 1 (BA v n))]:=by
 refine fC (rc:=[]) (N:=48) func278 rfl rfl call278 aJ mix rfl rfl rfl rfl (fun cx aA=>?_)
 refine aI (fun h=>absurd (bL h) oM) (fun _=>?_)
 have e1:IntKind.u64.wrap (1:Int)=1:=rfl
 have e2:IntKind.u64.wrap (n:Int)=n:=QO oM oM
 have hM:aF prog 329 [uI (IntKind.u64.wrap ((1:Nat):Int)),uI (IntKind.u64.wrap n)] (.t [.s (.d (duI 0)),.s (.d (duI n))]):=by
  rw[e2];exact Mul n oM oM
 refine aB hM ?_
 repeat first|refine sk ?_|refine st ?_|refine sg ?_
 refine aI (fun h=>?_) (fun _=>?_)
 ·have h:(decide ((0:Int)>0)||decide ((n:Int)>9223372036854775807))=true:=h
  simp only [gt_iff_lt,Int.lt_irrefl,decide_false,Bool.false_or,decide_eq_true_eq]at h
  omega
 have e3:IntKind.i64.wrap (n:Int)=n:=aG oM oM
 refine ob (show 0≤IntKind.i64.wrap (n:Int) by omega) ?_
 refine ob (Int.le_refl _) ?_
 refine ob (show((8:Nat):Int)*IntKind.i64.wrap (n:Int)≤_ by omega) ?_
 refine ob (fun k j hk hj=>?_) ?_
 ·obtain rfl:k=0:=oM
  obtain rfl:j=0:=oM
  rw[hf];rfl
 refine AW.cV (fun k:Nat=>⟨[(7,.s (.own 30)),(8,vI k)],[(30,some (.row 3 n 1 (BA v k))),(1001,some (.row 3 1 1 f))]⟩)
  (fun k=>k≤n∧(0<n→0<k)) (fun k=>n - k) (min 1 n) oM ?_ ?_
 ·refine aS.of [] (by rw[aA];rfl) rfl ⟨⟨rfl,aZ.row (by rw[e3];rfl) fun k j hk hj=>aL.of_eq ?_⟩,bQ,oO⟩ ⟨qZ,⟨rfl,aU.int ?_⟩,oO⟩
  ·have hj:j=0:=by have:j<1:=hj;omega
   subst hj
   have hk:k<(IntKind.i64.wrap (n:Int)).toNat:=hk
   rw[e3]at hk ⊢
   show(if 0≤k∧k<0+Nat.min 1 n then f (k - 0) 0 else dI 0)=(if k<min 1 n then dI v else dI 0)
   rw[Nat.zero_add]
   by_cases h1:k<min 1 n
   ·obtain rfl:k=0:=oM
    rw[if_pos h1,if_pos ⟨Nat.zero_le _,h1⟩,hf]
   ·rw[if_neg h1,if_neg (fun h=>h1 h.2)]
  ·rw[e3];rfl
 ·intro k ⟨hk,RO⟩
  refine eX aA ?_
  refine aI (fun h=>?_) (fun h=>?_)
  ·have h:(k:Int)<n:=bL h
   refine oi (show 0≤(k:Int)∧(k:Int)≤(n:Int)∧(n:Int)≤n by omega) ?_
   refine oi (show(0:Int)≤0∧(0:Int)≤(k:Int)∧(k:Int)≤n by omega) ?_
   refine ob (fun i j _ _=>?_) ?_
   ·show(if 0+i<k then dI v else dI 0).fit=true
    split <;> rfl
   refine aD ?_
   have hq:Nat.min (k - 0) (n - k)≤k:=Nat.min_le_left _ _
   have hq2:Nat.min (k - 0) (n - k)≤n - k:=Nat.min_le_right _ _
   have hq3:0<Nat.min (k - 0) (n - k):=Nat.lt_min.2 ⟨oM,oM⟩
   refine⟨k+Nat.min (k - 0) (n - k),⟨oM,oM⟩,oM,?_⟩
   refine aS.of [] (by rw[aA];rfl) rfl ⟨⟨rfl,aZ.row rfl fun i j hi hj=>aL.of_eq ?_⟩,bQ,oO⟩ ⟨qZ,⟨rfl,aU.int ?_⟩,oO⟩
   ·show MD k (Nat.min (k - 0) (n - k)) (BA v k) (fun i=>BA v k (0+i)) i j=_
    exact aA5 hq
   ·show aV ((k:Int)+((Nat.min (k - 0) (n - k):Nat):Int))=_
    rw[aG oM oM];omega
  ·have h:¬(k:Int)<n:=bG h
   obtain rfl:k=n:=oM
   exact⟨aU.rfl,rfl,rfl,oO⟩
theorem aH1(g:eZ)(hg:EO g):bT prog 230 [w3 g] [] (.g [.d (dI g.x),.d (dI g.y),.d (dI g.side),.d (dI g.dL),.d (dI g.rows),.own 601]) [(601,.row 3 g.levels.length 1 (BA 30000 g.levels.length))]:=by
 have hn:=hg.n
 have e:aV (g.dL*g.rows)=(g.levels.length:Int):=by rw[←hg.len];exact aG oM oM
 refine fC (rc:=[278]) (N:=12) func230 rfl rfl call230 aJ mix rfl rfl rfl rfl (fun cx _=>?_)
 refine⟨[(1001,3),(30,601)],_,_,_,_,aD2 (v:=30000) (n:=g.levels.length) rfl oM,congrArg (fun n=>[_,vI n]) e,⟨rfl,oO⟩,rfl,?_⟩
 exact⟨aU.rfl,rfl,oO⟩
def yK(c:jS)(g:eZ)(less:Int):eZ×Int:=bif lV c [g] !=0 then(X3,lV c [g])else(lX c g less,0)
def dgP(c:jS)(g:eZ)(less:Int)(i:Nat):Nat→Nat→DV:=fun k _=>dI (if k<i then KK c g less k else 30000)
attribute [local irreducible] jP l8 in
theorem aKG(c:jS)(g:eZ)(less:Int)(hc:c.ok)(hg:g.ok):aF prog 179 [chan c,w3 g,vI less] (rGE (yK c g less).1 (yK c g less).2):=by
 refine fU (rc:=[230]) (N:=46) func179 rfl rfl call179 aJ mix rfl rfl (fun cx aA=>?_)
 refine aB (aK2 c g hc hg) ?_
 refine aI (fun h1=>?_) (fun h1=>?_)
 ·have h1:(lV c [g] !=0)=true:=h1
  have e:yK c g less=(X3,lV c [g]):=by unfold yK;rw[h1];rfl
  rw[e]
  exact X2 rfl
 have h1:(lV c [g] !=0)=false:=h1
 have h0:lV c [g]=0:=by simpa using h1
 obtain⟨e1,e2⟩:=H2 h0
 have e:yK c g less=(lX c g less,0):=by unfold yK;rw[h1];rfl
 rw[e]
 have hv:=aE4 c e1
 have gv:=EO.of e2
 have hn:=gv.n
 refine⟨[(601,601)],_,_,_,_,aH1 g gv,rfl,trivial,rfl,?_⟩
 refine AW.cV (fun i:Nat=>⟨[(2,vI less),(3,.s (.ptr 3 0)),(4,.s (.ptr 4 0)),(6,.s (.ptr 6 0)),(9,.s (.ptr 9 0)),(24,vI g.levels.length),(25,vI i)],
   [(3,some (HH c)),(4,some (aJ9 g)),(6,some (.cells [.d (dI 0),.d (dI 0),.d (dI 0),.d (dI 0),.d (dI 0),.d (.val (.slice none 0 0))])),(9,some (.cells [.d (dI g.x),.d (dI g.y),.d (dI g.side),.d (dI g.dL),.d (dI g.rows),.own 601])),(601,some (.row 3 g.levels.length 1 (dgP c g less i)))]⟩)
  (fun i=>i≤g.levels.length) (fun i=>g.levels.length - i) 0 (Nat.zero_le _) ?_ ?_
 ·refine aS.bO aA [] rfl ⟨bQ,bQ,bQ,bQ,⟨rfl,aZ.row rfl fun k j hk _=>aL.of_eq ?_⟩,oO⟩ ⟨qZ,qZ,qZ,qZ,qZ,qZ,qZ,oO⟩
  unfold BA dgP
  rw[if_pos hk,if_neg (Nat.not_lt_zero k)]
 ·intro i hi
  refine ex.sound (rc:=[230]) aJ mix aA _ ?_
  refine aI (fun h=>?_) (fun h=>?_)
  ·have h:(i:Int)<g.levels.length:=bL h
   have bK:i<g.levels.length:=oM
   have hgd:=(PX gv bK).1
   refine aB (aDR g i e2 oM h oM) ?_
   refine aB (aG0 c (dG g i) hv hgd) ?_
   refine aD ?_
   refine aI (fun h2=>?_) (fun h2=>?_)
   ·have h2:(SC c (dG g i)).2=true:=h2
    have e:KK c g less i=aV ((SC c (dG g i)).1 - less):=by unfold KK;rw[h2];rfl
    refine oi ⟨oM,oM⟩ ?_
    refine ob bK ?_
    refine⟨i+1,oM,oM,?_⟩
    refine aS.bO aA [] rfl ⟨bQ,bQ,bQ,bQ,⟨rfl,aZ.row rfl fun k j hk hj=>aL.of_eq ?_⟩,oO⟩ ⟨qZ,qZ,qZ,qZ,qZ,qZ,⟨rfl,aU.int (aG oM oM)⟩,oO⟩
    have hj:j=0:=by have:j<1:=hj;omega
    subst hj
    by_cases QJ:k=i
    ·subst QJ
     refine wK.trans ?_
     unfold dgP
     rw[if_pos (Nat.lt_succ_self _),e]
    ·refine(B8 QJ).trans ?_
     unfold dgP
     by_cases fR:k<i
     ·rw[if_pos fR,if_pos oM]
     ·rw[if_neg fR,if_neg oM]
   ·have h2:(SC c (dG g i)).2=false:=h2
    have e:KK c g less i=30000:=by unfold KK;rw[h2];rfl
    refine⟨i+1,oM,oM,?_⟩
    refine aS.bO aA [] rfl ⟨bQ,bQ,bQ,bQ,⟨rfl,aZ.row rfl fun k j hk hj=>aL.of_eq ?_⟩,oO⟩ ⟨qZ,qZ,qZ,qZ,qZ,qZ,⟨rfl,aU.int (aG oM oM)⟩,oO⟩
    unfold dgP
    by_cases QJ:k=i
    ·subst QJ
     rw[if_neg (Nat.lt_irrefl _),if_pos (Nat.lt_succ_self _),e]
    ·by_cases fR:k<i
     ·rw[if_pos fR,if_pos oM]
     ·rw[if_neg fR,if_neg oM]
  ·have h:¬(i:Int)<g.levels.length:=bG h
   have bK:i=g.levels.length:=oM
   subst bK
   refine aC.t ⟨⟨aL.refl _,aL.refl _,aL.refl _,aL.refl _,aL.refl _,aL.zZ (by simp[lX]) fun k j hk hj=>aL.of_eq ?_,oO⟩,aL.refl _,oO⟩
   unfold dgP eH
   rw[if_pos hk]
   congr 2
   simp[lX,hk]
theorem G0(c:jS)(g:eZ)(hc:c.ok)(hg:g.ok):aF prog 120 [chan c,w3 g] (rGE (yK c g c.over).1 (yK c g c.over).2):=by
 refine eP func120 rfl rfl call120 rfl rfl fun cx aA=>?_
 refine aB (aKG c g c.over hc hg) ?_
 exact aC.refl _
def hR(a b p:Pt):Bool:=(!(decide (a.x≤p.x)==decide (b.x≤p.x)))&&(decide (QT (mW a b p)<0)==decide (a.x<b.x))
def aIV(f:Nat→Bool):Nat→Bool
 |0=>false
 |n+1=>aIV f n !=f n
def aF0(l:List Pt)(p:Pt)(i:Nat):Bool:=iV (rF l i) (pJ l (i+1)) p
def aLX(l:List Pt)(p:Pt)(i:Nat):Bool:=hR (rF l i) (pJ l (i+1)) p
def aMJ(l:List Pt)(p:Pt):Int:=bif yD l.length (aF0 l p)then 0 else bif aIV (aLX l p) l.length then 1 else -1
def aLH(g:eZ)(l:List Pt)(i:Nat):Bool:=decide (aMJ l (dG g i)≥0)
def aLG(g:eZ)(l:List Pt)(i:Nat):List Int:=(List.range i).filterMap fun k=>bif aLH g l k then some (k:Int)else none
end Go.Ch
namespace Go.Pj
open Go Go.Ax Go.Ch Go.Proofs Go.Proofs.Tryz
def sqF(a b:Pt):Int:=bif [a,b].any (fun p=> !eR p)then 0 else dot a b b
theorem aHT(a b:Pt):aF prog 281 [pt a,pt b] (vI (sqF a b)):=by
 refine eP func281 rfl rfl call281 rfl rfl fun cx aA=>?_
 refine aB ((A2 [a,b] sM).conv (args':=_) ⟨aL.fW fun i j hi hj=>aL.of_eq ?_,oO⟩) ?_
 ·have hi:i<2:=hi
  have hj:j<2:=hj
  match i,j,hi,hj with
  |0,0,_,_=>rfl
  |0,1,_,_=>rfl
  |1,0,_,_=>rfl
  |1,1,_,_=>rfl
 refine aI (fun h=>?_) (fun h=>?_)
 ·have h:([a,b].any fun p=> !eR p)=true:=h
  exact aC.of_eq (by unfold sqF;rw[h];rfl)
 ·have h:([a,b].any fun p=> !eR p)=false:=h
  refine aB (aKE a b b) ?_
  exact aC.of_eq (by unfold sqF;rw[h];rfl)
def KM(n:Int):Bool:= !within n (-20000) 20000
theorem aNK(n:Int):aF prog 234 [vI n] (vB (KM n)):=by
 refine eP func234 rfl rfl call234 rfl rfl fun cx aA=>?_
 refine aB (NG n) ?_
 exact aC.refl _
def EN(g:Ground)(p:Pt)(l:List Int):Int:=bif dP g !=0 then dP g else bif !eR p||l.any KM then 2 else 0
theorem asked(g:Ground)(p:Pt)(l:List Int)(hg:g.fits)(hl:l.length≤9223372036854775807):aF prog 182 [RZ g,pt p,pK l] (vI (EN g p l)):=by
 refine eP func182 rfl rfl call182 rfl rfl fun cx aA=>?_
 refine aB (D6 g hg) ?_
 refine aI (fun h=>?_) (fun h=>?_)
 ·have h:(dP g !=0)=true:=h
  exact aC.of_eq (by unfold EN;rw[h];rfl)
 have h:(dP g !=0)=false:=h
 refine aB (Y4 p) ?_
 repeat refine aR ?_
 refine bS (sY l hl 234 0 (fun _=>.bF) KM (fun n _=>aNK n)) ?_
 repeat refine aR ?_
 refine aI (fun h2=>?_) (fun h2=>?_)
 ·have h2:(!eR p||l.any KM)=true:=h2
  exact aC.of_eq (by unfold EN;rw[h,h2];rfl)
 ·have h2:(!eR p||l.any KM)=false:=h2
  exact aC.of_eq (by unfold EN;rw[h,h2];rfl)
def bPt(b:fF):Pt:=⟨b.x,b.y⟩
def NY(l:List fF)(p:Pt):Nat→Nat×Int
 |0=>(0,0)
 |i+1=>bif i==0||decide (sqF (bPt (l.getD i default)) p<(NY l p i).2)then(i,sqF (bPt (l.getD i default)) p)else NY l p i
theorem LC(l:List fF)(p:Pt):∀i,0<i→(NY l p i).1<i
 |0,h=>by omega
 |1,_=>Nat.lt_succ_self 0
 |i+2,_=>by
  have ih:=LC l p (i+1) oM
  rw[NY]
  cases(i+1==0||decide (sqF (bPt (l.getD (i+1) default)) p<(NY l p (i+1)).2))with
  |true=>exact Nat.lt_succ_self (i+1)
  |false=>exact Nat.lt_succ_of_lt ih
theorem nearest(g:Ground)(p:Pt)(hl:g.b6.length≤9223372036854775807):aF prog 235 [RZ g,pt p] (vI (NY g.b6 p g.b6.length).1):=by
 refine eP func235 rfl rfl call235 rfl rfl fun cx aA=>?_
 refine AW.cV (fun i:Nat=>⟨[(3,.s (.ptr 3 0)),(5,vI (NY g.b6 p i).1),(6,vI (NY g.b6 p i).2),(12,FA g.b6),(13,vI g.b6.length),(14,vI i)],[(3,some (ptB p))]⟩) (fun i=>i≤g.b6.length) (fun i=>g.b6.length - i) 0 (Nat.zero_le _) ?_ ?_
 ·exact aS.bO aA [] rfl ⟨bQ,oO⟩ ⟨qZ,qZ,qZ,qZ,qZ,qZ,oO⟩
 ·intro i hi
  refine eX aA ?_
  refine aI (fun h=>?_) (fun h=>?_)
  ·have h:(i:Int)<g.b6.length:=bL h
   refine oi ⟨oM,oM⟩ ?_
   refine aB (aHT (bPt (g.b6.getD i default)) p) ?_
   repeat refine aR ?_
   have ez:(((i:Nat):Int)==0)=(i==0):=by
    rw[Bool.eq_iff_iff];simp
   refine aI (fun h2=>?_) (fun h2=>?_)
   ·have h2:(((i:Nat):Int)==0||decide (sqF (bPt (g.b6.getD i default)) p<(NY g.b6 p i).2))=true:=h2
    rw[ez]at h2
    have e:NY g.b6 p (i+1)=(i,sqF (bPt (g.b6.getD i default)) p):=by rw[NY,h2];rfl
    refine⟨i+1,oM,oM,?_⟩
    exact aS.bO aA [] rfl ⟨bQ,oO⟩ ⟨qZ,⟨rfl,aU.int (by rw[e])⟩,⟨rfl,aU.int (by rw[e])⟩,qZ,qZ,⟨rfl,aU.int (aG oM oM)⟩,oO⟩
   ·have h2:(((i:Nat):Int)==0||decide (sqF (bPt (g.b6.getD i default)) p<(NY g.b6 p i).2))=false:=h2
    rw[ez]at h2
    have e:NY g.b6 p (i+1)=NY g.b6 p i:=by rw[NY,h2];rfl
    refine⟨i+1,oM,oM,?_⟩
    exact aS.bO aA [] rfl ⟨bQ,oO⟩ ⟨qZ,⟨rfl,aU.int (by rw[e])⟩,⟨rfl,aU.int (by rw[e])⟩,qZ,qZ,⟨rfl,aU.int (aG oM oM)⟩,oO⟩
  ·have h:¬(i:Int)<g.b6.length:=bG h
   obtain rfl:i=g.b6.length:=oM
   exact aC.refl _
def B1(l:List q9)(hi:Int)(i:Nat):Int:=bif decide ((i:Int)>0)then mm false hi (l.getD i default).top else hi
def EM(l:List q9)(lo:Int)(i:Nat):Int:=bif decide (((i+1:Nat):Int)<l.length)then mm true lo (l.getD (i+1) default).top else lo
def VV(l:List q9)(hi lo:Int)(i:Nat):Option Part:=bif decide (B1 l hi i>EM l lo i)then some ⟨(l.getD i default).aO,B1 l hi i,EM l lo i⟩else none
def mL(l:List q9)(hi lo:Int)(n:Nat):List Part:=(List.range n).filterMap (VV l hi lo)
theorem W2(l:List q9)(hi lo:Int)(n:Nat):mL l hi lo (n+1)=mL l hi lo n++(VV l hi lo n).toList:=by
 unfold mL
 rw[cW]
theorem PQ(l:List q9)(hi lo:Int)(n:Nat):(mL l hi lo n).length≤n:=by
 have:=List.length_filterMap_le (VV l hi lo) (List.range n)
 rw[List.length_range]at this
 exact this
def tC(g:Ground)(p:Pt):fF:=g.b6.getD (NY g.b6 p g.b6.length).1 default
theorem column(g:Ground)(p:Pt)(hi lo:Int)(h0:0<g.b6.length)(hl:g.b6.length≤9223372036854775807)(hy:(tC g p).bA.length≤1000000):
  aF prog 183 [RZ g,pt p,vI hi,vI lo] (gP (mL (tC g p).bA hi lo (tC g p).bA.length)):=by
 have fR:=LC g.b6 p g.b6.length h0
 refine eW func183 rfl rfl call183 rfl rfl (fun cx aA=>?_)
 refine sX aA ?_
 refine sX aA ?_
 refine aB (nearest g p hl) ?_
 refine oi ⟨oM,oM⟩ ?_
 refine aD ?_
 generalize hL:(tC g p).bA=L at hy
 have hL':(g.b6.getD (NY g.b6 p g.b6.length).1 default).bA=L:=hL
 refine AW.gG (σ':=⟨[(2,vI hi),(3,vI lo),(9,.s (.ptr 9 0))],[(9,some (.cells [.d .bF,.d .bF,.d .bF,.d (lY L)]))]⟩) (aS.bO aA [] rfl ⟨⟨rfl,aZ.cells ⟨aU.d fun _ _ _=>trivial,aU.d fun _ _ _=>trivial,aU.d fun _ _ _=>trivial,aU.of_eq (by rw[←hL'];rfl),oO⟩⟩,oO⟩ ⟨qZ,qZ,qZ,oO⟩) ?_
 refine sX aA ?_
 refine AW.seq (sX aA ?_)
 refine AW.block ?_
 refine AW.cV (fun i:Nat=>⟨[(2,vI hi),(3,vI lo),(9,.s (.ptr 9 0)),(10,.s (.mo (mL L hi lo i).isEmpty 100)),(24,zS L),(25,vI L.length),(26,vI i)],[(9,some (.cells [.d .bF,.d .bF,.d .bF,.d (lY L)])),(100,some (.cA 210 (mL L hi lo i).length 3 (uO (mL L hi lo i))))]⟩) (fun i=>i≤L.length) (fun i=>L.length - i) 0 (Nat.zero_le _) ?_ ?_
 ·exact aS.bO aA [(100,1000)] rfl ⟨bQ,⟨rfl,rfl⟩,oO⟩ ⟨qZ,qZ,qZ,⟨rfl,aU.nil rfl⟩,qZ,qZ,qZ,oO⟩
 ·intro i bK
  have hlen:=PQ L hi lo i
  have fA:=W2 L hi lo i
  refine sX aA ?_
  refine AW.seq (AW.cond ?_)
  refine aI (fun h=>AW.skip ?_) (fun h=>AW.exit ?_)
  ·have h:(i:Int)<L.length:=bL h
   have e1:aV ((i:Int)+1)=((i+1:Nat):Int):=aG oM oM
   refine AW.seq (AW.block ?_)
   refine sX aA ?_
   refine oi ⟨oM,oM⟩ ?_
   refine sX aA ?_
   refine AW.gG (σ':=⟨[(2,vI hi),(3,vI lo),(9,.s (.ptr 9 0)),(10,.s (.mo (mL L hi lo i).isEmpty 100)),(11,vI i),(12,.s (.ptr 12 0)),(13,vI hi),(14,vI lo),(24,zS L),(25,vI L.length),(26,vI i)],[(9,some (.cells [.d .bF,.d .bF,.d .bF,.d (lY L)])),(12,some (.cells [.d (dI (L.getD i default).top),.d (dS (L.getD i default).aO)])),(100,some (.cA 210 (mL L hi lo i).length 3 (uO (mL L hi lo i))))]⟩) (aS.bO aA [] rfl ⟨bQ,bQ,bQ,oO⟩ ⟨qZ,qZ,qZ,qZ,qZ,qZ,qZ,qZ,qZ,qZ,qZ,oO⟩) ?_
   refine AW.cut (σ':=⟨[(2,vI hi),(3,vI lo),(9,.s (.ptr 9 0)),(10,.s (.mo (mL L hi lo i).isEmpty 100)),(11,vI i),(12,.s (.ptr 12 0)),(13,vI (B1 L hi i)),(14,vI lo),(24,zS L),(25,vI L.length),(26,vI i)],[(9,some (.cells [.d .bF,.d .bF,.d .bF,.d (lY L)])),(12,some (.cells [.d (dI (L.getD i default).top),.d (dS (L.getD i default).aO)])),(100,some (.cA 210 (mL L hi lo i).length 3 (uO (mL L hi lo i))))]⟩) ?_ ?_
   ·refine sX aA ?_
    refine AW.cond ?_
    refine aI (fun h1=>?_) (fun h1=>AW.skip ?_)
    ·have h1:decide ((i:Int)>0)=true:=h1
     refine eX aA ?_
     exact⟨rfl,aS.bO aA [] rfl ⟨bQ,bQ,bQ,oO⟩ ⟨qZ,qZ,qZ,qZ,qZ,qZ,⟨rfl,aU.int (by unfold B1;rw[h1];rfl)⟩,qZ,qZ,qZ,qZ,oO⟩⟩
    ·have h1:decide ((i:Int)>0)=false:=h1
     exact⟨rfl,aS.bO aA [] rfl ⟨bQ,bQ,bQ,oO⟩ ⟨qZ,qZ,qZ,qZ,qZ,qZ,⟨rfl,aU.int (by unfold B1;rw[h1];rfl)⟩,qZ,qZ,qZ,qZ,oO⟩⟩
   refine AW.cut (σ':=⟨[(2,vI hi),(3,vI lo),(9,.s (.ptr 9 0)),(10,.s (.mo (mL L hi lo i).isEmpty 100)),(11,vI i),(12,.s (.ptr 12 0)),(13,vI (B1 L hi i)),(14,vI (EM L lo i)),(24,zS L),(25,vI L.length),(26,vI i)],[(9,some (.cells [.d .bF,.d .bF,.d .bF,.d (lY L)])),(12,some (.cells [.d (dI (L.getD i default).top),.d (dS (L.getD i default).aO)])),(100,some (.cA 210 (mL L hi lo i).length 3 (uO (mL L hi lo i))))]⟩) ?_ ?_
   ·refine sX aA ?_
    refine AW.cond ?_
    refine aI (fun h1=>?_) (fun h1=>AW.skip ?_)
    ·have h1:decide (aV ((i:Int)+1)<(L.length:Int))=true:=h1
     rw[e1]at h1
     have IJ:((i+1:Nat):Int)<L.length:=bL h1
     refine eX aA ?_
     refine oi (show 0≤aV ((i:Int)+1)∧aV ((i:Int)+1)<L.length by rw[e1];omega) ?_
     have e1n:(aV ((i:Int)+1)).toNat=i+1:=by rw[e1];omega
     exact⟨rfl,aS.bO aA [] rfl ⟨bQ,bQ,bQ,oO⟩ ⟨qZ,qZ,qZ,qZ,qZ,qZ,qZ,⟨rfl,aU.int (by unfold EM;rw[h1,←e1n];rfl)⟩,qZ,qZ,qZ,oO⟩⟩
    ·have h1:decide (aV ((i:Int)+1)<(L.length:Int))=false:=h1
     rw[e1]at h1
     exact⟨rfl,aS.bO aA [] rfl ⟨bQ,bQ,bQ,oO⟩ ⟨qZ,qZ,qZ,qZ,qZ,qZ,qZ,⟨rfl,aU.int (by unfold EM;rw[h1];rfl)⟩,qZ,qZ,qZ,oO⟩⟩
   refine sX aA ?_
   refine AW.cond ?_
   refine aI (fun h1=>?_) (fun h1=>AW.skip ?_)
   ·have h1:decide (B1 L hi i>EM L lo i)=true:=h1
    have e:mL L hi lo (i+1)=mL L hi lo i++ [⟨(L.getD i default).aO,B1 L hi i,EM L lo i⟩]:=by rw[fA];unfold VV;rw[h1];rfl
    refine eX aA ?_
    refine ob dC ?_
    refine ob (by rw[eL];show((mL L hi lo i).length+1)*32≤_;omega) ?_
    refine ob (nZ (lt3 rfl rfl rfl)) ?_
    refine eX aA ?_
    refine⟨i+1,oM,oM,?_⟩
    refine aS.bO aA [(100,64)] rfl ⟨bQ,⟨rfl,?_⟩,oO⟩ ⟨qZ,qZ,qZ,⟨rfl,aU.mo (by rw[e];exact cG _ _)⟩,qZ,qZ,⟨rfl,aU.int e1⟩,oO⟩
    show aZ _ (.cA 210 (mL L hi lo (i+1)).length 3 (uO (mL L hi lo (i+1))))
    rw[e]
    refine aZ.snoc (el:=VM) (x:=⟨(L.getD i default).aO,B1 L hi i,EM L lo i⟩) (fun c hc=>?_)
    have hc:c<3:=hc
    match c,hc with|0,_|1,_|2,_=>rfl
   ·have h1:decide (B1 L hi i>EM L lo i)=false:=h1
    have e:mL L hi lo (i+1)=mL L hi lo i:=by rw[fA];unfold VV;rw[h1];exact List.append_nil _
    refine eX aA ?_
    refine⟨i+1,oM,oM,?_⟩
    exact aS.bO aA [] rfl ⟨bQ,⟨rfl,aZ.of_eq (by rw[e];rfl)⟩,oO⟩ ⟨qZ,qZ,qZ,⟨rfl,aU.of_eq (by rw[e];rfl)⟩,qZ,qZ,⟨rfl,aU.int e1⟩,oO⟩
  ·have h:¬(i:Int)<L.length:=bG h
   obtain rfl:i=L.length:=oM
   refine eX aA ?_
   exact aC.mo
def ER(g:Ground)(p:Pt)(hi lo:Int):Int:=bif EN g p [hi,lo] !=0 then EN g p [hi,lo]else bif decide (hi<lo)then 9 else 0
def uL(g:Ground)(p:Pt)(hi lo:Int):List Part:=bif ER g p hi lo !=0 then []else mL (tC g p).bA hi lo (tC g p).bA.length
theorem DU{g:Ground}(h:dP g=0):0<g.b6.length∧g.b6.length≤20:=by
 unfold dP at h
 cases h1:(lZ g.bE !=0)with
 |true=>
  rw[h1]at h
  have h:lZ g.bE=0:=h
  rw[h]at h1;cases h1
 |false=>
  rw[h1]at h
  cases h2:((g.b6.length:Int)==0)with
  |true=>rw[h2]at h;cases h
  |false=>
   rw[h2]at h
   cases h3:decide ((g.b6.length:Int)>20)with
   |true=>rw[h3]at h;cases h
   |false=>
    have h2:¬(g.b6.length:Int)=0:=by simpa using h2
    have h3:¬(g.b6.length:Int)>20:=by simpa using h3
    omega
theorem aBY(g:Ground)(p:Pt)(hi lo:Int)(hg:g.fits)(hy:∀x∈g.b6,x.bA.length≤1000000):aF prog 122 [RZ g,pt p,vI hi,vI lo] (.t [.s (.d (PJ (uL g p hi lo))),.s (.d (dI (ER g p hi lo)))]):=by
 refine eP func122 rfl rfl call122 rfl rfl fun cx aA=>?_
 refine aB ((asked g p [hi,lo] hg sM).conv (args':=_) ⟨⟨aL.refl _,aL.refl _,oO⟩,⟨aL.refl _,aL.refl _,oO⟩,aL.fW fun i j hi hj=>aL.of_eq ?_,oO⟩) ?_
 ·have hi:i<2:=hi
  have hj:j<1:=hj
  match i,j,hi,hj with
  |0,0,_,_=>rfl
  |1,0,_,_=>rfl
 refine aI (fun h1=>?_) (fun h1=>?_)
 ·have h1:(EN g p [hi,lo] !=0)=true:=h1
  have e:ER g p hi lo=EN g p [hi,lo]:=by unfold ER;rw[h1];rfl
  have e2:uL g p hi lo=[]:=by unfold uL;rw[e,h1];rfl
  rw[e,e2]
  exact aC.t ⟨aL.nil,aL.refl _,oO⟩
 have h1:(EN g p [hi,lo] !=0)=false:=h1
 refine aI (fun h2=>?_) (fun h2=>?_)
 ·have h2:decide (hi<lo)=true:=h2
  have e:ER g p hi lo=9:=by unfold ER;rw[h1,h2];rfl
  have e2:uL g p hi lo=[]:=by unfold uL;rw[e];rfl
  rw[e,e2]
  exact aC.t ⟨aL.nil,aL.refl _,oO⟩
 have h2:decide (hi<lo)=false:=h2
 have e:ER g p hi lo=0:=by unfold ER;rw[h1,h2];rfl
 have e2:uL g p hi lo=mL (tC g p).bA hi lo (tC g p).bA.length:=by unfold uL;rw[e];rfl
 have hz:dP g=0:=by
  have IJ:EN g p [hi,lo]=0:=by simpa using h1
  unfold EN at IJ
  cases h:(dP g !=0)with
  |true=>
   rw[h]at IJ
   have IJ:dP g=0:=IJ
   rw[IJ]at h;cases h
  |false=>simpa using h
 obtain⟨hb0,hb1⟩:=DU hz
 have fR:=LC g.b6 p g.b6.length hb0
 refine aB (column g p hi lo hb0 oM (hy _ (cT fR))) ?_
 rw[e,e2]
 exact aC.refl _
def q7(v p:Int):Int:=aV (Int.tdiv (aV (aV (v*p)+500000)) 1000000)
theorem uW(v p:Int):aF prog 66 [vI v,vI p] (vI (q7 v p)):=by
 refine eP func66 rfl rfl call66 rfl rfl fun cx aA=>?_
 refine oi dC ?_
 exact aC.refl _
def vK(l:List Piece)(s:ByteArray):Nat→Int
 |0=>0
 |i+1=>bif bB (l.getD i default).aO s&&decide ((l.getD i default).load>0)then aV (vK l s i+(l.getD i default).gH)else vK l s i
def HB(l:List o4)(s:ByteArray):Nat→Int
 |0=>0
 |i+1=>bif bB (l.getD i default).aO s then(l.getD i default).uW else HB l s i
def aGZ(p:Proj)(l:List Piece)(s:ByteArray):Due:=⟨s,vK l s l.length,HB p.cI s p.cI.length,q7 (vK l s l.length) (HB p.cI s p.cI.length)⟩
def aAU(p:Proj)(l:List Piece)(i:Nat):Option Due:=bif decide (vK l (p.gr.bE.getD i default).name l.length>0)then some (aGZ p l (p.gr.bE.getD i default).name)else none
def fN(p:Proj)(l:List Piece)(n:Nat):List Due:=(List.range n).filterMap (aAU p l)
theorem SA(p:Proj)(l:List Piece)(n:Nat):fN p l (n+1)=fN p l n++(aAU p l n).toList:=by
 unfold fN
 rw[cW]
theorem KD(p:Proj)(l:List Piece)(n:Nat):(fN p l n).length≤n:=by
 have:=List.length_filterMap_le (aAU p l) (List.range n)
 rw[List.length_range]at this
 exact this
theorem WS(p:Proj)(fs:List Fact)(l:List Piece)(hs:p.gr.bE.length≤1000000)(hl:l.length≤9223372036854775807)(hp:p.cI.length≤9223372036854775807):aF prog 64 [QP p fs,gQ l] (aD5 (fN p l p.gr.bE.length)):=by
 refine eW func64 rfl rfl call64 rfl rfl (fun cx aA=>?_)
 refine sX aA ?_
 refine sX aA ?_
 refine AW.seq (sX aA ?_)
 refine AW.block ?_
 refine AW.cV (fun i:Nat=>⟨[(1,gQ l),(2,.s (.ptr 2 0)),(5,.s (.mo (fN p l i).isEmpty 100)),(16,iW p.gr.bE),(17,vI p.gr.bE.length),(18,vI i)],[(2,some (.cells (lE p fs))),(100,some (.cA 80 (fN p l i).length 4 (D3 (fN p l i))))]⟩) (fun i=>i≤p.gr.bE.length) (fun i=>p.gr.bE.length - i) 0 (Nat.zero_le _) ?_ ?_
 ·exact aS.bO aA [(100,1000)] rfl ⟨bQ,⟨rfl,rfl⟩,oO⟩ ⟨qZ,qZ,⟨rfl,aU.nil rfl⟩,qZ,qZ,qZ,oO⟩
 ·intro i hi
  have hlen:=KD p l i
  have fA:=SA p l i
  refine sX aA ?_
  refine AW.seq (AW.cond ?_)
  refine aI (fun h=>AW.skip ?_) (fun h=>AW.exit ?_)
  ·have h:(i:Int)<p.gr.bE.length:=bL h
   refine AW.seq (AW.block ?_)
   refine sX aA ?_
   refine oi ⟨oM,oM⟩ ?_
   refine sX aA ?_
   generalize hS:(p.gr.bE.getD i default).name=s
   refine AW.gG (σ':=⟨[(1,gQ l),(2,.s (.ptr 2 0)),(5,.s (.mo (fN p l i).isEmpty 100)),(7,.s (.ptr 7 0)),(8,.s (.ptr 8 0)),(16,iW p.gr.bE),(17,vI p.gr.bE.length),(18,vI i)],[(2,some (.cells (lE p fs))),(7,some (.cells [.d (dS s),.d .bF,.d .bF,.d .bF,.d .bF])),(8,some (.cells [.d (dS s),.d (dI 0),.d (dI 0),.d (dI 0)])),(100,some (.cA 80 (fN p l i).length 4 (D3 (fN p l i))))]⟩) (aS.bO aA [] rfl ⟨bQ,⟨rfl,aZ.cells ⟨aU.of_eq (by rw[←hS];rfl),aU.d fun _ _ _=>trivial,aU.d fun _ _ _=>trivial,aU.d fun _ _ _=>trivial,aU.d fun _ _ _=>trivial,oO⟩⟩,⟨rfl,aZ.cells ⟨aU.of_eq (by rw[←hS];rfl),aU.rfl,aU.rfl,aU.rfl,oO⟩⟩,bQ,oO⟩ ⟨qZ,qZ,qZ,qZ,qZ,qZ,qZ,qZ,oO⟩) ?_
   refine AW.cut (σ':=⟨[(1,gQ l),(2,.s (.ptr 2 0)),(5,.s (.mo (fN p l i).isEmpty 100)),(7,.s (.ptr 7 0)),(8,.s (.ptr 8 0)),(16,iW p.gr.bE),(17,vI p.gr.bE.length),(18,vI i)],[(2,some (.cells (lE p fs))),(7,some (.cells [.d (dS s),.d .bF,.d .bF,.d .bF,.d .bF])),(8,some (.cells [.d (dS s),.d (dI (vK l s l.length)),.d (dI 0),.d (dI 0)])),(100,some (.cA 80 (fN p l i).length 4 (D3 (fN p l i))))]⟩) ?_ ?_
   ·refine sX aA ?_
    refine AW.block ?_
    refine AW.cV (fun j:Nat=>⟨[(1,gQ l),(2,.s (.ptr 2 0)),(5,.s (.mo (fN p l i).isEmpty 100)),(7,.s (.ptr 7 0)),(8,.s (.ptr 8 0)),(16,iW p.gr.bE),(17,vI p.gr.bE.length),(18,vI i),(25,gQ l),(26,vI l.length),(27,vI j)],[(2,some (.cells (lE p fs))),(7,some (.cells [.d (dS s),.d .bF,.d .bF,.d .bF,.d .bF])),(8,some (.cells [.d (dS s),.d (dI (vK l s j)),.d (dI 0),.d (dI 0)])),(100,some (.cA 80 (fN p l i).length 4 (D3 (fN p l i))))]⟩) (fun j=>j≤l.length) (fun j=>l.length - j) 0 (Nat.zero_le _) ?_ ?_
    ·exact aS.bO aA [] rfl ⟨bQ,bQ,bQ,bQ,oO⟩ ⟨qZ,qZ,qZ,qZ,qZ,qZ,qZ,qZ,qZ,qZ,qZ,oO⟩
    ·intro j hj
     refine sX aA ?_
     refine AW.seq (AW.cond ?_)
     refine aI (fun h2=>AW.skip ?_) (fun h2=>AW.exit ?_)
     ·have h2:(j:Int)<l.length:=bL h2
      refine AW.seq (AW.block ?_)
      refine sX aA ?_
      refine oi ⟨oM,oM⟩ ?_
      refine sX aA ?_
      repeat refine aR ?_
      refine AW.cond ?_
      refine aI (fun h3=>?_) (fun h3=>AW.skip ?_)
      ·have h3:(bB (l.getD j default).aO s&&decide ((l.getD j default).load>0))=true:=h3
       have e:vK l s (j+1)=aV (vK l s j+(l.getD j default).gH):=by rw[vK,h3];rfl
       refine eX aA ?_
       refine eX aA ?_
       refine⟨j+1,oM,oM,?_⟩
       exact aS.bO aA [] rfl ⟨bQ,bQ,⟨rfl,aZ.of_eq (by rw[e];rfl)⟩,bQ,oO⟩ ⟨qZ,qZ,qZ,qZ,qZ,qZ,qZ,qZ,qZ,qZ,⟨rfl,aU.int (aG oM oM)⟩,oO⟩
      ·have h3:(bB (l.getD j default).aO s&&decide ((l.getD j default).load>0))=false:=h3
       have e:vK l s (j+1)=vK l s j:=by rw[vK,h3];rfl
       refine eX aA ?_
       refine⟨j+1,oM,oM,?_⟩
       exact aS.bO aA [] rfl ⟨bQ,bQ,⟨rfl,aZ.of_eq (by rw[e];rfl)⟩,bQ,oO⟩ ⟨qZ,qZ,qZ,qZ,qZ,qZ,qZ,qZ,qZ,qZ,⟨rfl,aU.int (aG oM oM)⟩,oO⟩
     ·have h2:¬(j:Int)<l.length:=bG h2
      obtain rfl:j=l.length:=oM
      exact⟨rfl,aS.bO aA [] rfl ⟨bQ,bQ,bQ,bQ,oO⟩ ⟨qZ,qZ,qZ,qZ,qZ,qZ,qZ,qZ,oO⟩⟩
   refine AW.cut (σ':=⟨[(1,gQ l),(2,.s (.ptr 2 0)),(5,.s (.mo (fN p l i).isEmpty 100)),(7,.s (.ptr 7 0)),(8,.s (.ptr 8 0)),(16,iW p.gr.bE),(17,vI p.gr.bE.length),(18,vI i)],[(2,some (.cells (lE p fs))),(7,some (.cells [.d (dS s),.d .bF,.d .bF,.d .bF,.d .bF])),(8,some (.cells [.d (dS s),.d (dI (vK l s l.length)),.d (dI (HB p.cI s p.cI.length)),.d (dI 0)])),(100,some (.cA 80 (fN p l i).length 4 (D3 (fN p l i))))]⟩) ?_ ?_
   ·refine sX aA ?_
    refine AW.block ?_
    refine AW.cV (fun j:Nat=>⟨[(1,gQ l),(2,.s (.ptr 2 0)),(5,.s (.mo (fN p l i).isEmpty 100)),(7,.s (.ptr 7 0)),(8,.s (.ptr 8 0)),(16,iW p.gr.bE),(17,vI p.gr.bE.length),(18,vI i),(50,M4 p.cI),(51,vI p.cI.length),(52,vI j)],[(2,some (.cells (lE p fs))),(7,some (.cells [.d (dS s),.d .bF,.d .bF,.d .bF,.d .bF])),(8,some (.cells [.d (dS s),.d (dI (vK l s l.length)),.d (dI (HB p.cI s j)),.d (dI 0)])),(100,some (.cA 80 (fN p l i).length 4 (D3 (fN p l i))))]⟩) (fun j=>j≤p.cI.length) (fun j=>p.cI.length - j) 0 (Nat.zero_le _) ?_ ?_
    ·exact aS.bO aA [] rfl ⟨bQ,bQ,bQ,bQ,oO⟩ ⟨qZ,qZ,qZ,qZ,qZ,qZ,qZ,qZ,qZ,qZ,qZ,oO⟩
    ·intro j hj
     refine sX aA ?_
     refine AW.seq (AW.cond ?_)
     refine aI (fun h2=>AW.skip ?_) (fun h2=>AW.exit ?_)
     ·have h2:(j:Int)<p.cI.length:=bL h2
      refine AW.seq (AW.block ?_)
      refine sX aA ?_
      refine oi ⟨oM,oM⟩ ?_
      refine sX aA ?_
      refine AW.cond ?_
      refine aI (fun h3=>?_) (fun h3=>AW.skip ?_)
      ·have h3:bB (p.cI.getD j default).aO s=true:=h3
       have e:HB p.cI s (j+1)=(p.cI.getD j default).uW:=by rw[HB,h3];rfl
       refine eX aA ?_
       refine eX aA ?_
       refine⟨j+1,oM,oM,?_⟩
       exact aS.bO aA [] rfl ⟨bQ,bQ,⟨rfl,aZ.of_eq (by rw[e];rfl)⟩,bQ,oO⟩ ⟨qZ,qZ,qZ,qZ,qZ,qZ,qZ,qZ,qZ,qZ,⟨rfl,aU.int (aG oM oM)⟩,oO⟩
      ·have h3:bB (p.cI.getD j default).aO s=false:=h3
       have e:HB p.cI s (j+1)=HB p.cI s j:=by rw[HB,h3];rfl
       refine eX aA ?_
       refine⟨j+1,oM,oM,?_⟩
       exact aS.bO aA [] rfl ⟨bQ,bQ,⟨rfl,aZ.of_eq (by rw[e];rfl)⟩,bQ,oO⟩ ⟨qZ,qZ,qZ,qZ,qZ,qZ,qZ,qZ,qZ,qZ,⟨rfl,aU.int (aG oM oM)⟩,oO⟩
     ·have h2:¬(j:Int)<p.cI.length:=bG h2
      obtain rfl:j=p.cI.length:=oM
      exact⟨rfl,aS.bO aA [] rfl ⟨bQ,bQ,bQ,bQ,oO⟩ ⟨qZ,qZ,qZ,qZ,qZ,qZ,qZ,qZ,oO⟩⟩
   refine sX aA ?_
   refine aB (uW (vK l s l.length) (HB p.cI s p.cI.length)) ?_
   refine sX aA ?_
   refine AW.cond ?_
   refine aI (fun h3=>?_) (fun h3=>AW.skip ?_)
   ·have h3:decide (vK l s l.length>0)=true:=h3
    have e:fN p l (i+1)=fN p l i++ [aGZ p l s]:=by rw[fA];unfold aAU;rw[hS,h3];rfl
    refine eX aA ?_
    refine ob dC ?_
    refine ob (by rw[eL];show((fN p l i).length+1)*40≤_;omega) ?_
    refine ob (nZ (lt4 rfl rfl rfl rfl)) ?_
    refine eX aA ?_
    refine⟨i+1,oM,oM,?_⟩
    refine aS.bO aA [(100,77)] rfl ⟨bQ,⟨rfl,?_⟩,oO⟩ ⟨qZ,qZ,⟨rfl,aU.mo (by rw[e];exact cG _ _)⟩,qZ,qZ,⟨rfl,aU.int (aG oM oM)⟩,oO⟩
    show aZ _ (.cA 80 (fN p l (i+1)).length 4 (D3 (fN p l (i+1))))
    rw[e]
    refine aZ.snoc (el:=aKP) (x:=aGZ p l s) (fun c hc=>?_)
    have hc:c<4:=hc
    match c,hc with|0,_|1,_|2,_|3,_=>rfl
   ·have h3:decide (vK l s l.length>0)=false:=h3
    have e:fN p l (i+1)=fN p l i:=by rw[fA];unfold aAU;rw[hS,h3];exact List.append_nil _
    refine eX aA ?_
    refine⟨i+1,oM,oM,?_⟩
    exact aS.bO aA [] rfl ⟨bQ,⟨rfl,aZ.of_eq (by rw[e];rfl)⟩,oO⟩ ⟨qZ,qZ,⟨rfl,aU.of_eq (by rw[e];rfl)⟩,qZ,qZ,⟨rfl,aU.int (aG oM oM)⟩,oO⟩
  ·have h:¬(i:Int)<p.gr.bE.length:=bG h
   obtain rfl:i=p.gr.bE.length:=oM
   refine eX aA ?_
   exact aC.mo
theorem dK{e r:Int}(h:(bif e !=0 then e else r)=0):e=0∧r=0:=by
 cases h1:(e !=0)with
 |true=>
  rw[h1]at h
  have h:e=0:=h
  rw[h]at h1;cases h1
 |false=>
  rw[h1]at h
  exact⟨by simpa using h1,h⟩
theorem c8{c:Bool}{e r:Int}(he:e≠0)(h:(bif c then e else r)=0):c=false∧r=0:=by
 cases c with
 |true=>exact absurd h he
 |false=>exact⟨rfl,h⟩
structure PV(p:Proj):Prop where
 aW:jP p.aW=0
 side:p.aW.side≤1000
 cells:p.aW.levels.length≤100
 chan:l8 p.chan=0
 gr:dP p.gr=0
 agree:0≤p.agree∧p.agree≤1000
 eU:0≤p.eU∧p.eU≤1000000
 cI:qX p=0
 cN:qV p=0
 new:N0 p.aP p.a8=0
theorem PV.of{p:Proj}(h:fJ p=0):PV p:=by
 unfold fJ at h
 obtain⟨_,h⟩:=c8 dC h
 obtain⟨h1,h⟩:=dK h
 obtain⟨h2,h⟩:=c8 dC h
 obtain⟨h3,h⟩:=dK h
 obtain⟨h4,h⟩:=dK h
 obtain⟨h5,h⟩:=c8 dC h
 obtain⟨h6,h⟩:=dK h
 simp only [Bool.or_eq_false_iff,decide_eq_false_iff_not]at h2
 simp only [Bool.or_eq_false_iff,Bool.not_eq_false',within,Bool.and_eq_true,decide_eq_true_eq]at h5
 unfold mN at h6
 obtain⟨h7,h8⟩:=dK h6
 exact⟨h1,oM,oM,h3,h4,oM,oM,h7,h8,h⟩
theorem EO.gok{g:eZ}(h:EO g):g.ok:=by
 have hn:=h.n
 have key:∀n:Int, -2000000≤n→n≤2000000→mF n:=fun n h1 h2=>by
  simp[mF,Lit.wf,IntKind.min,IntKind.max,IntKind.signed,IntKind.bits];omega
 have:=h.x;have:=h.y;have:=h.side;have:=h.dL;have:=h.rows
 refine⟨key _ oM oM,key _ oM oM,key _ oM oM,key _ oM oM,key _ oM oM,oM,fun a ha=>?_⟩
 rcases h.lev a ha with h|h <;> exact key _ oM oM
theorem PV.gv{p:Proj}(h:PV p):EO p.aW:=EO.of h.aW
theorem PV.with{p:Proj}(h:PV p):lV p.chan [p.aW]=0:=by
 unfold lV
 rw[h.chan]
 show(bif jP p.aW !=0 then jP p.aW else 0)=0
 rw[h.aW];rfl
theorem PV.w3{p:Proj}(h:PV p)(less:Int):yK p.chan p.aW less=(lX p.chan p.aW less,0):=by unfold yK;rw[h.with];rfl
def aJS(des low:List Int)(i:Nat):Bool:=des.getD i 0 !=30000&&decide (low.getD i 0>des.getD i 0)
abbrev aND(p:Proj):eZ:=lX p.chan p.aW 0
def aKT(p:Proj)(s:ByteArray):List Pt:=(p.chan.regions.getD (NP p.chan.regions s).toNat default).kZ
def aNG(p:Proj)(s:ByteArray)(low:eZ):Bool:= !(aLG p.aW (aKT p s) p.aW.levels.length).any fun n=>aJS (aND p).levels low.levels n.toNat
def aLI(s:ByteArray)(m:Int)(f:Fact):Bool:=f.kind==2&&bB f.eO s&&f.month==m
def aE3(fs:List Fact)(s:ByteArray)(m:Int):Bool:=fs.any (aLI s m)
def aI6(p:Proj)(fs:List Fact)(m:Int)(low:eZ)(s:yE):Bool:=(decide (s.due≤m)&& !aE3 fs s.name m)&& !aNG p s.name low
def aI8(p:Proj)(fs:List Fact)(m:Int)(low:eZ)(i:Nat):Option MS:=bif aI6 p fs m low (p.cN.getD i default)then some ⟨(p.cN.getD i default).name,(p.cN.getD i default).Y5⟩else none
def LM(p:Proj)(fs:List Fact)(m:Int)(low:eZ)(n:Nat):List MS:=(List.range n).filterMap (aI8 p fs m low)
theorem ZL(p:Proj)(fs:List Fact)(m:Int)(low:eZ)(n:Nat):(LM p fs m low n).length≤n:=by
 have:=List.length_filterMap_le (aI8 p fs m low) (List.range n)
 rw[List.length_range]at this
 exact this
abbrev Room:=Fact×Int
def rmD(x:Room)(j:Nat):DV:=if j=13 then dI x.2 else R4 x.1 j
def jM(l:List Room)(i:Nat)(j:Nat):DV:=rmD (l.getD i default) j
structure DS where
 out:List Piece
 lo:Nat
 v:Int
 p:Int
 cur:List Room
def aY(pt:Piece)(s:DS):DS:=
 bif decide (s.lo<s.cur.length)then
  {out:=s.out++ [⟨pt.month,pt.cell,pt.aO,mm false s.v (s.cur.getD s.lo default).2,mm false s.p (mm false s.v (s.cur.getD s.lo default).2),(s.cur.getD s.lo default).1.number,(s.cur.getD s.lo default).1.dO⟩],
   lo:=bif aV ((s.cur.getD s.lo default).2 - mm false s.v (s.cur.getD s.lo default).2)==0 then s.lo+1 else s.lo,
   v:=aV (s.v - mm false s.v (s.cur.getD s.lo default).2),p:=aV (s.p - mm false s.p (mm false s.v (s.cur.getD s.lo default).2)),
   cur:=s.cur.set s.lo ((s.cur.getD s.lo default).1,aV ((s.cur.getD s.lo default).2 - mm false s.v (s.cur.getD s.lo default).2))}
 else {s with out:=s.out++ [⟨pt.month,pt.cell,pt.aO,s.v,mm false s.p s.v,pt.load,pt.dO⟩],v:=aV (s.v - s.v),p:=aV (s.p - mm false s.p s.v)}
def oJ(pt:Piece):Nat→DS→DS
 |0,s=>s
 |k+1,s=>bif decide (s.v>0)then oJ pt k (aY pt s)else s
def pN(pt:Piece)(lo:Nat)(l:List Room):DS:=⟨[],lo,pt.iE,pt.gH,l⟩
def cB(pt:Piece)(lo:Nat)(l:List Room):DS:=oJ pt (l.length - lo+1) (pN pt lo l)
structure DJ(pt:Piece)(n:Nat)(fin:DS)(x:Nat×DS):Prop where
 run:oJ pt x.1 x.2=fin
 lo:x.2.lo≤n
 len:x.2.cur.length=n
 v:0≤x.2.v∧x.2.v≤1000000000000000
 fuel:x.2.v>0→n - x.2.lo<x.1
 left:∀i,x.2.lo≤i→i<n→1≤(x.2.cur.getD i default).2∧(x.2.cur.getD i default).2≤1000000000000
 few:x.2.out.length+x.1≤1000000
theorem aI1(x y:Int):mm false x y=min x y:=by unfold mm;simp only;split <;> omega
theorem DJ.step{pt:Piece}{n:Nat}{fin:DS}{k:Nat}{s:DS}(h:DJ pt n fin (k,s))(hv:s.v>0):∃k',k=k'+1∧DJ pt n fin (k',aY pt s):=by
 have hf:=h.fuel hv
 simp only at hf
 obtain⟨k',rfl⟩:∃k',k=k'+1:=⟨k - 1,oM⟩
 refine⟨k',rfl,?_⟩
 have hr:=h.run
 simp only [oJ,decide_eq_true hv,cond_true]at hr
 have CL:=h.lo
 have hlen:=h.len
 have hvv:=h.v
 have RR:=h.few
 simp only at CL hlen hvv RR
 by_cases hl:s.lo<n
 ·have hd:decide (s.lo<s.cur.length)=true:=decide_eq_true oM
  obtain⟨l1,l2⟩:=h.left s.lo (Nat.le_refl _) hl
  simp only at l1 l2
  have hm:=aI1 s.v (s.cur.getD s.lo default).2
  have TY:aV ((s.cur.getD s.lo default).2 - mm false s.v (s.cur.getD s.lo default).2)=(s.cur.getD s.lo default).2 - mm false s.v (s.cur.getD s.lo default).2:=aG oM oM
  have TX:aV (s.v - mm false s.v (s.cur.getD s.lo default).2)=s.v - mm false s.v (s.cur.getD s.lo default).2:=aG oM oM
  have e1:(aY pt s).lo=bif aV ((s.cur.getD s.lo default).2 - mm false s.v (s.cur.getD s.lo default).2)==0 then s.lo+1 else s.lo:=by unfold aY;rw[hd];rfl
  have e2:(aY pt s).cur=s.cur.set s.lo ((s.cur.getD s.lo default).1,aV ((s.cur.getD s.lo default).2 - mm false s.v (s.cur.getD s.lo default).2)):=by unfold aY;rw[hd];rfl
  have e3:(aY pt s).v=aV (s.v - mm false s.v (s.cur.getD s.lo default).2):=by unfold aY;rw[hd];rfl
  have e4:(aY pt s).out.length=s.out.length+1:=by unfold aY;rw[hd];simp
  have key:∀i,i<n→i≠s.lo→(s.cur.set s.lo ((s.cur.getD s.lo default).1,aV ((s.cur.getD s.lo default).2 - mm false s.v (s.cur.getD s.lo default).2))).getD i default=s.cur.getD i default:=fun i hi gI=>by
   simp[List.getD_eq_getElem?_getD,Ne.symm gI]
  have aMG:(s.cur.set s.lo ((s.cur.getD s.lo default).1,aV ((s.cur.getD s.lo default).2 - mm false s.v (s.cur.getD s.lo default).2))).getD s.lo default=((s.cur.getD s.lo default).1,aV ((s.cur.getD s.lo default).2 - mm false s.v (s.cur.getD s.lo default).2)):=by
   simp[List.getD_eq_getElem?_getD,show s.lo<s.cur.length by omega]
  cases hz:(aV ((s.cur.getD s.lo default).2 - mm false s.v (s.cur.getD s.lo default).2)==0)with
  |true=>
   rw[hz]at e1
   have e1:(aY pt s).lo=s.lo+1:=e1
   refine⟨hr,by simp only [e1];omega,by simp only [e2,List.length_set];exact hlen,by simp only [e3,TX];omega,fun _=>by simp only [e1];omega,fun i h1 h2=>?_,by simp only [e4];omega⟩
   simp only [e1]at h1
   simp only [e2]
   rw[key i h2 oM]
   exact h.left i (by simp only;omega) h2
  |false=>
   rw[hz]at e1
   have e1:(aY pt s).lo=s.lo:=e1
   have gI:aV ((s.cur.getD s.lo default).2 - mm false s.v (s.cur.getD s.lo default).2)≠0:=by simpa using hz
   refine⟨hr,by simp only [e1];omega,by simp only [e2,List.length_set];exact hlen,by simp only [e3,TX];omega,fun XR=>by simp only [e3,TX]at XR;omega,fun i h1 h2=>?_,by simp only [e4];omega⟩
   simp only [e1]at h1
   simp only [e2]
   by_cases hi:i=s.lo
   ·subst hi
    rw[aMG]
    simp only
    omega
   ·rw[key i h2 hi]
    exact h.left i (by simp only;omega) h2
 ·have hd:decide (s.lo<s.cur.length)=false:=decide_eq_false oM
  have e1:(aY pt s).lo=s.lo:=by unfold aY;rw[hd];rfl
  have e2:(aY pt s).cur=s.cur:=by unfold aY;rw[hd];rfl
  have e3:(aY pt s).v=0:=by unfold aY;rw[hd];show aV (s.v - s.v)=0;rw[Int.sub_self];rfl
  have e4:(aY pt s).out.length=s.out.length+1:=by unfold aY;rw[hd];simp
  exact⟨hr,by simp only [e1];omega,by simp only [e2];exact hlen,by simp only [e3];omega,fun XR=>by simp only [e3]at XR;omega,fun i h1 h2=>by simp only [e1]at h1;omega,by simp only [e4];omega⟩
theorem AD{pt:Piece}{k:Nat}{s:DS}(h:¬s.v>0):oJ pt k s=s:=by
 cases k with
 |zero=>rfl
 |succ k=>rw[oJ,decide_eq_false h];rfl
def xD(s:DS):Int:=bif decide (s.lo<s.cur.length)then mm false s.v (s.cur.getD s.lo default).2 else s.v
def HW(pt:Piece)(s:DS):Int:=bif decide (s.lo<s.cur.length)then(s.cur.getD s.lo default).1.number else pt.load
def EF(pt:Piece)(s:DS):ByteArray:=bif decide (s.lo<s.cur.length)then(s.cur.getD s.lo default).1.dO else pt.dO
theorem kU(pt:Piece)(s:DS):(aY pt s).out=s.out++ [⟨pt.month,pt.cell,pt.aO,xD s,mm false s.p (xD s),HW pt s,EF pt s⟩]:=by
 unfold aY xD HW EF;cases decide (s.lo<s.cur.length) <;> rfl
theorem KT(pt:Piece)(s:DS):(aY pt s).v=aV (s.v - xD s):=by
 unfold aY xD;cases decide (s.lo<s.cur.length) <;> rfl
theorem KU(pt:Piece)(s:DS):(aY pt s).p=aV (s.p - mm false s.p (xD s)):=by
 unfold aY xD;cases decide (s.lo<s.cur.length) <;> rfl
theorem aBX{x y:DV}{a:TV}(h:aL x y):aU (.t [.s (.d x),a]) (.t [.s (.d y),a]):=by
 rintro M β v ⟨vs,e,r⟩
 match vs,r with
 |[u1,u2],⟨r1,r2,r3⟩=>exact⟨[u1,u2],e,h M u1 r1,r2,r3⟩
theorem aD9{l:List Room}{i a c:Nat}{x:Int}(hi:i<l.length)(ha:a<l.length)(hc:c<14):fL (jM l) i 13 [.d (dI x)] a c=jM (l.set i ((l.getD i default).1,x)) a c:=by
 unfold fL
 by_cases h:a=i
 ·subst h
  rw[if_pos rfl]
  unfold jM
  rw[show(l.set a ((l.getD a default).1,x)).getD a default=((l.getD a default).1,x) by simp[List.getD_eq_getElem?_getD,ha]]
  by_cases h13:c=13
  ·subst h13;rfl
  ·match c,hc,h13 with
   |0,_,_|1,_,_|2,_,_|3,_,_|4,_,_|5,_,_|6,_,_|7,_,_|8,_,_|9,_,_|10,_,_|11,_,_|12,_,_=>rfl
   |13,_,h=>exact absurd rfl h
 ·rw[if_neg h]
  unfold jM
  congr 1
  simp[List.getD_eq_getElem?_getD,Ne.symm h]
theorem aAW(pt:Piece)(l:List Room)(lo n:Nat)(hn:l.length=n)(CL:lo≤n)(hn2:n≤1000)(hv:0≤pt.iE∧pt.iE≤1000000000000000)
  (hl:∀i,lo≤i→i<n→1≤(l.getD i default).2∧(l.getD i default).2≤1000000000000):
  bT prog 123 [aFY pt,.s (.jH 1001 14 lo (n - lo))] [(1001,.row 259 n 14 (jM l))]
   (.t [.s (.d (UG (cB pt lo l).out)),.s (.jH 1001 14 (cB pt lo l).lo (n - (cB pt lo l).lo))]) [(1001,.row 259 n 14 (jM (cB pt lo l).cur))]:=by
 generalize aAF:cB pt lo l=fin
 refine gL func123 rfl rfl call123 aJ rfl rfl rfl rfl (fun cx aA=>?_)
 refine sX aA ?_
 refine sX aA ?_
 refine sX aA ?_
 refine aD ?_
 refine AW.seq ?_
 refine AW.block ?_
 refine AW.cV (fun x:Nat×DS=>⟨[(1,.s (.jH 1001 14 x.2.lo (n - x.2.lo))),(2,.s (.ptr 2 0)),(6,.s (.mo x.2.out.isEmpty 100)),(7,vI x.2.v),(8,vI x.2.p)],[(1001,some (.row 259 n 14 (jM x.2.cur))),(2,some (.cells [.d (dI pt.month),.d (dI pt.cell),.d (dS pt.aO),.d (dI pt.iE),.d (dI pt.gH),.d (dI pt.load),.d (dS pt.dO)])),(100,some (.cA 130 x.2.out.length 7 (dY x.2.out)))]⟩) (DJ pt n fin) (fun x=>x.1) (n - lo+1,pN pt lo l) ⟨by rw[←aAF];unfold cB;rw[hn],CL,hn,hv,fun _=>by show n - lo<n - lo+1;omega,hl,by show 0+(n - lo+1)≤_;omega⟩ ?_ ?_
 ·exact aS.of [(100,1000)] (by rw[aA];rfl) rfl ⟨bQ,bQ,⟨rfl,rfl⟩,oO⟩ ⟨qZ,qZ,⟨rfl,aU.nil rfl⟩,qZ,qZ,oO⟩
 ·rintro⟨k,s⟩ hJ
  have aGH:=hJ.lo
  have hlen:=hJ.len
  have RR:=hJ.few
  have hvb:=hJ.v
  simp only at aGH hlen RR hvb
  refine AW.seq (sX aA ?_)
  refine AW.cond ?_
  refine aI (fun h1=>AW.skip ?_) (fun h1=>AW.exit ?_)
  ·have h1:s.v>0:=bL h1
   obtain⟨k',rfl,hJ2⟩:=hJ.step h1
   refine AW.block ?_
   refine sX aA ?_
   refine sX aA ?_
   refine AW.gG (σ':=⟨[(1,.s (.jH 1001 14 s.lo (n - s.lo))),(2,.s (.ptr 2 0)),(6,.s (.mo s.out.isEmpty 100)),(7,vI s.v),(8,vI s.p),(9,.s (.ptr 9 0))],[(1001,some (.row 259 n 14 (jM s.cur))),(2,some (.cells [.d (dI pt.month),.d (dI pt.cell),.d (dS pt.aO),.d (dI pt.iE),.d (dI pt.gH),.d (dI pt.load),.d (dS pt.dO)])),(100,some (.cA 130 s.out.length 7 (dY s.out))),(9,some (.cells [.d (dI pt.month),.d (dI pt.cell),.d (dS pt.aO),.d (dI s.v),.d (dI pt.gH),.d (dI pt.load),.d (dS pt.dO)]))]⟩) (aS.of [] (by rw[aA];rfl) rfl ⟨bQ,bQ,bQ,bQ,oO⟩ ⟨qZ,qZ,qZ,qZ,qZ,qZ,oO⟩) ?_
   have aJ5:(aY pt s).cur.length=n:=hJ2.len
   refine AW.cut (σ':=⟨[(1,.s (.jH 1001 14 (aY pt s).lo (n - (aY pt s).lo))),(2,.s (.ptr 2 0)),(6,.s (.mo s.out.isEmpty 100)),(7,vI s.v),(8,vI s.p),(9,.s (.ptr 9 0))],[(1001,some (.row 259 n 14 (jM (aY pt s).cur))),(2,some (.cells [.d (dI pt.month),.d (dI pt.cell),.d (dS pt.aO),.d (dI pt.iE),.d (dI pt.gH),.d (dI pt.load),.d (dS pt.dO)])),(100,some (.cA 130 s.out.length 7 (dY s.out))),(9,some (.cells [.d (dI pt.month),.d (dI pt.cell),.d (dS pt.aO),.d (dI (xD s)),.d (dI pt.gH),.d (dI (HW pt s)),.d (dS (EF pt s))]))]⟩) ?_ ?_
   ·refine sX aA ?_
    refine AW.cond ?_
    refine aI (fun h2=>?_) (fun h2=>AW.skip ?_)
    ·have h2:((n - s.lo:Nat):Int)>0:=bL h2
     have fR:s.lo<n:=oM
     have xT:decide (s.lo<s.cur.length)=true:=decide_eq_true oM
     have WL:xD s=mm false s.v (s.cur.getD s.lo default).2:=by unfold xD;rw[xT];rfl
     have el:HW pt s=(s.cur.getD s.lo default).1.number:=by unfold HW;rw[xT];rfl
     have ep:EF pt s=(s.cur.getD s.lo default).1.dO:=by unfold EF;rw[xT];rfl
     refine sX aA ?_
     refine oi ⟨oM,oM⟩ ?_
     refine oi (show s.lo+(0:Int).toNat<n by omega) ?_
     refine AW.gG (σ':=⟨[(1,.s (.jH 1001 14 s.lo (n - s.lo))),(2,.s (.ptr 2 0)),(6,.s (.mo s.out.isEmpty 100)),(7,vI s.v),(8,vI s.p),(9,.s (.ptr 9 0))],[(1001,some (.row 259 n 14 (jM s.cur))),(2,some (.cells [.d (dI pt.month),.d (dI pt.cell),.d (dS pt.aO),.d (dI pt.iE),.d (dI pt.gH),.d (dI pt.load),.d (dS pt.dO)])),(100,some (.cA 130 s.out.length 7 (dY s.out))),(9,some (.cells [.d (dI pt.month),.d (dI pt.cell),.d (dS pt.aO),.d (dI (xD s)),.d (dI pt.gH),.d (dI pt.load),.d (dS pt.dO)]))]⟩) (aS.of [] (by rw[aA];rfl) rfl ⟨bQ,bQ,bQ,⟨rfl,aZ.of_eq (by rw[WL];rfl)⟩,oO⟩ ⟨qZ,qZ,qZ,qZ,qZ,qZ,oO⟩) ?_
     refine sX aA ?_
     refine oi ⟨oM,oM⟩ ?_
     refine oi (show s.lo+(0:Int).toNat<n by omega) ?_
     refine oi ⟨oM,oM⟩ ?_
     refine oi (show s.lo+(0:Int).toNat<n by omega) ?_
     refine aD ?_
     refine AW.gG (σ':=⟨[(1,.s (.jH 1001 14 s.lo (n - s.lo))),(2,.s (.ptr 2 0)),(6,.s (.mo s.out.isEmpty 100)),(7,vI s.v),(8,vI s.p),(9,.s (.ptr 9 0))],[(1001,some (.row 259 n 14 (jM s.cur))),(2,some (.cells [.d (dI pt.month),.d (dI pt.cell),.d (dS pt.aO),.d (dI pt.iE),.d (dI pt.gH),.d (dI pt.load),.d (dS pt.dO)])),(100,some (.cA 130 s.out.length 7 (dY s.out))),(9,some (.cells [.d (dI pt.month),.d (dI pt.cell),.d (dS pt.aO),.d (dI (xD s)),.d (dI pt.gH),.d (dI (HW pt s)),.d (dS (EF pt s))]))]⟩) (aS.of [] (by rw[aA];rfl) rfl ⟨bQ,bQ,bQ,⟨rfl,aZ.of_eq (by rw[el,ep];rfl)⟩,oO⟩ ⟨qZ,qZ,qZ,qZ,qZ,qZ,oO⟩) ?_
     have e2:(aY pt s).cur=s.cur.set s.lo ((s.cur.getD s.lo default).1,aV ((s.cur.getD s.lo default).2 - xD s)):=by rw[WL];unfold aY;rw[xT];rfl
     have e1:(aY pt s).lo=bif aV ((s.cur.getD s.lo default).2 - xD s)==0 then s.lo+1 else s.lo:=by rw[WL];unfold aY;rw[xT];rfl
     refine sX aA ?_
     refine oi ⟨oM,oM⟩ ?_
     refine oi (show s.lo+(0:Int).toNat<n by omega) ?_
     refine oi ⟨oM,oM⟩ ?_
     refine ob (show s.lo+(0:Int).toNat<n by omega) ?_
     refine aD ?_
     refine AW.gG (σ':=⟨[(1,.s (.jH 1001 14 s.lo (n - s.lo))),(2,.s (.ptr 2 0)),(6,.s (.mo s.out.isEmpty 100)),(7,vI s.v),(8,vI s.p),(9,.s (.ptr 9 0))],[(1001,some (.row 259 n 14 (jM (aY pt s).cur))),(2,some (.cells [.d (dI pt.month),.d (dI pt.cell),.d (dS pt.aO),.d (dI pt.iE),.d (dI pt.gH),.d (dI pt.load),.d (dS pt.dO)])),(100,some (.cA 130 s.out.length 7 (dY s.out))),(9,some (.cells [.d (dI pt.month),.d (dI pt.cell),.d (dS pt.aO),.d (dI (xD s)),.d (dI pt.gH),.d (dI (HW pt s)),.d (dS (EF pt s))]))]⟩) (aS.of [] (by rw[aA];rfl) rfl ⟨⟨rfl,aZ.row rfl fun a c ha hc=>aL.of_eq (by rw[e2];exact aD9 (x:=aV ((s.cur.getD (s.lo+(0:Int).toNat) default).2 - xD s)) oM oM hc)⟩,bQ,bQ,bQ,oO⟩ ⟨qZ,qZ,qZ,qZ,qZ,qZ,oO⟩) ?_
     have hg:((aY pt s).cur.getD s.lo default).2=aV ((s.cur.getD s.lo default).2 - xD s):=by
      rw[e2]
      simp[List.getD_eq_getElem?_getD,show s.lo<s.cur.length by omega]
     refine sX aA ?_
     refine oi ⟨oM,oM⟩ ?_
     refine oi (show s.lo+(0:Int).toNat<n by omega) ?_
     refine AW.cond ?_
     refine aI (fun h3=>?_) (fun h3=>AW.skip ?_)
     ·have h3:(((aY pt s).cur.getD s.lo default).2==0)=true:=h3
      rw[hg]at h3
      rw[h3]at e1
      have e1:(aY pt s).lo=s.lo+1:=e1
      refine eX aA ?_
      refine oi (show(0:Int)≤1∧(1:Int)≤((n - s.lo:Nat):Int)∧((n - s.lo:Nat):Int)≤((n - s.lo:Nat):Int) by omega) ?_
      exact⟨rfl,aS.of [] (by rw[aA];rfl) rfl ⟨bQ,bQ,bQ,bQ,oO⟩ ⟨⟨rfl,aU.of_eq (by rw[e1,show n - (s.lo+1)=n - s.lo - 1 by omega];rfl)⟩,qZ,qZ,qZ,qZ,qZ,oO⟩⟩
     ·have h3:(((aY pt s).cur.getD s.lo default).2==0)=false:=h3
      rw[hg]at h3
      rw[h3]at e1
      have e1:(aY pt s).lo=s.lo:=e1
      exact⟨rfl,aS.of [] (by rw[aA];rfl) rfl ⟨bQ,bQ,bQ,bQ,oO⟩ ⟨⟨rfl,aU.of_eq (by rw[e1];rfl)⟩,qZ,qZ,qZ,qZ,qZ,oO⟩⟩
    ·have h2:¬((n - s.lo:Nat):Int)>0:=bG h2
     have xT:decide (s.lo<s.cur.length)=false:=decide_eq_false oM
     have WL:xD s=s.v:=by unfold xD;rw[xT];rfl
     have el:HW pt s=pt.load:=by unfold HW;rw[xT];rfl
     have ep:EF pt s=pt.dO:=by unfold EF;rw[xT];rfl
     have e1:(aY pt s).lo=s.lo:=by unfold aY;rw[xT];rfl
     have e2:(aY pt s).cur=s.cur:=by unfold aY;rw[xT];rfl
     exact⟨rfl,aS.of [] (by rw[aA];rfl) rfl ⟨⟨rfl,aZ.of_eq (by rw[e2];rfl)⟩,bQ,bQ,⟨rfl,aZ.of_eq (by rw[WL,el,ep];rfl)⟩,oO⟩ ⟨⟨rfl,aU.of_eq (by rw[e1];rfl)⟩,qZ,qZ,qZ,qZ,qZ,oO⟩⟩
   ·refine sX aA ?_
    refine sX aA ?_
    refine aD ?_
    refine eX aA ?_
    refine ob dC ?_
    refine ob (by rw[eL];show(s.out.length+1)*72≤_;omega) ?_
    refine ob (nZ fun c hc=>by match c,hc with|0,_|1,_|2,_|3,_|4,_|5,_|6,_=>rfl) ?_
    refine⟨(k',aY pt s),hJ2,Nat.lt_succ_self _,?_⟩
    refine aS.of [(100,73)] (by rw[aA];rfl) rfl ⟨bQ,bQ,⟨rfl,?_⟩,oO⟩ ⟨qZ,qZ,⟨rfl,aU.mo (by rw[kU];exact cG _ _)⟩,⟨rfl,aU.int (KT pt s).symm⟩,⟨rfl,aU.int (KU pt s).symm⟩,oO⟩
    show aZ _ (.cA 130 (aY pt s).out.length 7 (dY (aY pt s).out))
    rw[kU]
    refine aZ.snoc (el:=aCL) (x:=⟨pt.month,pt.cell,pt.aO,xD s,mm false s.p (xD s),HW pt s,EF pt s⟩) (fun c hc=>?_)
    have hc:c<7:=hc
    match c,hc with|0,_|1,_|2,_|3,_|4,_|5,_|6,_=>rfl
  ·have h1:¬s.v>0:=bG h1
   have hr:=hJ.run
   simp only at hr
   rw[AD h1]at hr
   subst hr
   refine eX aA ?_
   exact⟨aBX (aL.zZ (eL _) fun _ _ _ _=>aL.refl _),rfl,oO⟩
end Go.Pj
namespace Go.Ax
open Go.RowKit
section
variable{P:Program}{T:List (Nat×bP)}{N:Nat}{all:List Oper}{md:Region.Mode}{ft:List fK}
def TE(e:Ef):Prop:=∀p∈e.2,∀b,p.2=some b→b.real=true
def I1(P:Program)(T:List (Nat×bP))(N:Nat)(all:List Oper)(m:Nat)(om:Oper)(em:Ef)(fm:fK)(C:St→Prop)(i:Nat)(o:Oper)(σ:St)(e:Ef)(f:fK):Prop:=
 (i≠m∧EC P T N [] all o σ e f∧TE e)∨(i=m∧o=om∧e=em∧f=fm∧C σ)
structure Mid(all:List Oper)(om:Oper)(em:Ef)(fm:fK)(C:St→Prop):Prop where
 wr:em.2.map (·.1)=fm.2
 real:TE em
 congr:∀σ σ',C σ→S4 all om σ σ'→(∀x,x∈fm.2→aH σ'.box x=aH σ.box x)→C σ'
variable{m:Nat}{om:Oper}{em:Ef}{fm:fK}{C:St→Prop}(hm:Mid all om em fm C)
include hm
theorem I1.wr{i:Nat}{o:Oper}{σ:St}{e:Ef}{f:fK}(h:I1 P T N all m om em fm C i o σ e f):e.2.map (·.1)=f.2:=by
 rcases h with⟨_,h,_⟩|⟨_,_,rfl,rfl,_⟩
 ·exact h.wr
 ·exact hm.wr
theorem I1.congr{i:Nat}{o:Oper}{σ σ':St}{e:Ef}{f:fK}(h:I1 P T N all m om em fm C i o σ e f)(ht:S4 all o σ σ')(hr:vU f.1 σ σ')(hw:∀x,x∈f.2→aH σ'.box x=aH σ.box x):I1 P T N all m om em fm C i o σ' e f:=by
 rcases h with⟨h0,h,h1⟩|⟨h0,rfl,rfl,rfl,h⟩
 ·exact .inl ⟨h0,h.congr ht hr hw,h1⟩
 ·exact .inr ⟨h0,rfl,rfl,rfl,hm.congr _ _ h ht hw⟩
theorem I1.eqv{i:Nat}{o:Oper}{σ σ':St}{e:Ef}{f:fK}(h:I1 P T N all m om em fm C i o σ e f)(k:EP σ σ'):I1 P T N all m om em fm C i o σ' e f:=
 h.congr hm (fun t _=>k.env t) (fun x _=>k.box x) (fun x _=>k.box x)
theorem I1.past{j:Nat}{oi oj:Oper}{ei ej:Ef}{fi fj:fK}{σ:St}(hwi:ei.2.map (·.1)=fi.2)(B0:oi.apart all.toArray oj=true)(wZ:gY fi fj=true)(h:I1 P T N all m om em fm C j oj (eI oi ei σ) ej fj):I1 P T N all m om em fm C j oj σ ej fj:=by
 obtain⟨h1,h2,h3⟩:=Oper.apart_spec B0
 obtain⟨k1,k2,k3⟩:=gY.spec wZ
 have ht:S4 all oj σ (eI oi ei σ):=S4.eI h1
 refine h.congr hm (fun t DN=>(ht t DN).symm) (fun x hx=>(oC (fun hw=>?_)).symm) (fun x hx=>(oC (fun hw=>?_)).symm)
 ·exact k1 x (hwi▸hw) hx
 ·exact k2 x (hwi▸hw) hx
theorem I1.over{i:Nat}{oi oj:Oper}{ei ej:Ef}{fi fj:fK}{σ:St}(hwj:ej.2.map (·.1)=fj.2)(B0:oi.apart all.toArray oj=true)(wZ:gY fi fj=true)(h:I1 P T N all m om em fm C i oi σ ei fi):I1 P T N all m om em fm C i oi (eI oj ej σ) ei fi:=by
 obtain⟨h1,h2,h3⟩:=Oper.apart_spec B0
 obtain⟨k1,k2,k3⟩:=gY.spec wZ
 refine h.congr hm (S4.eI h3) (fun x hx=>oC (fun hw=>?_)) (fun x hx=>oC (fun hw=>?_))
 ·exact k3 x (hwj▸hw) hx
 ·exact k2 x hx (hwj▸hw)
omit hm
def vO(P:Program)(T:List (Nat×bP))(N:Nat)(all:List Oper)(m:Nat)(om:Oper)(em:Ef)(fm:fK)(C:St→Prop)(md:Region.Mode)(ft:List fK)(σf:St)(last:Nat):Nat→Array Bool→St→Prop
 |0,_,_=>False
 |fuel+1,listed,σ=>
  Region.ready md all.toArray listed≠[]∧
  ∀i∈Region.ready md all.toArray listed,(i=last∧Region.ready md all.toArray (listed.setIfInBounds i true)=[]∧listed.getD m true=true∧EP σf σ)∨
   (i≠last∧∃o e f,all[i]? =some o∧ft[i]? =some f∧I1 P T N all m om em fm C i o σ e f∧vO P T N all m om em fm C md ft σf last fuel (listed.setIfInBounds i true) (eI o e σ))
include hm
theorem vO.eqv{σf:St}{last:Nat}:∀(fuel:Nat) {listed:Array Bool} {σ σ':St},EP σ σ'→vO P T N all m om em fm C md ft σf last fuel listed σ→vO P T N all m om em fm C md ft σf last fuel listed σ'
 |0,_,_,_,_,h=>h
 |fuel+1,_,_,_,k,h=>⟨h.1,fun i hi=>by
  rcases h.2 i hi with⟨h1,h2,h3,h4⟩|⟨h0,o,e,f,h1,h2,h3,h4⟩
  ·exact .inl ⟨h1,h2,h3,h4.trans k⟩
  ·exact .inr ⟨h0,o,e,f,h1,h2,h3.eqv hm k,vO.eqv fuel (eI.eqv k) h4⟩⟩
theorem vO.first{σf:St}{last:Nat}{i:Nat}{oi:Oper}{ei:Ef}{fi:fK}(hi:all[i]? =some oi)(hfi:ft[i]? =some fi)(hil:i≠last){d:Nat}(aAG:dep md all.toArray i d last=true):
  ∀(fuel:Nat) (listed:Array Bool) (σ:St),
   (∀j oj fj,all[j]? =some oj→ft[j]? =some fj→j≠i→listed.getD j true=false→(∀n,dep md all.toArray i n j=false)→oi.apart all.toArray oj=true∧gY fi fj=true)→rV md all listed→
   i∈Region.ready md all.toArray listed→I1 P T N all m om em fm C i oi σ ei fi→
   vO P T N all m om em fm C md ft σf last fuel (listed.setIfInBounds i true) (eI oi ei σ)→vO P T N all m om em fm C md ft σf last (fuel+1) listed σ:=by
 intro fuel
 induction fuel with
 |zero=>intro listed σ _ _ hr hy H;exact H.elim
 |succ fuel ih=>
  intro listed σ DR xU hr hy H
  refine⟨fun h=>(by rw[h]at hr;cases hr),fun j hj=>?_⟩
  by_cases x8:j=i
  ·subst x8;exact .inr ⟨hil,oi,ei,fi,hi,hfi,hy,H⟩
  ·obtain⟨OX,oj',aAB,kM⟩:=mem_ready.1 hj
   have DP:all[j]? =some oj':=by simpa using aAB
   have LS:∀n,dep md all.toArray i n j=false:=fun n=>L8 xU (L0 (mem_ready.1 hr).1) n j oj' DP kM
   have rZ:j≠last:=fun e=>by rw[e]at LS;rw[LS d]at aAG;cases aAG
   rcases H.2 j (ready_mono hj x8)with⟨h1,_,_⟩|⟨_,oj,ej,fj,RL,hfj,ZX,Hj⟩
   ·exact absurd h1 rZ
   obtain rfl:oj=oj':=Option.some.inj (RL.symm.trans DP)
   obtain⟨B0,wZ⟩:=DR j oj fj RL hfj x8 OX LS
   have ZW:I1 P T N all m om em fm C j oj σ ej fj:=I1.past hm (hy.wr hm) B0 wZ ZX
   have ZY:I1 P T N all m om em fm C i oi (eI oj ej σ) ei fi:=I1.over hm (ZX.wr hm) B0 wZ hy
   have GR:∀k ok fk,all[k]? =some ok→ft[k]? =some fk→k≠i→(listed.setIfInBounds j true).getD k true=false→
     (∀n,dep md all.toArray i n k=false)→oi.apart all.toArray ok=true∧gY fi fk=true:=fun k ok fk hk nR QJ T0 V9=>by
    refine DR k ok fk hk nR QJ ?_ V9
    by_cases QK:j=k
    ·subst QK;exact OX
    ·rw[getD_set_ne true QK]at T0;exact T0
   refine .inr ⟨rZ,oj,ej,fj,RL,hfj,ZW,ih (listed.setIfInBounds j true) (eI oj ej σ) GR (xU.set RL kM) (ready_mono hr (Ne.symm x8)) ZY ?_⟩
   rw[Array.setIfInBounds_comm _ _ x8]
   refine vO.eqv hm fuel ?_ Hj
   obtain⟨h1,h2,h3⟩:=Oper.apart_spec B0
   obtain⟨k1,k2,k3⟩:=gY.spec wZ
   exact(eI.comm (fun d hd=>h2 d hd) (fun x hx=>by rw[hy.wr hm]at hx;rw[ZX.wr hm];exact k2 x hx)).symm
omit hm
def S3(P:Program)(T:List (Nat×bP))(N:Nat)(all:List Oper)(m:Nat)(om:Oper)(em:Ef)(fm:fK)(C:St→Prop):Nat→List Oper→St→List Ef→List fK→Prop
 |_,[],_,[],[]=>True
 |k,o::l,σ,e::es,f::fs=>I1 P T N all m om em fm C k o σ e f∧S3 P T N all m om em fm C (k+1) l (eI o e σ) es fs
 |_,_,_,_,_=>False
def ZD(md:Region.Mode)(ops:Array Oper)(ft:List fK)(last m:Nat):Nat→Nat→Array Bool→Bool
 |0,_,listed=>(match Region.ready md ops listed with|[i]=>Nat.beq i last|_=>false)&&(Region.ready md ops (listed.setIfInBounds last true)).isEmpty&&listed.getD m true
 |fuel+1,k,listed=>(Region.ready md ops listed).contains k&&A5 md ops ft listed k&&(!Nat.beq k last&&dep md ops k 8 last)&&ZD md ops ft last m fuel (k+1) (listed.setIfInBounds k true)
include hm
theorem vO.lex{last:Nat}:∀(l:List Oper) (k:Nat) (listed:Array Bool) (σ:St) (es:List Ef) (fs:List fK),(∀j o,l[j]? =some o→all[k+j]? =some o)→(∀j,fs[j]? =ft[k+j]?)→
  rV md all listed→ZD md all.toArray ft last m l.length k listed=true→S3 P T N all m om em fm C k l σ es fs→vO P T N all m om em fm C md ft (qI l σ es) last (l.length+1) listed σ
 |[],_,listed,_,[],[],_,_,_,hB,_=>by
  simp only [List.length_nil,ZD,Bool.and_eq_true]at hB
  obtain⟨⟨h1,h2⟩,h3⟩:=hB
  cases hr:Region.ready md all.toArray listed with
  |nil=>rw[hr]at h1;cases h1
  |cons i t=>
   rw[hr]at h1
   cases t with
   |cons _ _=>cases h1
   |nil=>
    have hi:=Nat.eq_of_beq_eq_true h1
    subst hi
    show vO P T N all m om em fm C md ft _ i 1 listed _
    refine⟨by rw[hr];simp,fun j hj=>?_⟩
    rw[hr]at hj
    obtain rfl:j=i:=by simpa using hj
    exact .inl ⟨rfl,by simpa using h2,h3,EP.refl _⟩
 |o::l,k,listed,σ,e::es,f::fs,hl,hf,xU,hB,⟨h1,h2⟩=>by
  have h0:all[k]? =some o:=hl 0 o rfl
  have T2:ft[k]? =some f:=by simpa using(hf 0).symm
  simp only [List.length_cons,ZD,Bool.and_eq_true,Bool.not_eq_true']at hB
  obtain⟨⟨⟨hr,hfr⟩,gI,hdp⟩,hB'⟩:=hB
  have BZ:k∈Region.ready md all.toArray listed:=by simpa using hr
  have QI:k≠last:=fun e=>by subst e;simp at gI
  have kM:∀e∈o.after,Region.binds md e=true→listed.getD e.on false=true:=by
   obtain⟨_,o',rK,h⟩:=mem_ready.1 BZ
   have:all[k]? =some o':=by simpa using rK
   rw[h0]at this;cases this
   exact h
  exact vO.first hm h0 T2 QI hdp (l.length+1) listed σ (A5.spec h0 T2 hfr) xU BZ h1
   (vO.lex l (k+1) _ _ es fs (fun j o' h=>by have:=hl (j+1) o' h;simpa [Nat.add_assoc,Nat.add_comm 1 j]using this) (fun j=>by have:=hf (j+1);simpa [Nat.add_assoc,Nat.add_comm 1 j]using this) (xU.set h0 kM) hB' h2)
 |[],_,_,_,_::_,_,_,_,_,_,h=>by cases ‹List fK› <;> exact h.elim
 |[],_,_,_,[],_::_,_,_,_,_,h=>h.elim
 |_::_,_,_,_,[],_,_,_,_,_,h=>h.elim
 |_::_,_,_,_,_::_,[],_,_,_,_,h=>h.elim
end
section
variable{P:Program}{T:List (Nat×bP)}{N:Nat}{all:List Oper}{md:Region.Mode}{ft:List fK}
variable{m:Nat}{om:Oper}{em:Ef}{fm:fK}{C:St→Prop}{cx:Cx}{H0 H1:Hid}
theorem J3:∀{l k:aN} {x:Nat} {y:Option jE},aH (l++k) x=some y→(∃p∈l,p.2=y)∨aH k x=some y
 |[],_,_,_,h=>.inr h
 |(a,b)::r,k,x,y,h=>by
  rw[List.cons_append,aK]at h
  by_cases hx:a=x
  ·rw[if_pos hx]at h
   exact .inl ⟨(a,b),List.mem_cons_self ..,Option.some.inj h⟩
  ·rw[if_neg hx]at h
   rcases J3 h with⟨p,hp,e⟩|h
   ·exact .inl ⟨p,List.mem_cons_of_mem _ hp,e⟩
   ·exact .inr h
def JH(σ:St):Prop:=∀x b,aH σ.box x=some (some b)→b.real=true
theorem JH.app{o:Oper}{e:Ef}{σ:St}(h:JH σ)(he:TE e):JH (eI o e σ):=by
 intro x b hb
 have XX:aH (e.2++σ.box) x=some (some b):=by
  have:(eI o e σ).box=e.2++σ.box:=by unfold eI;simp only [E3]
  rw[this]at hb;exact hb
 rcases J3 XX with⟨p,hp,e1⟩|h1
 ·exact he p hp b e1
 ·exact h x b h1
theorem DW{x:Nat}{y:Option jE}:∀{l:aN},aH l x=some y→x∈l.map (·.1)
 |[],h=>by cases h
 |(k,v)::r,h=>by
  rw[aK]at h
  by_cases hk:k=x
  ·subst hk;simp
  ·rw[if_neg hk]at h
   simp only [List.map_cons,List.mem_cons]
   exact .inr (DW h)
theorem vO.sound(hm:Mid all om em fm C)(hT:b7 P T)(aA:cx.ref=[]){last:Nat}{ol:Oper}(GP:all[last]? =some ol)(hg:ol.guard=none)(hgm:om.guard=none)
  (Z2:∀σ,C σ→nE P cx N om σ H0 fun s H'=>s=eI om em σ∧H'=H1)
  {σf:St} {K:St→Hid→Prop} (uT:nE P cx N ol σf H1 K) {M0:Mem} {w0:World} {Q:Exit→Act→World→Prop} (hQ:∀a' w',xL cx N M0 w0 K a' w'→Q .normal a' w'):
  ∀(fuel:Nat) {listed:Array Bool} {σ:St} {M:Mem} {β:Nm} {a:Act} {w:World},
   vO P T N all m om em fm C md ft σf last fuel listed σ→Inv cx N M β σ a w→lU cx M β σ w (bif listed.getD m true then H1 else H0)→JH σ→Grow cx.B M0 M→b8 cx w0 w→
   wpAnyIn (FW cx.rd) 0 P md all.toArray Q fuel listed a w:=by
 intro fuel
 induction fuel with
 |zero=>intro listed σ M β a w h;exact h.elim
 |succ fuel ih=>
  intro listed σ M β a w h i hi jW g0 k0
  refine⟨fun h0=>absurd h0 h.1,fun k hk=>?_⟩
  rcases h.2 k hk with⟨QI,hr,hlm,heq⟩|⟨QI,o,e,f,ho,hf,fG,JX⟩
  ·subst QI
   have rK:all.toArray[k]? =some ol:=by simpa using GP
   unfold wpOpIn
   rw[rK]
   simp only
   rw[if_pos (by simp[Region.wanted,hg])]
   rw[hlm]at hi
   have bK:lU cx M β σ w H1:=hi
   have hi2:lU cx M β σf w H1:=⟨bK.holds,bK.low,bK.apart,fun x bc b c e1=>bK.names x bc b c (by rw[←e1];exact heq.box x)⟩
   exact LA uT.1 (Oper.wp_mono (fun a' w' hp=>wpAny_done fuel hr (hQ a' w' (hp.trans g0 k0))) (uT.2 M β a w (i.eqv heq.symm) hi2 Q))
  ·have rK:all.toArray[k]? =some o:=by simpa using ho
   have T0:=(mem_ready.1 hk).1
   rcases fG with⟨hkm,fG,T1⟩|⟨hkm,rfl,rfl,rfl,hc⟩
   ·have aMU:(listed.setIfInBounds k true).getD m true=listed.getD m true:=getD_set_ne true hkm
    let ks:List Nat:=(σ.box.map (·.1)).filter fun x=>match aH σ.box x with|some (some _)=>true|_=>false
    have lJ:∀x,x∈ks→∃bc,aH σ.box x=some (some bc):=by
     intro x hx
     have h2:=(List.mem_filter.1 hx).2
     cases hb:aH σ.box x with
     |none=>rw[hb]at h2;cases h2
     |some y=>cases y with
      |none=>rw[hb]at h2;cases h2
      |some bc=>exact⟨bc,rfl⟩
    have kM:∀x bc,aH σ.box x=some (some bc)→x∈ks:=fun x bc hx=>List.mem_filter.2 ⟨DW hx,by rw[hx]⟩
    have gI:∀x,x∈ks→∃p,β x=some p:=fun x hx=>by
     obtain⟨bc,h1⟩:=lJ x hx
     obtain⟨b,c,e⟩:=(i.box x bc h1).exb (jW x bc h1)
     exact⟨_,e⟩
    have hrf:∀x,x∈cx.ref→x∈ks:=fun x hx=>by rw[aA]at hx;cases hx
    have ii:=i.aC2 (rd:=cx.rd) lJ kM gI i.defers
    have iU:=aY.sound (cx:=Cx.part w ks β cx.rd cx.df) (Q:=Q) hT (fun f hf=>by cases hf) (fG.pt (fun e'=>e'=e) rfl) ii
    have next:∀a' w',BT (Cx.part w ks β cx.rd cx.df) N M w o σ (fun e'=>e'=e) a' w'→wpAnyIn (FW cx.rd) 0 P md all.toArray Q fuel (listed.setIfInBounds k true) a' w':=by
     rintro a' w' ⟨e',M',β',rfl,i',g,kp⟩
     refine ih JX (Inv.back i lJ hrf i' (b8.back i lJ kp) i'.defers i'.tmps i'.env) ?_ (jW.app T1) (g0.trans (Grow.back i g)) (k0.trans (b8.back i lJ kp))
     rw[aMU]
     exact hi.after lJ i' g kp
    unfold wpOpIn
    rw[rK]
    simp only
    split
    ·rename_i hw
     rw[if_pos hw]at iU
     exact LA iU.1 (Oper.wp_mono next iU.2)
    ·rename_i hw
     rw[if_neg hw]at iU
     exact⟨fun _ _=>trivial,next _ _ iU⟩
   ·subst hkm
    have hl0:listed.getD k true=false:=T0
    rw[hl0]at hi
    have bK:lU cx M β σ w H0:=hi
    have fR:k<listed.size:=by
     by_cases l5:k<listed.size
     ·exact l5
     ·simp[l5]at hl0
    have hl1:(listed.setIfInBounds k true).getD k true=true:=by simp[fR]
    unfold wpOpIn
    rw[rK]
    simp only
    rw[if_pos (by simp[Region.wanted,hgm])]
    have hs:=Z2 σ hc
    refine LA hs.1 (Oper.wp_mono ?_ (hs.2 M β a w i bK Q))
    rintro a' w' ⟨σ',M',β',H',⟨rfl,rfl⟩,i',hh,g,kp⟩
    refine ih JX i' ?_ (jW.app hm.real) (g0.trans g) (k0.trans kp)
    rw[hl1]
    exact hh
def NQ(e:Ef):Bool:=e.2.all fun p=>match p.2 with|some b=>b.real|none=>true
theorem NQ.spec{e:Ef}(h:NQ e=true):TE e:=by
 intro p hp b hb
 unfold NQ at h
 rw[List.all_eq_true]at h
 have:=h p hp
 rw[hb]at this
 exact this
def runM(P:Program)(T:List (Nat×bP))(N:Nat)(all:List Oper)(m:Nat)(om:Oper)(em:Ef)(fm:fK)(C:St→Prop):Nat→List Oper→St→List fK→(St→List fK→Prop)→Prop
 |_,[],σ,fs,K=>K σ fs.reverse
 |k,o::rest,σ,fs,K=>match Nat.beq k m with
  |true=>o=om∧C σ∧runM P T N all m om em fm C (k+1) rest (eI o em σ) (fm::fs) K
  |false=>aY P T N [] all o σ fun e=>NQ e=true∧runM P T N all m om em fm C (k+1) rest (eI o e σ) (L2 σ o e::fs) K
theorem runM.chain:∀{l:List Oper} {k:Nat} {σ:St} {fs:List fK} {K:St→List fK→Prop},runM P T N all m om em fm C k l σ fs K→∃es gs,S3 P T N all m om em fm C k l σ es gs∧es.length=l.length∧K (qI l σ es) (fs.reverse++gs)
 |[],k,σ,fs,K,h=>⟨[],[],trivial,rfl,by have h':K σ fs.reverse:=h;simpa [qI]using h'⟩
 |o::rest,k,σ,fs,K,h=>by
  unfold runM at h
  cases hb:Nat.beq k m with
  |true=>
   rw[hb]at h
   obtain⟨ho,hc,h⟩:=h
   obtain⟨es,gs,hch,hl,hK⟩:=runM.chain h
   refine⟨em::es,fm::gs,⟨.inr ⟨Nat.eq_of_beq_eq_true hb,ho,rfl,rfl,hc⟩,hch⟩,by simp[hl],?_⟩
   simpa [qI]using hK
  |false=>
   rw[hb]at h
   obtain⟨e,⟨T1,hk⟩,hp⟩:=aY.pt h
   obtain⟨es,gs,hch,hl,hK⟩:=runM.chain hk
   refine⟨e::es,L2 σ o e::gs,⟨.inl ⟨fun hkm=>(by subst hkm;rw[Nat.beq_refl]at hb;cases hb),⟨hp,rfl,rfl⟩,NQ.spec T1⟩,hch⟩,by simp[hl],?_⟩
   simpa [qI]using hK
theorem bN.T9{K:Exit→St→Hid→Prop}{id:Nat}{ops:Array Oper}{σ:St}(hm:Mid ops.toList om em fm C)(hT:b7 P T)(aA:cx.ref=[])(hmx:P.follows .mixedOrders=true)(jW:JH σ)(last:Nat){ol:Oper}
  (GP:ops.toList[last]? =some ol) (l5:Nat.beq ops.toList.length (last+1)=true) (hml:m<last) (hg:ol.guard=none) (hgm:om.guard=none)
  (Z2:∀σ,C σ→nE P cx N om σ H0 fun s H'=>s=eI om em σ∧H'=H1)
  (h:runM P T N ops.toList m om em fm C 0 (ops.toList.take last) σ [] fun σ' fs=>ZD .any ops.toList.toArray fs last m (ops.toList.take last).length 0 (Array.replicate ops.toList.length false)=true∧nE P cx N ol σ' H1 (K .normal)):
  bN P cx N (.region id ops true) σ H0 K:=by
 obtain⟨es,gs,hc,_,hl,hK⟩:=runM.chain h
 intro M β a w i hi
 refine wpIn_region_any hmx ?_
 have aAI:=vO.lex (md:=.any) (ft:=gs) hm (ops.toList.take last) 0 (Array.replicate ops.toList.length false) σ es gs (fun j o h=>by
  rw[Nat.zero_add]
  exact(List.getElem?_eq_some_iff.1 h).elim fun h1 h2=>by rw[List.getElem_take]at h2;rw[List.length_take]at h1;rw[List.getElem?_eq_getElem oM];exact congrArg some h2) sM (fun m om _ h=>by simp[Array.getElem?_replicate]at h;split at h <;> simp_all) hl hc
 have MU:Inv cx N M β σ a {w with drawn:=w.drawn+1}:=
  ⟨i.defers,i.tmps,⟨i.heap.le,i.heap.tab⟩,i.env,i.mem,i.keys,i.box,i.inj,i.apart,i.low,i.ref⟩
 have hh1:lU cx M β σ {w with drawn:=w.drawn+1} H0:=⟨H0.loc M M w _ hi.holds (Mem.le_refl M) fun _ _=>rfl,hi.low,hi.apart,hi.names⟩
 have kd:b8 cx w {w with drawn:=w.drawn+1}:=⟨rfl,rfl,rfl,Nat.le_refl _,fun _ _ _=>rfl,oO⟩
 have hlen:ops.toList.length=last+1:=Nat.eq_of_beq_eq_true l5
 have hm0:(Array.replicate ops.toList.length false).getD m true=false:=by
  have:m<ops.toList.length:=oM
  simp only [Array.getD,Array.size_replicate,this,dite_true]
  simp
 have:=vO.sound (cx:=cx) (Q:=fun e a' w'=>xL cx N M w (K e) a' w') (M0:=M) (w0:={w with drawn:=w.drawn+1}) hm hT aA GP hg hgm Z2 hK
  (fun a2 w2 hp=>hp.trans (Grow.refl _ _) kd) _ aAI MU (by rw[hm0];exact hh1) jW (Grow.refl _ _) (b8.refl _ _)
 have aJP:(ops.toList.take last).length+1=ops.toList.length:=by
  rw[List.length_take];omega
 rw[aJP]at this
 simpa using this
end
end Go.Ax
namespace Go.Pj.Rm
open Go Go.Pj Go.Ax Go.Ch Go.Proofs Go.Proofs.Tryz
abbrev gF:=b9×List Room×Nat
structure uY(r:mB)(ts:List Room):Prop where
 lo:r.lo=0
 n:r.n=ts.length
 f:∀i j,i<ts.length→j<14→aL (r.f i j) (jM ts i j)
structure EOK(q:bJ)(e:gF):Prop where
 key:q.key=bs e.1
 born:q.born=e.2.2
 ne:e.2.1≠[]
 row:∃r,q.row=some r∧uY r e.2.1
def dW:List bJ→List gF→Prop
 |[],[]=>True
 |q::r,e::s=>EOK q e∧dW r s
 |_,_=>False
theorem dW.append:∀{l m:List bJ} {E F:List gF},dW l E→dW m F→dW (l++m) (E++F)
 |[],_,[],_,_,h=>h
 |_::_,_,_::_,_,h,k=>⟨h.1,dW.append h.2 k⟩
 |[],_,_::_,_,h,_=>h.elim
 |_::_,_,[],_,h,_=>h.elim
theorem dW.modify:∀{l:List bJ} {E:List gF} {i:Nat} {g:bJ→bJ} {g':gF→gF},dW l E→(∀q e,l[i]? =some q→E[i]? =some e→EOK q e→EOK (g q) (g' e))→dW (l.modify i g) (E.modify i g')
 |[],[],_,_,_,_,_=>by simp[dW]
 |q::r,e::s,0,g,g',h,k=>by
  simp only [List.modify_zero_cons]
  exact⟨k q e rfl rfl h.1,h.2⟩
 |q::r,e::s,i+1,g,g',h,k=>by
  simp only [List.modify_succ_cons]
  exact⟨h.1,dW.modify h.2 fun q e hq he=>k q e (by simpa using hq) (by simpa using he)⟩
 |[],_::_,_,_,_,h,_=>h.elim
 |_::_,[],_,_,_,h,_=>h.elim
def fE:List gF→b9→Nat→Option (Nat×gF)
 |[],_,_=>none
 |e::r,k,i=>bif k==e.1 then some (i,e)else fE r k (i+1)
theorem sR:∀{l:List bJ} {E:List gF} {k:b9} {i:Nat},dW l E→fE E k i=none→cY l (bs k) i=none
 |[],[],_,_,_,_=>rfl
 |q::r,e::s,k,i,h,hf=>by
  rw[fE]at hf
  rw[cY,h.1.key,uG]
  cases hk:k==e.1 with
  |true=>rw[hk]at hf;cases hf
  |false=>rw[hk]at hf;exact sR h.2 hf
 |[],_::_,_,_,h,_=>h.elim
 |_::_,[],_,_,h,_=>h.elim
theorem pH:∀{l:List bJ} {E:List gF} {k:b9} {i:Nat} {p:Nat×gF},dW l E→fE E k i=some p→∃q,cY l (bs k) i=some (p.1,q)∧EOK q p.2
 |[],[],_,_,_,_,hf=>by cases hf
 |q::r,e::s,k,i,p,h,hf=>by
  rw[fE]at hf
  rw[cY,h.1.key,uG]
  cases hk:k==e.1 with
  |true=>
   rw[hk]at hf
   obtain rfl:(i,e)=p:=Option.some.inj hf
   exact⟨q,rfl,h.1⟩
  |false=>rw[hk]at hf;exact pH h.2 hf
 |[],_::_,_,_,_,h,_=>h.elim
 |_::_,[],_,_,_,h,_=>h.elim
theorem zC:∀{E:List gF} {k:b9} {i:Nat} {p:Nat×gF},fE E k i=some p→i≤p.1∧E[p.1 - i]? =some p.2∧p.2.1=k
 |[],_,_,_,h=>by cases h
 |e::r,k,i,p,h=>by
  rw[fE]at h
  cases hk:k==e.1 with
  |true=>
   rw[hk]at h
   obtain rfl:(i,e)=p:=Option.some.inj h
   exact⟨Nat.le_refl _,sM,(by simpa using hk:k=e.1).symm⟩
  |false=>
   rw[hk]at h
   obtain⟨h1,h2,h3⟩:=zC (i:=i+1) h
   refine⟨oM,?_,h3⟩
   rw[show p.1 - i=(p.1 - (i+1))+1 by omega,List.getElem?_cons_succ]
   exact h2
def oT(E:List gF)(k:b9)(t:Room):List gF:=match fE E k 0 with
 |some (i,_)=>E.modify i fun e=>(e.1,e.2.1++ [t],e.2.2)
 |none=>E++ [(k,[t],E.length)]
theorem xP{h:HM}{E:List gF}{k:b9}{j:Nat}{q:bJ}{v:Value}{r:mB}{ts:List Room}(ha:dW h.l E)(hf:cY h.l (bs k) 0=some (j,q))(hr:uY r ts)(gI:ts≠[]):
  dW (eG {h with l:=cP h.l j} (bs k) v (some r)).l (E.modify j fun e=>(e.1,ts,e.2.2))∧(eG {h with l:=cP h.l j} (bs k) v (some r)).bm=h.bm∧(eG {h with l:=cP h.l j} (bs k) v (some r)).clock=h.clock∧(eG {h with l:=cP h.l j} (bs k) v (some r)).it=h.it:=by
 have h1:=Go.Pj.sQ h.l (bs k) j 0
 rw[hf]at h1
 unfold eG
 simp only
 cases hq:cY (cP h.l j) (bs k) 0 with
 |none=>rw[hq]at h1;cases h1
 |some p=>
  obtain⟨i,q'⟩:=p
  rw[hq]at h1
  obtain rfl:i=j:=by simpa using h1
  refine⟨?_,rfl,rfl,rfl⟩
  show dW ((cP h.l i).modify i _) _
  unfold cP
  rw[List.modify_modify_eq]
  exact ha.modify fun q e _ _ ho=>⟨ho.key,ho.born,gI,r,rfl,hr⟩
theorem KV{h:HM}{E:List gF}{k:b9}{v:Value}{r:mB}{ts:List Room}(ha:dW h.l E)(hc:h.clock=E.length)(hf:cY h.l (bs k) 0=none)(hr:uY r ts)(gI:ts≠[]):
  dW (eG h (bs k) v (some r)).l (E++ [(k,ts,E.length)])∧(eG h (bs k) v (some r)).bm=h.bm∧(eG h (bs k) v (some r)).clock=E.length+1∧(eG h (bs k) v (some r)).it=h.it:=by
 unfold eG
 rw[hf]
 refine⟨?_,rfl,by simp only;omega,rfl⟩
 refine ha.append ⟨⟨rfl,by simp only;exact hc,gI,r,rfl,hr⟩,oO⟩
end Go.Pj.Rm
namespace Go.Pj
open Go Go.Ax Go.Ch Go.Proofs Go.Proofs.Tryz Go.Sort Go.Shelf
def aKY(a b:Int):Int:=if a<b then -1 else if b<a then 1 else 0
def orI(a b:Int):Int:=bif a !=0 then a else bif b !=0 then b else 0
def cfL(x y:Fact):Int:=orI (aKY x.month y.month) (aKY x.number y.number)
def H5(l:List Fact):List Fact:=l.mergeSort fun x y=> !(ltOf cfL y x)
theorem zX(l:List Fact):(H5 l).length=l.length:=by unfold H5;simp
end Go.Pj
namespace Go.Pj
open Go Go.Ax Go.Ch Go.Proofs Go.Proofs.Tryz
theorem UX{y:fV}(h:kA y=0):y.carry.length=y.a8.length∧∀i,i<y.a8.length→(y.a8.getD i default).den≠0:=by
 unfold kA at h
 obtain⟨_,h⟩:=c8 dC h
 obtain⟨_,h⟩:=dK h
 obtain⟨h,_⟩:=dK h
 unfold oD at h
 obtain⟨_,h⟩:=c8 dC h
 obtain⟨h1,h⟩:=dK h
 obtain⟨h2,_⟩:=c8 dC h
 have h2:(y.carry.length:Int)=y.a8.length:=by simpa using h2
 refine⟨oM,fun i hi=>?_⟩
 have hb:=kX h1 i (Nat.zero_le _) oM
 unfold qR at hb
 obtain⟨_,hb⟩:=c8 dC hb
 obtain⟨_,hb⟩:=c8 dC hb
 unfold IL at hb
 obtain⟨hb,_⟩:=c8 dC hb
 simp only [Bool.or_eq_false_iff,Bool.not_eq_false',within,Bool.and_eq_true,decide_eq_true_eq]at hb
 omega
theorem xK.of{y:fV}(h1:y.fits)(h2:y.small):xK y:=⟨h1,h2,UX⟩
theorem xK.plc{y:fV}(h:xK y){b:Batch}{dO:ByteArray}(he:nU y b dO=0):xK (NV y b dO):=by
 have hd:y.bC.length<200:=by
  unfold nU at he
  obtain⟨_,he⟩:=dK he
  obtain⟨_,he⟩:=c8 dC he
  obtain⟨_,he⟩:=c8 dC he
  obtain⟨_,he⟩:=dK he
  obtain⟨he,_⟩:=c8 dC he
  simp only [decide_eq_false_iff_not]at he
  omega
 have hc:(oB y b).length=y.carry.length:=by unfold oB;simp
 have hf:=h.fits
 have hs:=h.small
 refine xK.of ⟨hf.aP,hf.a8,?_,?_,hf.uQ,hf.qG,hf.aT⟩ ⟨hs.aP,hs.a8,?_,?_,hs.aT⟩
 ·show(y.bC++_).length≤_
  rw[List.length_append];simp only [List.length_singleton];omega
 ·show(oB y b).length≤_
  rw[hc];exact hf.carry
 ·show(y.bC++_).length≤_
  rw[List.length_append];simp only [List.length_singleton];omega
 ·show(oB y b).length≤_
  rw[hc];exact hs.carry
def yC(f:Fact):Batch:=⟨f.number,f.aW,f.over,f.aO,f.cls⟩
def sI(fs:List Fact)(m:Int):List Fact:=fs.filter fun f=>f.kind==1&&decide (f.month≤m)
def jL(fs:List Fact)(m:Int):List Fact:=H5 (sI fs m)
def gV(p:Proj)(l:List Fact):Nat→List Fact×fV
 |0=>([],F2 p.aP p.a8)
 |k+1=>bif nU (gV p l k).2 (yC (l.getD k default)) (l.getD k default).dO==0 then((gV p l k).1++ [l.getD k default],NV (gV p l k).2 (yC (l.getD k default)) (l.getD k default).dO)else gV p l k
theorem JY{p:Proj}{l:List Fact}(h:xK (F2 p.aP p.a8)):∀k,xK (gV p l k).2
 |0=>h
 |k+1=>by
  have ih:=JY (l:=l) h k
  rw[gV]
  cases he:(nU (gV p l k).2 (yC (l.getD k default)) (l.getD k default).dO==0)with
  |true=>exact ih.plc (by simpa using he)
  |false=>exact ih
theorem A0(p:Proj)(l:List Fact):∀k,(gV p l k).1.length≤k
 |0=>Nat.le_refl _
 |k+1=>by
  have ih:=A0 p l k
  rw[gV]
  cases(nU (gV p l k).2 (yC (l.getD k default)) (l.getD k default).dO==0)with
  |true=>show(_++ [_]).length≤_;rw[List.length_append];simp only [List.length_singleton];omega
  |false=>exact Nat.le_succ_of_le ih
theorem aMA{p:Proj}(hp:p.fits)(hv:PV p):F2 p.aP p.a8=AK p.aP p.a8∧xK (F2 p.aP p.a8):=by
 have e:F2 p.aP p.a8=AK p.aP p.a8:=by unfold F2;rw[hv.new];rfl
 refine⟨e,?_⟩
 rw[e]
 exact xK.of (CF hp.small hp.uQ hp.qG) hp.small
def x0(fs:List Fact)(m:Int)(i:Nat):List Fact:=(fs.take i).filter fun f=>f.kind==1&&decide (f.month≤m)
theorem U1{fs:List Fact}{m:Int}{i:Nat}(h:i<fs.length):x0 fs m (i+1)=x0 fs m i++(bif (fs.getD i default).kind==1&&decide ((fs.getD i default).month≤m)then [fs.getD i default]else []):=by
 unfold x0
 rw[List.take_add_one,List.getElem?_eq_getElem h,List.filter_append,a7 h]
 cases hh:(fs[i].kind==1&&decide (fs[i].month≤m)) <;> simp[hh]
theorem YB(fs:List Fact)(m:Int)(i:Nat):(x0 fs m i).length≤i:=Nat.le_trans (List.length_filter_le _ _) (by simp;omega)
end Go.Pj
--K37
namespace Go.Ax
theorem AW.aNF{P:Program}{cx:Cx}{N:Nat}{σ σ':St}{K:Exit→St→Prop}{x y:Code}(h:AW P cx N x σ fun e s=>e=.normal∧pB cx N s σ')(k:AW P cx N y σ' K):AW P cx N (.seq x y) σ K:=
 AW.seq (AW.mono h fun _ _ ⟨he,hs⟩=>by subst he;exact AW.YC hs k)
end Go.Ax
namespace Go.Pj
open Go Go.Ax Go.Ch Go.Proofs Go.Proofs.Tryz
set_option maxRecDepth 100000
set_option maxHeartbeats 1000000
theorem aBV(a:AV):aF prog 224 [.s (.d eK),a] (.t []):=by
 refine⟨call224,fun M w vs _ hr hM=>?_⟩
 match vs,hr with
 |[v,v2],⟨hv,_,_⟩=>
  have hv:v=.slice none 0 0:=hv
  subst hv
  refine(AnyF.slices_SortFunc_none (P:=prog) (ρ:=Tryz.AP) {Tryz.ZJ with} none 0 v2 w).mono ?_
  rintro e w' ⟨he,rfl⟩
  exact⟨.tuple #[],M,he,⟨[],rfl,oO⟩,Grow.refl _ _,hM,⟨⟨rfl,rfl,rfl,Nat.le_refl _,fun _ _=>rfl⟩,oO⟩⟩
 |[],h=>exact h.elim
 |[_],h=>exact h.2.elim
 |_::_::_::_,h=>exact h.2.2.elim
def XF(fs:List Fact)(m:Int):Prop:=0<(sI fs m).length→bT prog 224 [.s (.own 1001),.s (.dR 225 [])] [(1001,.row 40 (sI fs m).length 13 (p9 (sI fs m)))] (.t []) [(1001,.row 40 (sI fs m).length 13 (p9 (H5 (sI fs m))))]
theorem aGP(p:Proj)(fs:List Fact)(m:Int)(hp:p.fits)(hv:PV p)(hl:fs.length≤200)(hn:XF fs m):
  aF prog 178 [QP p fs,vI m] (.t [.s (.d (UH (gV p (jL fs m) (jL fs m).length).1)),.g (tF (gV p (jL fs m) (jL fs m).length).2)]):=by
 obtain⟨eN,gN⟩:=aMA hp hv
 have aM8:=aKS p.aP p.a8 hp.small hp.uQ hp.qG
 have kM:x0 fs m fs.length=sI fs m:=by unfold x0 sI;rw[List.take_length]
 have hLl:(jL fs m).length≤200:=by
  unfold jL
  rw[zX]
  exact Nat.le_trans (List.length_filter_le _ _) hl
 have nY:=fun k=>JY (l:=jL fs m) gN k
 refine eW func178 rfl rfl call178 rfl rfl (fun cx aA=>?_)
 refine sX aA ?_
 refine sX aA ?_
 refine AW.cut (σ':=⟨[(1,vI m),(2,.s (.ptr 2 0)),(5,.s (.ptr 5 0)),(6,.s (.mo (sI fs m).isEmpty 100))],[(2,some (.cells (lE p fs))),(5,some (.cells (iS ty88.zero))),(100,some (.cA 40 (sI fs m).length 13 (p9 (sI fs m))))]⟩) ?_ ?_
 ·refine sX aA ?_
  refine AW.block ?_
  refine AW.cV (fun i:Nat=>⟨[(1,vI m),(2,.s (.ptr 2 0)),(5,.s (.ptr 5 0)),(6,.s (.mo (x0 fs m i).isEmpty 100)),(17,iX fs),(18,vI fs.length),(19,vI i)],[(2,some (.cells (lE p fs))),(5,some (.cells (iS ty88.zero))),(100,some (.cA 40 (x0 fs m i).length 13 (p9 (x0 fs m i))))]⟩) (fun i=>i≤fs.length) (fun i=>fs.length - i) 0 (Nat.zero_le _) ?_ ?_
  ·exact aS.bO aA [(100,1000)] rfl ⟨bQ,bQ,⟨rfl,rfl⟩,oO⟩ ⟨qZ,qZ,qZ,⟨rfl,aU.nil rfl⟩,qZ,qZ,qZ,oO⟩
  ·intro i hi
   have hlen:=YB fs m i
   refine sX aA ?_
   refine AW.seq (AW.cond ?_)
   refine aI (fun h=>AW.skip ?_) (fun h=>AW.exit ?_)
   ·have h:(i:Int)<fs.length:=bL h
    have fA:=U1 (m:=m) (show i<fs.length by omega)
    refine AW.seq (AW.block ?_)
    refine sX aA ?_
    refine oi ⟨oM,oM⟩ ?_
    refine sX aA ?_
    repeat refine aR ?_
    refine AW.cond ?_
    refine aI (fun h2=>?_) (fun h2=>AW.skip ?_)
    ·have h2:((fs.getD i default).kind==1&&decide ((fs.getD i default).month≤m))=true:=h2
     rw[h2]at fA
     have fA:x0 fs m (i+1)=x0 fs m i++ [fs.getD i default]:=fA
     refine eX aA ?_
     refine ob dC ?_
     refine ob (by rw[eL];show((x0 fs m i).length+1)*144≤_;omega) ?_
     refine ob (nZ fun c hc=>by match c,hc with|0,_|1,_|2,_|3,_|4,_|5,_|6,_|7,_|8,_|9,_|10,_|11,_|12,_=>rfl) ?_
     refine eX aA ?_
     refine⟨i+1,oM,oM,?_⟩
     refine aS.bO aA [(100,35)] rfl ⟨bQ,bQ,⟨rfl,?_⟩,oO⟩ ⟨qZ,qZ,qZ,⟨rfl,aU.mo (by rw[fA];exact cG _ _)⟩,qZ,qZ,⟨rfl,aU.int (aG oM oM)⟩,oO⟩
     show aZ _ (.cA 40 (x0 fs m (i+1)).length 13 (p9 (x0 fs m (i+1))))
     rw[fA]
     refine aZ.snoc (el:=R4) (x:=fs.getD i default) (fun c hc=>?_)
     have hc:c<13:=hc
     match c,hc with|0,_|1,_|2,_|3,_|4,_|5,_|6,_|7,_|8,_|9,_|10,_|11,_|12,_=>rfl
    ·have h2:((fs.getD i default).kind==1&&decide ((fs.getD i default).month≤m))=false:=h2
     rw[h2]at fA
     have fA:x0 fs m (i+1)=x0 fs m i:=fA.trans (List.append_nil _)
     refine eX aA ?_
     refine⟨i+1,oM,oM,?_⟩
     exact aS.bO aA [] rfl ⟨bQ,bQ,⟨rfl,aZ.of_eq (by rw[fA];rfl)⟩,oO⟩ ⟨qZ,qZ,qZ,⟨rfl,aU.of_eq (by rw[fA];rfl)⟩,qZ,qZ,⟨rfl,aU.int (aG oM oM)⟩,oO⟩
   ·have h:¬(i:Int)<fs.length:=bG h
    obtain rfl:i=fs.length:=oM
    rw[kM]
    exact⟨rfl,aS.bO aA [] rfl ⟨bQ,bQ,bQ,oO⟩ ⟨qZ,qZ,qZ,qZ,oO⟩⟩
 refine AW.aNF (σ':=⟨[(2,.s (.ptr 2 0)),(5,.s (.ptr 5 0)),(6,iX (jL fs m))],[(2,some (.cells (lE p fs))),(5,some (.cells (iS ty88.zero)))]⟩) ?_ ?_
 ·have hn:0<(sI fs m).length→bT prog 224 [.s (.own 1001),.s (.dR 225 [])] [(1001,.row 40 (sI fs m).length 13 (p9 (sI fs m)))] (.t []) [(1001,.row 40 (sI fs m).length 13 (p9 (H5 (sI fs m))))]:=hn
  generalize hD:sI fs m=D at hn
  have hsD:jL fs m=H5 D:=by unfold jL;rw[hD]
  cases hz:D.isEmpty with
  |true=>
   have hDn:D=[]:=by simpa using hz
   refine AW.gG (σ':=⟨[(2,.s (.ptr 2 0)),(5,.s (.ptr 5 0)),(6,.s (.d eK))],[(2,some (.cells (lE p fs))),(5,some (.cells (iS ty88.zero)))]⟩) (aS.bO aA [] rfl ⟨bQ,bQ,oO⟩ ⟨qZ,qZ,⟨rfl,aU.aD6 rfl⟩,oO⟩) ?_
   refine eX aA ?_
   refine aB (aBV _) ?_
   exact⟨rfl,pB.aCS (aS.bO aA [] rfl ⟨bQ,bQ,oO⟩ ⟨qZ,qZ,⟨rfl,aU.d (by rw[hsD,hDn,show H5 []=[] by simp[H5]];exact aL.nil)⟩,oO⟩)⟩
  |false=>
   refine AW.gG (aS.own (z:=false) (e:=40) (n:=D.length) (s:=13) (f:=p9 D) 6 100 rfl rfl rfl) ?_
   refine AW.gG (σ':=⟨[(2,.s (.ptr 2 0)),(5,.s (.ptr 5 0)),(6,.s (.own 100))],[(2,some (.cells (lE p fs))),(5,some (.cells (iS ty88.zero))),(100,some (.row 40 D.length 13 (p9 D)))]⟩) (aS.bO aA [] rfl ⟨bQ,bQ,bQ,oO⟩ ⟨qZ,qZ,qZ,oO⟩) ?_
   refine ex.sound (rc:=[224]) aJ mix aA _ ?_
   have hDl:D.length≤200:=by rw[←hD];exact Nat.le_trans (List.length_filter_le _ _) hl
   refine⟨[(1001,100)],_,_,_,_,hn (by cases D with|nil=>cases hz|cons a b=>simp),rfl,⟨rfl,oO⟩,rfl,?_⟩
   exact⟨rfl,pB.of aA [] [100] rfl rfl rfl ⟨⟨rfl,iP.rfl⟩,⟨rfl,iP.rfl⟩,oO⟩ ⟨⟨rfl,cF.rfl⟩,⟨rfl,cF.rfl⟩,⟨rfl,(cF.own sM rfl).then (aU.d (aL.of_eq (by rw[hsD];unfold UH;rw[zX])))⟩,oO⟩⟩
 generalize jL fs m=L at hLl nY
 refine sX aA ?_
 refine aB (aM8) ?_
 refine sX aA ?_
 refine AW.seq (sX aA ?_)
 refine AW.block ?_
 refine AW.cV (fun k:Nat=>⟨[(5,.s (.ptr 5 0)),(9,.s (.ptr 9 0)),(11,.s (.mo (gV p L k).1.isEmpty 100)),(49,iX L),(50,vI L.length),(51,vI k)],[(5,some (.cells (iS ty88.zero))),(9,some (.cells (tF (gV p L k).2))),(100,some (.cA 40 (gV p L k).1.length 13 (p9 (gV p L k).1)))]⟩) (fun k=>k≤L.length) (fun k=>L.length - k) 0 (Nat.zero_le _) ?_ ?_
 ·exact aS.bO aA [(100,1000)] rfl ⟨bQ,bQ,⟨rfl,rfl⟩,oO⟩ ⟨qZ,qZ,⟨rfl,aU.nil rfl⟩,qZ,qZ,qZ,oO⟩
 ·intro k hk
  have hlen:=A0 p L k
  have hg:=nY k
  refine sX aA ?_
  refine AW.seq (AW.cond ?_)
  refine aI (fun h=>AW.skip ?_) (fun h=>AW.exit ?_)
  ·have h:(k:Int)<L.length:=bL h
   refine AW.seq (AW.block ?_)
   refine sX aA ?_
   refine oi ⟨oM,oM⟩ ?_
   generalize hF:L.getD k default=f
   have hP:=Place (gV p L k).2 (yC f) f.dO hg
   have iU:gV p L (k+1)=bif nU (gV p L k).2 (yC f) f.dO==0 then((gV p L k).1++ [f],NV (gV p L k).2 (yC f) f.dO)else gV p L k:=by rw[gV,hF]
   refine AW.gG (σ':=⟨[(5,.s (.ptr 5 0)),(9,.s (.ptr 9 0)),(11,.s (.mo (gV p L k).1.isEmpty 100)),(49,iX L),(50,vI L.length),(51,vI k),(13,.s (.ptr 13 0))],[(5,some (.cells (iS ty88.zero))),(9,some (.cells (tF (gV p L k).2))),(100,some (.cA 40 (gV p L k).1.length 13 (p9 (gV p L k).1))),(13,some (.cells (IM f)))]⟩) (aS.bO aA [] rfl ⟨bQ,bQ,bQ,⟨rfl,aZ.of_eq (by rw[←hF];rfl)⟩,oO⟩ ⟨qZ,qZ,qZ,qZ,qZ,qZ,qZ,oO⟩) ?_
   generalize hau:gV p L k=RO at hP iU hlen hg
   obtain⟨o,y⟩:=RO
   simp only at hP iU hlen hg
   cases he:(nU y (yC f) f.dO==0)with
   |true=>
    have he0:nU y (yC f) f.dO=0:=by simpa using he
    have eC:FR y (yC f) f.dO=tF (NV y (yC f) f.dO):=by unfold FR;rw[he0];rfl
    rw[he]at iU
    have iU:gV p L (k+1)=(o++ [f],NV y (yC f) f.dO):=iU
    rw[eC,he0]at hP
    refine sX aA ?_
    refine aB (hP) ?_
    refine sX aA ?_
    refine AW.cond ?_
    refine aI (fun _=>?_) (fun h2=>by cases h2)
    refine sX aA ?_
    refine eX aA ?_
    refine ob dC ?_
    refine ob (by rw[eL];show(o.length+1)*144≤_;omega) ?_
    refine ob (nZ fun c hc=>by match c,hc with|0,_|1,_|2,_|3,_|4,_|5,_|6,_|7,_|8,_|9,_|10,_|11,_|12,_=>rfl) ?_
    refine eX aA ?_
    refine⟨k+1,oM,oM,?_⟩
    rw[iU]
    refine aS.bO aA [(100,79)] rfl ⟨bQ,bQ,⟨rfl,?_⟩,oO⟩ ⟨qZ,qZ,⟨rfl,aU.mo (cG _ _)⟩,qZ,qZ,⟨rfl,aU.int (aG oM oM)⟩,oO⟩
    show aZ _ (.cA 40 (o++ [f]).length 13 (p9 (o++ [f])))
    refine aZ.snoc (el:=R4) (x:=f) (fun c hc=>?_)
    have hc:c<13:=hc
    match c,hc with|0,_|1,_|2,_|3,_|4,_|5,_|6,_|7,_|8,_|9,_|10,_|11,_|12,_=>rfl
   |false=>
    have eC:FR y (yC f) f.dO=iS ty88.zero:=by
     unfold FR
     rw[show(nU y (yC f) f.dO !=0)=true by simpa [bne]using he];rfl
    rw[he]at iU
    have iU:gV p L (k+1)=(o,y):=iU
    rw[eC]at hP
    refine sX aA ?_
    refine aB (hP) ?_
    refine sX aA ?_
    refine AW.cond ?_
    refine aI (fun h2=>?_) (fun _=>AW.skip ?_)
    ·have h2:(nU y (yC f) f.dO==0)=true:=h2
     rw[he]at h2;cases h2
    refine eX aA ?_
    refine⟨k+1,oM,oM,?_⟩
    rw[iU]
    exact aS.bO aA [] rfl ⟨bQ,bQ,bQ,oO⟩ ⟨qZ,qZ,qZ,qZ,qZ,⟨rfl,aU.int (aG oM oM)⟩,oO⟩
  ·have h:¬(k:Int)<L.length:=bG h
   obtain rfl:k=L.length:=oM
   refine eX aA ?_
   refine aD ?_
   exact aC.t ⟨aL.zZ (eL _) fun _ _ _ _=>aL.refl _,⟨aL.refl _,aL.refl _,aL.refl _,aL.refl _,oO⟩,oO⟩
end Go.Pj
namespace Go.Pj
open Go Go.Ax Go.Ch Go.Proofs Go.Proofs.Tryz
def FY(l:List Piece):Nat→Int
 |0=>0
 |i+1=>aV (FY l i+aV ((l.getD i default).iE - (l.getD i default).gH))
def duT(t:Int)(l:List Due):Nat→Int
 |0=>t
 |i+1=>aV (duT t l i+(l.getD i default).HS)
def laT(t:Int)(l:List MS):Nat→Int
 |0=>t
 |i+1=>aV (laT t l i - (l.getD i default).HS)
def aB2(p:Proj)(m:Int)(kV:List Piece)(D2:List Due)(HV:List MS)(dsp:List Int):Stmt:=
 ⟨m,(FY kV kV.length),(q7 (FY kV kV.length) p.eU),(laT (duT (aV (0 - (q7 (FY kV kV.length) p.eU))) D2 D2.length) HV HV.length),D2,HV,dsp⟩
theorem XG(p:Proj)(l:List Fact)(M:Nat)(kV:List Piece)(hp:p.fits)(hf:∀f∈l,f.fits)(hl:l.length≤9223372036854775807)(he:F0 p l M 1=0)(hS:SOK p (cntF l))(hM:M≤24)
  (hlp:kV.length≤1000000) (OW:aF prog 65 [QP p (cntF l),vI M,w3 (x4 p (cntF l) M)] (S6 (LM p (cntF l) M (x4 p (cntF l) M) p.cN.length))) (hP:aF prog 62 [QP p (cntF l),vI M,.s (.d (cU (dB p (cntF l) (M+1))))] (gQ kV)):
  aF prog 21 [vE p,iX l,vI M] (.t [.g [.d (dI M),.d (dI (FY kV kV.length)),.d (dI (aB2 p M kV (fN p kV p.gr.bE.length) (LM p (cntF l) M (x4 p (cntF l) M) p.cN.length) (nD p (cntF l) M p.aW.levels.length)).eU),.d (dI (aB2 p M kV (fN p kV p.gr.bE.length) (LM p (cntF l) M (x4 p (cntF l) M) p.cN.length) (nD p (cntF l) M p.aW.levels.length)).total),.d (xB (fN p kV p.gr.bE.length)),.d (xA (LM p (cntF l) M (x4 p (cntF l) M) p.cN.length)),.d (cE (nD p (cntF l) M p.aW.levels.length))],.s (.d (dI 0))]):=by
 obtain⟨hk,_⟩:=FZ he
 have hv:=PV.of hk.proj
 have hO:=aCQ p l M 1 hp hf hl he
 generalize cntF l=fs at hS hP hO OW
 have hfl:=hS.len
 have GO:p.gr.bE.length≤1000000:=by
  have h:=hv.gr
  unfold dP lZ at h
  obtain⟨h,_⟩:=dK h
  obtain⟨_,h⟩:=c8 dC h
  obtain⟨h,_⟩:=c8 dC h
  simp only [decide_eq_false_iff_not]at h
  omega
 have EJ:((dB p fs (M+1)).getD (M:Int).toNat default)=x4 p fs M:=mQ oM
 have aNT:(x4 p fs M).levels.length=p.aW.levels.length:=by
  show(o6 p fs M).length=_
  unfold o6;simp
 rw[←EJ]at OW
 have aM0:=KD p kV p.gr.bE.length
 have aMV:=ZL p fs M (x4 p fs M) p.cN.length
 have hsl:p.cN.length≤20:=by
  have h:=hv.cN
  unfold qV at h
  obtain⟨h,_⟩:=c8 dC h
  simp only [decide_eq_false_iff_not]at h
  omega
 refine eW func21 rfl rfl call21 rfl rfl (fun cx aA=>?_)
 refine sX aA ?_
 refine sX aA ?_
 refine aB (hO) ?_
 refine AW.seq (sX aA ?_)
 refine AW.cond ?_
 refine aI (fun h=>by cases h) (fun _=>AW.skip ?_)
 refine sX aA ?_
 refine aB (lowest p fs M hS hM) ?_
 refine sX aA ?_
 refine aB (hP) ?_
 refine AW.seq (ex.sound (rc:=[63]) aJ mix aA _ ?_)
 refine⟨[(9,700)],_,_,_,_,SX p fs M hS,rfl,trivial,rfl,?_⟩
 refine sX aA ?_
 refine aB (WS p fs kV GO oM hp.cI) ?_
 refine oi (show(0:Int)≤(M:Int)∧(M:Int)<((dB p fs (M+1)).length:Int) by rw[mP];omega) ?_
 refine aB (OW) ?_
 refine aD ?_
 rw[EJ]
 generalize fN p kV p.gr.bE.length=D2 at aM0
 generalize LM p fs M (x4 p fs M) p.cN.length=HV at aMV
 generalize nD p fs M p.aW.levels.length=dsp
 refine AW.gG (σ':=⟨[(3,.s (.ptr 3 0)),(6,.s (.ptr 6 0)),(11,gQ kV),(14,.s (.ptr 14 0))],[(3,some (.cells (vF p))),(6,some (.cells (iS ty73.zero))),(14,some (.cells [.d (dI M),.d (dI 0),.d (dI 0),.d (dI 0),.d (xB D2),.d (xA HV),.d (cE dsp)]))]⟩) (aS.bO aA [] rfl ⟨bQ,bQ,bQ,oO⟩ ⟨qZ,qZ,qZ,qZ,oO⟩) ?_
 refine AW.cut (σ':=⟨[(3,.s (.ptr 3 0)),(6,.s (.ptr 6 0)),(11,gQ kV),(14,.s (.ptr 14 0))],[(3,some (.cells (vF p))),(6,some (.cells (iS ty73.zero))),(14,some (.cells [.d (dI M),.d (dI (FY kV kV.length)),.d (dI 0),.d (dI 0),.d (xB D2),.d (xA HV),.d (cE dsp)]))]⟩) ?_ ?_
 ·refine sX aA ?_
  refine AW.block ?_
  refine AW.cV (fun i:Nat=>⟨[(3,.s (.ptr 3 0)),(6,.s (.ptr 6 0)),(11,gQ kV),(14,.s (.ptr 14 0)),(58,gQ kV),(59,vI kV.length),(60,vI i)],[(3,some (.cells (vF p))),(6,some (.cells (iS ty73.zero))),(14,some (.cells [.d (dI M),.d (dI (FY kV i)),.d (dI 0),.d (dI 0),.d (xB D2),.d (xA HV),.d (cE dsp)]))]⟩) (fun i=>i≤kV.length) (fun i=>kV.length - i) 0 (Nat.zero_le _) ?_ ?_
  ·exact aS.bO aA [] rfl ⟨bQ,bQ,bQ,oO⟩ ⟨qZ,qZ,qZ,qZ,qZ,qZ,qZ,oO⟩
  ·intro i hi
   refine sX aA ?_
   refine AW.seq (AW.cond ?_)
   refine aI (fun h=>AW.skip ?_) (fun h=>AW.exit ?_)
   ·have h:(i:Int)<kV.length:=bL h
    refine AW.seq (AW.block ?_)
    refine sX aA ?_
    refine oi ⟨oM,oM⟩ ?_
    refine eX aA ?_
    refine eX aA ?_
    refine⟨i+1,oM,oM,?_⟩
    exact aS.bO aA [] rfl ⟨bQ,bQ,bQ,oO⟩ ⟨qZ,qZ,qZ,qZ,qZ,qZ,⟨rfl,aU.int (aG oM oM)⟩,oO⟩
   ·have h:¬(i:Int)<kV.length:=bG h
    obtain rfl:i=kV.length:=oM
    exact⟨rfl,aS.bO aA [] rfl ⟨bQ,bQ,bQ,oO⟩ ⟨qZ,qZ,qZ,qZ,oO⟩⟩
 refine sX aA ?_
 refine aB (uW (FY kV kV.length) p.eU) ?_
 refine sX aA ?_
 refine AW.gG (σ':=⟨[(3,.s (.ptr 3 0)),(6,.s (.ptr 6 0)),(11,gQ kV),(14,.s (.ptr 14 0))],[(3,some (.cells (vF p))),(6,some (.cells (iS ty73.zero))),(14,some (.cells [.d (dI M),.d (dI (FY kV kV.length)),.d (dI (q7 (FY kV kV.length) p.eU)),.d (dI (aV (0 - (q7 (FY kV kV.length) p.eU)))),.d (xB D2),.d (xA HV),.d (cE dsp)]))]⟩) (aS.bO aA [] rfl ⟨bQ,bQ,bQ,oO⟩ ⟨qZ,qZ,qZ,qZ,oO⟩) ?_
 refine AW.cut (σ':=⟨[(3,.s (.ptr 3 0)),(6,.s (.ptr 6 0)),(11,gQ kV),(14,.s (.ptr 14 0))],[(3,some (.cells (vF p))),(6,some (.cells (iS ty73.zero))),(14,some (.cells [.d (dI M),.d (dI (FY kV kV.length)),.d (dI (q7 (FY kV kV.length) p.eU)),.d (dI (duT (aV (0 - (q7 (FY kV kV.length) p.eU))) D2 D2.length)),.d (xB D2),.d (xA HV),.d (cE dsp)]))]⟩) ?_ ?_
 ·refine sX aA ?_
  refine AW.block ?_
  refine AW.cV (fun i:Nat=>⟨[(3,.s (.ptr 3 0)),(6,.s (.ptr 6 0)),(11,gQ kV),(14,.s (.ptr 14 0)),(85,aD5 D2),(86,vI D2.length),(87,vI i)],[(3,some (.cells (vF p))),(6,some (.cells (iS ty73.zero))),(14,some (.cells [.d (dI M),.d (dI (FY kV kV.length)),.d (dI (q7 (FY kV kV.length) p.eU)),.d (dI (duT (aV (0 - (q7 (FY kV kV.length) p.eU))) D2 i)),.d (xB D2),.d (xA HV),.d (cE dsp)]))]⟩) (fun i=>i≤D2.length) (fun i=>D2.length - i) 0 (Nat.zero_le _) ?_ ?_
  ·exact aS.bO aA [] rfl ⟨bQ,bQ,bQ,oO⟩ ⟨qZ,qZ,qZ,qZ,qZ,qZ,qZ,oO⟩
  ·intro i hi
   refine sX aA ?_
   refine AW.seq (AW.cond ?_)
   refine aI (fun h=>AW.skip ?_) (fun h=>AW.exit ?_)
   ·have h:(i:Int)<D2.length:=bL h
    refine AW.seq (AW.block ?_)
    refine sX aA ?_
    refine oi ⟨oM,oM⟩ ?_
    refine eX aA ?_
    refine eX aA ?_
    refine⟨i+1,oM,oM,?_⟩
    exact aS.bO aA [] rfl ⟨bQ,bQ,bQ,oO⟩ ⟨qZ,qZ,qZ,qZ,qZ,qZ,⟨rfl,aU.int (aG oM oM)⟩,oO⟩
   ·have h:¬(i:Int)<D2.length:=bG h
    obtain rfl:i=D2.length:=oM
    exact⟨rfl,aS.bO aA [] rfl ⟨bQ,bQ,bQ,oO⟩ ⟨qZ,qZ,qZ,qZ,oO⟩⟩
 refine AW.cut (σ':=⟨[(3,.s (.ptr 3 0)),(6,.s (.ptr 6 0)),(11,gQ kV),(14,.s (.ptr 14 0))],[(3,some (.cells (vF p))),(6,some (.cells (iS ty73.zero))),(14,some (.cells [.d (dI M),.d (dI (FY kV kV.length)),.d (dI (q7 (FY kV kV.length) p.eU)),.d (dI (laT (duT (aV (0 - (q7 (FY kV kV.length) p.eU))) D2 D2.length) HV HV.length)),.d (xB D2),.d (xA HV),.d (cE dsp)]))]⟩) ?_ ?_
 ·refine sX aA ?_
  refine AW.block ?_
  refine AW.cV (fun i:Nat=>⟨[(3,.s (.ptr 3 0)),(6,.s (.ptr 6 0)),(11,gQ kV),(14,.s (.ptr 14 0)),(99,S6 HV),(100,vI HV.length),(101,vI i)],[(3,some (.cells (vF p))),(6,some (.cells (iS ty73.zero))),(14,some (.cells [.d (dI M),.d (dI (FY kV kV.length)),.d (dI (q7 (FY kV kV.length) p.eU)),.d (dI (laT (duT (aV (0 - (q7 (FY kV kV.length) p.eU))) D2 D2.length) HV i)),.d (xB D2),.d (xA HV),.d (cE dsp)]))]⟩) (fun i=>i≤HV.length) (fun i=>HV.length - i) 0 (Nat.zero_le _) ?_ ?_
  ·exact aS.bO aA [] rfl ⟨bQ,bQ,bQ,oO⟩ ⟨qZ,qZ,qZ,qZ,qZ,qZ,qZ,oO⟩
  ·intro i hi
   refine sX aA ?_
   refine AW.seq (AW.cond ?_)
   refine aI (fun h=>AW.skip ?_) (fun h=>AW.exit ?_)
   ·have h:(i:Int)<HV.length:=bL h
    refine AW.seq (AW.block ?_)
    refine sX aA ?_
    refine oi ⟨oM,oM⟩ ?_
    refine eX aA ?_
    refine eX aA ?_
    refine⟨i+1,oM,oM,?_⟩
    exact aS.bO aA [] rfl ⟨bQ,bQ,bQ,oO⟩ ⟨qZ,qZ,qZ,qZ,qZ,qZ,⟨rfl,aU.int (aG oM oM)⟩,oO⟩
   ·have h:¬(i:Int)<HV.length:=bG h
    obtain rfl:i=HV.length:=oM
    exact⟨rfl,aS.bO aA [] rfl ⟨bQ,bQ,bQ,oO⟩ ⟨qZ,qZ,qZ,qZ,oO⟩⟩
 refine eX aA ?_
 exact aC.refl _
theorem aBQ{E:List gF}{k t:b9}{e:gF}(he:e∈oT E k t):(∃e'∈E,e.1=e'.1∧∀x∈e.2.1,x∈e'.2.1∨(x=t∧e.1=k))∨(e.1=k∧∀x∈e.2.1,x=t):=by
 unfold oT at he
 split at he
 ·rename_i i p hp
  obtain⟨_,hg,hk⟩:=zC hp
  obtain⟨j,hj⟩:=List.getElem?_of_mem he
  rw[List.getElem?_modify]at hj
  cases hE:E[j]? with
  |none=>rw[hE]at hj;cases hj
  |some y=>
   rw[hE]at hj
   have hj:(if i=j then(y.1,y.2.1++ [t],y.2.2)else y)=e:=by simpa using hj
   left
   refine⟨y,List.mem_of_getElem? hE,?_⟩
   by_cases XU:i=j
   ·rw[if_pos XU]at hj
    subst hj
    refine⟨rfl,fun x hx=>?_⟩
    rcases List.mem_append.1 hx with hx|hx
    ·exact .inl hx
    ·refine .inr ⟨List.mem_singleton.1 hx,?_⟩
     simp only [Nat.sub_zero]at hg
     rw[XU,hE]at hg
     obtain rfl:=Option.some.inj hg
     exact hk
   ·rw[if_neg XU]at hj
    subst hj
    exact⟨rfl,fun x hx=>.inl hx⟩
 ·rcases List.mem_append.1 he with he|he
  ·exact .inl ⟨e,he,rfl,fun x hx=>.inl hx⟩
  ·rw[List.mem_singleton.1 he]
   exact .inr ⟨rfl,fun x hx=>List.mem_singleton.1 hx⟩
theorem xV{l:List Fact}:∀{i:Nat} {e:gF},e∈gJ l i→∀t∈e.2.1,∃g∈l,t=kO g∧lI g=e.1
 |0,e,he,_,_=>by simp[gJ]at he
 |i+1,e,he,t,ht=>by
  by_cases h:i<l.length
  ·rw[sV h]at he
   unfold C6 at he
   have hm:l.getD i default∈l:=cT h
   cases hw:OI (l.getD i default)with
   |true=>
    rw[hw]at he
    exact xV (i:=i) he t ht
   |false=>
    rw[hw]at he
    rcases aBQ he with⟨e',CM,hk,hx⟩|⟨hk,hx⟩
    ·rcases hx t ht with h1|⟨h1,h2⟩
     ·obtain⟨g,g1,g2,g3⟩:=xV (i:=i) CM t h1
      exact⟨g,g1,g2,g3.trans hk.symm⟩
     ·exact⟨_,hm,h1,h2.symm⟩
    ·exact⟨_,hm,hx t ht,hk.symm⟩
  ·have e1:gJ l (i+1)=gJ l i:=by
    unfold gJ
    rw[List.take_of_length_le oM,List.take_of_length_le oM]
   rw[e1]at he
   exact xV (i:=i) he t ht
theorem aDL{l:List b9}{t:b9}(h:t∈vR l):t∈l:=by
 unfold vR zI at h
 obtain⟨i,hi,hx⟩:=List.mem_filterMap.1 h
 have hi:=List.mem_range.1 hi
 cases hq:qd l i with
 |true=>
  rw[hq]at hx
  have hx:l.getD i []=t:=Option.some.inj hx
  rw[←hx,a7 hi]
  exact List.getElem_mem hi
 |false=>rw[hq]at hx;cases hx
theorem VN{G:List (ByteArray×Int)}{k:b9}{ts:List b9}{t:b9}(h:t∈uP G k ts):t∈ts:=by
 unfold uP at h
 have h1:=(List.mergeSort_perm _ _).mem_iff.1 (aDL h)
 unfold fZ dJ at h1
 exact(List.mem_filter.1 h1).1
theorem UI{l:List Fact}(hv:∀f∈l,j6 f=0){f:Fact}(h:f∈cntF l):∃k∈qN l,f=uN (F7 (tI l) k)∧∃g∈l,f=uE g∧lI g=k:=by
 unfold cntF at h
 obtain⟨k,hk,rfl⟩:=List.mem_map.1 h
 refine⟨k,hk,rfl,?_⟩
 obtain⟨j,e,yJ,he⟩:=I9 hk
 obtain⟨hl1,_⟩:=NB he
 obtain⟨e',CM,yZ,_,hp,_⟩:=FG he
 have uT:F7 (tI l) k=e.2.1.getD (e.2.1.length - 1) []:=by unfold F7;rw[yJ]
 have jX:F7 (tI l) k∈e.2.1:=by
  rw[uT,a7 oM]
  exact List.getElem_mem _
 rw[hp]at jX
 obtain⟨g,hg,ht,sL⟩:=xV CM _ (VN jX)
 refine⟨g,hg,?_,?_⟩
 ·rw[ht]
  exact W6 (hv g hg)
 ·rw[sL,←yZ]
  exact(zC yJ).2.2
theorem PR{p:Proj}{l:List Fact}(hk:FOK p l):SOK p (cntF l):=by
 have hv:=PV.of hk.proj
 have gv:=hv.gv
 have h1:=gv.len
 have hc:=gv.dL
 have hr:=gv.rows
 have x7:0<p.aW.dL*p.aW.rows:=Int.mul_pos oM oM
 have xU:(cntF l).length≤l.length:=by unfold cntF;rw[List.length_map];exact NA l
 have hlen:=hk.len
 refine⟨oM,⟨oM,hv.cells⟩,fun f hf h0=>?_⟩
 obtain⟨_,_,_,g,hg,rfl,_⟩:=UI hk.fmt hf
 have h0:g.kind=0:=h0
 have hs:=hk.shape g hg
 unfold tJ at hs
 rw[h0]at hs
 have hs:((g.levels.length:Int) !=p.aW.levels.length)=false:=hs
 have hs:(g.levels.length:Int)=p.aW.levels.length:=by simpa using hs
 show(bif g.kind==0 then g.levels else []).length=_
 rw[h0]
 show g.levels.length=_
 omega
end Go.Pj
--K54
namespace Go.Ax
theorem nE.dead{P:Program}{cx:Cx}{N:Nat}{o:Oper}{σ:St}{H H1:Hid}{s:St}(b:Nat)(h:nE P cx N o σ H fun s' H'=>s'=s∧H'=H1):nE P cx N o σ H fun s' H'=>s'=⟨s.env,(b,none)::s.box⟩∧H'=H1:=by
 refine⟨h.1,fun M β a w i hi Q=>Oper.wp_mono ?_ (h.2 M β a w i hi Q)⟩
 rintro a' w' ⟨σ',M',β',H',⟨rfl,rfl⟩,i',bK,g,kp⟩
 refine⟨_,M',β',H',⟨rfl,rfl⟩,i'.dead b,⟨bK.holds,bK.low,bK.apart,fun x bc bb c e1 e2=>?_⟩,g,kp⟩
 have e1:aH ((b,none)::σ'.box) x=some (some bc):=e1
 rw[aK]at e1
 by_cases hx:b=x
 ·rw[if_pos hx]at e1;cases e1
 ·rw[if_neg hx]at e1;exact bK.names x bc bb c e1 e2
end Go.Ax
namespace Go.Pj.Rm
open Go Go.Pj Go.Ax Go.Ch Go.Proofs Go.Proofs.Tryz
set_option maxRecDepth 100000
set_option maxHeartbeats 1000000
def kS(f:Fact):b9:=f.aO.data.toList
def I7(m:Int)(E:List gF)(f:Fact):List gF:=bif f.month==m then oT E (kS f) (f,f.aW)else E
def j7(L:List Fact)(m:Int)(i:Nat):List gF:=(L.take i).foldl (I7 m) []
theorem CQ{L:List Fact}{m:Int}{i:Nat}(h:i<L.length):j7 L m (i+1)=I7 m (j7 L m i) (L.getD i default):=by
 unfold j7
 rw[List.take_add_one,List.getElem?_eq_getElem h,a7 h,List.foldl_append];rfl
theorem zL{E:List gF}{k:b9}{t:Room}{m:Nat}(h:∀e∈E,e.2.1.length≤m):∀e∈oT E k t,e.2.1.length≤m+1:=by
 intro e he
 unfold oT at he
 split at he
 ·rename_i i p hp
  obtain⟨j,hj⟩:=List.getElem?_of_mem he
  rw[List.getElem?_modify]at hj
  cases hE:E[j]? with
  |none=>rw[hE]at hj;cases hj
  |some y=>
   rw[hE]at hj
   have hy:=h y (List.mem_of_getElem? hE)
   have hj:(if i=j then(y.1,y.2.1++ [t],y.2.2)else y)=e:=by simpa using hj
   split at hj
   ·subst hj;simp;omega
   ·subst hj;omega
 ·rcases List.mem_append.1 he with he|he
  ·have:=h e he;omega
  ·rw[List.mem_singleton.1 he];simp
theorem qA{L:List Fact}{m:Int}:∀{i:Nat} {e:gF},e∈j7 L m i→e.2.1.length≤i
 |0,e,he=>by simp[j7]at he
 |i+1,e,he=>by
  by_cases h:i<L.length
  ·rw[CQ h]at he
   unfold I7 at he
   cases hw:((L.getD i default).month==m)with
   |false=>
    rw[hw]at he
    have:=qA (i:=i) he
    omega
   |true=>
    rw[hw]at he
    exact zL (fun e he=>qA (i:=i) he) e he
  ·have e1:j7 L m (i+1)=j7 L m i:=by
    unfold j7
    rw[List.take_of_length_le oM,List.take_of_length_le oM]
   rw[e1]at he
   have:=qA (i:=i) he
   omega
theorem TC(f:Fact):∀c,c<14→aL (VC 14 [.d (dI f.kind),.d (dI f.seq),.d (dI f.bM),.d (dI f.month),.d (dI f.number),.d (dI f.aW),.d (dI f.over),.d (dI f.cls),.d (dI f.target),.d (dS f.aO),.d (dS f.dO),.d (dS f.eO),.d (cE f.levels),.d (dI f.aW)] 0 c) (rmD (f,f.aW) c)
 |0,_|1,_|2,_|3,_|4,_|5,_|6,_|7,_|8,_|9,_|10,_|11,_|12,_|13,_=>aL.refl _
abbrev N5:Oper:={dst:=some 33,op:=Op.lookup 200 (Operand.tmp 30) (Operand.tmp 32) false,type:=211,pos:= "settle.go:174",after:= #[{on:=3,ground:=Ground.data},{on:=5,ground:=Ground.data}],guard:=none}
def J1(L:List Fact)(m:Int)(s:Nat×HM):Prop:=s.1≤L.length∧dW s.2.l (j7 L m s.1)∧s.2.clock=(j7 L m s.1).length∧s.2.it=none
def rmK(L:List Fact)(m:Int)(x:DV)(H:Hid):Prop:=∃h:HM,x=.val (.map (some h.bm))∧H=hid 259 14 h∧dW h.l (j7 L m L.length)∧h.clock=(j7 L m L.length).length∧h.it=none
theorem aIE(p:Proj)(fs:List Fact)(m:Int)(hp:p.fits)(hv:PV p)(hl:fs.length≤200)(hn:XF fs m):
  aBZ prog 119 [QP p fs,vI m] (rmK (gV p (jL fs m) (jL fs m).length).1 m):=by
 have hH:=aGP p fs m hp hv hl hn
 have hLl:(gV p (jL fs m) (jL fs m).length).1.length≤200:=by
  refine Nat.le_trans (A0 p _ _) ?_
  unfold jL
  rw[zX]
  exact Nat.le_trans (List.length_filter_le _ _) hl
 generalize (gV p (jL fs m) (jL fs m).length).1=L at hH hLl
 refine MI func119 rfl rfl call119 aJ rfl rfl (fun cx aA=>?_)
 refine sA aA [] fun _ h'=>?_
 refine bN.seq (bN.region (bH.op rfl (nE.mk (e:=259) (s:=14) rfl rfl dC fun bm=>bH.some (rc:=[]) aJ 1 aA [2] rfl rfl (bH.nil ?_))))
 refine sA aA [2] fun _ h'=>?_
 refine aB (hH) ?_
 refine bN.sub (σ':=⟨[(1,vI m),(5,dH bm),(6,iX L)],[]⟩) (HSub.of (eS.of [] (by rw[aA];rfl) rfl trivial ⟨qZ,qZ,qZ,oO⟩)) ?_
 refine bN.seq (sA aA [] fun _ h'=>?_)
 refine bN.block ?_
 refine bN.loop (S:=Nat×HM) (fun s=>⟨[(1,vI m),(5,dH s.2.bm),(17,iX L),(18,vI L.length),(19,vI s.1)],[]⟩) (fun s=>hid 259 14 s.2) (J1 L m) (fun s=>L.length - s.1) (0,⟨bm,[],0,none⟩) ⟨Nat.zero_le _,trivial,rfl,rfl⟩ ?_ ?_
 ·exact HSub.of (eS.of [] (by rw[aA];rfl) rfl trivial ⟨qZ,qZ,qZ,qZ,qZ,oO⟩)
 ·rintro⟨i,h⟩ ⟨hi,ha,iQ,hit⟩
  have hi:i≤L.length:=hi
  have ha:dW h.l (j7 L m i):=ha
  have iQ:h.clock=(j7 L m i).length:=iQ
  have hit:h.it=none:=hit
  refine sA aA [] fun _ h'=>?_
  refine bN.seq (bN.cond ?_)
  refine aI (fun g=>bN.skip ?_) (fun g=>bN.exit ?_)
  ·have g:(i:Int)<L.length:=bL g
   have bK:i<L.length:=oM
   have hE:=CQ (m:=m) bK
   have ew:aV ((i:Int)+1)=((i+1:Nat):Int):=aG oM oM
   generalize hF:L.getD i default=f at hE
   refine bN.seq (bN.block ?_)
   refine sA aA [] fun _ h'=>?_
   refine oi ⟨oM,oM⟩ ?_
   refine bN.sub (σ':=⟨[(1,vI m),(5,dH h.bm),(9,.s (.ptr 9 0)),(17,iX L),(18,vI L.length),(19,vI i)],[(9,some (.cells (IM f)))]⟩) (HSub.of (eS.of [] (by rw[aA];rfl) rfl ⟨⟨rfl,aZ.of_eq (by rw[←hF];rfl)⟩,oO⟩ ⟨qZ,qZ,qZ,qZ,qZ,qZ,oO⟩)) ?_
   refine sA aA [9] fun _ h'=>?_
   refine bN.cond ?_
   refine aI (fun g2=>?_) (fun g2=>bN.skip ?_)
   ·have g2:(f.month==m)=true:=g2
    have RY:j7 L m (i+1)=oT (j7 L m i) (kS f) (f,f.aW):=by rw[hE];unfold I7;rw[g2];rfl
    have GO:bs (kS f)=f.aO:=rfl
    have Z5:JH ⟨[(1,vI m),(5,dH h.bm),(9,.s (.ptr 9 0)),(17,iX L),(18,vI L.length),(19,vI i)],[(9,some (.cells (IM f)))]⟩:=by
     intro x b hb
     have hb:aH [(9,some (jE.cells (IM f)))] x=some (some b):=hb
     rw[aK]at hb
     by_cases hx:9=x
     ·rw[if_pos hx]at hb
      cases hb;rfl
     ·rw[if_neg hx]at hb;cases hb
    refine bN.sub (σ':=⟨[(1,vI m),(5,dH h.bm),(9,.s (.ptr 9 0)),(17,iX L),(18,vI L.length),(19,vI i)],[(9,some (.cells (IM f)))]⟩) (HSub.of (eS.of [] (by rw[aA];rfl) rfl ⟨bQ,oO⟩ ⟨qZ,qZ,qZ,qZ,qZ,qZ,oO⟩)) ?_
    cases yJ:fE (j7 L m i) (kS f) 0 with
    |none=>
     have sN:=sR ha yJ
     refine bN.T9 (m:=6) (om:=N5) (em:=(some (.s (.d eK)),[(33,none)])) (fm:=([],[33])) (C:=fun σ=>eY σ.env 30=dH h.bm∧eY σ.env 32=.s (.d (.val (.string (bs (kS f)))))∧aH σ.box 33=none) (H1:=hid 259 14 h) ⟨rfl,(fun p hp b hb=>(by obtain rfl:=List.mem_singleton.1 hp;cases hb)),(fun σ σ' hc ht hw=>⟨(ht 30 dC).trans hc.1,(ht 32 dC).trans hc.2.1,(hw 33 dC).trans hc.2.2⟩)⟩ aJ aA mix Z5 13 rfl rfl dC rfl rfl (fun σ hc=>?_) ?_
     ·have hlk:=nE.look (P:=prog) (cx:=cx) (N:=f119.ntmps) (e:=259) (s:=14) (d:=33) (t:=200) (kt:=9) (et:=211) (h:=h) (σ:=σ) (K:=fun s H'=>s=⟨(33,.s (.d eK))::σ.env,σ.box⟩∧H'=hid 259 14 h) (o:=N5) (x:=.tmp 30) (y:=.tmp 32) (k:=bs (kS f)) rfl rfl dC hc.2.2 hc.1 hc.2.1 underlying200 underlying9 zeroValue211 (by rw[sN];exact⟨rfl,rfl⟩)
      exact hlk.dead 33
     ·refine And.intro rfl ?_
      refine And.intro rfl ?_
      refine And.intro rfl ?_
      refine And.intro rfl ?_
      refine And.intro rfl ?_
      refine And.intro rfl ?_
      refine⟨rfl,⟨rfl,rfl,rfl⟩,?_⟩
      refine And.intro rfl ?_
      refine And.intro rfl ?_
      refine And.intro rfl ?_
      refine And.intro rfl ?_
      refine And.intro rfl ?_
      refine ob dC ?_
      refine ob dC ?_
      refine And.intro rfl ?_
      refine aD ?_
      refine nE.X8 (b:=39) (k:=bs (kS f)) (n:=1) (n':=1) (lo:=0) aA rfl rfl rfl rfl (.inl ⟨rfl,rfl,rfl⟩) rfl dC underlying200 underlying9 (fun _=>hit) (fun g cap v=>?_)
      generalize oN:(⟨g,0+1,cap,0,_⟩:mB)=row
      have oP:uY row [(f,f.aW)]:=by
       subst oN
       refine⟨rfl,rfl,fun a c ha hc=>?_⟩
       obtain rfl:a=0:=by have:a<1:=ha;omega
       exact TC f c hc
      obtain⟨s1,s2,s3,s4⟩:=KV (v:=v) ha iQ sN oP sM
      have GW:oT (j7 L m i) (kS f) (f,f.aW)=j7 L m i++ [(kS f,[(f,f.aW)],(j7 L m i).length)]:=by unfold oT;rw[yJ]
      refine bN.sub (σ':=⟨[(1,vI m),(5,dH h.bm),(17,iX L),(18,vI L.length),(19,vI i)],[]⟩) (HSub.of (eS.of [] (by rw[aA];rfl) rfl trivial ⟨qZ,qZ,qZ,qZ,qZ,oO⟩)) ?_
      refine eA aA [] fun _ h'=>?_
      refine⟨(i+1,eG h (bs (kS f)) v (some row)),⟨by show i+1≤L.length;omega,by rw[RY,GW];exact s1,by rw[RY,GW,List.length_append];exact s3,s4.trans hit⟩,by show L.length - (i+1)<L.length - i;omega,?_⟩
      exact HSub.of (eS.of [] (by rw[aA];rfl) rfl trivial ⟨qZ,⟨rfl,aU.of_eq (by show dH h.bm=dH (eG h (bs (kS f)) v (some row)).bm;rw[s2])⟩,qZ,qZ,⟨rfl,aU.int ew⟩,oO⟩)
    |some pr=>
     obtain⟨j,e⟩:=pr
     obtain⟨q,sN,hq⟩:=pH ha yJ
     have sN:cY h.l (bs (kS f)) 0=some (j,q):=sN
     obtain⟨_,EK,hek⟩:=zC yJ
     have EK:(j7 L m i)[j]? =some e:=EK
     obtain⟨r,V8,oP⟩:=hq.row
     have hsm:=qA (L:=L) (m:=m) (i:=i) (List.mem_of_getElem? EK)
     obtain⟨g0,n0,aK3,BY,F⟩:=r
     obtain rfl:BY=0:=oP.lo
     obtain rfl:n0=e.2.1.length:=oP.n
     have hFF:∀a c,a<e.2.1.length→c<14→aL (F a c) (jM e.2.1 a c):=oP.f
     refine bN.T9 (m:=6) (om:=N5) (em:=(some (.s (.own 33)),[(33,some (.row 259 e.2.1.length 14 F))])) (fm:=([],[33])) (C:=fun σ=>eY σ.env 30=dH h.bm∧eY σ.env 32=.s (.d (.val (.string (bs (kS f)))))∧aH σ.box 33=none) (H1:=hid 259 14 {h with l:=cP h.l j}) ⟨rfl,(fun p hp b hb=>(by obtain rfl:=List.mem_singleton.1 hp;cases hb;rfl)),(fun σ σ' hc ht hw=>⟨(ht 30 dC).trans hc.1,(ht 32 dC).trans hc.2.1,(hw 33 dC).trans hc.2.2⟩)⟩ aJ aA mix Z5 13 rfl rfl dC rfl rfl (fun σ hc=>?_) ?_
     ·exact nE.look (P:=prog) (cx:=cx) (N:=f119.ntmps) (e:=259) (s:=14) (d:=33) (t:=200) (kt:=9) (et:=211) (h:=h) (σ:=σ) (K:=fun s H'=>s=eI N5 (some (.s (.own 33)),[(33,some (.row 259 e.2.1.length 14 F))]) σ∧H'=hid 259 14 {h with l:=cP h.l j}) (o:=N5) (x:=.tmp 30) (y:=.tmp 32) (k:=bs (kS f)) rfl rfl dC hc.2.2 hc.1 hc.2.1 underlying200 underlying9 zeroValue211 (by
       rw[sN]
       show match q.row with|some r=>_|none=>_
       rw[V8]
       exact⟨rfl,rfl⟩)
     ·refine And.intro rfl ?_
      refine And.intro rfl ?_
      refine And.intro rfl ?_
      refine And.intro rfl ?_
      refine And.intro rfl ?_
      refine And.intro rfl ?_
      refine⟨rfl,⟨rfl,rfl,rfl⟩,?_⟩
      refine And.intro rfl ?_
      refine And.intro rfl ?_
      refine And.intro rfl ?_
      refine And.intro rfl ?_
      refine And.intro rfl ?_
      refine ob (show(e.2.1.length+1)*152≤140737488355328 by omega) ?_
      refine ob (nZ fun c hc=>by match c,hc with|0,_|1,_|2,_|3,_|4,_|5,_|6,_|7,_|8,_|9,_|10,_|11,_|12,_|13,_=>rfl) ?_
      refine And.intro rfl ?_
      refine aD ?_
      refine nE.X8 (b:=39) (k:=bs (kS f)) (n:=e.2.1.length+1) (n':=e.2.1.length+1) (lo:=0) aA rfl rfl rfl rfl (.inl ⟨rfl,rfl,rfl⟩) rfl (Nat.succ_pos _) underlying200 underlying9 (fun _=>hit) (fun g2 PZ v=>?_)
      generalize oN:(⟨g2,0+(e.2.1.length+1),PZ,0,_⟩:mB)=row
      have OT:uY row (e.2.1++ [(f,f.aW)]):=by
       subst oN
       refine⟨rfl,sM,fun a c hA hc=>?_⟩
       by_cases hae:a<e.2.1.length
       ·rw[show jM (e.2.1++ [(f,f.aW)]) a c=jM e.2.1 a c by
         unfold jM
         simp only [List.getD_eq_getElem?_getD,List.getElem?_append_left hae]]
        show aL (k7 e.2.1.length F _ a c) _
        rw[UL hae]
        exact hFF a c hae hc
       ·obtain rfl:a=e.2.1.length:=by simp at hA;omega
        rw[show jM (e.2.1++ [(f,f.aW)]) e.2.1.length c=rmD (f,f.aW) c by
         unfold jM
         simp]
        show aL (k7 e.2.1.length F _ e.2.1.length c) _
        rw[UM]
        exact TC f c hc
      obtain⟨s1,s2,s3,s4⟩:=xP (v:=v) ha sN OT sM
      have GW:oT (j7 L m i) (kS f) (f,f.aW)=(j7 L m i).modify j fun e'=>(e'.1,e.2.1++ [(f,f.aW)],e'.2.2):=by
       unfold oT
       rw[yJ]
       show(j7 L m i).modify j _=(j7 L m i).modify j _
       apply List.ext_getElem?
       intro a
       rw[List.getElem?_modify,List.getElem?_modify]
       by_cases hja:j=a
       ·subst hja
        rw[EK];rfl
       ·simp[hja]
      refine bN.sub (σ':=⟨[(1,vI m),(5,dH h.bm),(17,iX L),(18,vI L.length),(19,vI i)],[]⟩) (HSub.of (eS.of [] (by rw[aA];rfl) rfl trivial ⟨qZ,qZ,qZ,qZ,qZ,oO⟩)) ?_
      refine eA aA [] fun _ h'=>?_
      refine⟨(i+1,eG {h with l:=cP h.l j} (bs (kS f)) v (some row)),⟨by show i+1≤L.length;omega,by rw[RY,GW];exact s1,by rw[RY,GW,List.length_modify];exact s3.trans iQ,s4.trans hit⟩,by show L.length - (i+1)<L.length - i;omega,?_⟩
      exact HSub.of (eS.of [] (by rw[aA];rfl) rfl trivial ⟨qZ,⟨rfl,aU.of_eq (by show dH h.bm=dH (eG {h with l:=cP h.l j} (bs (kS f)) v (some row)).bm;rw[s2])⟩,qZ,qZ,⟨rfl,aU.int ew⟩,oO⟩)
   ·have g2:(f.month==m)=false:=g2
    have RY:j7 L m (i+1)=j7 L m i:=by rw[hE];unfold I7;rw[g2];rfl
    refine eA aA [9] fun _ h'=>?_
    refine⟨(i+1,h),⟨by show i+1≤L.length;omega,by rw[RY];exact ha,by rw[RY];exact iQ,hit⟩,by show L.length - (i+1)<L.length - i;omega,?_⟩
    exact HSub.of (eS.of [] (by rw[aA];rfl) rfl trivial ⟨qZ,qZ,qZ,qZ,⟨rfl,aU.int ew⟩,oO⟩)
  ·have g:¬(i:Int)<L.length:=bG g
   obtain rfl:i=L.length:=oM
   refine sA aA [] fun _ h'=>?_
   refine bN.ret ?_
   exact⟨_,rfl,h,rfl,rfl,ha,iQ,hit⟩
end Go.Pj.Rm
namespace Go.Pj
open Go Go.Ax Go.Ch Go.Proofs Go.Proofs.Tryz
theorem UB(pt:Piece)(l:List Room)(n:Nat)(hn:l.length=n)(hn2:n≤1000)(hv:0≤pt.iE∧pt.iE≤1000000000000000)
  (hl:∀i,i<n→1≤(l.getD i default).2∧(l.getD i default).2≤1000000000000):
  bT prog 123 [aFY pt,.s (.own 1001)] [(1001,.row 259 n 14 (jM l))]
   (.t [.s (.d (UG (cB pt 0 l).out)),.s (.jH 1001 14 (cB pt 0 l).lo (n - (cB pt 0 l).lo))]) [(1001,.row 259 n 14 (jM (cB pt 0 l).cur))]:=by
 generalize aAF:cB pt 0 l=fin
 refine gL func123 rfl rfl call123 aJ rfl rfl rfl rfl (fun cx aA=>?_)
 refine AW.gG (aS.ES (e:=259) (n:=n) (s:=14) (f:=jM l) 1 1001 rfl rfl) ?_
 refine sX aA ?_
 refine sX aA ?_
 refine sX aA ?_
 refine aD ?_
 refine AW.seq ?_
 refine AW.block ?_
 refine AW.cV (fun x:Nat×DS=>⟨[(1,.s (.jH 1001 14 x.2.lo (n - x.2.lo))),(2,.s (.ptr 2 0)),(6,.s (.mo x.2.out.isEmpty 100)),(7,vI x.2.v),(8,vI x.2.p)],[(1001,some (.row 259 n 14 (jM x.2.cur))),(2,some (.cells [.d (dI pt.month),.d (dI pt.cell),.d (dS pt.aO),.d (dI pt.iE),.d (dI pt.gH),.d (dI pt.load),.d (dS pt.dO)])),(100,some (.cA 130 x.2.out.length 7 (dY x.2.out)))]⟩) (DJ pt n fin) (fun x=>x.1) (n - 0+1,pN pt 0 l) ⟨by rw[←aAF];unfold cB;rw[hn],Nat.zero_le _,hn,hv,fun _=>by show n - 0<n - 0+1;omega,fun i _ h=>hl i h,by show 0+(n - 0+1)≤_;omega⟩ ?_ ?_
 ·exact aS.of [(100,1000)] (by rw[aA];rfl) rfl ⟨bQ,bQ,⟨rfl,rfl⟩,oO⟩ ⟨qZ,qZ,⟨rfl,aU.nil rfl⟩,qZ,qZ,oO⟩
 ·rintro⟨k,s⟩ hJ
  have aGH:=hJ.lo
  have hlen:=hJ.len
  have RR:=hJ.few
  have hvb:=hJ.v
  simp only at aGH hlen RR hvb
  refine AW.seq (sX aA ?_)
  refine AW.cond ?_
  refine aI (fun h1=>AW.skip ?_) (fun h1=>AW.exit ?_)
  ·have h1:s.v>0:=bL h1
   obtain⟨k',rfl,hJ2⟩:=hJ.step h1
   refine AW.block ?_
   refine sX aA ?_
   refine sX aA ?_
   refine AW.gG (σ':=⟨[(1,.s (.jH 1001 14 s.lo (n - s.lo))),(2,.s (.ptr 2 0)),(6,.s (.mo s.out.isEmpty 100)),(7,vI s.v),(8,vI s.p),(9,.s (.ptr 9 0))],[(1001,some (.row 259 n 14 (jM s.cur))),(2,some (.cells [.d (dI pt.month),.d (dI pt.cell),.d (dS pt.aO),.d (dI pt.iE),.d (dI pt.gH),.d (dI pt.load),.d (dS pt.dO)])),(100,some (.cA 130 s.out.length 7 (dY s.out))),(9,some (.cells [.d (dI pt.month),.d (dI pt.cell),.d (dS pt.aO),.d (dI s.v),.d (dI pt.gH),.d (dI pt.load),.d (dS pt.dO)]))]⟩) (aS.of [] (by rw[aA];rfl) rfl ⟨bQ,bQ,bQ,bQ,oO⟩ ⟨qZ,qZ,qZ,qZ,qZ,qZ,oO⟩) ?_
   have aJ5:(aY pt s).cur.length=n:=hJ2.len
   refine AW.cut (σ':=⟨[(1,.s (.jH 1001 14 (aY pt s).lo (n - (aY pt s).lo))),(2,.s (.ptr 2 0)),(6,.s (.mo s.out.isEmpty 100)),(7,vI s.v),(8,vI s.p),(9,.s (.ptr 9 0))],[(1001,some (.row 259 n 14 (jM (aY pt s).cur))),(2,some (.cells [.d (dI pt.month),.d (dI pt.cell),.d (dS pt.aO),.d (dI pt.iE),.d (dI pt.gH),.d (dI pt.load),.d (dS pt.dO)])),(100,some (.cA 130 s.out.length 7 (dY s.out))),(9,some (.cells [.d (dI pt.month),.d (dI pt.cell),.d (dS pt.aO),.d (dI (xD s)),.d (dI pt.gH),.d (dI (HW pt s)),.d (dS (EF pt s))]))]⟩) ?_ ?_
   ·refine sX aA ?_
    refine AW.cond ?_
    refine aI (fun h2=>?_) (fun h2=>AW.skip ?_)
    ·have h2:((n - s.lo:Nat):Int)>0:=bL h2
     have fR:s.lo<n:=oM
     have xT:decide (s.lo<s.cur.length)=true:=decide_eq_true oM
     have WL:xD s=mm false s.v (s.cur.getD s.lo default).2:=by unfold xD;rw[xT];rfl
     have el:HW pt s=(s.cur.getD s.lo default).1.number:=by unfold HW;rw[xT];rfl
     have ep:EF pt s=(s.cur.getD s.lo default).1.dO:=by unfold EF;rw[xT];rfl
     refine sX aA ?_
     refine oi ⟨oM,oM⟩ ?_
     refine oi (show s.lo+(0:Int).toNat<n by omega) ?_
     refine AW.gG (σ':=⟨[(1,.s (.jH 1001 14 s.lo (n - s.lo))),(2,.s (.ptr 2 0)),(6,.s (.mo s.out.isEmpty 100)),(7,vI s.v),(8,vI s.p),(9,.s (.ptr 9 0))],[(1001,some (.row 259 n 14 (jM s.cur))),(2,some (.cells [.d (dI pt.month),.d (dI pt.cell),.d (dS pt.aO),.d (dI pt.iE),.d (dI pt.gH),.d (dI pt.load),.d (dS pt.dO)])),(100,some (.cA 130 s.out.length 7 (dY s.out))),(9,some (.cells [.d (dI pt.month),.d (dI pt.cell),.d (dS pt.aO),.d (dI (xD s)),.d (dI pt.gH),.d (dI pt.load),.d (dS pt.dO)]))]⟩) (aS.of [] (by rw[aA];rfl) rfl ⟨bQ,bQ,bQ,⟨rfl,aZ.of_eq (by rw[WL];rfl)⟩,oO⟩ ⟨qZ,qZ,qZ,qZ,qZ,qZ,oO⟩) ?_
     refine sX aA ?_
     refine oi ⟨oM,oM⟩ ?_
     refine oi (show s.lo+(0:Int).toNat<n by omega) ?_
     refine oi ⟨oM,oM⟩ ?_
     refine oi (show s.lo+(0:Int).toNat<n by omega) ?_
     refine aD ?_
     refine AW.gG (σ':=⟨[(1,.s (.jH 1001 14 s.lo (n - s.lo))),(2,.s (.ptr 2 0)),(6,.s (.mo s.out.isEmpty 100)),(7,vI s.v),(8,vI s.p),(9,.s (.ptr 9 0))],[(1001,some (.row 259 n 14 (jM s.cur))),(2,some (.cells [.d (dI pt.month),.d (dI pt.cell),.d (dS pt.aO),.d (dI pt.iE),.d (dI pt.gH),.d (dI pt.load),.d (dS pt.dO)])),(100,some (.cA 130 s.out.length 7 (dY s.out))),(9,some (.cells [.d (dI pt.month),.d (dI pt.cell),.d (dS pt.aO),.d (dI (xD s)),.d (dI pt.gH),.d (dI (HW pt s)),.d (dS (EF pt s))]))]⟩) (aS.of [] (by rw[aA];rfl) rfl ⟨bQ,bQ,bQ,⟨rfl,aZ.of_eq (by rw[el,ep];rfl)⟩,oO⟩ ⟨qZ,qZ,qZ,qZ,qZ,qZ,oO⟩) ?_
     have e2:(aY pt s).cur=s.cur.set s.lo ((s.cur.getD s.lo default).1,aV ((s.cur.getD s.lo default).2 - xD s)):=by rw[WL];unfold aY;rw[xT];rfl
     have e1:(aY pt s).lo=bif aV ((s.cur.getD s.lo default).2 - xD s)==0 then s.lo+1 else s.lo:=by rw[WL];unfold aY;rw[xT];rfl
     refine sX aA ?_
     refine oi ⟨oM,oM⟩ ?_
     refine oi (show s.lo+(0:Int).toNat<n by omega) ?_
     refine oi ⟨oM,oM⟩ ?_
     refine ob (show s.lo+(0:Int).toNat<n by omega) ?_
     refine aD ?_
     refine AW.gG (σ':=⟨[(1,.s (.jH 1001 14 s.lo (n - s.lo))),(2,.s (.ptr 2 0)),(6,.s (.mo s.out.isEmpty 100)),(7,vI s.v),(8,vI s.p),(9,.s (.ptr 9 0))],[(1001,some (.row 259 n 14 (jM (aY pt s).cur))),(2,some (.cells [.d (dI pt.month),.d (dI pt.cell),.d (dS pt.aO),.d (dI pt.iE),.d (dI pt.gH),.d (dI pt.load),.d (dS pt.dO)])),(100,some (.cA 130 s.out.length 7 (dY s.out))),(9,some (.cells [.d (dI pt.month),.d (dI pt.cell),.d (dS pt.aO),.d (dI (xD s)),.d (dI pt.gH),.d (dI (HW pt s)),.d (dS (EF pt s))]))]⟩) (aS.of [] (by rw[aA];rfl) rfl ⟨⟨rfl,aZ.row rfl fun a c ha hc=>aL.of_eq (by rw[e2];exact aD9 (x:=aV ((s.cur.getD (s.lo+(0:Int).toNat) default).2 - xD s)) oM oM hc)⟩,bQ,bQ,bQ,oO⟩ ⟨qZ,qZ,qZ,qZ,qZ,qZ,oO⟩) ?_
     have hg:((aY pt s).cur.getD s.lo default).2=aV ((s.cur.getD s.lo default).2 - xD s):=by
      rw[e2]
      simp[List.getD_eq_getElem?_getD,show s.lo<s.cur.length by omega]
     refine sX aA ?_
     refine oi ⟨oM,oM⟩ ?_
     refine oi (show s.lo+(0:Int).toNat<n by omega) ?_
     refine AW.cond ?_
     refine aI (fun h3=>?_) (fun h3=>AW.skip ?_)
     ·have h3:(((aY pt s).cur.getD s.lo default).2==0)=true:=h3
      rw[hg]at h3
      rw[h3]at e1
      have e1:(aY pt s).lo=s.lo+1:=e1
      refine eX aA ?_
      refine oi (show(0:Int)≤1∧(1:Int)≤((n - s.lo:Nat):Int)∧((n - s.lo:Nat):Int)≤((n - s.lo:Nat):Int) by omega) ?_
      exact⟨rfl,aS.of [] (by rw[aA];rfl) rfl ⟨bQ,bQ,bQ,bQ,oO⟩ ⟨⟨rfl,aU.of_eq (by rw[e1,show n - (s.lo+1)=n - s.lo - 1 by omega];rfl)⟩,qZ,qZ,qZ,qZ,qZ,oO⟩⟩
     ·have h3:(((aY pt s).cur.getD s.lo default).2==0)=false:=h3
      rw[hg]at h3
      rw[h3]at e1
      have e1:(aY pt s).lo=s.lo:=e1
      exact⟨rfl,aS.of [] (by rw[aA];rfl) rfl ⟨bQ,bQ,bQ,bQ,oO⟩ ⟨⟨rfl,aU.of_eq (by rw[e1];rfl)⟩,qZ,qZ,qZ,qZ,qZ,oO⟩⟩
    ·have h2:¬((n - s.lo:Nat):Int)>0:=bG h2
     have xT:decide (s.lo<s.cur.length)=false:=decide_eq_false oM
     have WL:xD s=s.v:=by unfold xD;rw[xT];rfl
     have el:HW pt s=pt.load:=by unfold HW;rw[xT];rfl
     have ep:EF pt s=pt.dO:=by unfold EF;rw[xT];rfl
     have e1:(aY pt s).lo=s.lo:=by unfold aY;rw[xT];rfl
     have e2:(aY pt s).cur=s.cur:=by unfold aY;rw[xT];rfl
     exact⟨rfl,aS.of [] (by rw[aA];rfl) rfl ⟨⟨rfl,aZ.of_eq (by rw[e2];rfl)⟩,bQ,bQ,⟨rfl,aZ.of_eq (by rw[WL,el,ep];rfl)⟩,oO⟩ ⟨⟨rfl,aU.of_eq (by rw[e1];rfl)⟩,qZ,qZ,qZ,qZ,qZ,oO⟩⟩
   ·refine sX aA ?_
    refine sX aA ?_
    refine aD ?_
    refine eX aA ?_
    refine ob dC ?_
    refine ob (by rw[eL];show(s.out.length+1)*72≤_;omega) ?_
    refine ob (nZ fun c hc=>by match c,hc with|0,_|1,_|2,_|3,_|4,_|5,_|6,_=>rfl) ?_
    refine⟨(k',aY pt s),hJ2,Nat.lt_succ_self _,?_⟩
    refine aS.of [(100,73)] (by rw[aA];rfl) rfl ⟨bQ,bQ,⟨rfl,?_⟩,oO⟩ ⟨qZ,qZ,⟨rfl,aU.mo (by rw[kU];exact cG _ _)⟩,⟨rfl,aU.int (KT pt s).symm⟩,⟨rfl,aU.int (KU pt s).symm⟩,oO⟩
    show aZ _ (.cA 130 (aY pt s).out.length 7 (dY (aY pt s).out))
    rw[kU]
    refine aZ.snoc (el:=aCL) (x:=⟨pt.month,pt.cell,pt.aO,xD s,mm false s.p (xD s),HW pt s,EF pt s⟩) (fun c hc=>?_)
    have hc:c<7:=hc
    match c,hc with|0,_|1,_|2,_|3,_|4,_|5,_|6,_=>rfl
  ·have h1:¬s.v>0:=bG h1
   have hr:=hJ.run
   simp only at hr
   rw[AD h1]at hr
   subst hr
   refine eX aA ?_
   exact⟨aBX (aL.zZ (eL _) fun _ _ _ _=>aL.refl _),rfl,oO⟩
theorem EY(pt:Piece)(hv:0≤pt.iE∧pt.iE≤1000000000000000):
  aF prog 123 [aFY pt,.s (.d eK)] (.t [.s (.d (UG (cB pt 0 []).out)),.s (.d eK)]):=by
 generalize aAF:cB pt 0 []=fin
 refine eW func123 rfl rfl call123 rfl rfl (fun cx aA=>?_)
 refine sX aA ?_
 refine sX aA ?_
 refine sX aA ?_
 refine aD ?_
 refine AW.seq ?_
 refine AW.block ?_
 refine AW.cV (fun x:Nat×DS=>⟨[(1,.s (.d eK)),(2,.s (.ptr 2 0)),(6,.s (.mo x.2.out.isEmpty 100)),(7,vI x.2.v),(8,vI x.2.p)],[(2,some (.cells [.d (dI pt.month),.d (dI pt.cell),.d (dS pt.aO),.d (dI pt.iE),.d (dI pt.gH),.d (dI pt.load),.d (dS pt.dO)])),(100,some (.cA 130 x.2.out.length 7 (dY x.2.out)))]⟩) (fun x=>DJ pt 0 fin x∧x.2.cur=[]) (fun x=>x.1) (1,pN pt 0 []) ⟨⟨by rw[←aAF];rfl,Nat.zero_le _,rfl,hv,fun _=>by show 0 - 0<1;omega,fun i _ h=>by omega,by show 0+1≤_;omega⟩,rfl⟩ ?_ ?_
 ·exact aS.bO aA [(100,1000)] rfl ⟨bQ,⟨rfl,rfl⟩,oO⟩ ⟨qZ,qZ,⟨rfl,aU.nil rfl⟩,qZ,qZ,oO⟩
 ·rintro⟨k,s⟩ ⟨hJ,aAH⟩
  have RR:=hJ.few
  have hvb:=hJ.v
  simp only at RR hvb aAH
  refine AW.seq (sX aA ?_)
  refine AW.cond ?_
  refine aI (fun h1=>AW.skip ?_) (fun h1=>AW.exit ?_)
  ·have h1:s.v>0:=bL h1
   obtain⟨k',rfl,hJ2⟩:=hJ.step h1
   refine AW.block ?_
   refine sX aA ?_
   refine sX aA ?_
   refine AW.gG (σ':=⟨[(1,.s (.d eK)),(2,.s (.ptr 2 0)),(6,.s (.mo s.out.isEmpty 100)),(7,vI s.v),(8,vI s.p),(9,.s (.ptr 9 0))],[(2,some (.cells [.d (dI pt.month),.d (dI pt.cell),.d (dS pt.aO),.d (dI pt.iE),.d (dI pt.gH),.d (dI pt.load),.d (dS pt.dO)])),(100,some (.cA 130 s.out.length 7 (dY s.out))),(9,some (.cells [.d (dI pt.month),.d (dI pt.cell),.d (dS pt.aO),.d (dI s.v),.d (dI pt.gH),.d (dI pt.load),.d (dS pt.dO)]))]⟩) (aS.bO aA [] rfl ⟨bQ,bQ,bQ,oO⟩ ⟨qZ,qZ,qZ,qZ,qZ,qZ,oO⟩) ?_
   have xT:decide (s.lo<s.cur.length)=false:=by rw[aAH];simp
   have WL:xD s=s.v:=by unfold xD;rw[xT];rfl
   have el:HW pt s=pt.load:=by unfold HW;rw[xT];rfl
   have ep:EF pt s=pt.dO:=by unfold EF;rw[xT];rfl
   have e2:(aY pt s).cur=[]:=by unfold aY;rw[xT];exact aAH
   refine AW.cut (σ':=⟨[(1,.s (.d eK)),(2,.s (.ptr 2 0)),(6,.s (.mo s.out.isEmpty 100)),(7,vI s.v),(8,vI s.p),(9,.s (.ptr 9 0))],[(2,some (.cells [.d (dI pt.month),.d (dI pt.cell),.d (dS pt.aO),.d (dI pt.iE),.d (dI pt.gH),.d (dI pt.load),.d (dS pt.dO)])),(100,some (.cA 130 s.out.length 7 (dY s.out))),(9,some (.cells [.d (dI pt.month),.d (dI pt.cell),.d (dS pt.aO),.d (dI (xD s)),.d (dI pt.gH),.d (dI (HW pt s)),.d (dS (EF pt s))]))]⟩) ?_ ?_
   ·refine sX aA ?_
    refine AW.cond ?_
    refine aI (fun h2=>by simp at h2) (fun h2=>AW.skip ?_)
    exact⟨rfl,aS.bO aA [] rfl ⟨bQ,bQ,⟨rfl,aZ.of_eq (by rw[WL,el,ep];rfl)⟩,oO⟩ ⟨qZ,qZ,qZ,qZ,qZ,qZ,oO⟩⟩
   ·refine sX aA ?_
    refine sX aA ?_
    refine aD ?_
    refine eX aA ?_
    refine ob dC ?_
    refine ob (by rw[eL];show(s.out.length+1)*72≤_;omega) ?_
    refine ob (nZ fun c hc=>by match c,hc with|0,_|1,_|2,_|3,_|4,_|5,_|6,_=>rfl) ?_
    refine⟨(k',aY pt s),⟨hJ2,e2⟩,Nat.lt_succ_self _,?_⟩
    refine aS.bO aA [(100,73)] rfl ⟨bQ,⟨rfl,?_⟩,oO⟩ ⟨qZ,qZ,⟨rfl,aU.mo (by rw[kU];exact cG _ _)⟩,⟨rfl,aU.int (KT pt s).symm⟩,⟨rfl,aU.int (KU pt s).symm⟩,oO⟩
    show aZ _ (.cA 130 (aY pt s).out.length 7 (dY (aY pt s).out))
    rw[kU]
    refine aZ.snoc (el:=aCL) (x:=⟨pt.month,pt.cell,pt.aO,xD s,mm false s.p (xD s),HW pt s,EF pt s⟩) (fun c hc=>?_)
    have hc:c<7:=hc
    match c,hc with|0,_|1,_|2,_|3,_|4,_|5,_|6,_=>rfl
  ·have h1:¬s.v>0:=bG h1
   have hr:=hJ.run
   simp only at hr
   rw[AD h1]at hr
   subst hr
   refine eX aA ?_
   exact aC.t ⟨aL.zZ (eL _) fun _ _ _ _=>aL.refl _,aL.refl _,oO⟩
end Go.Pj
namespace Go.Ax
open Go.RowKit
section
variable{P:Program}{cx:Cx}{N:Nat}{σ:St}
open Go.ChangeMaps
theorem nE.KQ{e s t kt et:Nat}{x y z:Operand}{k:ByteArray}{o:Oper}{h:HM}{K:St→Hid→Prop}(ho:o.op=.mapUpdate t x y z)(hd:o.dst=none)
  (hx:ev σ x=.s (.d (.val (.map (some h.bm))))) (hy:ev σ y=.s (.d (.val (.string k)))) (hz:ev σ z=.s (.d (.val (.slice none 0 0))))
  (ht:P.underlying t=some (.map kt et)) (hk:P.underlying kt=some .string) (hit:cY h.l k 0=none→h.it=none)
  (hK:K σ (hid e s (eG h k (.slice none 0 0) none))):nE P cx N o σ (hid e s h) K:=by
 refine⟨fun c hc=>(by rw[ho]at hc;cases hc),fun M β a w i hi Q=>?_⟩
 have ex:a.eval x=.map (some h.bm):=by have:=ev.rep i x;rw[hx]at this;exact this
 have ey:a.eval y=.string k:=by have:=ev.rep i y;rw[hy]at this;exact this
 have hv:a.eval z=.slice none 0 0:=by have:=ev.rep i z;rw[hz]at this;exact this
 have hF:h.F e s M w:=hi.holds
 have hS0:h.S h.bm:=.inl rfl
 have iQ:∀b,(Instr.checkKey b 10000 kt (.string k)).run P w=.ok () w:=fun b=>iH w hk b k 9999
 have nR:=xR (P:=P) (w:=w) hk k h.l
 obtain⟨h',AY⟩:∃h',eG h k (.slice none 0 0) none=h':=⟨_,rfl⟩
 have MV:h'.bm=h.bm:=by rw[←AY];unfold eG;split <;> rfl
 have a6:(execOp a.eval o).run P w=.ok .skip (setBlock w h.bm (.map (h'.l.map bJ.mK).toArray h'.clock)):=by
  cases hq:cY h.l k 0 with
  |none=>
   rw[hq]at nR
   have e1:h'= {h with l:=h.l++ [⟨k,h.clock,.slice none 0 0,none⟩],clock:=h.clock+1}:=by rw[←AY];unfold eG;rw[hq]
   have e3:(h.l.map bJ.mK).toArray.push {key:=.string k,val:=.slice none 0 0,born:=h.clock}=(h'.l.map bJ.mK).toArray:=by rw[e1];simp[bJ.mK]
   have e4:h'.clock=h.clock+1:=by rw[e1]
   have hm:(Instr.mapUpdate t (.map (some h.bm)) (.string k) (.slice none 0 0)).run P w=.ok () (setBlock w h.bm (.map (h'.l.map bJ.mK).toArray h'.clock)):=by
    rw[e4,←e3]
    simp[Instr.mapUpdate,run_underlying ht,MapKept.run_getObj_map hF.map,iQ,nR,fQ hF.map]
   simp[execOp,ho,ex,ey,hv,hm]
  |some p=>
   obtain⟨j,q⟩:=p
   rw[hq]at nR
   obtain⟨_,AZ,sL⟩:=tV hq
   simp only [Nat.sub_zero]at AZ
   have sL:q.key=k:=sL
   have e1:h'= {h with l:=h.l.modify j fun x=>{x with val:=.slice none 0 0,row:=none}}:=by rw[←AY];unfold eG;rw[hq]
   have e3:=F3 (.slice none 0 0) none AZ sL
   have e4:h'.clock=h.clock:=by rw[e1]
   have GN:(Instr.keyThatStays (.string k) (.string k)).run P w=.ok (.string k) w:=by simp[Instr.keyThatStays,Instr.sameBits]
   have hm:(Instr.mapUpdate t (.map (some h.bm)) (.string k) (.slice none 0 0)).run P w=.ok () (setBlock w h.bm (.map (h'.l.map bJ.mK).toArray h'.clock)):=by
    have e5:h'.l.map bJ.mK=(h.l.map bJ.mK).modify j (fun e=>{e with key:=.string k,val:=.slice none 0 0}):=by rw[e1];exact e3.symm
    have e6:(Option.map ((fun x:MapEntry=>x.key)∘bJ.mK) h.l[j]?).getD (.string k)=.string k:=by rw[AZ];simp[bJ.mK,sL]
    rw[e4,e5]
    simp[Instr.mapUpdate,run_underlying ht,MapKept.run_getObj_map hF.map,iQ,nR,e6,GN,fQ hF.map]
   simp[execOp,ho,ex,ey,hv,hm]
 unfold Oper.wp
 rw[a6,Oper.upon_skip,hd]
 have QG:=fO w h.bm (.map (h'.l.map bJ.mK).toArray h'.clock)
 have rK:∀k',k'≠h.bm→(setBlock w h.bm (.map (h'.l.map bJ.mK).toArray h'.clock)).heap[k']? =w.heap[k']? :=fun k' yZ=>eT _ _ _ yZ
 have hat:=gZ (ob':=.map (h'.l.map bJ.mK).toArray h'.clock) hF.map
 generalize hw:setBlock w h.bm (.map (h'.l.map bJ.mK).toArray h'.clock)=w' at*
 have i1:=i.zU hi hS0 QG rK
 have kp:=b8.zU hi hS0 QG rK (by rw[←hw];rfl) (by rw[←hw];rfl) (by rw[←hw];rfl) (by rw[←hw];exact trivial)
 refine⟨_,M,β,_,AY▸hK,i1,?_,Grow.refl _ _,kp⟩
 have fD:∀k',h'.S k'→h.S k':=by
  rintro k' (rfl|⟨x,hx,r,hr,rfl⟩|⟨sn,hs⟩)
  ·exact MV▸.inl rfl
  ·rw[←AY]at hx
   rcases z6 hx with h1|⟨_,h2⟩
   ·exact .inr (.inl ⟨x,h1,r,hr,rfl⟩)
   ·rw[hr]at h2;cases h2
  ·refine .inr (.inr ⟨sn,?_⟩)
   rw[←AY]at hs
   unfold eG at hs
   split at hs <;> exact hs
 refine⟨⟨by rw[MV];exact hat,fun x hx r hr=>?_,fun bi sn hs=>?_,?_⟩,fun k' yZ=>hi.low k' (fD k' yZ),fun k' yZ=>hi.apart k' (fD k' yZ),fun x bx b' c' e1 e2 hs=>hi.names x bx b' c' e1 e2 (fD b' hs)⟩
 ·rw[←AY]at hx
  rcases z6 hx with h1|⟨h1,h2⟩
  ·obtain⟨o,cur,q1,q2,q3,q4,q5⟩:=hF.rows x h1 r hr
   exact⟨o,cur,q1,q2,q3,(rK r.g (fun e=>by rw[e,hF.map]at q4;cases q4)).trans q4,q5⟩
  ·rw[hr]at h2;cases h2
 ·have hs0:h.it=some (bi,sn)∧h'.clock=h.clock:=by
   rw[←AY]at hs ⊢
   unfold eG at hs ⊢
   split at hs
   ·exact⟨hs,rfl⟩
   ·rename_i hq;rw[hit hq]at hs;cases hs
  have:=hF.iter bi sn hs0.1
  rw[hs0.2,MV]
  exact(rK bi (fun e=>by rw[e,hF.map]at this;cases this)).trans this
 ·intro j1 j2 x1 x2 r1 r2 g1 g2 hr1 V7 eg
  rw[←AY]at g1 g2
  rcases z7 g1 with q1|⟨q1,p1⟩
  ·rcases z7 g2 with q2|⟨q2,p2⟩
   ·exact hF.HA j1 j2 x1 x2 r1 r2 q1 q2 hr1 V7 eg
   ·rw[V7]at q2;cases q2
  ·rw[hr1]at q1;cases q1
end
end Go.Ax
namespace Go.Pj
open Go Go.Ax Go.Ch Go.Proofs Go.Proofs.Tryz
theorem TB{pt:Piece}{n:Nat}{fin:DS}:∀{k:Nat} {s:DS},DJ pt n fin (k,s)→∃k',DJ pt n fin (k',fin)
 |0,s,h=>⟨0,by have:=h.run;simp only [oJ]at this;subst this;exact h⟩
 |k+1,s,h=>by
  by_cases hv:s.v>0
  ·obtain⟨k',hk,h2⟩:=h.step hv
   obtain rfl:k=k':=oM
   exact TB h2
  ·have hr:=h.run
   simp only at hr
   rw[AD hv]at hr
   subst hr
   exact⟨_,h⟩
theorem U5{pt:Piece}{lo n:Nat}{l:List Room}(hn:l.length=n)(CL:lo≤n)(hn2:n≤1000)(hv:0≤pt.iE∧pt.iE≤1000000000000000)(hl:∀i,lo≤i→i<n→1≤(l.getD i default).2∧(l.getD i default).2≤1000000000000):
  DJ pt n (cB pt lo l) (n - lo+1,pN pt lo l):=
 ⟨by unfold cB;rw[hn],CL,hn,hv,fun _=>by show n - lo<n - lo+1;omega,hl,by show 0+(n - lo+1)≤_;omega⟩
theorem EW{pt:Piece}{lo n:Nat}{l:List Room}(hn:l.length=n)(CL:lo≤n)(hn2:n≤1000)(hv:0≤pt.iE∧pt.iE≤1000000000000000)(hl:∀i,lo≤i→i<n→1≤(l.getD i default).2∧(l.getD i default).2≤1000000000000):
  (cB pt lo l).lo≤n∧(cB pt lo l).cur.length=n∧∀i,(cB pt lo l).lo≤i→i<n→1≤((cB pt lo l).cur.getD i default).2∧((cB pt lo l).cur.getD i default).2≤1000000000000:=by
 obtain⟨k,h⟩:=TB (U5 hn CL hn2 hv hl)
 exact⟨h.lo,h.len,h.left⟩
theorem NO{pt:Piece}:∀(k:Nat) (s:DS),(oJ pt k s).out.length≤s.out.length+k
 |0,s=>Nat.le_refl _
 |k+1,s=>by
  rw[oJ]
  cases decide (s.v>0)with
  |false=>show s.out.length≤_;omega
  |true=>
   have:=NO (pt:=pt) k (aY pt s)
   have e:(aY pt s).out.length=s.out.length+1:=by rw[kU];simp
   show(oJ pt k (aY pt s)).out.length≤_
   omega
theorem qB(pt:Piece)(lo:Nat)(l:List Room):(cB pt lo l).out.length≤l.length - lo+1:=by
 have:=NO (pt:=pt) (l.length - lo+1) (pN pt lo l)
 have e:(pN pt lo l).out.length=0:=rfl
 unfold cB
 omega
abbrev lS:=b9×(Nat×List Room)×Nat
def fP:List lS→b9→Nat→Option (Nat×lS)
 |[],_,_=>none
 |e::r,k,i=>bif k==e.1 then some (i,e)else fP r k (i+1)
def A3(E:List lS)(k:b9):Nat×List Room:=match fP E k 0 with
 |some (_,e)=>e.2.1
 |none=>(0,[])
def YK(E:List lS)(k:b9)(v:Nat×List Room):List lS:=match fP E k 0 with
 |some (i,_)=>E.modify i fun e=>(e.1,v,e.2.2)
 |none=>E++ [(k,v,E.length)]
def dD(p:Proj):Int:=aV (p.aW.side*p.aW.side)
def N6(p:Proj)(i:Nat):Int:=(lX p.chan p.aW p.chan.over).levels.getD i 0
def bI(p:Proj)(m:Int)(i:Nat)(x:Part):Piece:=
 ⟨m,i,x.aO,aV (aV (x.top - x.bot)*dD p),bif N6 p i !=30000 then aV (mm true 0 (aV (x.top - mm true x.bot (N6 p i)))*dD p)else 0,0,bs []⟩
abbrev PS:=List lS×List Piece
def nS(p:Proj)(m:Int)(i:Nat)(s:PS)(x:Part):PS:=
 (YK s.1 (x.aO.data.toList) ((cB (bI p m i x) (A3 s.1 x.aO.data.toList).1 (A3 s.1 x.aO.data.toList).2).lo,(cB (bI p m i x) (A3 s.1 x.aO.data.toList).1 (A3 s.1 x.aO.data.toList).2).cur),
  s.2++(cB (bI p m i x) (A3 s.1 x.aO.data.toList).1 (A3 s.1 x.aO.data.toList).2).out)
def wC(p:Proj)(fs:List Fact)(M:Nat)(s:PS)(i:Nat):PS:=
 bif lH p fs (M - 1) i==30000||decide (lH p fs M i≥lH p fs (M - 1) i)then s
 else(uL p.gr (dG p.aW i) (lH p fs (M - 1) i) (lH p fs M i)).foldl (nS p M i) s
def pM(E:List Rm.gF):List lS:=E.map fun e=>(e.1,(0,e.2.1),e.2.2)
def FV(p:Proj)(fs:List Fact)(M:Nat):List Piece:=
 ((List.range p.aW.levels.length).foldl (wC p fs M) (pM (Rm.j7 (gV p (jL fs M) (jL fs M).length).1 M (gV p (jL fs M) (jL fs M).length).1.length),[])).2
structure XI(r:mB)(v:Nat×List Room):Prop where
 lo:r.lo=v.1
 n:r.n=v.2.length
 le:v.1≤v.2.length
 f:∀i j,i<v.2.length→j<14→aL (r.f i j) (jM v.2 i j)
structure POK(q:bJ)(e:lS):Prop where
 key:q.key=bs e.1
 born:q.born=e.2.2
 row:(e.2.1.2≠[]∧∃r,q.row=some r∧XI r e.2.1)∨(q.row=none∧q.val=.slice none 0 0∧e.2.1=(0,[]))
def lT:List bJ→List lS→Prop
 |[],[]=>True
 |q::r,e::s=>POK q e∧lT r s
 |_,_=>False
theorem lT.of:∀{l:List bJ} {E:List Rm.gF},Rm.dW l E→lT l (pM E)
 |[],[],_=>trivial
 |q::r,e::s,h=>by
  obtain⟨x,hx,ho⟩:=h.1.row
  exact⟨⟨h.1.key,h.1.born,.inl ⟨h.1.ne,x,hx,⟨ho.lo,ho.n,Nat.zero_le _,ho.f⟩⟩⟩,lT.of h.2⟩
 |[],_::_,h=>h.elim
 |_::_,[],h=>h.elim
theorem lT.append:∀{l m:List bJ} {E F:List lS},lT l E→lT m F→lT (l++m) (E++F)
 |[],_,[],_,_,h=>h
 |_::_,_,_::_,_,h,k=>⟨h.1,lT.append h.2 k⟩
 |[],_,_::_,_,h,_=>h.elim
 |_::_,_,[],_,h,_=>h.elim
theorem lT.modify:∀{l:List bJ} {E:List lS} {i:Nat} {g:bJ→bJ} {g':lS→lS},lT l E→(∀q e,l[i]? =some q→E[i]? =some e→POK q e→POK (g q) (g' e))→lT (l.modify i g) (E.modify i g')
 |[],[],_,_,_,_,_=>by simp[lT]
 |q::r,e::s,0,g,g',h,k=>by
  simp only [List.modify_zero_cons]
  exact⟨k q e rfl rfl h.1,h.2⟩
 |q::r,e::s,i+1,g,g',h,k=>by
  simp only [List.modify_succ_cons]
  exact⟨h.1,lT.modify h.2 fun q e hq he=>k q e (by simpa using hq) (by simpa using he)⟩
 |[],_::_,_,_,_,h,_=>h.elim
 |_::_,[],_,_,_,h,_=>h.elim
theorem zB:∀{l:List bJ} {E:List lS} {k:b9} {i:Nat},lT l E→fP E k i=none→cY l (bs k) i=none
 |[],[],_,_,_,_=>rfl
 |q::r,e::s,k,i,h,hf=>by
  rw[fP]at hf
  rw[cY,h.1.key,uG]
  cases hk:k==e.1 with
  |true=>rw[hk]at hf;cases hf
  |false=>rw[hk]at hf;exact zB h.2 hf
 |[],_::_,_,_,h,_=>h.elim
 |_::_,[],_,_,h,_=>h.elim
theorem zA:∀{l:List bJ} {E:List lS} {k:b9} {i:Nat} {p:Nat×lS},lT l E→fP E k i=some p→∃q,cY l (bs k) i=some (p.1,q)∧POK q p.2
 |[],[],_,_,_,_,hf=>by cases hf
 |q::r,e::s,k,i,p,h,hf=>by
  rw[fP]at hf
  rw[cY,h.1.key,uG]
  cases hk:k==e.1 with
  |true=>
   rw[hk]at hf
   obtain rfl:(i,e)=p:=Option.some.inj hf
   exact⟨q,rfl,h.1⟩
  |false=>rw[hk]at hf;exact zA h.2 hf
 |[],_::_,_,_,_,h,_=>h.elim
 |_::_,[],_,_,_,h,_=>h.elim
theorem tK{h:HM}{E:List lS}{k:b9}{j:Nat}{q:bJ}{v:Value}{r:mB}{x:Nat×List Room}(ha:lT h.l E)(hf:cY h.l (bs k) 0=some (j,q))(hr:XI r x)(gI:x.2≠[]):
  lT (eG {h with l:=cP h.l j} (bs k) v (some r)).l (E.modify j fun e=>(e.1,x,e.2.2))∧(eG {h with l:=cP h.l j} (bs k) v (some r)).bm=h.bm∧(eG {h with l:=cP h.l j} (bs k) v (some r)).clock=h.clock∧(eG {h with l:=cP h.l j} (bs k) v (some r)).it=h.it:=by
 have h1:=sQ h.l (bs k) j 0
 rw[hf]at h1
 unfold eG
 simp only
 cases hq:cY (cP h.l j) (bs k) 0 with
 |none=>rw[hq]at h1;cases h1
 |some p=>
  obtain⟨i,q'⟩:=p
  rw[hq]at h1
  obtain rfl:i=j:=by simpa using h1
  refine⟨?_,rfl,rfl,rfl⟩
  show lT ((cP h.l i).modify i _) _
  unfold cP
  rw[List.modify_modify_eq]
  exact ha.modify fun q e _ _ ho=>⟨ho.key,ho.born,.inl ⟨gI,r,rfl,hr⟩⟩
theorem NJ{h:HM}{E:List lS}{k:b9}{j:Nat}{q:bJ}(ha:lT h.l E)(hf:cY h.l (bs k) 0=some (j,q)):
  lT (eG h (bs k) (.slice none 0 0) none).l (E.modify j fun e=>(e.1,(0,[]),e.2.2))∧(eG h (bs k) (.slice none 0 0) none).bm=h.bm∧(eG h (bs k) (.slice none 0 0) none).clock=h.clock∧(eG h (bs k) (.slice none 0 0) none).it=h.it:=by
 unfold eG
 rw[hf]
 refine⟨?_,rfl,rfl,rfl⟩
 exact ha.modify fun q e _ _ ho=>⟨ho.key,ho.born,.inr ⟨rfl,rfl,rfl⟩⟩
theorem NK{h:HM}{E:List lS}{k:b9}(ha:lT h.l E)(hc:h.clock=E.length)(hf:cY h.l (bs k) 0=none):
  lT (eG h (bs k) (.slice none 0 0) none).l (E++ [(k,(0,[]),E.length)])∧(eG h (bs k) (.slice none 0 0) none).bm=h.bm∧(eG h (bs k) (.slice none 0 0) none).clock=E.length+1∧(eG h (bs k) (.slice none 0 0) none).it=h.it:=by
 unfold eG
 rw[hf]
 refine⟨?_,rfl,by simp only;omega,rfl⟩
 refine ha.append ⟨⟨rfl,by simp only;exact hc,.inr ⟨rfl,rfl,rfl⟩⟩,oO⟩
theorem PV.bA{p:Proj}(h:PV p):∀x∈p.gr.b6,x.bA.length≤1000000:=by
 intro x hx
 obtain⟨i,hi,rfl⟩:=List.getElem_of_mem hx
 have hg:=h.gr
 unfold dP at hg
 obtain⟨_,hg⟩:=dK hg
 obtain⟨_,hg⟩:=c8 dC hg
 obtain⟨_,hg⟩:=c8 dC hg
 have hb:=kX hg i (Nat.zero_le _) oM
 unfold tB at hb
 obtain⟨_,hb⟩:=c8 dC hb
 obtain⟨_,hb⟩:=c8 dC hb
 unfold uJ at hb
 obtain⟨_,hb⟩:=c8 dC hb
 obtain⟨_,hb⟩:=c8 dC hb
 obtain⟨hb,_⟩:=c8 dC hb
 simp only [decide_eq_false_iff_not]at hb
 rw[a7 hi]at hb
 omega
end Go.Pj
--K60
namespace Go.Ax
open Go.RowKit
variable{P:Program}{cx:Cx}{N:Nat}{σ σ':St}{H H':Hid}
theorem bH.sub{all l:List Oper}{K:St→Hid→Prop}(h:HSub cx N σ H σ' H')(k:bH P cx N all l σ' H' K):bH P cx N all l σ H K:=by
 intro M β a w Q i hi hQ
 obtain⟨M',β',i',bK,g⟩:=h M β a w i hi
 exact k M' β' a w Q i' bK fun a' w' hp=>hQ a' w' (hp.trans g (b8.refl _ _))
theorem bN.cut{x y:Code}{K:Exit→St→Hid→Prop}(h:bN P cx N x σ H fun e s h=>e=.normal∧HSub cx N s h σ' H')(k:bN P cx N y σ' H' K):bN P cx N (.seq x y) σ H K:=
 bN.seq (bN.mono h fun _ _ _ ⟨he,hs⟩=>by subst he;exact bN.sub hs k)
end Go.Ax
namespace Go.Pj
open Go Go.Ax Go.Ch Go.Proofs Go.Proofs.Tryz
set_option maxRecDepth 100000
set_option maxHeartbeats 1000000
theorem PV.ZK{p:Proj}(h:PV p):∀x∈p.gr.b6,x.bA.length≤12:=by
 intro x hx
 obtain⟨i,hi,rfl⟩:=List.getElem_of_mem hx
 have hg:=h.gr
 unfold dP at hg
 obtain⟨_,hg⟩:=dK hg
 obtain⟨_,hg⟩:=c8 dC hg
 obtain⟨_,hg⟩:=c8 dC hg
 have hb:=kX hg i (Nat.zero_le _) oM
 unfold tB at hb
 obtain⟨_,hb⟩:=c8 dC hb
 obtain⟨_,hb⟩:=c8 dC hb
 unfold uJ at hb
 obtain⟨_,hb⟩:=c8 dC hb
 obtain⟨_,hb⟩:=c8 dC hb
 obtain⟨hb,_⟩:=c8 dC hb
 simp only [decide_eq_false_iff_not]at hb
 rw[a7 hi]at hb
 omega
theorem NN{pt:Piece}:∀(k:Nat) (s:DS),s.out.length≤(oJ pt k s).out.length
 |0,s=>Nat.le_refl _
 |k+1,s=>by
  rw[oJ]
  cases decide (s.v>0)with
  |false=>exact Nat.le_refl _
  |true=>
   have:=NN (pt:=pt) k (aY pt s)
   have e:(aY pt s).out.length=s.out.length+1:=by rw[kU];simp
   show _≤(oJ pt k (aY pt s)).out.length
   omega
theorem pI{pt:Piece}{lo:Nat}{l:List Room}(hv:0<pt.iE):0<(cB pt lo l).out.length:=by
 unfold cB
 rw[oJ,show decide ((pN pt lo l).v>0)=true from decide_eq_true hv]
 have:=NN (pt:=pt) (l.length - lo) (aY pt (pN pt lo l))
 have e:(aY pt (pN pt lo l)).out.length=0+1:=by rw[kU];simp;rfl
 show 0<(oJ pt (l.length - lo) (aY pt (pN pt lo l))).out.length
 omega
structure uZ(x:Nat×List Room):Prop where
 le:x.1≤x.2.length
 few:x.2.length≤200
 left:∀i,x.1≤i→i<x.2.length→1≤(x.2.getD i default).2∧(x.2.getD i default).2≤1000000000000
def C0(s:PS)(n:Nat):Prop:=(∀e∈s.1,uZ e.2.1)∧s.2.length≤n
theorem C0.more{s:PS}{n m:Nat}(h:C0 s n)(hm:n≤m):C0 s m:=⟨h.1,Nat.le_trans h.2 hm⟩
theorem L4:∀{E:List lS} {k:b9} {i j:Nat} {e:lS},fP E k i=some (j,e)→i≤j∧E[j - i]? =some e∧e.1=k
 |[],_,_,_,_,h=>by cases h
 |x::r,k,i,j,e,h=>by
  rw[fP]at h
  cases hk:(k==x.1)with
  |true=>
   rw[hk]at h
   obtain⟨rfl,rfl⟩:=Prod.mk.inj (Option.some.inj h)
   exact⟨Nat.le_refl _,sM,(eq_of_beq hk).symm⟩
  |false=>
   rw[hk]at h
   obtain⟨h1,h2,h3⟩:=L4 (E:=r) h
   refine⟨oM,?_,h3⟩
   rw[show j - i=(j - (i+1))+1 by omega]
   simpa using h2
theorem WG{E:List lS}{k:b9}(h:∀e∈E,uZ e.2.1):uZ (A3 E k):=by
 unfold A3
 split
 ·rename_i i e he
  exact h e (List.mem_of_getElem? (L4 he).2.1)
 ·exact⟨Nat.le_refl _,Nat.zero_le _,fun i _ hi=>absurd hi (Nat.not_lt_zero _)⟩
theorem U9{E:List lS}{k:b9}{v:Nat×List Room}(h:∀e∈E,uZ e.2.1)(hv:uZ v):∀e∈YK E k v,uZ e.2.1:=by
 intro e he
 unfold YK at he
 split at he
 ·rename_i i e' _
  obtain⟨j,hj⟩:=List.getElem?_of_mem he
  rw[List.getElem?_modify]at hj
  cases hE:E[j]? with
  |none=>rw[hE]at hj;cases hj
  |some y=>
   rw[hE]at hj
   have hj:(if i=j then(y.1,v,y.2.2)else y)=e:=by simpa using hj
   split at hj
   ·subst hj;exact hv
   ·subst hj;exact h y (List.mem_of_getElem? hE)
 ·rcases List.mem_append.1 he with he|he
  ·exact h e he
  ·rw[List.mem_singleton.1 he];exact hv
theorem WR{pt:Piece}{x:Nat×List Room}(h:uZ x)(hv:0≤pt.iE∧pt.iE≤1000000000000000):uZ ((cB pt x.1 x.2).lo,(cB pt x.1 x.2).cur):=by
 have hf:=h.few
 obtain⟨h1,h2,h3⟩:=EW (pt:=pt) (n:=x.2.length) rfl h.le oM hv h.left
 exact⟨by show _≤(cB pt x.1 x.2).cur.length;omega,by show(cB pt x.1 x.2).cur.length≤_;omega,fun i h4 h5=>h3 i h4 (by have h5:i<(cB pt x.1 x.2).cur.length:=h5;omega)⟩
theorem I8{p:Proj}{m:Int}{i n:Nat}{s:PS}{x:Part}(h:C0 s n)(hv:0≤(bI p m i x).iE∧(bI p m i x).iE≤1000000000000000):C0 (nS p m i s x) (n+201):=by
 have hg:=WG (k:=x.aO.data.toList) h.1
 refine⟨U9 h.1 (WR hg hv),?_⟩
 have hf:=qB (bI p m i x) (A3 s.1 x.aO.data.toList).1 (A3 s.1 x.aO.data.toList).2
 have:=hg.few
 have:=h.2
 show(s.2++_).length≤_
 rw[List.length_append]
 omega
structure zN(x:Part):Prop where
 lt:x.bot<x.top
 lo: -20000≤x.bot
 hi:x.top≤20000
theorem W3{l:List q9}{hi lo:Int}{n:Nat}{x:Part}(h:x∈mL l hi lo n):x.bot<x.top∧lo≤x.bot∧x.top≤hi:=by
 unfold mL at h
 obtain⟨i,_,hx⟩:=List.mem_filterMap.1 h
 unfold VV at hx
 cases hq:decide (B1 l hi i>EM l lo i)with
 |false=>rw[hq]at hx;cases hx
 |true=>
  rw[hq]at hx
  obtain rfl:=Option.some.inj hx
  refine⟨of_decide_eq_true hq,?_,?_⟩
  ·show lo≤EM l lo i
   unfold EM
   cases decide (((i+1:Nat):Int)<l.length)with
   |true=>show lo≤mm true _ _;unfold mm;simp only;split <;> omega
   |false=>exact Int.le_refl _
  ·show B1 l hi i≤hi
   unfold B1
   cases decide ((i:Int)>0)with
   |true=>show mm false _ _≤hi;unfold mm;simp only;split <;> omega
   |false=>exact Int.le_refl _
theorem C2{g:Ground}{c:Pt}{hi lo:Int}{x:Part}(h:x∈uL g c hi lo):zN x:=by
 unfold uL at h
 cases he:(ER g c hi lo !=0)with
 |true=>rw[he]at h;cases h
 |false=>
  rw[he]at h
  have h:x∈mL (tC g c).bA hi lo (tC g c).bA.length:=h
  obtain⟨h1,h2,h3⟩:=W3 h
  have he:ER g c hi lo=0:=by simpa using he
  unfold ER at he
  obtain⟨ha,_⟩:=dK he
  unfold EN at ha
  obtain⟨_,ha⟩:=dK ha
  obtain⟨ha,_⟩:=c8 dC ha
  simp only [Bool.or_eq_false_iff,List.any_cons,List.any_nil,KM,within,Bool.not_eq_false',Bool.and_eq_true,decide_eq_true_eq]at ha
  exact⟨h1,oM,oM⟩
theorem aF2{g:Ground}{c:Pt}(h0:0<g.b6.length):tC g c∈g.b6:=cT (LC g.b6 c g.b6.length h0)
theorem HU{p:Proj}{c:Pt}{hi lo:Int}(h:PV p):(uL p.gr c hi lo).length≤12:=by
 unfold uL
 cases ER p.gr c hi lo !=0 with
 |true=>exact Nat.zero_le _
 |false=>
  have h1:=PQ (tC p.gr c).bA hi lo (tC p.gr c).bA.length
  have h2:=h.ZK _ (aF2 (c:=c) (DU h.gr).1)
  show(mL _ _ _ _).length≤12
  omega
theorem aBJ{p:Proj}(h:PV p):10000≤dD p∧dD p≤1000000:=by
 have h1:=h.gv.side
 have h2:=h.side
 have h3:100*100≤p.aW.side*p.aW.side:=Int.mul_le_mul h1.1 h1.1 dC oM
 have h4:p.aW.side*p.aW.side≤1000*1000:=Int.mul_le_mul h2 h2 oM dC
 unfold dD
 rw[aG oM oM]
 omega
theorem AJ{p:Proj}{m:Int}{i:Nat}{x:Part}(h:PV p)(hx:zN x):0<(bI p m i x).iE∧(bI p m i x).iE≤1000000000000000:=by
 obtain⟨a1,a2⟩:=aBJ h
 have h1:=hx.lt
 have h2:=hx.lo
 have h3:=hx.hi
 show 0<aV (aV (x.top - x.bot)*dD p)∧_
 rw[show aV (x.top - x.bot)=x.top - x.bot from aG oM oM]
 have h4:1*1≤(x.top - x.bot)*dD p:=Int.mul_le_mul oM oM dC oM
 have h5:(x.top - x.bot)*dD p≤40000*1000000:=Int.mul_le_mul oM a2 oM dC
 have e:(bI p m i x).iE=aV (aV (x.top - x.bot)*dD p):=rfl
 rw[e,show aV (x.top - x.bot)=x.top - x.bot from aG oM oM,aG oM oM]
 omega
theorem aHM{a b:List Piece}{i j:Nat}(hi:i<a.length+b.length):k7 a.length (dY a) (dY b) i j=dY (a++b) i j:=by
 unfold k7 dY
 by_cases h:i<a.length
 ·rw[if_pos h]
  simp only [List.getD_eq_getElem?_getD,List.getElem?_append_left h]
 ·rw[if_neg h]
  simp only [List.getD_eq_getElem?_getD,List.getElem?_append_right (by omega:a.length≤i)]
end Go.Pj
namespace Go.Pj
open Go Go.Ax Go.Ch Go.Proofs Go.Proofs.Tryz
def aCO:List Piece→AV
 |[]=>.s (.d eK)
 |_::_=>.s (.own 100)
def aCP:List Piece→aN
 |[]=>[]
 |x::r=>[(100,some (.row 130 (x::r).length 7 (dY (x::r))))]
abbrev j5(p:Proj):List SV:=[.d (dI p.aW.x),.d (dI p.aW.y),.d (dI p.aW.side),.d (dI p.aW.dL),.d (dI p.aW.rows),.d (cE (lX p.chan p.aW p.chan.over).levels)]
def HI(p:Proj)(fs:List Fact)(M:Nat)(bm i:Nat)(out:List Piece):St:=
 ⟨(7,aCO out):: [(1,vI M),(2,.s (.d (cU (dB p fs (M+1))))),(3,.s (.ptr 3 0)),(8,dH bm),(9,.s (.ptr 9 0)),(11,vI (dD p)),(51,vI p.aW.levels.length),(52,vI i)],[(3,some (.cells (lE p fs))),(9,some (.cells (j5 p)))]++aCP out⟩
def DA(p:Proj)(fs:List Fact)(M:Nat)(E:List lS)(i:Nat):PS:=(List.range i).foldl (wC p fs M) (E,[])
theorem FP(p:Proj)(fs:List Fact)(M:Nat)(E:List lS)(i:Nat):DA p fs M E (i+1)=wC p fs M (DA p fs M E i) i:=by
 unfold DA
 rw[List.range_succ,List.foldl_append];rfl
def K8(p:Proj)(m:Int)(i:Nat)(s:PS)(xs:List Part)(j:Nat):PS:=(xs.take j).foldl (nS p m i) s
theorem Y2{p:Proj}{m:Int}{i:Nat}{s:PS}{xs:List Part}{j:Nat}(h:j<xs.length):K8 p m i s xs (j+1)=nS p m i (K8 p m i s xs j) (xs.getD j default):=by
 unfold K8
 rw[List.take_add_one,List.getElem?_eq_getElem h,a7 h,List.foldl_append];rfl
def wX(p:Proj)(fs:List Fact)(M:Nat)(bm i:Nat)(xs:List Part)(j:Nat)(out:List Piece):St:=
 ⟨(7,aCO out):: [(1,vI M),(2,.s (.d (cU (dB p fs (M+1))))),(3,.s (.ptr 3 0)),(8,dH bm),(9,.s (.ptr 9 0)),(11,vI (dD p)),(12,vI i),(51,vI p.aW.levels.length),(52,vI i),(97,gP xs),(98,vI xs.length),(99,vI j)],[(3,some (.cells (lE p fs))),(9,some (.cells (j5 p)))]++aCP out⟩
def A9(p:Proj)(fs:List Fact)(M:Nat)(bm i:Nat)(xs:List Part)(j:Nat)(out zs:List Piece):St:=
 ⟨(7,aCO out):: [(1,vI M),(2,.s (.d (cU (dB p fs (M+1))))),(3,.s (.ptr 3 0)),(8,dH bm),(9,.s (.ptr 9 0)),(11,vI (dD p)),(12,vI i),(23,gQ zs),(51,vI p.aW.levels.length),(52,vI i),(97,gP xs),(98,vI xs.length),(99,vI j)],[(3,some (.cells (lE p fs))),(9,some (.cells (j5 p)))]++aCP out⟩
def aIU(p:Proj)(fs:List Fact)(M:Nat)(bm i:Nat)(xs:List Part)(j:Nat)(out:List Piece)(x:Part):St:=
 ⟨(7,aCO out):: [(1,vI M),(2,.s (.d (cU (dB p fs (M+1))))),(3,.s (.ptr 3 0)),(8,dH bm),(9,.s (.ptr 9 0)),(11,vI (dD p)),(12,vI i),(20,.s (.ptr 20 0)),(21,.s (.ptr 21 0)),(51,vI p.aW.levels.length),(52,vI i),(97,gP xs),(98,vI xs.length),(99,vI j)],[(3,some (.cells (lE p fs))),(9,some (.cells (j5 p)))]++aCP out++ [(20,some (.cells [.d (dS x.aO),.d (dI x.top),.d (dI x.bot)])),(21,some (.cells [.d (dI M),.d (dI i),.d (dS x.aO),.d (dI (bI p M i x).iE),.d (dI (bI p M i x).gH),.d (dI 0),.d (dS (bs []))]))]⟩
def JI(p:Proj)(m:Int)(i:Nat)(s0:PS)(xs:List Part)(s:Nat×HM):Prop:=s.1≤xs.length∧lT s.2.l (K8 p m i s0 xs s.1).1∧s.2.clock=(K8 p m i s0 xs s.1).1.length∧s.2.it=none∧C0 (K8 p m i s0 xs s.1) (i*2412+s.1*201)
def JC(p:Proj)(fs:List Fact)(M:Nat)(E:List lS)(s:Nat×HM):Prop:=s.1≤p.aW.levels.length∧lT s.2.l (DA p fs M E s.1).1∧s.2.clock=(DA p fs M E s.1).1.length∧s.2.it=none∧C0 (DA p fs M E s.1) (s.1*2412)
def aMB:Code→Nat→Code
 |.seq x _,0=>x
 |.seq _ y,1=>y
 |.block _ c,2=>c
 |.loop c,2=>c
 |c,_=>c
def nav(c:Option Code)(l:List Nat):Code:=l.foldl aMB (c.getD .skip)
theorem wM{p:Proj}{fs:List Fact}{M bm i j:Nat}{xs:List Part}{o zs:List Piece}{cx:Cx}{H:Hid}{X:St→Hid→Prop}{K:Exit→St→Hid→Prop}(aA:cx.ref=[])(hz:0<zs.length)(hzl:zs.length≤201)(GP:o.length≤1000000)(hj:j<12)
  (hX:∀σ',HSub cx f62.ntmps σ' H (wX p fs M bm i xs (j+1) (o++zs)) H→X σ' H):
  bN prog cx f62.ntmps (nav f62.body [1,1,1,1,1,0,1,2,2,1,1,0,2,1,1,1,1,1,1,2,2,1,1,0,2,1,1,1,1,1]) (A9 p fs M bm i xs j o zs) H (zK 3 (qT (fun s H=>bN prog cx f62.ntmps (nav f62.body [1,1,1,1,1,0,1,2,2,1,1,0,2,1,1,1,1,1,1,2,2,1,1,1]) s H (qT X K)) (qT X K))):=by
 have ej:aV ((j:Int)+1)=((j+1:Nat):Int):=aG oM oM
 cases o with
 |nil=>
  show bN prog cx _ _ ⟨[(7,.s (.d eK)),(1,vI M),(2,.s (.d (cU (dB p fs (M+1))))),(3,.s (.ptr 3 0)),(8,dH bm),(9,.s (.ptr 9 0)),(11,vI (dD p)),(12,vI i),(23,gQ zs),(51,vI p.aW.levels.length),(52,vI i),(97,gP xs),(98,vI xs.length),(99,vI j)],[(3,some (.cells (lE p fs))),(9,some (.cells (j5 p)))]⟩ H _
  refine eA aA [3,9] fun _ h'=>?_
  refine ob hz ?_
  refine ob (by show zs.length*72≤_;omega) ?_
  refine eA aA [3,9,148] fun _ h'=>?_
  refine hX _ ?_
  obtain⟨z0,zr,rfl⟩:∃z0 zr,zs=z0::zr:=by cases zs with|nil=>exact absurd hz (Nat.lt_irrefl _)|cons a b=>exact⟨a,b,rfl⟩
  show HSub _ _ _ _ ⟨[(7,.s (.own 100)),(1,vI M),(2,.s (.d (cU (dB p fs (M+1))))),(3,.s (.ptr 3 0)),(8,dH bm),(9,.s (.ptr 9 0)),(11,vI (dD p)),(12,vI i),(51,vI p.aW.levels.length),(52,vI i),(97,gP xs),(98,vI xs.length),(99,vI (j+1:Nat))],[(3,some (.cells (lE p fs))),(9,some (.cells (j5 p))),(100,some (.row 130 (z0::zr).length 7 (dY (z0::zr))))]⟩ _
  exact HSub.of (eS.of [(100,148)] (by rw[aA];rfl) rfl ⟨bQ,bQ,bQ,oO⟩ ⟨qZ,qZ,qZ,qZ,qZ,qZ,qZ,qZ,qZ,qZ,qZ,qZ,⟨rfl,aU.int ej⟩,oO⟩)
 |cons py po=>
  have GP:(py::po).length≤1000000:=GP
  show bN prog cx _ _ ⟨[(7,.s (.own 100)),(1,vI M),(2,.s (.d (cU (dB p fs (M+1))))),(3,.s (.ptr 3 0)),(8,dH bm),(9,.s (.ptr 9 0)),(11,vI (dD p)),(12,vI i),(23,gQ zs),(51,vI p.aW.levels.length),(52,vI i),(97,gP xs),(98,vI xs.length),(99,vI j)],[(3,some (.cells (lE p fs))),(9,some (.cells (j5 p))),(100,some (.row 130 (py::po).length 7 (dY (py::po))))]⟩ H _
  refine eA aA [3,9,100] fun _ h'=>?_
  refine ob (show((py::po).length+zs.length)*72≤_ by omega) ?_
  refine ob (fun a c ha hc=>by match c,hc with|0,_|1,_|2,_|3,_|4,_|5,_|6,_=>rfl) ?_
  refine bN.sub (σ':=⟨[(7,.s (.own 148)),(1,vI M),(2,.s (.d (cU (dB p fs (M+1))))),(3,.s (.ptr 3 0)),(8,dH bm),(9,.s (.ptr 9 0)),(11,vI (dD p)),(12,vI i),(51,vI p.aW.levels.length),(52,vI i),(97,gP xs),(98,vI xs.length),(99,vI j)],[(3,some (.cells (lE p fs))),(9,some (.cells (j5 p))),(148,some (.row 130 ((py::po).length+zs.length) 7 (k7 (py::po).length (dY (py::po)) (dY zs))))]⟩) (HSub.of (eS.of [] (by rw[aA];rfl) rfl ⟨bQ,bQ,bQ,oO⟩ ⟨qZ,qZ,qZ,qZ,qZ,qZ,qZ,qZ,qZ,qZ,qZ,qZ,qZ,oO⟩)) ?_
  refine eA aA [3,9,148] fun _ h'=>?_
  refine hX _ ?_
  show HSub _ _ _ _ ⟨[(7,.s (.own 100)),(1,vI M),(2,.s (.d (cU (dB p fs (M+1))))),(3,.s (.ptr 3 0)),(8,dH bm),(9,.s (.ptr 9 0)),(11,vI (dD p)),(12,vI i),(51,vI p.aW.levels.length),(52,vI i),(97,gP xs),(98,vI xs.length),(99,vI (j+1:Nat))],[(3,some (.cells (lE p fs))),(9,some (.cells (j5 p))),(100,some (.row 130 (py::(po++zs)).length 7 (dY (py::(po++zs)))))]⟩ _
  exact HSub.of (eS.of [(100,148)] (by rw[aA];rfl) rfl ⟨bQ,bQ,⟨rfl,aZ.row (by simp;omega) fun a c ha hc=>aL.of_eq (aHM (a:=py::po) ha)⟩,oO⟩ ⟨qZ,qZ,qZ,qZ,qZ,qZ,qZ,qZ,qZ,qZ,qZ,qZ,⟨rfl,aU.int ej⟩,oO⟩)
theorem G9{pt:Piece}(hv:0≤pt.iE∧pt.iE≤1000000000000000):((cB pt 0 []).lo,(cB pt 0 []).cur)=(0,[]):=by
 obtain⟨q1,q2,_⟩:=EW (pt:=pt) (lo:=0) (n:=0) (l:=[]) rfl (Nat.le_refl _) dC hv (fun _ _ h=>absurd h (Nat.not_lt_zero _))
 rw[List.eq_nil_of_length_eq_zero q2,Nat.le_zero.1 q1]
theorem FD{p:Proj}{m:Int}{i:Nat}{E:List lS}{o:List Piece}{x:Part}(h:fP E x.aO.data.toList 0=none)(hv:0≤(bI p m i x).iE∧(bI p m i x).iE≤1000000000000000):
  nS p m i (E,o) x=(E++ [(x.aO.data.toList,(0,[]),E.length)],o++(cB (bI p m i x) 0 []).out):=by
 have hg:A3 E x.aO.data.toList=(0,[]):=by unfold A3;rw[h]
 unfold nS
 simp only [hg,G9 hv]
 unfold YK
 rw[h]
theorem FC{p:Proj}{m:Int}{i je:Nat}{E:List lS}{o:List Piece}{x:Part}{e:lS}(h:fP E x.aO.data.toList 0=some (je,e)):
  nS p m i (E,o) x=(E.modify je fun e'=>(e'.1,((cB (bI p m i x) e.2.1.1 e.2.1.2).lo,(cB (bI p m i x) e.2.1.1 e.2.1.2).cur),e'.2.2),o++(cB (bI p m i x) e.2.1.1 e.2.1.2).out):=by
 have hg:A3 E x.aO.data.toList=e.2.1:=by unfold A3;rw[h]
 unfold nS
 simp only [hg]
 unfold YK
 rw[h]
theorem TJ{p:Proj}{fs:List Fact}{M i j:Nat}{xs:List Part}{o:List Piece}{E1:List lS}{x:Part}{k:HM}{cx:Cx}{X:St→Hid→Prop}{K:Exit→St→Hid→Prop}(aA:cx.ref=[])(ha:lT k.l E1)(iQ:k.clock=E1.length)(hit:k.it=none)
  (hgE:∀e∈E1,uZ e.2.1) (hv:0<(bI p M i x).iE∧(bI p M i x).iE≤1000000000000000) (GP:o.length≤1000000) (hj:j<12)
  (hX:∀σ2 k2,lT k2.l (nS p M i (E1,o) x).1→k2.clock=(nS p M i (E1,o) x).1.length→k2.it=none→HSub cx f62.ntmps σ2 (hid 259 14 k2) (wX p fs M k2.bm i xs (j+1) (nS p M i (E1,o) x).2) (hid 259 14 k2)→X σ2 (hid 259 14 k2)):
  bN prog cx f62.ntmps (nav f62.body [1,1,1,1,1,0,1,2,2,1,1,0,2,1,1,1,1,1,1,2,2,1,1,0,2,1,1,1]) (aIU p fs M k.bm i xs j o x) (hid 259 14 k) (zK 3 (qT (fun s H=>bN prog cx f62.ntmps (nav f62.body [1,1,1,1,1,0,1,2,2,1,1,0,2,1,1,1,1,1,1,2,2,1,1,1]) s H (qT X K)) (qT X K))):=by
 have GO:bs x.aO.data.toList=x.aO:=rfl
 have AX:0≤(bI p M i x).iE∧(bI p M i x).iE≤1000000000000000:=⟨oM,hv.2⟩
 cases o with
 |nil=>
  show bN prog cx _ _ ⟨[(7,.s (.d eK)),(1,vI M),(2,.s (.d (cU (dB p fs (M+1))))),(3,.s (.ptr 3 0)),(8,dH k.bm),(9,.s (.ptr 9 0)),(11,vI (dD p)),(12,vI i),(20,.s (.ptr 20 0)),(21,.s (.ptr 21 0)),(51,vI p.aW.levels.length),(52,vI i),(97,gP xs),(98,vI xs.length),(99,vI j)],[(3,some (.cells (lE p fs))),(9,some (.cells (j5 p))),(20,some (.cells [.d (dS x.aO),.d (dI x.top),.d (dI x.bot)])),(21,some (.cells [.d (dI M),.d (dI i),.d (dS x.aO),.d (dI (bI p M i x).iE),.d (dI (bI p M i x).gH),.d (dI 0),.d (dS (bs []))]))]⟩ (hid 259 14 k) _
  refine bN.seq (bN.region (bH.some (rc:=[]) aJ 4 aA [3,9,20,21] rfl rfl ?_))
  refine bH.op rfl ?_
  refine nE.look (k:=x.aO) (h:=k) rfl rfl dC rfl rfl rfl underlying200 underlying9 zeroValue211 ?_
  cases yJ:fP E1 x.aO.data.toList 0 with
  |none=>
   have sN:=zB ha yJ
   rw[GO]at sN
   rw[sN]
   obtain⟨s1,s2,s3,s4⟩:=NK ha iQ sN
   have hS:=FD (p:=p) (m:=M) (i:=i) (o:=[]) yJ AX
   refine bH.some (rc:=[]) aJ 6 aA [3,9,20,21] rfl rfl ?_
   refine aB (EY (bI p M i x) AX) ?_
   refine bH.nil ?_
   refine bN.seq (bN.region (bH.some (rc:=[]) aJ 4 aA [3,9,20,21] rfl rfl ?_))
   refine bH.op rfl ?_
   refine nE.KQ (k:=x.aO) (h:=k) rfl rfl rfl rfl rfl underlying200 underlying9 (fun _=>hit) ?_
   refine bH.nil ?_
   refine bN.sub (σ':=A9 p fs M k.bm i xs j ([]) (cB (bI p M i x) 0 []).out) (by show HSub _ _ _ _ ⟨[(7,.s (.d eK)),(1,vI M),(2,.s (.d (cU (dB p fs (M+1))))),(3,.s (.ptr 3 0)),(8,dH k.bm),(9,.s (.ptr 9 0)),(11,vI (dD p)),(12,vI i),(23,gQ (cB (bI p M i x) 0 []).out),(51,vI p.aW.levels.length),(52,vI i),(97,gP xs),(98,vI xs.length),(99,vI j)],[(3,some (.cells (lE p fs))),(9,some (.cells (j5 p)))]⟩ _;exact HSub.of (eS.of [] (by rw[aA];rfl) rfl ⟨bQ,bQ,oO⟩ ⟨qZ,qZ,qZ,qZ,qZ,qZ,qZ,qZ,qZ,qZ,qZ,qZ,qZ,qZ,oO⟩)) ?_
   exact wM aA (pI hv.1) (Nat.le_trans (qB _ _ _) dC) GP hj (fun σ2 h2=>hX σ2 _ (by rw[hS];exact s1) (by rw[hS];rw[List.length_append];exact s3) (s4.trans hit) (by rw[hS];exact Eq.mpr (congrArg (fun b=>HSub cx _ σ2 _ (wX p fs M b i xs (j+1) _) _) s2) h2))
  |some pr=>
   obtain⟨je,e⟩:=pr
   obtain⟨q,sN,hq⟩:=zA ha yJ
   rw[GO]at sN
   have sN:cY k.l x.aO 0=some (je,q):=sN
   rw[sN]
   have hS:=FC (p:=p) (m:=M) (i:=i) (o:=[]) yJ
   have nY:=hgE e (List.mem_of_getElem? (L4 yJ).2.1)
   rcases hq.row with⟨gI,r,V8,hr⟩|⟨V8,hqv,hqe⟩
   ·show match q.row with|some r=>_|none=>_
    rw[V8]
    obtain⟨ek,⟨elo,el⟩,eb⟩:=e
    obtain⟨g0,n0,aK3,BY,F⟩:=r
    obtain rfl:BY=elo:=hr.lo
    obtain rfl:n0=el.length:=hr.n
    have hF:∀a c,a<el.length→c<14→aL (F a c) (jM el a c):=hr.f
    have x7:0<el.length:=List.length_pos_iff.2 gI
    have hgl:BY≤el.length:=nY.le
    have hgf:el.length≤200:=nY.few
    obtain⟨q1,q2,_⟩:=EW (pt:=bI p M i x) (lo:=BY) (n:=el.length) (l:=el) rfl hgl oM AX nY.left
    have hdn:=pI (lo:=BY) (l:=el) hv.1
    have hdf:=qB (bI p M i x) BY el
    cases BY with
    |zero=>
     refine bH.sub (σ':=⟨[(7,.s (.d eK)),(1,vI M),(2,.s (.d (cU (dB p fs (M+1))))),(3,.s (.ptr 3 0)),(8,dH k.bm),(9,.s (.ptr 9 0)),(11,vI (dD p)),(12,vI i),(20,.s (.ptr 20 0)),(21,.s (.ptr 21 0)),(134,.g [.d (dI M),.d (dI i),.d (dS x.aO),.d (dI (bI p M i x).iE),.d (dI (bI p M i x).gH),.d (dI 0),.d (dS (bs []))]),(138,.s (.own 138)),(51,vI p.aW.levels.length),(52,vI i),(97,gP xs),(98,vI xs.length),(99,vI j)],[(3,some (.cells (lE p fs))),(9,some (.cells (j5 p))),(20,some (.cells [.d (dS x.aO),.d (dI x.top),.d (dI x.bot)])),(21,some (.cells [.d (dI M),.d (dI i),.d (dS x.aO),.d (dI (bI p M i x).iE),.d (dI (bI p M i x).gH),.d (dI 0),.d (dS (bs []))])),(138,some (.row 259 el.length 14 (jM el)))]⟩) (H':=hid 259 14 {k with l:=cP k.l je}) (HSub.of (eS.of [] (by rw[aA];rfl) rfl ⟨bQ,bQ,bQ,bQ,⟨rfl,aZ.row rfl hF⟩,oO⟩ ⟨qZ,qZ,qZ,qZ,qZ,qZ,qZ,qZ,qZ,qZ,qZ,qZ,qZ,qZ,qZ,qZ,qZ,oO⟩)) ?_
     refine bH.some (rc:=[123]) aJ 6 aA [3,9,20,21,138] rfl rfl ?_
     refine⟨[(1001,138)],_,_,_,_,UB (bI p M i x) el el.length rfl oM AX (fun a ha=>nY.left a (Nat.zero_le _) ha),rfl,⟨rfl,oO⟩,rfl,?_⟩
     refine bH.nil ?_
     refine bN.seq (bN.region (bH.some (rc:=[]) aJ 4 aA [3,9,20,21,138] rfl rfl ?_))
     refine bH.op rfl ?_
     refine nE.X8 (b:=138) (k:=x.aO) (n:=el.length) (n':=el.length - (cB (bI p M i x) (0) el).lo) (lo:=(cB (bI p M i x) (0) el).lo) aA rfl rfl rfl rfl (.inr rfl) rfl x7 underlying200 underlying9 (fun _=>hit) (fun gg cap v=>?_)
     refine bH.nil ?_
     have oP:XI ⟨gg,(cB (bI p M i x) (0) el).lo+(el.length - (cB (bI p M i x) (0) el).lo),cap,(cB (bI p M i x) (0) el).lo,jM (cB (bI p M i x) (0) el).cur⟩ ((cB (bI p M i x) (0) el).lo,(cB (bI p M i x) (0) el).cur):=⟨rfl,by show _+_=(cB (bI p M i x) (0) el).cur.length;omega,by show _≤(cB (bI p M i x) (0) el).cur.length;omega,fun a c _ _=>aL.refl _⟩
     obtain⟨s1,s2,s3,s4⟩:=tK (v:=v) ha sN oP (by intro e0;have e0:(cB (bI p M i x) (0) el).cur=[]:=e0;rw[e0]at q2;have q2:0=el.length:=q2;omega)
     refine bN.sub (σ':=A9 p fs M k.bm i xs j ([]) (cB (bI p M i x) (0) el).out) (by show HSub _ _ _ _ ⟨[(7,.s (.d eK)),(1,vI M),(2,.s (.d (cU (dB p fs (M+1))))),(3,.s (.ptr 3 0)),(8,dH k.bm),(9,.s (.ptr 9 0)),(11,vI (dD p)),(12,vI i),(23,gQ (cB (bI p M i x) (0) el).out),(51,vI p.aW.levels.length),(52,vI i),(97,gP xs),(98,vI xs.length),(99,vI j)],[(3,some (.cells (lE p fs))),(9,some (.cells (j5 p)))]⟩ _;exact HSub.of (eS.of [] (by rw[aA];rfl) rfl ⟨bQ,bQ,oO⟩ ⟨qZ,qZ,qZ,qZ,qZ,qZ,qZ,qZ,qZ,qZ,qZ,qZ,qZ,qZ,oO⟩)) ?_
     exact wM aA hdn oM GP hj (fun σ2 h2=>hX σ2 _ (by rw[hS];exact s1) (by rw[hS];rw[List.length_modify];exact s3.trans iQ) (s4.trans hit) (by rw[hS];exact Eq.mpr (congrArg (fun b=>HSub cx _ σ2 _ (wX p fs M b i xs (j+1) _) _) s2) h2))
    |succ x5=>
     refine bH.sub (σ':=⟨[(7,.s (.d eK)),(1,vI M),(2,.s (.d (cU (dB p fs (M+1))))),(3,.s (.ptr 3 0)),(8,dH k.bm),(9,.s (.ptr 9 0)),(11,vI (dD p)),(12,vI i),(20,.s (.ptr 20 0)),(21,.s (.ptr 21 0)),(134,.g [.d (dI M),.d (dI i),.d (dS x.aO),.d (dI (bI p M i x).iE),.d (dI (bI p M i x).gH),.d (dI 0),.d (dS (bs []))]),(138,.s (.jH 138 14 (x5+1) (el.length - (x5+1)))),(51,vI p.aW.levels.length),(52,vI i),(97,gP xs),(98,vI xs.length),(99,vI j)],[(3,some (.cells (lE p fs))),(9,some (.cells (j5 p))),(20,some (.cells [.d (dS x.aO),.d (dI x.top),.d (dI x.bot)])),(21,some (.cells [.d (dI M),.d (dI i),.d (dS x.aO),.d (dI (bI p M i x).iE),.d (dI (bI p M i x).gH),.d (dI 0),.d (dS (bs []))])),(138,some (.row 259 el.length 14 (jM el)))]⟩) (H':=hid 259 14 {k with l:=cP k.l je}) (HSub.of (eS.of [] (by rw[aA];rfl) rfl ⟨bQ,bQ,bQ,bQ,⟨rfl,aZ.row rfl hF⟩,oO⟩ ⟨qZ,qZ,qZ,qZ,qZ,qZ,qZ,qZ,qZ,qZ,qZ,qZ,qZ,qZ,qZ,qZ,qZ,oO⟩)) ?_
     refine bH.some (rc:=[123]) aJ 6 aA [3,9,20,21,138] rfl rfl ?_
     refine⟨[(1001,138)],_,_,_,_,aAW (bI p M i x) el (x5+1) el.length rfl hgl oM AX nY.left,rfl,⟨rfl,oO⟩,rfl,?_⟩
     refine bH.nil ?_
     refine bN.seq (bN.region (bH.some (rc:=[]) aJ 4 aA [3,9,20,21,138] rfl rfl ?_))
     refine bH.op rfl ?_
     refine nE.X8 (b:=138) (k:=x.aO) (n:=el.length) (n':=el.length - (cB (bI p M i x) (x5+1) el).lo) (lo:=(cB (bI p M i x) (x5+1) el).lo) aA rfl rfl rfl rfl (.inr rfl) rfl x7 underlying200 underlying9 (fun _=>hit) (fun gg cap v=>?_)
     refine bH.nil ?_
     have oP:XI ⟨gg,(cB (bI p M i x) (x5+1) el).lo+(el.length - (cB (bI p M i x) (x5+1) el).lo),cap,(cB (bI p M i x) (x5+1) el).lo,jM (cB (bI p M i x) (x5+1) el).cur⟩ ((cB (bI p M i x) (x5+1) el).lo,(cB (bI p M i x) (x5+1) el).cur):=⟨rfl,by show _+_=(cB (bI p M i x) (x5+1) el).cur.length;omega,by show _≤(cB (bI p M i x) (x5+1) el).cur.length;omega,fun a c _ _=>aL.refl _⟩
     obtain⟨s1,s2,s3,s4⟩:=tK (v:=v) ha sN oP (by intro e0;have e0:(cB (bI p M i x) (x5+1) el).cur=[]:=e0;rw[e0]at q2;have q2:0=el.length:=q2;omega)
     refine bN.sub (σ':=A9 p fs M k.bm i xs j ([]) (cB (bI p M i x) (x5+1) el).out) (by show HSub _ _ _ _ ⟨[(7,.s (.d eK)),(1,vI M),(2,.s (.d (cU (dB p fs (M+1))))),(3,.s (.ptr 3 0)),(8,dH k.bm),(9,.s (.ptr 9 0)),(11,vI (dD p)),(12,vI i),(23,gQ (cB (bI p M i x) (x5+1) el).out),(51,vI p.aW.levels.length),(52,vI i),(97,gP xs),(98,vI xs.length),(99,vI j)],[(3,some (.cells (lE p fs))),(9,some (.cells (j5 p)))]⟩ _;exact HSub.of (eS.of [] (by rw[aA];rfl) rfl ⟨bQ,bQ,oO⟩ ⟨qZ,qZ,qZ,qZ,qZ,qZ,qZ,qZ,qZ,qZ,qZ,qZ,qZ,qZ,oO⟩)) ?_
     exact wM aA hdn oM GP hj (fun σ2 h2=>hX σ2 _ (by rw[hS];exact s1) (by rw[hS];rw[List.length_modify];exact s3.trans iQ) (s4.trans hit) (by rw[hS];exact Eq.mpr (congrArg (fun b=>HSub cx _ σ2 _ (wX p fs M b i xs (j+1) _) _) s2) h2))
   ·show match q.row with|some r=>_|none=>_
    rw[V8]
    refine⟨hqv,?_⟩
    obtain⟨ek,ex2,eb⟩:=e
    obtain rfl:ex2=(0,[]):=hqe
    obtain⟨s1,s2,s3,s4⟩:=NJ ha sN
    rw[G9 AX]at hS
    refine bH.some (rc:=[]) aJ 6 aA [3,9,20,21] rfl rfl ?_
    refine aB (EY (bI p M i x) AX) ?_
    refine bH.nil ?_
    refine bN.seq (bN.region (bH.some (rc:=[]) aJ 4 aA [3,9,20,21] rfl rfl ?_))
    refine bH.op rfl ?_
    refine nE.KQ (k:=x.aO) (h:=k) rfl rfl rfl rfl rfl underlying200 underlying9 (fun _=>hit) ?_
    refine bH.nil ?_
    refine bN.sub (σ':=A9 p fs M k.bm i xs j ([]) (cB (bI p M i x) 0 []).out) (by show HSub _ _ _ _ ⟨[(7,.s (.d eK)),(1,vI M),(2,.s (.d (cU (dB p fs (M+1))))),(3,.s (.ptr 3 0)),(8,dH k.bm),(9,.s (.ptr 9 0)),(11,vI (dD p)),(12,vI i),(23,gQ (cB (bI p M i x) 0 []).out),(51,vI p.aW.levels.length),(52,vI i),(97,gP xs),(98,vI xs.length),(99,vI j)],[(3,some (.cells (lE p fs))),(9,some (.cells (j5 p)))]⟩ _;exact HSub.of (eS.of [] (by rw[aA];rfl) rfl ⟨bQ,bQ,oO⟩ ⟨qZ,qZ,qZ,qZ,qZ,qZ,qZ,qZ,qZ,qZ,qZ,qZ,qZ,qZ,oO⟩)) ?_
    exact wM aA (pI hv.1) (Nat.le_trans (qB _ _ _) dC) GP hj (fun σ2 h2=>hX σ2 _ (by rw[hS];exact s1) (by rw[hS];rw[List.length_modify];exact s3.trans iQ) (s4.trans hit) (by rw[hS];exact Eq.mpr (congrArg (fun b=>HSub cx _ σ2 _ (wX p fs M b i xs (j+1) _) _) s2) h2))
 |cons py po=>
  show bN prog cx _ _ ⟨[(7,.s (.own 100)),(1,vI M),(2,.s (.d (cU (dB p fs (M+1))))),(3,.s (.ptr 3 0)),(8,dH k.bm),(9,.s (.ptr 9 0)),(11,vI (dD p)),(12,vI i),(20,.s (.ptr 20 0)),(21,.s (.ptr 21 0)),(51,vI p.aW.levels.length),(52,vI i),(97,gP xs),(98,vI xs.length),(99,vI j)],[(3,some (.cells (lE p fs))),(9,some (.cells (j5 p))),(100,some (.row 130 (py::po).length 7 (dY (py::po)))),(20,some (.cells [.d (dS x.aO),.d (dI x.top),.d (dI x.bot)])),(21,some (.cells [.d (dI M),.d (dI i),.d (dS x.aO),.d (dI (bI p M i x).iE),.d (dI (bI p M i x).gH),.d (dI 0),.d (dS (bs []))]))]⟩ (hid 259 14 k) _
  refine bN.seq (bN.region (bH.some (rc:=[]) aJ 4 aA [3,9,100,20,21] rfl rfl ?_))
  refine bH.op rfl ?_
  refine nE.look (k:=x.aO) (h:=k) rfl rfl dC rfl rfl rfl underlying200 underlying9 zeroValue211 ?_
  cases yJ:fP E1 x.aO.data.toList 0 with
  |none=>
   have sN:=zB ha yJ
   rw[GO]at sN
   rw[sN]
   obtain⟨s1,s2,s3,s4⟩:=NK ha iQ sN
   have hS:=FD (p:=p) (m:=M) (i:=i) (o:=py::po) yJ AX
   refine bH.some (rc:=[]) aJ 6 aA [3,9,100,20,21] rfl rfl ?_
   refine aB (EY (bI p M i x) AX) ?_
   refine bH.nil ?_
   refine bN.seq (bN.region (bH.some (rc:=[]) aJ 4 aA [3,9,100,20,21] rfl rfl ?_))
   refine bH.op rfl ?_
   refine nE.KQ (k:=x.aO) (h:=k) rfl rfl rfl rfl rfl underlying200 underlying9 (fun _=>hit) ?_
   refine bH.nil ?_
   refine bN.sub (σ':=A9 p fs M k.bm i xs j (py::po) (cB (bI p M i x) 0 []).out) (by show HSub _ _ _ _ ⟨[(7,.s (.own 100)),(1,vI M),(2,.s (.d (cU (dB p fs (M+1))))),(3,.s (.ptr 3 0)),(8,dH k.bm),(9,.s (.ptr 9 0)),(11,vI (dD p)),(12,vI i),(23,gQ (cB (bI p M i x) 0 []).out),(51,vI p.aW.levels.length),(52,vI i),(97,gP xs),(98,vI xs.length),(99,vI j)],[(3,some (.cells (lE p fs))),(9,some (.cells (j5 p))),(100,some (.row 130 (py::po).length 7 (dY (py::po))))]⟩ _;exact HSub.of (eS.of [] (by rw[aA];rfl) rfl ⟨bQ,bQ,bQ,oO⟩ ⟨qZ,qZ,qZ,qZ,qZ,qZ,qZ,qZ,qZ,qZ,qZ,qZ,qZ,qZ,oO⟩)) ?_
   exact wM aA (pI hv.1) (Nat.le_trans (qB _ _ _) dC) GP hj (fun σ2 h2=>hX σ2 _ (by rw[hS];exact s1) (by rw[hS];rw[List.length_append];exact s3) (s4.trans hit) (by rw[hS];exact Eq.mpr (congrArg (fun b=>HSub cx _ σ2 _ (wX p fs M b i xs (j+1) _) _) s2) h2))
  |some pr=>
   obtain⟨je,e⟩:=pr
   obtain⟨q,sN,hq⟩:=zA ha yJ
   rw[GO]at sN
   have sN:cY k.l x.aO 0=some (je,q):=sN
   rw[sN]
   have hS:=FC (p:=p) (m:=M) (i:=i) (o:=py::po) yJ
   have nY:=hgE e (List.mem_of_getElem? (L4 yJ).2.1)
   rcases hq.row with⟨gI,r,V8,hr⟩|⟨V8,hqv,hqe⟩
   ·show match q.row with|some r=>_|none=>_
    rw[V8]
    obtain⟨ek,⟨elo,el⟩,eb⟩:=e
    obtain⟨g0,n0,aK3,BY,F⟩:=r
    obtain rfl:BY=elo:=hr.lo
    obtain rfl:n0=el.length:=hr.n
    have hF:∀a c,a<el.length→c<14→aL (F a c) (jM el a c):=hr.f
    have x7:0<el.length:=List.length_pos_iff.2 gI
    have hgl:BY≤el.length:=nY.le
    have hgf:el.length≤200:=nY.few
    obtain⟨q1,q2,_⟩:=EW (pt:=bI p M i x) (lo:=BY) (n:=el.length) (l:=el) rfl hgl oM AX nY.left
    have hdn:=pI (lo:=BY) (l:=el) hv.1
    have hdf:=qB (bI p M i x) BY el
    cases BY with
    |zero=>
     refine bH.sub (σ':=⟨[(7,.s (.own 100)),(1,vI M),(2,.s (.d (cU (dB p fs (M+1))))),(3,.s (.ptr 3 0)),(8,dH k.bm),(9,.s (.ptr 9 0)),(11,vI (dD p)),(12,vI i),(20,.s (.ptr 20 0)),(21,.s (.ptr 21 0)),(134,.g [.d (dI M),.d (dI i),.d (dS x.aO),.d (dI (bI p M i x).iE),.d (dI (bI p M i x).gH),.d (dI 0),.d (dS (bs []))]),(138,.s (.own 138)),(51,vI p.aW.levels.length),(52,vI i),(97,gP xs),(98,vI xs.length),(99,vI j)],[(3,some (.cells (lE p fs))),(9,some (.cells (j5 p))),(100,some (.row 130 (py::po).length 7 (dY (py::po)))),(20,some (.cells [.d (dS x.aO),.d (dI x.top),.d (dI x.bot)])),(21,some (.cells [.d (dI M),.d (dI i),.d (dS x.aO),.d (dI (bI p M i x).iE),.d (dI (bI p M i x).gH),.d (dI 0),.d (dS (bs []))])),(138,some (.row 259 el.length 14 (jM el)))]⟩) (H':=hid 259 14 {k with l:=cP k.l je}) (HSub.of (eS.of [] (by rw[aA];rfl) rfl ⟨bQ,bQ,bQ,bQ,bQ,⟨rfl,aZ.row rfl hF⟩,oO⟩ ⟨qZ,qZ,qZ,qZ,qZ,qZ,qZ,qZ,qZ,qZ,qZ,qZ,qZ,qZ,qZ,qZ,qZ,oO⟩)) ?_
     refine bH.some (rc:=[123]) aJ 6 aA [3,9,100,20,21,138] rfl rfl ?_
     refine⟨[(1001,138)],_,_,_,_,UB (bI p M i x) el el.length rfl oM AX (fun a ha=>nY.left a (Nat.zero_le _) ha),rfl,⟨rfl,oO⟩,rfl,?_⟩
     refine bH.nil ?_
     refine bN.seq (bN.region (bH.some (rc:=[]) aJ 4 aA [3,9,100,20,21,138] rfl rfl ?_))
     refine bH.op rfl ?_
     refine nE.X8 (b:=138) (k:=x.aO) (n:=el.length) (n':=el.length - (cB (bI p M i x) (0) el).lo) (lo:=(cB (bI p M i x) (0) el).lo) aA rfl rfl rfl rfl (.inr rfl) rfl x7 underlying200 underlying9 (fun _=>hit) (fun gg cap v=>?_)
     refine bH.nil ?_
     have oP:XI ⟨gg,(cB (bI p M i x) (0) el).lo+(el.length - (cB (bI p M i x) (0) el).lo),cap,(cB (bI p M i x) (0) el).lo,jM (cB (bI p M i x) (0) el).cur⟩ ((cB (bI p M i x) (0) el).lo,(cB (bI p M i x) (0) el).cur):=⟨rfl,by show _+_=(cB (bI p M i x) (0) el).cur.length;omega,by show _≤(cB (bI p M i x) (0) el).cur.length;omega,fun a c _ _=>aL.refl _⟩
     obtain⟨s1,s2,s3,s4⟩:=tK (v:=v) ha sN oP (by intro e0;have e0:(cB (bI p M i x) (0) el).cur=[]:=e0;rw[e0]at q2;have q2:0=el.length:=q2;omega)
     refine bN.sub (σ':=A9 p fs M k.bm i xs j (py::po) (cB (bI p M i x) (0) el).out) (by show HSub _ _ _ _ ⟨[(7,.s (.own 100)),(1,vI M),(2,.s (.d (cU (dB p fs (M+1))))),(3,.s (.ptr 3 0)),(8,dH k.bm),(9,.s (.ptr 9 0)),(11,vI (dD p)),(12,vI i),(23,gQ (cB (bI p M i x) (0) el).out),(51,vI p.aW.levels.length),(52,vI i),(97,gP xs),(98,vI xs.length),(99,vI j)],[(3,some (.cells (lE p fs))),(9,some (.cells (j5 p))),(100,some (.row 130 (py::po).length 7 (dY (py::po))))]⟩ _;exact HSub.of (eS.of [] (by rw[aA];rfl) rfl ⟨bQ,bQ,bQ,oO⟩ ⟨qZ,qZ,qZ,qZ,qZ,qZ,qZ,qZ,qZ,qZ,qZ,qZ,qZ,qZ,oO⟩)) ?_
     exact wM aA hdn oM GP hj (fun σ2 h2=>hX σ2 _ (by rw[hS];exact s1) (by rw[hS];rw[List.length_modify];exact s3.trans iQ) (s4.trans hit) (by rw[hS];exact Eq.mpr (congrArg (fun b=>HSub cx _ σ2 _ (wX p fs M b i xs (j+1) _) _) s2) h2))
    |succ x5=>
     refine bH.sub (σ':=⟨[(7,.s (.own 100)),(1,vI M),(2,.s (.d (cU (dB p fs (M+1))))),(3,.s (.ptr 3 0)),(8,dH k.bm),(9,.s (.ptr 9 0)),(11,vI (dD p)),(12,vI i),(20,.s (.ptr 20 0)),(21,.s (.ptr 21 0)),(134,.g [.d (dI M),.d (dI i),.d (dS x.aO),.d (dI (bI p M i x).iE),.d (dI (bI p M i x).gH),.d (dI 0),.d (dS (bs []))]),(138,.s (.jH 138 14 (x5+1) (el.length - (x5+1)))),(51,vI p.aW.levels.length),(52,vI i),(97,gP xs),(98,vI xs.length),(99,vI j)],[(3,some (.cells (lE p fs))),(9,some (.cells (j5 p))),(100,some (.row 130 (py::po).length 7 (dY (py::po)))),(20,some (.cells [.d (dS x.aO),.d (dI x.top),.d (dI x.bot)])),(21,some (.cells [.d (dI M),.d (dI i),.d (dS x.aO),.d (dI (bI p M i x).iE),.d (dI (bI p M i x).gH),.d (dI 0),.d (dS (bs []))])),(138,some (.row 259 el.length 14 (jM el)))]⟩) (H':=hid 259 14 {k with l:=cP k.l je}) (HSub.of (eS.of [] (by rw[aA];rfl) rfl ⟨bQ,bQ,bQ,bQ,bQ,⟨rfl,aZ.row rfl hF⟩,oO⟩ ⟨qZ,qZ,qZ,qZ,qZ,qZ,qZ,qZ,qZ,qZ,qZ,qZ,qZ,qZ,qZ,qZ,qZ,oO⟩)) ?_
     refine bH.some (rc:=[123]) aJ 6 aA [3,9,100,20,21,138] rfl rfl ?_
     refine⟨[(1001,138)],_,_,_,_,aAW (bI p M i x) el (x5+1) el.length rfl hgl oM AX nY.left,rfl,⟨rfl,oO⟩,rfl,?_⟩
     refine bH.nil ?_
     refine bN.seq (bN.region (bH.some (rc:=[]) aJ 4 aA [3,9,100,20,21,138] rfl rfl ?_))
     refine bH.op rfl ?_
     refine nE.X8 (b:=138) (k:=x.aO) (n:=el.length) (n':=el.length - (cB (bI p M i x) (x5+1) el).lo) (lo:=(cB (bI p M i x) (x5+1) el).lo) aA rfl rfl rfl rfl (.inr rfl) rfl x7 underlying200 underlying9 (fun _=>hit) (fun gg cap v=>?_)
     refine bH.nil ?_
     have oP:XI ⟨gg,(cB (bI p M i x) (x5+1) el).lo+(el.length - (cB (bI p M i x) (x5+1) el).lo),cap,(cB (bI p M i x) (x5+1) el).lo,jM (cB (bI p M i x) (x5+1) el).cur⟩ ((cB (bI p M i x) (x5+1) el).lo,(cB (bI p M i x) (x5+1) el).cur):=⟨rfl,by show _+_=(cB (bI p M i x) (x5+1) el).cur.length;omega,by show _≤(cB (bI p M i x) (x5+1) el).cur.length;omega,fun a c _ _=>aL.refl _⟩
     obtain⟨s1,s2,s3,s4⟩:=tK (v:=v) ha sN oP (by intro e0;have e0:(cB (bI p M i x) (x5+1) el).cur=[]:=e0;rw[e0]at q2;have q2:0=el.length:=q2;omega)
     refine bN.sub (σ':=A9 p fs M k.bm i xs j (py::po) (cB (bI p M i x) (x5+1) el).out) (by show HSub _ _ _ _ ⟨[(7,.s (.own 100)),(1,vI M),(2,.s (.d (cU (dB p fs (M+1))))),(3,.s (.ptr 3 0)),(8,dH k.bm),(9,.s (.ptr 9 0)),(11,vI (dD p)),(12,vI i),(23,gQ (cB (bI p M i x) (x5+1) el).out),(51,vI p.aW.levels.length),(52,vI i),(97,gP xs),(98,vI xs.length),(99,vI j)],[(3,some (.cells (lE p fs))),(9,some (.cells (j5 p))),(100,some (.row 130 (py::po).length 7 (dY (py::po))))]⟩ _;exact HSub.of (eS.of [] (by rw[aA];rfl) rfl ⟨bQ,bQ,bQ,oO⟩ ⟨qZ,qZ,qZ,qZ,qZ,qZ,qZ,qZ,qZ,qZ,qZ,qZ,qZ,qZ,oO⟩)) ?_
     exact wM aA hdn oM GP hj (fun σ2 h2=>hX σ2 _ (by rw[hS];exact s1) (by rw[hS];rw[List.length_modify];exact s3.trans iQ) (s4.trans hit) (by rw[hS];exact Eq.mpr (congrArg (fun b=>HSub cx _ σ2 _ (wX p fs M b i xs (j+1) _) _) s2) h2))
   ·show match q.row with|some r=>_|none=>_
    rw[V8]
    refine⟨hqv,?_⟩
    obtain⟨ek,ex2,eb⟩:=e
    obtain rfl:ex2=(0,[]):=hqe
    obtain⟨s1,s2,s3,s4⟩:=NJ ha sN
    rw[G9 AX]at hS
    refine bH.some (rc:=[]) aJ 6 aA [3,9,100,20,21] rfl rfl ?_
    refine aB (EY (bI p M i x) AX) ?_
    refine bH.nil ?_
    refine bN.seq (bN.region (bH.some (rc:=[]) aJ 4 aA [3,9,100,20,21] rfl rfl ?_))
    refine bH.op rfl ?_
    refine nE.KQ (k:=x.aO) (h:=k) rfl rfl rfl rfl rfl underlying200 underlying9 (fun _=>hit) ?_
    refine bH.nil ?_
    refine bN.sub (σ':=A9 p fs M k.bm i xs j (py::po) (cB (bI p M i x) 0 []).out) (by show HSub _ _ _ _ ⟨[(7,.s (.own 100)),(1,vI M),(2,.s (.d (cU (dB p fs (M+1))))),(3,.s (.ptr 3 0)),(8,dH k.bm),(9,.s (.ptr 9 0)),(11,vI (dD p)),(12,vI i),(23,gQ (cB (bI p M i x) 0 []).out),(51,vI p.aW.levels.length),(52,vI i),(97,gP xs),(98,vI xs.length),(99,vI j)],[(3,some (.cells (lE p fs))),(9,some (.cells (j5 p))),(100,some (.row 130 (py::po).length 7 (dY (py::po))))]⟩ _;exact HSub.of (eS.of [] (by rw[aA];rfl) rfl ⟨bQ,bQ,bQ,oO⟩ ⟨qZ,qZ,qZ,qZ,qZ,qZ,qZ,qZ,qZ,qZ,qZ,qZ,qZ,qZ,oO⟩)) ?_
    exact wM aA (pI hv.1) (Nat.le_trans (qB _ _ _) dC) GP hj (fun σ2 h2=>hX σ2 _ (by rw[hS];exact s1) (by rw[hS];rw[List.length_modify];exact s3.trans iQ) (s4.trans hit) (by rw[hS];exact Eq.mpr (congrArg (fun b=>HSub cx _ σ2 _ (wX p fs M b i xs (j+1) _) _) s2) h2))
theorem aCM{p:Proj}{fs:List Fact}{M i j:Nat}{xs:List Part}{o:List Piece}{E1:List lS}{k:HM}{cx:Cx}{X:St→Hid→Prop}{K:Exit→St→Hid→Prop}(aA:cx.ref=[])(hv:PV p)(V5:∀x∈xs,zN x)(hxl:xs.length≤12)(hi:i<p.aW.levels.length)(hj:j≤xs.length)
  (ha:lT k.l E1) (iQ:k.clock=E1.length) (hit:k.it=none) (iF:C0 (E1,o) 1000000)
  (hX:j<xs.length→∀σ2 k2,lT k2.l (nS p M i (E1,o) (xs.getD j default)).1→k2.clock=(nS p M i (E1,o) (xs.getD j default)).1.length→k2.it=none→HSub cx f62.ntmps σ2 (hid 259 14 k2) (wX p fs M k2.bm i xs (j+1) (nS p M i (E1,o) (xs.getD j default)).2) (hid 259 14 k2)→X σ2 (hid 259 14 k2))
  (hE:j=xs.length→∀v,K (.exit 2) (oH (wX p fs M k.bm i xs j o) 100 v) (hid 259 14 k)):
  bN prog cx f62.ntmps (nav f62.body [1,1,1,1,1,0,1,2,2,1,1,0,2,1,1,1,1,1,1,2,2]) (wX p fs M k.bm i xs j o) (hid 259 14 k) (qT X K):=by
 have GP:o.length≤1000000:=iF.2
 have jO:=hv.cells
 cases o with
 |nil=>
  show bN prog cx _ _ ⟨[(7,.s (.d eK)),(1,vI M),(2,.s (.d (cU (dB p fs (M+1))))),(3,.s (.ptr 3 0)),(8,dH k.bm),(9,.s (.ptr 9 0)),(11,vI (dD p)),(12,vI i),(51,vI p.aW.levels.length),(52,vI i),(97,gP xs),(98,vI xs.length),(99,vI j)],[(3,some (.cells (lE p fs))),(9,some (.cells (j5 p)))]⟩ (hid 259 14 k) _
  refine sA aA [3,9] fun _ h'=>?_
  refine bN.seq (bN.cond ?_)
  refine aI (fun g=>bN.skip ?_) (fun g=>bN.exit ?_)
  ·have g:(j:Int)<xs.length:=bL g
   have pX:j<xs.length:=oM
   have hxo:=V5 _ (cT pX)
   have hX:=hX pX
   generalize ZZ:xs.getD j default=x at hX hxo
   have hvo:=AJ (m:=M) (i:=i) hv hxo
   have hpt:(bI p M i x).iE=aV (aV (x.top - x.bot)*dD p):=rfl
   refine bN.seq (bN.block ?_)
   refine sA aA [3,9] fun _ h'=>?_
   refine oi (show(0:Int)≤(j:Int)∧(j:Int)<(xs.length:Int) by omega) ?_
   refine sA aA [3,9,20] fun _ h'=>?_
   refine bN.cut (σ':=⟨[(7,.s (.d eK)),(1,vI M),(2,.s (.d (cU (dB p fs (M+1))))),(3,.s (.ptr 3 0)),(8,dH k.bm),(9,.s (.ptr 9 0)),(11,vI (dD p)),(12,vI i),(20,.s (.ptr 20 0)),(21,.s (.ptr 21 0)),(51,vI p.aW.levels.length),(52,vI i),(97,gP xs),(98,vI xs.length),(99,vI j)],[(3,some (.cells (lE p fs))),(9,some (.cells (j5 p))),(20,some (.cells [.d (dS x.aO),.d (dI x.top),.d (dI x.bot)])),(21,some (.cells [.d (dI M),.d (dI i),.d (dS x.aO),.d (dI (bI p M i x).iE),.d (dI (bI p M i x).gH),.d (dI 0),.d (dS (bs []))]))]⟩) (H':=hid 259 14 k) ?_ ?_
   ·refine sA aA [3,9,20,21] fun _ h'=>?_
    refine oi (show(0:Int)≤(i:Int)∧(i:Int)<(((lX p.chan p.aW p.chan.over).levels.length:Nat):Int) by rw[D4];omega) ?_
    refine sA aA [3,9,20,21] fun _ h'=>?_
    refine bN.cond ?_
    refine aI (fun g2=>?_) (fun g2=>bN.skip ?_)
    ·have g2:(N6 p i !=30000)=true:=g2
     have hpd:(bI p M i x).gH=aV (mm true 0 (aV (x.top - mm true x.bot (N6 p i)))*dD p):=by unfold bI;rw[g2];rfl
     refine eA aA [3,9,20,21] fun _ h'=>?_
     exact⟨rfl,HSub.of (eS.of [] (by rw[aA];rfl) rfl ⟨bQ,bQ,⟨rfl,aZ.of_eq (by rw[←ZZ];rfl)⟩,⟨rfl,aZ.of_eq (by rw[hpd,hpt,←ZZ];rfl)⟩,oO⟩ ⟨qZ,qZ,qZ,qZ,qZ,qZ,qZ,qZ,qZ,qZ,qZ,qZ,qZ,qZ,qZ,oO⟩)⟩
    ·have g2:(N6 p i !=30000)=false:=g2
     have hpd:(bI p M i x).gH=0:=by unfold bI;rw[g2];rfl
     exact⟨rfl,HSub.of (eS.of [] (by rw[aA];rfl) rfl ⟨bQ,bQ,⟨rfl,aZ.of_eq (by rw[←ZZ];rfl)⟩,⟨rfl,aZ.of_eq (by rw[hpd,hpt,←ZZ];rfl)⟩,oO⟩ ⟨qZ,qZ,qZ,qZ,qZ,qZ,qZ,qZ,qZ,qZ,qZ,qZ,qZ,qZ,qZ,oO⟩)⟩
   exact TJ aA ha iQ hit iF.1 hvo GP oM hX
  ·have g:¬(j:Int)<xs.length:=bG g
   exact hE oM _
 |cons py po=>
  show bN prog cx _ _ ⟨[(7,.s (.own 100)),(1,vI M),(2,.s (.d (cU (dB p fs (M+1))))),(3,.s (.ptr 3 0)),(8,dH k.bm),(9,.s (.ptr 9 0)),(11,vI (dD p)),(12,vI i),(51,vI p.aW.levels.length),(52,vI i),(97,gP xs),(98,vI xs.length),(99,vI j)],[(3,some (.cells (lE p fs))),(9,some (.cells (j5 p))),(100,some (.row 130 (py::po).length 7 (dY (py::po))))]⟩ (hid 259 14 k) _
  refine sA aA [3,9,100] fun _ h'=>?_
  refine bN.seq (bN.cond ?_)
  refine aI (fun g=>bN.skip ?_) (fun g=>bN.exit ?_)
  ·have g:(j:Int)<xs.length:=bL g
   have pX:j<xs.length:=oM
   have hxo:=V5 _ (cT pX)
   have hX:=hX pX
   generalize ZZ:xs.getD j default=x at hX hxo
   have hvo:=AJ (m:=M) (i:=i) hv hxo
   have hpt:(bI p M i x).iE=aV (aV (x.top - x.bot)*dD p):=rfl
   refine bN.seq (bN.block ?_)
   refine sA aA [3,9,100] fun _ h'=>?_
   refine oi (show(0:Int)≤(j:Int)∧(j:Int)<(xs.length:Int) by omega) ?_
   refine sA aA [3,9,100,20] fun _ h'=>?_
   refine bN.cut (σ':=⟨[(7,.s (.own 100)),(1,vI M),(2,.s (.d (cU (dB p fs (M+1))))),(3,.s (.ptr 3 0)),(8,dH k.bm),(9,.s (.ptr 9 0)),(11,vI (dD p)),(12,vI i),(20,.s (.ptr 20 0)),(21,.s (.ptr 21 0)),(51,vI p.aW.levels.length),(52,vI i),(97,gP xs),(98,vI xs.length),(99,vI j)],[(3,some (.cells (lE p fs))),(9,some (.cells (j5 p))),(100,some (.row 130 (py::po).length 7 (dY (py::po)))),(20,some (.cells [.d (dS x.aO),.d (dI x.top),.d (dI x.bot)])),(21,some (.cells [.d (dI M),.d (dI i),.d (dS x.aO),.d (dI (bI p M i x).iE),.d (dI (bI p M i x).gH),.d (dI 0),.d (dS (bs []))]))]⟩) (H':=hid 259 14 k) ?_ ?_
   ·refine sA aA [3,9,100,20,21] fun _ h'=>?_
    refine oi (show(0:Int)≤(i:Int)∧(i:Int)<(((lX p.chan p.aW p.chan.over).levels.length:Nat):Int) by rw[D4];omega) ?_
    refine sA aA [3,9,100,20,21] fun _ h'=>?_
    refine bN.cond ?_
    refine aI (fun g2=>?_) (fun g2=>bN.skip ?_)
    ·have g2:(N6 p i !=30000)=true:=g2
     have hpd:(bI p M i x).gH=aV (mm true 0 (aV (x.top - mm true x.bot (N6 p i)))*dD p):=by unfold bI;rw[g2];rfl
     refine eA aA [3,9,100,20,21] fun _ h'=>?_
     exact⟨rfl,HSub.of (eS.of [] (by rw[aA];rfl) rfl ⟨bQ,bQ,bQ,⟨rfl,aZ.of_eq (by rw[←ZZ];rfl)⟩,⟨rfl,aZ.of_eq (by rw[hpd,hpt,←ZZ];rfl)⟩,oO⟩ ⟨qZ,qZ,qZ,qZ,qZ,qZ,qZ,qZ,qZ,qZ,qZ,qZ,qZ,qZ,qZ,oO⟩)⟩
    ·have g2:(N6 p i !=30000)=false:=g2
     have hpd:(bI p M i x).gH=0:=by unfold bI;rw[g2];rfl
     exact⟨rfl,HSub.of (eS.of [] (by rw[aA];rfl) rfl ⟨bQ,bQ,bQ,⟨rfl,aZ.of_eq (by rw[←ZZ];rfl)⟩,⟨rfl,aZ.of_eq (by rw[hpd,hpt,←ZZ];rfl)⟩,oO⟩ ⟨qZ,qZ,qZ,qZ,qZ,qZ,qZ,qZ,qZ,qZ,qZ,qZ,qZ,qZ,qZ,oO⟩)⟩
   exact TJ aA ha iQ hit iF.1 hvo GP oM hX
  ·have g:¬(j:Int)<xs.length:=bG g
   exact hE oM _
theorem NW{p:Proj}{fs:List Fact}{M i j:Nat}{xs:List Part}{s0:PS}{k:HM}{cx:Cx}{X:St→Hid→Prop}{K:Exit→St→Hid→Prop}(aA:cx.ref=[])(hv:PV p)(V5:∀x∈xs,zN x)(hxl:xs.length≤12)(hi:i<p.aW.levels.length)(hJ:JI p M i s0 xs (j,k))
  (hXo:∀σ2 k2,JI p M i s0 xs (xs.length,k2)→HSub cx f62.ntmps σ2 (hid 259 14 k2) (HI p fs M k2.bm (i+1) (K8 p M i s0 xs xs.length).2) (hid 259 14 k2)→X σ2 (hid 259 14 k2)):
  bN prog cx f62.ntmps (nav f62.body [1,1,1,1,1,0,1,2,2,1,1,0,2,1,1,1,1,1,1,2,2]) (wX p fs M k.bm i xs j (K8 p M i s0 xs j).2) (hid 259 14 k) (qT (fun σ' H'=>∃s',JI p M i s0 xs s'∧xs.length - s'.1<xs.length - j∧HSub cx f62.ntmps σ' H' (wX p fs M s'.2.bm i xs s'.1 (K8 p M i s0 xs s'.1).2) (hid 259 14 s'.2))
   (zK 2 (zK 1 (qT (fun s H=>bN prog cx f62.ntmps (nav f62.body [1,1,1,1,1,0,1,2,2,1,1,1]) s H (qT X K)) (qT X K))))):=by
 obtain⟨hj,ha,iQ,hit,iF⟩:=hJ
 have hj:j≤xs.length:=hj
 have ha:lT k.l (K8 p M i s0 xs j).1:=ha
 have iQ:k.clock=(K8 p M i s0 xs j).1.length:=iQ
 have hit:k.it=none:=hit
 have iF:C0 (K8 p M i s0 xs j) (i*2412+j*201):=iF
 have jO:=hv.cells
 have ew:aV ((i:Int)+1)=((i+1:Nat):Int):=aG oM oM
 have hpI:=@Y2 p M i s0 xs j
 generalize hqs:K8 p M i s0 xs j=qs at ha iQ iF hpI
 obtain⟨E1,o1⟩:=qs
 refine aCM (E1:=E1) (o:=o1) aA hv V5 hxl hi hj ha iQ hit (iF.more oM) (fun hj2 σ2 k2 p1 p2 p3 p4=>?_) (fun hjx v=>?_)
 ·have hpI:=hpI hj2
  have hvo:=AJ (m:=M) (i:=i) hv (V5 _ (cT hj2))
  have aJR:=I8 (m:=M) (i:=i) (x:=xs.getD j default) iF ⟨oM,hvo.2⟩
  rw[←hpI]at p1 p2 p4 aJR
  exact⟨(j+1,k2),⟨hj2,p1,p2,p3,aJR.more (by show i*2412+j*201+201≤i*2412+(j+1)*201;omega)⟩,by show xs.length - (j+1)<xs.length - j;omega,p4⟩
 ·subst hjx
  cases o1 with
  |nil=>
   show bN prog cx _ _ (oH ⟨[(7,.s (.d eK)),(1,vI M),(2,.s (.d (cU (dB p fs (M+1))))),(3,.s (.ptr 3 0)),(8,dH k.bm),(9,.s (.ptr 9 0)),(11,vI (dD p)),(12,vI i),(51,vI p.aW.levels.length),(52,vI i),(97,gP xs),(98,vI xs.length),(99,vI xs.length)],[(3,some (.cells (lE p fs))),(9,some (.cells (j5 p)))]⟩ 100 v) (hid 259 14 k) _
   refine eA aA [3,9] fun _ h'=>?_
   refine hXo _ k ⟨Nat.le_refl _,by rw[hqs];exact ha,by rw[hqs];exact iQ,hit,by rw[hqs];exact iF⟩ ?_
   rw[hqs]
   show HSub _ _ _ _ ⟨[(7,.s (.d eK)),(1,vI M),(2,.s (.d (cU (dB p fs (M+1))))),(3,.s (.ptr 3 0)),(8,dH k.bm),(9,.s (.ptr 9 0)),(11,vI (dD p)),(51,vI p.aW.levels.length),(52,vI (i+1:Nat))],[(3,some (.cells (lE p fs))),(9,some (.cells (j5 p)))]⟩ _
   exact HSub.of (eS.of [] (by rw[aA];rfl) rfl ⟨bQ,bQ,oO⟩ ⟨qZ,qZ,qZ,qZ,qZ,qZ,qZ,qZ,⟨rfl,aU.int ew⟩,oO⟩)
  |cons py po=>
   show bN prog cx _ _ (oH ⟨[(7,.s (.own 100)),(1,vI M),(2,.s (.d (cU (dB p fs (M+1))))),(3,.s (.ptr 3 0)),(8,dH k.bm),(9,.s (.ptr 9 0)),(11,vI (dD p)),(12,vI i),(51,vI p.aW.levels.length),(52,vI i),(97,gP xs),(98,vI xs.length),(99,vI xs.length)],[(3,some (.cells (lE p fs))),(9,some (.cells (j5 p))),(100,some (.row 130 (py::po).length 7 (dY (py::po))))]⟩ 100 v) (hid 259 14 k) _
   refine eA aA [3,9,100] fun _ h'=>?_
   refine hXo _ k ⟨Nat.le_refl _,by rw[hqs];exact ha,by rw[hqs];exact iQ,hit,by rw[hqs];exact iF⟩ ?_
   rw[hqs]
   show HSub _ _ _ _ ⟨[(7,.s (.own 100)),(1,vI M),(2,.s (.d (cU (dB p fs (M+1))))),(3,.s (.ptr 3 0)),(8,dH k.bm),(9,.s (.ptr 9 0)),(11,vI (dD p)),(51,vI p.aW.levels.length),(52,vI (i+1:Nat))],[(3,some (.cells (lE p fs))),(9,some (.cells (j5 p))),(100,some (.row 130 (py::po).length 7 (dY (py::po))))]⟩ _
   exact HSub.of (eS.of [] (by rw[aA];rfl) rfl ⟨bQ,bQ,bQ,oO⟩ ⟨qZ,qZ,qZ,qZ,qZ,qZ,qZ,qZ,⟨rfl,aU.int ew⟩,oO⟩)
theorem pieces(p:Proj)(fs:List Fact)(M:Nat)(hp:p.fits)(hv:PV p)(hS:SOK p fs)(hn:XF fs M)(hM:1≤M∧M≤24)(iU:∀e∈pM (Rm.j7 (gV p (jL fs M) (jL fs M).length).1 M (gV p (jL fs M) (jL fs M).length).1.length),uZ e.2.1):
  aF prog 62 [QP p fs,vI M,.s (.d (cU (dB p fs (M+1))))] (gQ (FV p fs M)):=by
 have hR:=Rm.aIE p fs M hp hv hS.len hn
 have hT:=G0 p.chan p.aW hp.chan (EO.gok hv.gv)
 rw[hv.w3 p.chan.over]at hT
 generalize hL:(gV p (jL fs M) (jL fs M).length).1=L at hR iU
 have hpc:FV p fs M=(DA p fs M (pM (Rm.j7 L M L.length)) p.aW.levels.length).2:=by unfold FV DA;rw[hL]
 rw[hpc]
 refine eW func62 rfl rfl call62 rfl rfl (fun cx aA=>AW.CD ?_)
 refine sA aA [] fun _ h'=>?_
 refine sA aA [3] fun _ h'=>?_
 refine bN.seq (bN.region (bH.some (rc:=[]) aJ 2 aA [3] rfl rfl (bH.op rfl (nE.aK5 (ars:=[QP p fs,vI M]) rfl rfl dC rfl rfl hR ?_))))
 rintro x H ⟨h,rfl,rfl,ha,iQ,hit⟩
 refine bH.some (rc:=[]) aJ 1 aA [3] rfl rfl (bH.nil ?_)
 refine sA aA [3] fun _ h'=>?_
 refine aB (hT) ?_
 refine sA aA [3,9] fun _ h'=>?_
 refine bN.seq (sA aA [3,9] fun _ h'=>?_)
 refine bN.block ?_
 have ha:=lT.of ha
 have iQ:h.clock=(pM (Rm.j7 L M L.length)).length:=by rw[iQ];unfold pM;rw[List.length_map]
 generalize pM (Rm.j7 L M L.length)=E at ha iQ iU
 refine bN.loop (S:=Nat×HM) (fun s=>HI p fs M s.2.bm s.1 (DA p fs M E s.1).2) (fun s=>hid 259 14 s.2) (JC p fs M E) (fun s=>p.aW.levels.length - s.1) (0,h) ⟨Nat.zero_le _,ha,iQ,hit,iU,Nat.zero_le _⟩ ?_ ?_
 ·exact HSub.of (eS.of [] (by rw[aA];rfl) rfl ⟨bQ,bQ,oO⟩ ⟨qZ,qZ,qZ,qZ,qZ,qZ,qZ,qZ,qZ,oO⟩)
 ·rintro⟨i,h⟩ ⟨hi,ha,iQ,hit,iF⟩
  have hi:i≤p.aW.levels.length:=hi
  have ha:lT h.l (DA p fs M E i).1:=ha
  have iQ:h.clock=(DA p fs M E i).1.length:=iQ
  have hit:h.it=none:=hit
  have iF:C0 (DA p fs M E i) (i*2412):=iF
  obtain⟨hM1,hM2⟩:=hM
  have ew:aV ((i:Int)+1)=((i+1:Nat):Int):=by have:=hv.cells;exact aG oM oM
  have jO:=hv.cells
  have aJQ:=hv.bA
  have eM:aV ((M:Int) - 1)=((M - 1:Nat):Int):=by rw[aG oM oM];omega
  have eMn:(aV ((M:Int) - 1)).toNat=M - 1:=by rw[eM];omega
  show bN prog cx _ _ (HI p fs M h.bm i (DA p fs M E i).2) (hid 259 14 h) _
  generalize hps:DA p fs M E i=ps at ha iQ iF
  obtain⟨E0,out⟩:=ps
  cases out with
  |nil=>
   refine sA aA [3,9] fun _ h'=>?_
   refine bN.seq (bN.cond ?_)
   refine aI (fun g=>bN.skip ?_) (fun g=>bN.exit ?_)
   ·have g:(i:Int)<p.aW.levels.length:=bL g
    have bK:i<p.aW.levels.length:=oM
    refine bN.seq (bN.block ?_)
    refine sA aA [3,9] fun _ h'=>?_
    refine sA aA [3,9] fun _ h'=>?_
    refine oi (show 0≤aV ((M:Int) - 1)∧aV ((M:Int) - 1)<((dB p fs (M+1)).length:Int) by rw[eM,mP];omega) ?_
    refine oi (show(0:Int)≤(i:Int)∧(i:Int)<((((dB p fs (M+1)).getD (aV ((M:Int) - 1)).toNat default).levels.length:Nat):Int) by rw[eMn,mQ oM];show(0:Int)≤(i:Int)∧(i:Int)<((o6 p fs (M - 1)).length:Int);unfold o6;simp;omega) ?_
    refine oi (show(0:Int)≤(M:Int)∧(M:Int)<((dB p fs (M+1)).length:Int) by rw[mP];omega) ?_
    refine oi (show(0:Int)≤(i:Int)∧(i:Int)<((((dB p fs (M+1)).getD (M:Int).toNat default).levels.length:Nat):Int) by rw[show(M:Int).toNat=M from rfl,mQ oM];show(0:Int)≤(i:Int)∧(i:Int)<((o6 p fs M).length:Int);unfold o6;simp;omega) ?_
    refine aD ?_
    have e1:((dB p fs (M+1)).getD (aV ((M:Int) - 1)).toNat default).levels.getD i 0=lH p fs (M - 1) i:=by
     rw[eMn,mQ oM];exact AO bK
    have e2:((dB p fs (M+1)).getD (M:Int).toNat default).levels.getD i 0=lH p fs M i:=by
     rw[show(M:Int).toNat=M from rfl,mQ oM];exact AO bK
    generalize hfr:lH p fs (M - 1) i=fr at e1
    generalize DN:lH p fs M i=tt at e2
    have iU:DA p fs M E (i+1)=wC p fs M (E0,[]) i:=by rw[FP,hps]
    refine bN.sub (σ':=⟨[(7,.s (.d eK)),(1,vI M),(2,.s (.d (cU (dB p fs (M+1))))),(3,.s (.ptr 3 0)),(8,dH h.bm),(9,.s (.ptr 9 0)),(11,vI (dD p)),(12,vI i),(13,vI fr),(14,vI tt),(51,vI p.aW.levels.length),(52,vI i)],[(3,some (.cells (lE p fs))),(9,some (.cells (j5 p)))]⟩) (HSub.of (eS.of [] (by rw[aA];rfl) rfl ⟨bQ,bQ,oO⟩ ⟨qZ,qZ,qZ,qZ,qZ,qZ,qZ,qZ,⟨rfl,aU.int e1⟩,⟨rfl,aU.int e2⟩,qZ,qZ,oO⟩)) ?_
    refine bN.seq (sA aA [3,9] fun _ h'=>?_)
    repeat refine aR ?_
    refine bN.cond ?_
    refine aI (fun h2=>bN.exit ?_) (fun h2=>bN.skip ?_)
    ·have h2:(fr==30000||decide (tt≥fr))=true:=h2
     have yX:DA p fs M E (i+1)=(E0,[]):=by rw[iU];unfold wC;rw[hfr,DN,h2];rfl
     refine eA aA [3,9] fun _ h'=>?_
     refine⟨(i+1,h),⟨by show i+1≤p.aW.levels.length;omega,by rw[yX];exact ha,by rw[yX];exact iQ,hit,by rw[yX];exact iF.more (by show i*2412≤(i+1)*2412;omega)⟩,by show p.aW.levels.length - (i+1)<p.aW.levels.length - i;omega,?_⟩
     show HSub _ _ _ _ (HI p fs M h.bm (i+1) (DA p fs M E (i+1)).2) _
     rw[yX]
     show HSub _ _ _ _ ⟨[(7,.s (.d eK)),(1,vI M),(2,.s (.d (cU (dB p fs (M+1))))),(3,.s (.ptr 3 0)),(8,dH h.bm),(9,.s (.ptr 9 0)),(11,vI (dD p)),(51,vI p.aW.levels.length),(52,vI (i+1:Nat))],[(3,some (.cells (lE p fs))),(9,some (.cells (j5 p)))]⟩ _
     exact HSub.of (eS.of [] (by rw[aA];rfl) rfl ⟨bQ,bQ,oO⟩ ⟨qZ,qZ,qZ,qZ,qZ,qZ,qZ,qZ,⟨rfl,aU.int ew⟩,oO⟩)
    ·have h2:(fr==30000||decide (tt≥fr))=false:=h2
     refine sA aA [3,9] fun _ h'=>?_
     refine aB (MM p.aW i hv.aW oM oM oM) ?_
     refine sA aA [3,9,15] fun _ h'=>?_
     refine aB (aBY p.gr (dG p.aW i) fr tt hp.gr aJQ) ?_
     have yX:DA p fs M E (i+1)=(uL p.gr (dG p.aW i) fr tt).foldl (nS p M i) (E0,[]):=by rw[iU];unfold wC;rw[hfr,DN,h2];rfl
     have V5:∀x∈uL p.gr (dG p.aW i) fr tt,zN x:=fun x hx=>C2 hx
     have hxl:=HU (c:=dG p.aW i) (hi:=fr) (lo:=tt) hv
     generalize uL p.gr (dG p.aW i) fr tt=xs at yX V5 hxl
     refine sA aA [3,9,15] fun _ h'=>?_
     refine bN.block ?_
     refine bN.loop (S:=Nat×HM) (fun s=>wX p fs M s.2.bm i xs s.1 (K8 p M i (E0,[]) xs s.1).2) (fun s=>hid 259 14 s.2) (JI p M i (E0,[]) xs) (fun s=>xs.length - s.1) (0,h) ⟨Nat.zero_le _,ha,iQ,hit,iF⟩ ?_ ?_
     ·show HSub _ _ _ _ ⟨[(7,.s (.d eK)),(1,vI M),(2,.s (.d (cU (dB p fs (M+1))))),(3,.s (.ptr 3 0)),(8,dH h.bm),(9,.s (.ptr 9 0)),(11,vI (dD p)),(12,vI i),(51,vI p.aW.levels.length),(52,vI i),(97,gP xs),(98,vI xs.length),(99,vI (0:Nat))],[(3,some (.cells (lE p fs))),(9,some (.cells (j5 p)))]⟩ _
      exact HSub.of (eS.of [] (by rw[aA];rfl) rfl ⟨bQ,bQ,oO⟩ ⟨qZ,qZ,qZ,qZ,qZ,qZ,qZ,qZ,qZ,qZ,qZ,qZ,qZ,oO⟩)
     ·rintro⟨j,k⟩ ⟨hj,ha',aGN,aGJ,lJ⟩
      refine NW (p:=p) (fs:=fs) (M:=M) (j:=j) (k:=k) aA hv V5 hxl bK ⟨hj,ha',aGN,aGJ,lJ⟩ (fun σ2 k2 hJ h2=>?_)
      have aGC:K8 p M i (E0,[]) xs xs.length=DA p fs M E (i+1):=by rw[yX];unfold K8;rw[List.take_length]
      obtain⟨_,q1,q2,q3,q4⟩:=hJ
      rw[aGC]at q1 q2 q4 h2
      exact⟨(i+1,k2),⟨by show i+1≤p.aW.levels.length;omega,q1,q2,q3,q4.more (by show i*2412+xs.length*201≤(i+1)*2412;omega)⟩,by show p.aW.levels.length - (i+1)<p.aW.levels.length - i;omega,h2⟩
   ·have g:¬(i:Int)<p.aW.levels.length:=bG g
    obtain rfl:i=p.aW.levels.length:=oM
    refine sA aA [3,9] fun _ h'=>?_
    refine bN.ret ?_
    rw[hps]
    exact aC.le aL.nil
  |cons px pr=>
   refine sA aA [3,9,100] fun _ h'=>?_
   refine bN.seq (bN.cond ?_)
   refine aI (fun g=>bN.skip ?_) (fun g=>bN.exit ?_)
   ·have g:(i:Int)<p.aW.levels.length:=bL g
    have bK:i<p.aW.levels.length:=oM
    refine bN.seq (bN.block ?_)
    refine sA aA [3,9,100] fun _ h'=>?_
    refine sA aA [3,9,100] fun _ h'=>?_
    refine oi (show 0≤aV ((M:Int) - 1)∧aV ((M:Int) - 1)<((dB p fs (M+1)).length:Int) by rw[eM,mP];omega) ?_
    refine oi (show(0:Int)≤(i:Int)∧(i:Int)<((((dB p fs (M+1)).getD (aV ((M:Int) - 1)).toNat default).levels.length:Nat):Int) by rw[eMn,mQ oM];show(0:Int)≤(i:Int)∧(i:Int)<((o6 p fs (M - 1)).length:Int);unfold o6;simp;omega) ?_
    refine oi (show(0:Int)≤(M:Int)∧(M:Int)<((dB p fs (M+1)).length:Int) by rw[mP];omega) ?_
    refine oi (show(0:Int)≤(i:Int)∧(i:Int)<((((dB p fs (M+1)).getD (M:Int).toNat default).levels.length:Nat):Int) by rw[show(M:Int).toNat=M from rfl,mQ oM];show(0:Int)≤(i:Int)∧(i:Int)<((o6 p fs M).length:Int);unfold o6;simp;omega) ?_
    refine aD ?_
    have e1:((dB p fs (M+1)).getD (aV ((M:Int) - 1)).toNat default).levels.getD i 0=lH p fs (M - 1) i:=by
     rw[eMn,mQ oM];exact AO bK
    have e2:((dB p fs (M+1)).getD (M:Int).toNat default).levels.getD i 0=lH p fs M i:=by
     rw[show(M:Int).toNat=M from rfl,mQ oM];exact AO bK
    generalize hfr:lH p fs (M - 1) i=fr at e1
    generalize DN:lH p fs M i=tt at e2
    have iU:DA p fs M E (i+1)=wC p fs M (E0,px::pr) i:=by rw[FP,hps]
    refine bN.sub (σ':=⟨[(7,.s (.own 100)),(1,vI M),(2,.s (.d (cU (dB p fs (M+1))))),(3,.s (.ptr 3 0)),(8,dH h.bm),(9,.s (.ptr 9 0)),(11,vI (dD p)),(12,vI i),(13,vI fr),(14,vI tt),(51,vI p.aW.levels.length),(52,vI i)],[(3,some (.cells (lE p fs))),(9,some (.cells (j5 p))),(100,some (.row 130 (px::pr).length 7 (dY (px::pr))))]⟩) (HSub.of (eS.of [] (by rw[aA];rfl) rfl ⟨bQ,bQ,bQ,oO⟩ ⟨qZ,qZ,qZ,qZ,qZ,qZ,qZ,qZ,⟨rfl,aU.int e1⟩,⟨rfl,aU.int e2⟩,qZ,qZ,oO⟩)) ?_
    refine bN.seq (sA aA [3,9,100] fun _ h'=>?_)
    repeat refine aR ?_
    refine bN.cond ?_
    refine aI (fun h2=>bN.exit ?_) (fun h2=>bN.skip ?_)
    ·have h2:(fr==30000||decide (tt≥fr))=true:=h2
     have yX:DA p fs M E (i+1)=(E0,px::pr):=by rw[iU];unfold wC;rw[hfr,DN,h2];rfl
     refine eA aA [3,9,100] fun _ h'=>?_
     refine⟨(i+1,h),⟨by show i+1≤p.aW.levels.length;omega,by rw[yX];exact ha,by rw[yX];exact iQ,hit,by rw[yX];exact iF.more (by show i*2412≤(i+1)*2412;omega)⟩,by show p.aW.levels.length - (i+1)<p.aW.levels.length - i;omega,?_⟩
     show HSub _ _ _ _ (HI p fs M h.bm (i+1) (DA p fs M E (i+1)).2) _
     rw[yX]
     show HSub _ _ _ _ ⟨[(7,.s (.own 100)),(1,vI M),(2,.s (.d (cU (dB p fs (M+1))))),(3,.s (.ptr 3 0)),(8,dH h.bm),(9,.s (.ptr 9 0)),(11,vI (dD p)),(51,vI p.aW.levels.length),(52,vI (i+1:Nat))],[(3,some (.cells (lE p fs))),(9,some (.cells (j5 p))),(100,some (.row 130 (px::pr).length 7 (dY (px::pr))))]⟩ _
     exact HSub.of (eS.of [] (by rw[aA];rfl) rfl ⟨bQ,bQ,bQ,oO⟩ ⟨qZ,qZ,qZ,qZ,qZ,qZ,qZ,qZ,⟨rfl,aU.int ew⟩,oO⟩)
    ·have h2:(fr==30000||decide (tt≥fr))=false:=h2
     refine sA aA [3,9,100] fun _ h'=>?_
     refine aB (MM p.aW i hv.aW oM oM oM) ?_
     refine sA aA [3,9,100,15] fun _ h'=>?_
     refine aB (aBY p.gr (dG p.aW i) fr tt hp.gr aJQ) ?_
     have yX:DA p fs M E (i+1)=(uL p.gr (dG p.aW i) fr tt).foldl (nS p M i) (E0,px::pr):=by rw[iU];unfold wC;rw[hfr,DN,h2];rfl
     have V5:∀x∈uL p.gr (dG p.aW i) fr tt,zN x:=fun x hx=>C2 hx
     have hxl:=HU (c:=dG p.aW i) (hi:=fr) (lo:=tt) hv
     generalize uL p.gr (dG p.aW i) fr tt=xs at yX V5 hxl
     refine sA aA [3,9,100,15] fun _ h'=>?_
     refine bN.block ?_
     refine bN.loop (S:=Nat×HM) (fun s=>wX p fs M s.2.bm i xs s.1 (K8 p M i (E0,px::pr) xs s.1).2) (fun s=>hid 259 14 s.2) (JI p M i (E0,px::pr) xs) (fun s=>xs.length - s.1) (0,h) ⟨Nat.zero_le _,ha,iQ,hit,iF⟩ ?_ ?_
     ·show HSub _ _ _ _ ⟨[(7,.s (.own 100)),(1,vI M),(2,.s (.d (cU (dB p fs (M+1))))),(3,.s (.ptr 3 0)),(8,dH h.bm),(9,.s (.ptr 9 0)),(11,vI (dD p)),(12,vI i),(51,vI p.aW.levels.length),(52,vI i),(97,gP xs),(98,vI xs.length),(99,vI (0:Nat))],[(3,some (.cells (lE p fs))),(9,some (.cells (j5 p))),(100,some (.row 130 (px::pr).length 7 (dY (px::pr))))]⟩ _
      exact HSub.of (eS.of [] (by rw[aA];rfl) rfl ⟨bQ,bQ,bQ,oO⟩ ⟨qZ,qZ,qZ,qZ,qZ,qZ,qZ,qZ,qZ,qZ,qZ,qZ,qZ,oO⟩)
     ·rintro⟨j,k⟩ ⟨hj,ha',aGN,aGJ,lJ⟩
      refine NW (p:=p) (fs:=fs) (M:=M) (j:=j) (k:=k) aA hv V5 hxl bK ⟨hj,ha',aGN,aGJ,lJ⟩ (fun σ2 k2 hJ h2=>?_)
      have aGC:K8 p M i (E0,px::pr) xs xs.length=DA p fs M E (i+1):=by rw[yX];unfold K8;rw[List.take_length]
      obtain⟨_,q1,q2,q3,q4⟩:=hJ
      rw[aGC]at q1 q2 q4 h2
      exact⟨(i+1,k2),⟨by show i+1≤p.aW.levels.length;omega,q1,q2,q3,q4.more (by show i*2412+xs.length*201≤(i+1)*2412;omega)⟩,by show p.aW.levels.length - (i+1)<p.aW.levels.length - i;omega,h2⟩
   ·have g:¬(i:Int)<p.aW.levels.length:=bG g
    obtain rfl:i=p.aW.levels.length:=oM
    refine sA aA [3,9,100] fun _ h'=>?_
    refine bN.ret ?_
    rw[hps]
    exact aC.refl _
theorem GS{p:Proj}{l:List Fact}:∀{k:Nat},k≤l.length→∀f∈(gV p l k).1,f∈l
 |0,_,f,hf=>by cases hf
 |k+1,hk,f,hf=>by
  rw[gV]at hf
  cases hq:(nU (gV p l k).2 (yC (l.getD k default)) (l.getD k default).dO==0)with
  |true=>
   rw[hq]at hf
   rcases List.mem_append.1 hf with hf|hf
   ·exact GS oM f hf
   ·rw[List.mem_singleton.1 hf];exact cT oM
  |false=>
   rw[hq]at hf
   exact GS oM f hf
theorem YF{fs:List Fact}{m:Int}{f:Fact}(h:f∈jL fs m):f∈fs∧f.kind=1∧f.month≤m:=by
 have h:=(List.mergeSort_perm _ _).mem_iff.1 h
 unfold sI at h
 obtain⟨h1,h2⟩:=List.mem_filter.1 h
 simp only [Bool.and_eq_true,beq_iff_eq,decide_eq_true_eq]at h2
 exact⟨h1,h2.1,h2.2⟩
theorem Rm.XD{E:List Rm.gF}{k:b9}{t:Room}{Q:Room→Prop}(h:∀e∈E,∀r∈e.2.1,Q r)(ht:Q t):∀e∈Rm.oT E k t,∀r∈e.2.1,Q r:=by
 intro e he
 unfold Rm.oT at he
 split at he
 ·rename_i i p hp
  obtain⟨j,hj⟩:=List.getElem?_of_mem he
  rw[List.getElem?_modify]at hj
  cases hE:E[j]? with
  |none=>rw[hE]at hj;cases hj
  |some y=>
   rw[hE]at hj
   have hy:=h y (List.mem_of_getElem? hE)
   have hj:(if i=j then(y.1,y.2.1++ [t],y.2.2)else y)=e:=by simpa using hj
   split at hj
   ·subst hj
    intro r hr
    rcases List.mem_append.1 hr with hr|hr
    ·exact hy r hr
    ·rw[List.mem_singleton.1 hr];exact ht
   ·subst hj;exact hy
 ·rcases List.mem_append.1 he with he|he
  ·exact h e he
  ·rw[List.mem_singleton.1 he]
   intro r hr
   rw[List.mem_singleton.1 hr];exact ht
theorem Rm.CR{L:List Fact}{m:Int}{Q:Room→Prop}(hQ:∀f∈L,Q (f,f.aW)):∀{i:Nat},i≤L.length→∀e∈Rm.j7 L m i,∀r∈e.2.1,Q r
 |0,_,e,he=>by simp[Rm.j7]at he
 |i+1,hi,e,he=>by
  rw[Rm.CQ oM]at he
  unfold Rm.I7 at he
  cases hw:((L.getD i default).month==m)with
  |false=>rw[hw]at he;exact Rm.CR hQ oM e he
  |true=>
   rw[hw]at he
   exact Rm.XD (fun e he=>Rm.CR hQ oM e he) (hQ _ (cT oM)) e he
theorem NC{L:List Fact}{m:Int}(hb:∀f∈L,1≤f.aW∧f.aW≤1000000000000)(hl:L.length≤200):∀e∈pM (Rm.j7 L m L.length),uZ e.2.1:=by
 intro e he
 unfold pM at he
 obtain⟨e0,h0,rfl⟩:=List.mem_map.1 he
 have h1:=Rm.qA h0
 have h2:=Rm.CR (Q:=fun r=>1≤r.2∧r.2≤1000000000000) (m:=m) hb (Nat.le_refl _) e0 h0
 refine⟨Nat.zero_le _,by show e0.2.1.length≤200;omega,fun i _ hi=>?_⟩
 have hi:i<e0.2.1.length:=hi
 exact h2 _ (cT hi)
theorem FE{p:Proj}{m:Int}{i:Nat}(hv:PV p):∀{xs:List Part} {s:PS} {n:Nat},C0 s n→(∀x∈xs,zN x)→C0 (xs.foldl (nS p m i) s) (n+xs.length*201)
 |[],s,n,h,_=>by simpa using h
 |x::r,s,n,h,hx=>by
  have ZZ:=AJ (m:=m) (i:=i) hv (hx x (List.mem_cons_self))
  have h1:=FE (m:=m) (i:=i) hv (xs:=r) (I8 (m:=m) (i:=i) (x:=x) h ⟨oM,ZZ.2⟩) fun y hy=>hx y (List.mem_cons_of_mem _ hy)
  rw[List.foldl_cons]
  rw[show n+(x::r).length*201=n+201+r.length*201 by rw[List.length_cons];omega]
  exact h1
theorem TI{p:Proj}{fs:List Fact}{M:Nat}{E:List lS}(hv:PV p)(hE:∀e∈E,uZ e.2.1):∀i,C0 (DA p fs M E i) (i*2412)
 |0=>⟨hE,Nat.zero_le _⟩
 |i+1=>by
  have ih:=TI (fs:=fs) (M:=M) hv hE i
  rw[FP]
  unfold wC
  cases(lH p fs (M - 1) i==30000||decide (lH p fs M i≥lH p fs (M - 1) i))with
  |true=>exact ih.more oM
  |false=>
   have h1:=HU (c:=dG p.aW i) (hi:=lH p fs (M - 1) i) (lo:=lH p fs M i) hv
   exact(FE (m:=M) (i:=i) hv (xs:=uL p.gr (dG p.aW i) (lH p fs (M - 1) i) (lH p fs M i)) ih fun x hx=>C2 hx).more oM
theorem aLA{l:List Fact}(hv:∀f∈l,j6 f=0):∀f∈cntF l,f.kind=1→1≤f.aW∧f.aW≤1000000000000:=by
 intro f hf hk
 obtain⟨k,_,_,g,hg,rfl,_⟩:=UI hv hf
 have hk:g.kind=1:=hk
 have h1:=nG (sP (hv g hg)).2 (by rw[hk];rfl)
 have h2:=within_iff.1 h1.1.2.1
 have e:(uE g).aW=g.aW:=by unfold uE;rw[hk];rfl
 rw[e];exact h2
theorem aCK{p:Proj}{l:List Fact}{M:Nat}(hp:p.fits)(hk:FOK p l)(hM:1≤M∧M≤24)(hs:XF (cntF l) M):
  aF prog 62 [QP p (cntF l),vI M,.s (.d (cU (dB p (cntF l) (M+1))))] (gQ (FV p (cntF l) M))∧(FV p (cntF l) M).length≤241200:=by
 have hv:=PV.of hk.proj
 have hS:=PR hk
 have hL:(gV p (jL (cntF l) M) (jL (cntF l) M).length).1.length≤200:=by
  refine Nat.le_trans (A0 p _ _) ?_
  unfold jL
  rw[zX]
  exact Nat.le_trans (List.length_filter_le _ _) hS.len
 have hg:=NC (m:=M) (fun f hf=>by
  obtain⟨h1,h2,_⟩:=YF (GS (Nat.le_refl _) f hf)
  exact aLA hk.fmt f h1 h2) hL
 refine⟨pieces p (cntF l) M hp hv hS hs hM hg,?_⟩
 have h1:=(TI (fs:=cntF l) (M:=M) hv hg p.aW.levels.length).2
 have h2:=hv.cells
 have e:FV p (cntF l) M=(DA p (cntF l) M (pM (Rm.j7 (gV p (jL (cntF l) M) (jL (cntF l) M).length).1 M (gV p (jL (cntF l) M) (jL (cntF l) M).length).1.length)) p.aW.levels.length).2:=rfl
 rw[e]
 omega
def M8(p:Proj)(l:List Fact)(M:Nat):Stmt:=
 aB2 p M (FV p (cntF l) M) (fN p (FV p (cntF l) M) p.gr.bE.length) (LM p (cntF l) M (x4 p (cntF l) M) p.cN.length) (nD p (cntF l) M p.aW.levels.length)
theorem aD1(p:Proj)(l:List Fact)(M:Nat)(hp:p.fits)(hf:∀f∈l,f.fits)(hl:l.length≤9223372036854775807)(he:F0 p l M 1=0)(hs:XF (cntF l) M)
  (OW:aF prog 65 [QP p (cntF l),vI M,w3 (x4 p (cntF l) M)] (S6 (LM p (cntF l) M (x4 p (cntF l) M) p.cN.length))):
  aF prog 21 [vE p,iX l,vI M] (.t [.g [.d (dI M),.d (dI (M8 p l M).over),.d (dI (M8 p l M).eU),.d (dI (M8 p l M).total),.d (xB (M8 p l M).WS),.d (xA (M8 p l M).aME),.d (cE (M8 p l M).aNC)],.s (.d (dI 0))]):=by
 obtain⟨hk,hw⟩:=FZ he
 have hw:=within_iff.1 hw
 obtain⟨h1,h2⟩:=aCK (M:=M) hp hk ⟨oM,oM⟩ hs
 exact XG p l M (FV p (cntF l) M) hp hf hl he (PR hk) oM oM OW h1
def aD4(g:eZ):Bool:=(decide ((g.levels.length:Int)>9)&&decide ((g.levels.length:Int)≤120))||decide ((g.levels.length:Int)>300)
theorem aJ7(g:eZ):aF prog 20 [w3 g] (vB (aD4 g)):=by
 refine eP func20 rfl rfl call20 rfl rfl fun cx aA=>?_
 repeat refine aR ?_
 exact aC.refl _
def gr0(p:Proj):Bool:=aD4 p.aW||decide ((p.name.size:Int)>40)||decide ((p.chan.aX.length:Int)>6)||decide ((p.chan.regions.length:Int)>5)||decide ((p.gr.bE.length:Int)>4)||decide ((p.gr.b6.length:Int)>5)||decide ((p.cI.length:Int)>25)||decide ((p.cN.length:Int)>25)||decide ((p.aP.length:Int)>10)||decide ((p.a8.length:Int)>10)
def grR(r:yP):Bool:=decide ((r.kZ.length:Int)>8)||decide ((r.name.size:Int)>40)
def grB(b:fF):Bool:=decide ((b.bA.length:Int)>6)
def grP(b:tD):Bool:=decide ((b.aT.length:Int)>12)
def tT(p:Proj):Bool:=gr0 p||p.chan.regions.any grR||p.gr.b6.any grB||p.aP.any grP
theorem SU{α:Type} [Inhabited α] {l:List α}{f:α→Bool}{i:Nat}(hi:i<l.length)(h:f (l.getD i default)=true):l.any f=true:=
 List.any_eq_true.2 ⟨_,cT hi,h⟩
theorem HR{α:Type} [Inhabited α] {l:List α}{f:α→Bool}{i:Nat}(hi:i<l.length)(h0:(l.take i).any f=false)(h:f (l.getD i default)=false):(l.take (i+1)).any f=false:=by
 rw[List.take_add_one,List.getElem?_eq_getElem hi,List.any_append,h0]
 rw[a7 hi]at h
 simp[h]
theorem MP{α:Type}{l:List α}{f:α→Bool}(h:(l.take l.length).any f=false):l.any f=false:=by rwa [List.take_length]at h
theorem aGQ(p:Proj):aF prog 5 [vE p] (vB (tT p)):=by
 refine eP func5 rfl rfl call5 rfl rfl fun cx aA=>?_
 refine aB (aJ7 p.aW) ?_
 repeat refine aR ?_
 refine aI (fun h0=>?_) (fun h0=>?_)
 ·have h0:gr0 p=true:=h0
  exact aC.lit (by unfold tT;rw[h0];rfl)
 have h0:gr0 p=false:=h0
 have b0:=h0
 simp only [gr0,Bool.or_eq_false_iff,decide_eq_false_iff_not]at b0
 refine AW.loop (fun i:Nat=>⟨[(1,.s (.ptr 1 0)),(3,vI i)],[(1,some (.cells (vF p)))]⟩) (fun i=>i≤p.chan.regions.length∧(p.chan.regions.take i).any grR=false) (fun i=>p.chan.regions.length - i) 0 ⟨Nat.zero_le _,rfl⟩ ?_ ?_
 ·exact Sub.bO aA ⟨rQ,oO⟩ ⟨rQ,rQ,oO⟩
 rintro i ⟨hi,hj⟩
 refine eX aA ?_
 refine aI (fun h5=>?_) (fun h5=>?_)
 ·have h5:(i:Int)<p.chan.regions.length:=bL h5
  have hi5:i<p.chan.regions.length:=oM
  refine oi ⟨oM,oM⟩ ?_
  repeat refine aR ?_
  refine og (fun _=>⟨oM,oM⟩) ?_
  repeat refine aR ?_
  refine aI (fun h6=>?_) (fun h6=>?_)
  ·have h6:grR (p.chan.regions.getD i default)=true:=h6
   exact aC.lit (by unfold tT;rw[SU hi5 h6];simp)
  have h6:grR (p.chan.regions.getD i default)=false:=h6
  refine⟨i+1,⟨oM,HR hi5 hj h6⟩,oM,?_⟩
  exact Sub.bO aA ⟨rQ,oO⟩ ⟨rQ,⟨rfl,congrArg vI (aG oM oM)⟩,oO⟩
 have h5:¬(i:Int)<p.chan.regions.length:=bG h5
 obtain rfl:i=p.chan.regions.length:=oM
 have a1:=MP hj
 clear hj hi h5
 refine AW.loop (fun i:Nat=>⟨[(1,.s (.ptr 1 0)),(4,vI i)],[(1,some (.cells (vF p)))]⟩) (fun i=>i≤p.gr.b6.length∧(p.gr.b6.take i).any grB=false) (fun i=>p.gr.b6.length - i) 0 ⟨Nat.zero_le _,rfl⟩ ?_ ?_
 ·exact Sub.bO aA ⟨rQ,oO⟩ ⟨rQ,rQ,oO⟩
 rintro i ⟨hi,hj⟩
 refine eX aA ?_
 refine aI (fun h5=>?_) (fun h5=>?_)
 ·have h5:(i:Int)<p.gr.b6.length:=bL h5
  have hi5:i<p.gr.b6.length:=oM
  refine oi ⟨oM,oM⟩ ?_
  refine aI (fun h6=>?_) (fun h6=>?_)
  ·have h6:grB (p.gr.b6.getD i default)=true:=h6
   exact aC.lit (by unfold tT;rw[SU hi5 h6];simp)
  have h6:grB (p.gr.b6.getD i default)=false:=h6
  refine⟨i+1,⟨oM,HR hi5 hj h6⟩,oM,?_⟩
  exact Sub.bO aA ⟨rQ,oO⟩ ⟨rQ,⟨rfl,congrArg vI (aG oM oM)⟩,oO⟩
 have h5:¬(i:Int)<p.gr.b6.length:=bG h5
 obtain rfl:i=p.gr.b6.length:=oM
 have a2:=MP hj
 clear hj hi h5
 refine AW.loop (fun i:Nat=>⟨[(1,.s (.ptr 1 0)),(5,vI i)],[(1,some (.cells (vF p)))]⟩) (fun i=>i≤p.aP.length∧(p.aP.take i).any grP=false) (fun i=>p.aP.length - i) 0 ⟨Nat.zero_le _,rfl⟩ ?_ ?_
 ·exact Sub.bO aA ⟨rQ,oO⟩ ⟨rQ,rQ,oO⟩
 rintro i ⟨hi,hj⟩
 refine eX aA ?_
 refine aI (fun h5=>?_) (fun h5=>?_)
 ·have h5:(i:Int)<p.aP.length:=bL h5
  have hi5:i<p.aP.length:=oM
  refine oi ⟨oM,oM⟩ ?_
  refine aI (fun h6=>?_) (fun h6=>?_)
  ·have h6:grP (p.aP.getD i default)=true:=h6
   exact aC.lit (by unfold tT;rw[SU hi5 h6];simp)
  have h6:grP (p.aP.getD i default)=false:=h6
  refine⟨i+1,⟨oM,HR hi5 hj h6⟩,oM,?_⟩
  exact Sub.bO aA ⟨rQ,oO⟩ ⟨rQ,⟨rfl,congrArg vI (aG oM oM)⟩,oO⟩
 have h5:¬(i:Int)<p.aP.length:=bG h5
 obtain rfl:i=p.aP.length:=oM
 have a3:=MP hj
 exact aC.lit (by unfold tT;rw[h0,a1,a2,a3];rfl)
def aEC(f:Fact):Bool:=decide ((f.levels.length:Int)>120)||decide ((f.aO.size:Int)>40)||decide ((f.dO.size:Int)>40)||decide ((f.eO.size:Int)>40)
theorem aKD(f:Fact):aF prog 6 [p8 f] (vB (aEC f)):=by
 refine eP func6 rfl rfl call6 rfl rfl fun cx aA=>?_
 repeat refine aR ?_
 exact aC.refl _
end Go.Pj
--K62
namespace Go.Ax
theorem HSub.ofM{cx:Cx}{N:Nat}{σ σ':St}(h:pB cx N σ σ'):HSub cx N σ Hid.none σ' Hid.none:=fun M β a w i _=>
 let⟨M',β',i',g⟩:=h M β a w i
 ⟨M',β',i',lU.none,g⟩
end Go.Ax
namespace Go.Pj
open Go Go.Ax Go.Ch Go.Proofs Go.Proofs.Tryz
set_option maxRecDepth 100000
set_option maxHeartbeats 1000000
abbrev kB:ByteArray:=bs [115,97,110,100]
abbrev M3:ByteArray:=bs [119,101,115,116]
def PB:Proj:=
 {name:=bs [66,97,114],aW:=⟨0,0,1000,2,1,[-900, -900]⟩,chan:=⟨bs [77,97,105,110],[⟨0,500,1000, -1000,0⟩,⟨2000,500,1000, -1000,0⟩],50,0,[]⟩
  gr:=⟨[⟨kB,30,1900,6,5⟩],[⟨bs [66,49],0,0,[⟨0,kB⟩]⟩]⟩,agree:=10,eU:=300,cI:=[⟨kB,500⟩],cN:=[]
  aP:=[⟨M3,10000000, -2000, -1000,[0],100⟩],a8:=[⟨kB,6,5⟩]}
def WM:List Fact:=
 [⟨0,1,0,1,0,0,0,0,0,bs [],bs [],bs [],[-1000, -1060]⟩,⟨0,1,1,1,0,0,0,0,0,bs [],bs [],bs [],[-1005, -1065]⟩,
  ⟨1,1,0,1,1,200000000,0,0,0,kB,M3,bs [],[]⟩]
theorem Example:aF prog 22 [] (vE PB):=by
 refine eW func22 rfl rfl call22 rfl rfl (fun cx aA=>AW.CD ?_)
 refine sA aA [] fun _ h'=>?_
 refine bN.seq (bN.region ?_)
 refine bH.some (rc:=[]) aJ 1 aA [0] rfl rfl ?_
 refine bH.sub (σ':=⟨[(0,.s (.ptr 0 0)),(1,.s (.d (cE [-900, -900])))],[(0,some (.cells (iS ty38.zero)))]⟩) (H':=Hid.none) (HSub.ofM (pB.of aA [] [1] rfl rfl rfl ⟨⟨rfl,iP.rfl⟩,oO⟩ ⟨⟨rfl,cF.rfl⟩,⟨rfl,(cF.own (List.mem_singleton.2 rfl) rfl).then (aU.d (aL.fW fun i j hi hj=>by have hi:i<2:=hi;have hj:j<1:=hj;match i,j,hi,hj with|0,0,_,_|1,0,_,_=>exact aL.refl _))⟩,oO⟩)) ?_
 refine bH.some (rc:=[]) aJ 4 aA [0] rfl rfl ?_
 refine bH.sub (σ':=⟨[(0,.s (.ptr 0 0)),(2,.g [.d (dI 0),.d (dI 0),.d (dI 1000),.d (dI 2),.d (dI 1),.d (cE [-900, -900])]),(5,.s (.d (xC [⟨0,500,1000, -1000,0⟩,⟨2000,500,1000, -1000,0⟩])))],[(0,some (.cells (iS ty38.zero)))]⟩) (H':=Hid.none) (HSub.ofM (pB.of aA [] [5] rfl rfl rfl ⟨⟨rfl,iP.rfl⟩,oO⟩ ⟨⟨rfl,cF.rfl⟩,⟨rfl,cF.rfl⟩,⟨rfl,(cF.own (List.mem_singleton.2 rfl) rfl).then (aU.d (aL.fW fun i j hi hj=>by have hi:i<2:=hi;have hj:j<5:=hj;match i,j,hi,hj with|0,0,_,_|0,1,_,_|0,2,_,_|0,3,_,_|0,4,_,_|1,0,_,_|1,1,_,_|1,2,_,_|1,3,_,_|1,4,_,_=>exact aL.refl _))⟩,oO⟩)) ?_
 refine bH.some (rc:=[]) aJ 4 aA [0] rfl rfl ?_
 refine bH.sub (σ':=⟨[(0,.s (.ptr 0 0)),(2,.g [.d (dI 0),.d (dI 0),.d (dI 1000),.d (dI 2),.d (dI 1),.d (cE [-900, -900])]),(6,.g [.d (dS (bs [77,97,105,110])),.d (xC [⟨0,500,1000, -1000,0⟩,⟨2000,500,1000, -1000,0⟩]),.d (dI 50),.d (dI 0),.d eK]),(9,.s (.d (j8 [⟨kB,30,1900,6,5⟩])))],[(0,some (.cells (iS ty38.zero)))]⟩) (H':=Hid.none) (HSub.ofM (pB.of aA [] [9] rfl rfl rfl ⟨⟨rfl,iP.rfl⟩,oO⟩ ⟨⟨rfl,cF.rfl⟩,⟨rfl,cF.rfl⟩,⟨rfl,cF.rfl⟩,⟨rfl,(cF.own (List.mem_singleton.2 rfl) rfl).then (aU.d (aL.fW fun i j hi hj=>by have hi:i<1:=hi;have hj:j<5:=hj;match i,j,hi,hj with|0,0,_,_|0,1,_,_|0,2,_,_|0,3,_,_|0,4,_,_=>exact aL.refl _))⟩,oO⟩)) ?_
 refine bH.some (rc:=[]) aJ 2 aA [0] rfl rfl ?_
 refine bH.sub (σ':=⟨[(0,.s (.ptr 0 0)),(2,.g [.d (dI 0),.d (dI 0),.d (dI 1000),.d (dI 2),.d (dI 1),.d (cE [-900, -900])]),(6,.g [.d (dS (bs [77,97,105,110])),.d (xC [⟨0,500,1000, -1000,0⟩,⟨2000,500,1000, -1000,0⟩]),.d (dI 50),.d (dI 0),.d eK]),(9,.s (.d (j8 [⟨kB,30,1900,6,5⟩]))),(11,.s (.d (lY [⟨0,kB⟩])))],[(0,some (.cells (iS ty38.zero)))]⟩) (H':=Hid.none) (HSub.ofM (pB.of aA [] [11] rfl rfl rfl ⟨⟨rfl,iP.rfl⟩,oO⟩ ⟨⟨rfl,cF.rfl⟩,⟨rfl,cF.rfl⟩,⟨rfl,cF.rfl⟩,⟨rfl,cF.rfl⟩,⟨rfl,(cF.own (List.mem_singleton.2 rfl) rfl).then (aU.d (aL.fW fun i j hi hj=>by have hi:i<1:=hi;have hj:j<2:=hj;match i,j,hi,hj with|0,0,_,_|0,1,_,_=>exact aL.refl _))⟩,oO⟩)) ?_
 refine bH.some (rc:=[]) aJ 2 aA [0] rfl rfl ?_
 refine bH.sub (σ':=⟨[(0,.s (.ptr 0 0)),(2,.g [.d (dI 0),.d (dI 0),.d (dI 1000),.d (dI 2),.d (dI 1),.d (cE [-900, -900])]),(6,.g [.d (dS (bs [77,97,105,110])),.d (xC [⟨0,500,1000, -1000,0⟩,⟨2000,500,1000, -1000,0⟩]),.d (dI 50),.d (dI 0),.d eK]),(9,.s (.d (j8 [⟨kB,30,1900,6,5⟩]))),(13,.s (.d (oY [⟨bs [66,49],0,0,[⟨0,kB⟩]⟩])))],[(0,some (.cells (iS ty38.zero)))]⟩) (H':=Hid.none) (HSub.ofM (pB.of aA [] [13] rfl rfl rfl ⟨⟨rfl,iP.rfl⟩,oO⟩ ⟨⟨rfl,cF.rfl⟩,⟨rfl,cF.rfl⟩,⟨rfl,cF.rfl⟩,⟨rfl,cF.rfl⟩,⟨rfl,(cF.own (List.mem_singleton.2 rfl) rfl).then (aU.d (aL.fW fun i j hi hj=>by have hi:i<1:=hi;have hj:j<4:=hj;match i,j,hi,hj with|0,0,_,_|0,1,_,_|0,2,_,_|0,3,_,_=>exact aL.refl _))⟩,oO⟩)) ?_
 refine bH.some (rc:=[]) aJ 3 aA [0] rfl rfl ?_
 refine bH.sub (σ':=⟨[(0,.s (.ptr 0 0)),(2,.g [.d (dI 0),.d (dI 0),.d (dI 1000),.d (dI 2),.d (dI 1),.d (cE [-900, -900])]),(6,.g [.d (dS (bs [77,97,105,110])),.d (xC [⟨0,500,1000, -1000,0⟩,⟨2000,500,1000, -1000,0⟩]),.d (dI 50),.d (dI 0),.d eK]),(14,.g [.d (j8 [⟨kB,30,1900,6,5⟩]),.d (oY [⟨bs [66,49],0,0,[⟨0,kB⟩]⟩])]),(16,.s (.d (BI [⟨kB,500⟩])))],[(0,some (.cells (iS ty38.zero)))]⟩) (H':=Hid.none) (HSub.ofM (pB.of aA [] [16] rfl rfl rfl ⟨⟨rfl,iP.rfl⟩,oO⟩ ⟨⟨rfl,cF.rfl⟩,⟨rfl,cF.rfl⟩,⟨rfl,cF.rfl⟩,⟨rfl,cF.rfl⟩,⟨rfl,(cF.own (List.mem_singleton.2 rfl) rfl).then (aU.d (aL.fW fun i j hi hj=>by have hi:i<1:=hi;have hj:j<2:=hj;match i,j,hi,hj with|0,0,_,_|0,1,_,_=>exact aL.refl _))⟩,oO⟩)) ?_
 refine bH.some (rc:=[]) aJ 1 aA [0] rfl rfl ?_
 refine bH.sub (σ':=⟨[(0,.s (.ptr 0 0)),(2,.g [.d (dI 0),.d (dI 0),.d (dI 1000),.d (dI 2),.d (dI 1),.d (cE [-900, -900])]),(6,.g [.d (dS (bs [77,97,105,110])),.d (xC [⟨0,500,1000, -1000,0⟩,⟨2000,500,1000, -1000,0⟩]),.d (dI 50),.d (dI 0),.d eK]),(14,.g [.d (j8 [⟨kB,30,1900,6,5⟩]),.d (oY [⟨bs [66,49],0,0,[⟨0,kB⟩]⟩])]),(16,.s (.d (BI [⟨kB,500⟩]))),(17,.s (.d (cE [0])))],[(0,some (.cells (iS ty38.zero)))]⟩) (H':=Hid.none) (HSub.ofM (pB.of aA [] [17] rfl rfl rfl ⟨⟨rfl,iP.rfl⟩,oO⟩ ⟨⟨rfl,cF.rfl⟩,⟨rfl,cF.rfl⟩,⟨rfl,cF.rfl⟩,⟨rfl,cF.rfl⟩,⟨rfl,cF.rfl⟩,⟨rfl,(cF.own (List.mem_singleton.2 rfl) rfl).then (aU.d (aL.fW fun i j hi hj=>by have hi:i<1:=hi;have hj:j<1:=hj;match i,j,hi,hj with|0,0,_,_=>exact aL.refl _))⟩,oO⟩)) ?_
 refine bH.some (rc:=[]) aJ 2 aA [0] rfl rfl ?_
 refine bH.sub (σ':=⟨[(0,.s (.ptr 0 0)),(2,.g [.d (dI 0),.d (dI 0),.d (dI 1000),.d (dI 2),.d (dI 1),.d (cE [-900, -900])]),(6,.g [.d (dS (bs [77,97,105,110])),.d (xC [⟨0,500,1000, -1000,0⟩,⟨2000,500,1000, -1000,0⟩]),.d (dI 50),.d (dI 0),.d eK]),(14,.g [.d (j8 [⟨kB,30,1900,6,5⟩]),.d (oY [⟨bs [66,49],0,0,[⟨0,kB⟩]⟩])]),(16,.s (.d (BI [⟨kB,500⟩]))),(19,.s (.d (qC [⟨M3,10000000, -2000, -1000,[0],100⟩])))],[(0,some (.cells (iS ty38.zero)))]⟩) (H':=Hid.none) (HSub.ofM (pB.of aA [] [19] rfl rfl rfl ⟨⟨rfl,iP.rfl⟩,oO⟩ ⟨⟨rfl,cF.rfl⟩,⟨rfl,cF.rfl⟩,⟨rfl,cF.rfl⟩,⟨rfl,cF.rfl⟩,⟨rfl,cF.rfl⟩,⟨rfl,(cF.own (List.mem_singleton.2 rfl) rfl).then (aU.d (aL.fW fun i j hi hj=>by have hi:i<1:=hi;have hj:j<6:=hj;match i,j,hi,hj with|0,0,_,_|0,1,_,_|0,2,_,_|0,3,_,_|0,4,_,_|0,5,_,_=>exact aL.refl _))⟩,oO⟩)) ?_
 refine bH.some (rc:=[]) aJ 3 aA [0] rfl rfl ?_
 refine bH.sub (σ':=⟨[(0,.s (.ptr 0 0)),(2,.g [.d (dI 0),.d (dI 0),.d (dI 1000),.d (dI 2),.d (dI 1),.d (cE [-900, -900])]),(6,.g [.d (dS (bs [77,97,105,110])),.d (xC [⟨0,500,1000, -1000,0⟩,⟨2000,500,1000, -1000,0⟩]),.d (dI 50),.d (dI 0),.d eK]),(14,.g [.d (j8 [⟨kB,30,1900,6,5⟩]),.d (oY [⟨bs [66,49],0,0,[⟨0,kB⟩]⟩])]),(16,.s (.d (BI [⟨kB,500⟩]))),(19,.s (.d (qC [⟨M3,10000000, -2000, -1000,[0],100⟩]))),(22,.s (.d (oA [⟨kB,6,5⟩])))],[(0,some (.cells (iS ty38.zero)))]⟩) (H':=Hid.none) (HSub.ofM (pB.of aA [] [22] rfl rfl rfl ⟨⟨rfl,iP.rfl⟩,oO⟩ ⟨⟨rfl,cF.rfl⟩,⟨rfl,cF.rfl⟩,⟨rfl,cF.rfl⟩,⟨rfl,cF.rfl⟩,⟨rfl,cF.rfl⟩,⟨rfl,cF.rfl⟩,⟨rfl,(cF.own (List.mem_singleton.2 rfl) rfl).then (aU.d (aL.fW fun i j hi hj=>by have hi:i<1:=hi;have hj:j<3:=hj;match i,j,hi,hj with|0,0,_,_|0,1,_,_|0,2,_,_=>exact aL.refl _))⟩,oO⟩)) ?_
 refine bH.some (rc:=[]) aJ 2 aA [0] rfl rfl ?_
 refine bH.nil ?_
 refine bN.ret ?_
 exact aC.le ⟨aL.refl _,aL.refl _,aL.refl _,aL.refl _,aL.refl _,aL.refl _,aL.refl _,aL.refl _,aL.refl _,aL.refl _,aL.refl _,aL.nil,aL.refl _,aL.refl _,aL.refl _,aL.refl _,aL.refl _,aL.nil,aL.refl _,aL.refl _,oO⟩
theorem told:aF prog 23 [] (iX WM):=by
 refine eW func23 rfl rfl call23 rfl rfl (fun cx aA=>AW.CD ?_)
 refine sA aA [] fun _ h'=>?_
 refine bN.seq (bN.region ?_)
 refine bH.some (rc:=[]) aJ 1 aA [] rfl rfl ?_
 refine bH.sub (σ':=⟨[(1,.s (.d (cE [-1000, -1060])))],[]⟩) (H':=Hid.none) (HSub.ofM (pB.of aA [] [1] rfl rfl rfl trivial ⟨⟨rfl,(cF.own (List.mem_singleton.2 rfl) rfl).then (aU.d (aL.fW fun i j hi hj=>by have hi:i<2:=hi;have hj:j<1:=hj;match i,j,hi,hj with|0,0,_,_|1,0,_,_=>exact aL.refl _))⟩,oO⟩)) ?_
 refine bH.some (rc:=[]) aJ 2 aA [] rfl rfl ?_
 refine bH.sub (σ':=⟨[(2,.g [.d (dI 0),.d (dI 1),.d (dI 0),.d (dI 1),.d (dI 0),.d (dI 0),.d (dI 0),.d (dI 0),.d (dI 0),.d (dS (bs [])),.d (dS (bs [])),.d (dS (bs [])),.d (cE [-1000, -1060])]),(3,.s (.d (cE [-1005, -1065])))],[]⟩) (H':=Hid.none) (HSub.ofM (pB.of aA [] [3] rfl rfl rfl trivial ⟨⟨rfl,cF.rfl⟩,⟨rfl,(cF.own (List.mem_singleton.2 rfl) rfl).then (aU.d (aL.fW fun i j hi hj=>by have hi:i<2:=hi;have hj:j<1:=hj;match i,j,hi,hj with|0,0,_,_|1,0,_,_=>exact aL.refl _))⟩,oO⟩)) ?_
 refine bH.some (rc:=[]) aJ 4 aA [] rfl rfl ?_
 refine bH.nil ?_
 refine bN.ret ?_
 refine aC.le (aL.fW fun i j hi hj=>?_)
 have hi:i<3:=hi
 have hj:j<13:=hj
 match i,j,hi,hj with
 |0,0,_,_|0,1,_,_|0,2,_,_|0,3,_,_|0,4,_,_|0,5,_,_|0,6,_,_|0,7,_,_|0,8,_,_|0,9,_,_|0,10,_,_|0,11,_,_|0,12,_,_|1,0,_,_|1,1,_,_|1,2,_,_|1,3,_,_|1,4,_,_|1,5,_,_|1,6,_,_|1,7,_,_|1,8,_,_|1,9,_,_|1,10,_,_|1,11,_,_|1,12,_,_|2,0,_,_|2,1,_,_|2,2,_,_|2,3,_,_|2,4,_,_|2,5,_,_|2,6,_,_|2,7,_,_|2,8,_,_|2,9,_,_|2,10,_,_|2,11,_,_=>exact aL.refl _
 |2,12,_,_=>exact aL.nil
end Go.Pj
namespace Go.Pj
open Go Go.Ax Go.Ch Go.Proofs Go.Proofs.Tryz
def V0(x:b9):List b9→List b9
 |[]=>[x]
 |y::r=>bif decide (x≤y)then x::y::r else y::V0 x r
def OH:List b9→List b9
 |[]=>[]
 |x::r=>V0 x (OH r)
theorem CJ(x:b9):∀l:List b9,(V0 x l).Perm (x::l)
 |[]=>List.Perm.refl _
 |y::r=>by
  rw[V0]
  cases decide (x≤y)with
  |true=>exact List.Perm.refl _
  |false=>exact((CJ x r).cons y).trans (List.Perm.swap x y r)
theorem JQ:∀l:List b9,(OH l).Perm l
 |[]=>List.Perm.refl _
 |x::r=>(CJ x (OH r)).trans ((JQ r).cons x)
theorem DK{x:b9}:∀{l:List b9},l.Pairwise (fun a b=>a≤b)→(V0 x l).Pairwise (fun a b=>a≤b)
 |[],_=>List.pairwise_singleton _ _
 |y::r,h=>by
  rw[V0]
  obtain⟨h1,h2⟩:=List.pairwise_cons.1 h
  cases hd:decide (x≤y)with
  |true=>
   have hd:x≤y:=of_decide_eq_true hd
   refine List.pairwise_cons.2 ⟨fun z hz=>?_,h⟩
   rcases List.mem_cons.1 hz with rfl|hz
   ·exact hd
   ·exact List.le_trans hd (h1 z hz)
  |false=>
   have hd:¬x≤y:=of_decide_eq_false hd
   refine List.pairwise_cons.2 ⟨fun z hz=>?_,DK h2⟩
   rcases List.mem_cons.1 ((CJ x r).mem_iff.1 hz)with rfl|hz
   ·exact List.le_of_lt (List.not_le.1 hd)
   ·exact h1 z hz
theorem DH:∀l:List b9,(OH l).Pairwise (fun a b=>a≤b)
 |[]=>List.Pairwise.nil
 |_::r=>DK (DH r)
theorem JA(l:List b9):mI l=OH l:=(wD l (OH l) (JQ l) ((DH l).imp fun {x y} h=>by rw[ltB,decide_eq_false_iff_not];exact List.not_lt.2 h)).symm
def aH5(G:List (ByteArray×Int))(e:gF):Option gF:=bif (fZ G e.1 e.2.1).isEmpty then none else some (e.1,vR (OH (fZ G e.1 e.2.1)),e.2.2)
def aB5(l:List Fact):List gF:=(gJ l l.length).filterMap (aH5 (o9 l l.length))
def aKX(l:List Fact):List Fact:=(OH ((aB5 l).map (·.1))).map fun k=>uN (F7 (aB5 l) k)
theorem U3(l:List Fact):tI l=aB5 l:=by
 unfold tI aB5 O8
 exact y9 fun e _=>by unfold zR aH5 uP;rw[JA]
theorem W4(l:List Fact):cntF l=aKX l:=by
 unfold cntF aKX qN
 rw[U3,JA]
abbrev exL:Fact:=⟨1,1,0,1,1,200000000,0,0,0,kB,M3,bs [],[]⟩
def WN:List Fact:=[exL,⟨0,1,0,1,0,0,0,0,0,bs [],bs [],bs [],[-1000, -1060]⟩,⟨0,1,1,1,0,0,0,0,0,bs [],bs [],bs [],[-1005, -1065]⟩]
theorem R5:cntF WM=WN:=by
 rw[W4]
 kernel_rfl
def aCN(p:Proj)(fs L:List Fact)(M:Nat):List Piece:=
 ((List.range p.aW.levels.length).foldl (wC p fs M) (pM (Rm.j7 (gV p L L.length).1 M (gV p L L.length).1.length),[])).2
theorem aGS:jL WN 1=[exL]:=by
 have e:sI WN 1=[exL]:=kR
 unfold jL H5
 rw[e]
 exact List.mergeSort_singleton _
theorem aKL:FV PB (cntF WM) 1=aCN PB WN [exL] 1:=by
 rw[R5]
 have:FV PB WN 1=aCN PB WN (jL WN (1:Nat)) 1:=rfl
 rw[this,show((1:Nat):Int)=1 from rfl,aGS]
def G2:Stmt:=aB2 PB 1 (aCN PB WN [exL] 1) (fN PB (aCN PB WN [exL] 1) 1) (LM PB WN 1 (x4 PB WN 1) 0) (nD PB WN 1 2)
theorem aAO:M8 PB WM 1=G2:=by
 unfold M8 G2
 rw[aKL,R5];rfl
theorem aDA:G2.total=96400:=by decide+kernel
theorem aGT:G2.over=12000000:=by decide+kernel
theorem aGV:G2.WS.map (·.iE)=[200000000]:=by decide+kernel
theorem aGU:F0 PB WM 1 1=0:=by decide+kernel
theorem aKM:j6 (WM.getD 0 default)=0:=by decide+kernel
theorem aI7(p:Proj)(fs:List Fact)(m:Int)(low:eZ)(h:p.cN=[]):aF prog 65 [QP p fs,vI m,w3 low] (S6 []):=by
 refine eW func65 rfl rfl call65 rfl rfl (fun cx aA=>?_)
 refine sX aA ?_
 refine sX aA ?_
 refine AW.seq (sX aA ?_)
 refine AW.block ?_
 refine AW.cV (fun _:Nat=>⟨[(7,.s (.d eK)),(14,vI 0),(15,vI 0)],[]⟩) (fun _=>True) (fun _=>0) 0 trivial ?_ ?_
 ·exact aS.bO aA [] rfl trivial ⟨qZ,⟨rfl,aU.int (by rw[h];rfl)⟩,qZ,oO⟩
 ·rintro _ _
  refine sX aA ?_
  refine AW.seq (AW.cond ?_)
  refine aI (fun g=>AW.skip ?_) (fun g=>AW.exit ?_)
  ·exact absurd (show(0:Int)<0 from bL g) dC
  ·refine eX aA ?_
   exact aC.le aL.nil
theorem aF7(f:Nat→Nat→DV):bT prog 316 [.s (.own 1001),vI 0,vI 1,.s (.dR 225 [])] [(1001,.row 40 1 13 f)] (.t []) [(1001,.row 40 1 13 f)]:=by
 refine kP func316 rfl rfl call316 aJ rfl rfl rfl rfl (fun cx aA=>?_)
 refine sX aA ?_
 refine AW.block ?_
 refine AW.cV (fun _:Nat=>⟨[(2,vI 1),(8,vI 1)],[(1001,some (.row 40 1 13 f))]⟩) (fun _=>True) (fun _=>0) 0 trivial ?_ ?_
 ·exact aS.of [] (by rw[aA];rfl) rfl ⟨bQ,oO⟩ ⟨qZ,⟨rfl,aU.int rfl⟩,oO⟩
 ·rintro _ _
  refine AW.seq (sX aA ?_)
  refine AW.cond ?_
  refine aI (fun g=>AW.skip ?_) (fun g=>AW.exit ?_)
  ·exact absurd (show(1:Int)<1 from bL g) dC
  ·exact⟨aC.refl _,rfl,oO⟩
theorem aFZ(f:Nat→Nat→DV)(n:Int):bT prog 272 [.s (.own 1001),vI 0,vI 1,vI n,.s (.dR 225 [])] [(1001,.row 40 1 13 f)] (.t []) [(1001,.row 40 1 13 f)]:=by
 refine kP func272 rfl rfl call272 aJ rfl rfl rfl rfl (fun cx aA=>?_)
 refine sX aA ?_
 refine sX aA ?_
 refine AW.block ?_
 refine AW.cV (fun _:Nat=>⟨[(0,.s (.own 1001)),(1,vI 0),(2,vI 1),(4,.s (.dR 225 []))],[(1001,some (.row 40 1 13 f))]⟩) (fun _=>True) (fun _=>0) 0 trivial ?_ ?_
 ·exact aS.of [] (by rw[aA];rfl) rfl ⟨bQ,oO⟩ ⟨qZ,qZ,qZ,qZ,oO⟩
 ·rintro _ _
  refine AW.block ?_
  refine sX aA ?_
  refine AW.seq (sX aA ?_)
  refine AW.cond ?_
  refine aI (fun g=>?_) (fun g=>?_)
  ·refine ex.sound (rc:=[316]) aJ mix aA _ ?_
   refine⟨[(1001,1001)],_,_,_,_,aF7 f,rfl,⟨rfl,oO⟩,rfl,?_⟩
   exact⟨aC.refl _,rfl,oO⟩
  ·have g:¬aV ((1:Int) - 0)≤12:=bG g
   exact absurd dC g
theorem aF6:aF prog 252 [.s (.d (.val (.int .u64 1)))] (vI 1):=by
 refine eP func252 rfl rfl call252 rfl rfl fun cx aA=>?_
 refine aI (fun g=>absurd (show(1:Int)≥4294967296 from bL g) dC) (fun _=>?_)
 refine aI (fun g=>absurd (show(1:Int)≥65536 from bL g) dC) (fun _=>?_)
 refine aI (fun g=>absurd (show(1:Int)≥256 from bL g) dC) (fun _=>?_)
 refine oi dC ?_
 exact aC.of_eq (by rfl)
theorem aCX:aF prog 269 [.s (.d (.val (.int .u64 1)))] (vI 1):=by
 refine eP func269 rfl rfl call269 rfl rfl fun cx aA=>?_
 refine aB (aF6) ?_
 exact aC.refl _
theorem aD0(f:Nat→Nat→DV):bT prog 224 [.s (.own 1001),.s (.dR 225 [])] [(1001,.row 40 1 13 f)] (.t []) [(1001,.row 40 1 13 f)]:=by
 refine fT (rc:=[272]) (N:=14) func224 rfl rfl call224 aJ mix rfl rfl rfl rfl (fun cx aA=>?_)
 refine aB aCX ?_
 refine⟨[(1001,1001)],_,_,_,_,aFZ f 1,rfl,⟨rfl,oO⟩,rfl,?_⟩
 exact⟨aC.refl _,rfl,oO⟩
theorem aAQ:PB.fits where
 name:=by decide+kernel
 aW:=by decide+kernel
 chan:=⟨by decide+kernel,by decide+kernel,by
  intro a ha
  rcases List.mem_cons.1 ha with rfl|ha
  ·exact⟨rfl,rfl,rfl,rfl,rfl⟩
  ·rw[List.mem_singleton.1 ha];exact⟨rfl,rfl,rfl,rfl,rfl⟩,rfl,rfl,by decide+kernel,fun _ h=>by cases h⟩
 regions:=by decide+kernel
 gr:=⟨by decide+kernel,by decide+kernel,fun x hx=>by rw[List.mem_singleton.1 hx];decide+kernel,fun x hx=>by rw[List.mem_singleton.1 hx];decide+kernel,fun x hx=>by rw[List.mem_singleton.1 hx];decide+kernel⟩
 cI:=by decide+kernel
 cN:=by decide+kernel
 small:=⟨by decide+kernel,by decide+kernel,by decide+kernel,by decide+kernel,fun x hx=>by rw[List.mem_singleton.1 hx];decide+kernel⟩
 uQ:=fun x hx=>by rw[List.mem_singleton.1 hx];decide+kernel
 qG:=fun x hx=>by rw[List.mem_singleton.1 hx];decide+kernel
theorem PC:∀f∈WM,f.fits:=by
 intro f hf
 rcases List.mem_cons.1 hf with rfl|hf
 ·exact⟨by decide+kernel,by decide+kernel,by decide+kernel,by decide+kernel⟩
 rcases List.mem_cons.1 hf with rfl|hf
 ·exact⟨by decide+kernel,by decide+kernel,by decide+kernel,by decide+kernel⟩
 ·rw[List.mem_singleton.1 hf];exact⟨by decide+kernel,by decide+kernel,by decide+kernel,by decide+kernel⟩
theorem aKJ:bs (kO (WM.getD 0 default))=⟨#[115,117,114,118,101,121,32,48,32,49,32,49,32,45,49,48,48,48,32,45,49,48,54,48]⟩:=by
 decide+kernel
theorem aKN:∃d,G2.WS=[d]∧d.iE=200000000:=by
 have h:=aGV
 cases hd:G2.WS with
 |nil=>rw[hd]at h;cases h
 |cons d r=>
  rw[hd]at h
  cases r with
  |nil=>exact⟨d,rfl,(List.cons.inj h).1⟩
  |cons e r=>cases(List.cons.inj h).2
theorem aKK:XF (cntF WM) (1:Nat):=by
 rw[R5]
 intro _
 have e:sI WN (1:Nat)=[exL]:=kR
 rw[e,show H5 [exL]=[exL] from List.mergeSort_singleton _]
 exact aD0 _
theorem aEY:aF prog 7 [] (vB true):=by
 have hS:=aD1 PB WM 1 aAQ PC dC aGU aKK (aI7 PB (cntF WM) (1:Nat) _ rfl)
 rw[aAO,aGT,aDA]at hS
 obtain⟨d,hd,hdv⟩:=aKN
 rw[hd]at hS
 have hF:=zO (WM.getD 0 default) (PC _ (cT dC))
 rw[aKM]at hF
 have hT:=aKJ
 generalize kO (WM.getD 0 default)=tx at hF hT
 refine eW func7 rfl rfl call7 rfl rfl (fun cx aA=>?_)
 refine sX aA ?_
 refine sX aA ?_
 refine aB (Example) ?_
 refine aB (told) ?_
 refine aB (hS) ?_
 refine sX aA ?_
 refine aB (told) ?_
 refine oi dC ?_
 refine aB (hF) ?_
 refine eX aA ?_
 repeat refine aR ?_
 refine og (fun _=>⟨dC,by show(0:Int)<1;decide⟩) ?_
 repeat refine aR ?_
 refine aC.of_eq (congrArg (fun b=>vB b) ?_)
 rw[hT]
 have e:([d].getD (Int.toNat 0) default).iE=200000000:=hdv
 rw[e]
 generalize ByteArray.toList _=u
 have eu:(u==u)=true:=beq_self_eq_true u
 rw[eu]
 rfl
def xS(f:Fact):Bool:= !within f.kind 0 3||(f.kind==3&& !within f.target 0 2)
theorem F8(f:Fact):oL f=cM (nB f) f:=by
 unfold oL nB
 cases h:f.kind==3 with
 |true=>rw[show(f.kind !=3)=false by simp[bne,h]];rfl
 |false=>rw[show(f.kind !=3)=true by simp[bne,h]];rfl
theorem AS{k:Int}(f:Fact)(h:k<0∨2<k):cM k f=2:=by
 unfold cM
 rw[show(k==0)=false by simp;omega,show(k==1)=false by simp;omega,show(k !=2)=true by simp;omega]
 rfl
theorem LN{f:Fact}(h:xS f=true):oL f=2:=by
 rw[F8]
 unfold xS at h
 unfold nB
 cases h3:f.kind==3 with
 |true=>
  have e:f.kind=3:=by simpa using h3
  rw[h3,e]at h
  have h2:within f.target 0 2=false:=by simpa [show within 3 0 3=true from rfl]using h
  refine AS f ?_
  have:¬(0≤f.target∧f.target≤2):=fun h=>by rw[within_iff.2 h]at h2;cases h2
  simp only [cond_true]
  omega
 |false=>
  rw[h3,Bool.false_and,Bool.or_false]at h
  have e:f.kind≠3:=by simpa using h3
  have:¬(0≤f.kind∧f.kind≤3):=fun h'=>by rw[within_iff.2 h']at h;cases h
  refine AS f ?_
  simp only [cond_false]
  omega
theorem IF{f:Fact}(h:xS f=false):nB f=0∨nB f=1∨nB f=2:=by
 unfold xS at h
 unfold nB
 rw[Bool.or_eq_false_iff]at h
 have h1:=within_iff.1 (show within f.kind 0 3=true by simpa using h.1)
 cases h3:f.kind==3 with
 |true=>
  rw[h3]at h
  have h2:=within_iff.1 (show within f.target 0 2=true by simpa using h.2)
  simp only [cond_true]
  omega
 |false=>
  have e:f.kind≠3:=by simpa using h3
  simp only [cond_false]
  omega
def xH(f:Fact):b9:=nC (cS (nB f) f)
theorem pF{f:Fact}(he:oL f=0):lI f=bif f.kind==3 then jY++ [32]++xH f else xH f:=by
 unfold lI
 rw[he]
 show nC (nV f)=_
 unfold nV xH nB
 cases h:f.kind==3 with
 |true=>
  rw[show(f.kind !=3)=false by simp[bne,h]]
  simp only [cond_false,cond_true]
  have:=nJ f.target f
  exact RB jY (fun h=>by rw[h]at this;simp at this)
 |false=>rw[show(f.kind !=3)=true by simp[bne,h]];rfl
theorem CY{f:Fact}(he:oL f=0):(xH f).length≤45:=by
 have h:=sK (GA (k:=nB f) (f:=f) (by rw[←F8];exact he))
 have h2:=nJ (nB f) f
 have h3:=Nat.mul_le_mul_right (14+1) h2.2
 unfold xH
 omega
theorem aLW(f:Fact)(hf:f.fits):aF prog 13 [p8 f] (.t [.s (.d (dT (lI f))),.s (.d (dI (oL f)))]):=by
 have bad:oL f≠0→lI f=[]:=fun h=>by unfold lI;rw[show(oL f==0)=false by simpa using h];rfl
 refine eP func13 rfl rfl call13 rfl rfl fun cx aA=>?_
 refine aB (cD _ _ _) ?_
 repeat refine aR ?_
 refine bS (cD _ _ _) ?_
 repeat refine aR ?_
 refine aI (fun g=>?_) (fun g=>?_)
 ·have g:xS f=true:=g
  have e:=LN g
  exact aC.of_eq (by rw[bad (by rw[e];decide),e];rfl)
 have g:xS f=false:=g
 refine aB (aFJ f) ?_
 have hk:oL f=cM (nB f) f:=F8 f
 refine aI (fun k0=>?_) (fun k0=>?_)
 ·have k0:(nB f==0)=true:=k0
  have k0':nB f=0:=by simpa using k0
  refine aB (cD _ _ _) ?_
  repeat refine aR ?_
  refine bS (cD _ _ _) ?_
  repeat refine aR ?_
  refine aI (fun g1=>?_) (fun g1=>?_)
  ·have g1:(!within f.bM 0 2|| !within f.month 0 24)=true:=g1
   have e:oL f=2:=by
    rw[hk,k0']
    unfold cM
    revert g1
    cases within f.bM 0 2 <;> cases within f.month 0 24 <;> simp
   exact aC.of_eq (by rw[bad (by rw[e];decide),e];rfl)
  ·have g1:(!within f.bM 0 2|| !within f.month 0 24)=false:=g1
   have e:oL f=0:=by
    rw[hk,k0']
    unfold cM
    revert g1
    cases within f.bM 0 2 <;> cases within f.month 0 24 <;> simp
   rw[Bool.or_eq_false_iff]at g1
   have g2:=within_iff.1 (show within f.bM 0 2=true by simpa using g1.1)
   have g3:=within_iff.1 (show within f.month 0 24=true by simpa using g1.2)
   have l1:(Lib.itoa f.bM).length≤14:=l4 oM
   have l2:(Lib.itoa f.month).length≤14:=l4 oM
   have hB:xH f=[115,117,114,118,101,121,32]++Lib.itoa f.bM++ [32]++Lib.itoa f.month:=by
    unfold xH
    rw[k0']
    show nC [qS,Lib.itoa f.bM,Lib.itoa f.month]=_
    rw[jJ,jJ,sJ]
    simp[qS]
   refine aB (E7 f.bM oM oM) ?_
   refine oi (show(bs [115,117,114,118,101,121,32]).size+(bs (Lib.itoa f.bM)).size≤9223372036854775807 by simp only [fH,List.length_cons,List.length_nil];omega) ?_
   refine oi (show(bs [115,117,114,118,101,121,32]++bs (Lib.itoa f.bM)).size+(bs [32]).size≤9223372036854775807 by simp only [jR,fH,List.length_append,List.length_cons,List.length_nil];omega) ?_
   refine aB (E7 f.month oM oM) ?_
   refine oi (show(bs [115,117,114,118,101,121,32]++bs (Lib.itoa f.bM)++bs [32]).size+(bs (Lib.itoa f.month)).size≤9223372036854775807 by simp only [jR,fH,List.length_append,List.length_cons,List.length_nil];omega) ?_
   refine aD ?_
   have qL:=CY e
   rw[hB]at qL
   refine aI (fun g5=>?_) (fun g5=>?_)
   ·have g5:(f.kind==3)=true:=g5
    refine oi (show(bs [119,105,116,104,100,114,97,119,32]).size+(bs [115,117,114,118,101,121,32]++bs (Lib.itoa f.bM)++bs [32]++bs (Lib.itoa f.month)).size≤9223372036854775807 by simp only [jR,fH,List.length_append,List.length_cons,List.length_nil]at qL ⊢;omega) ?_
    refine aC.of_eq ?_
    rw[e,pF e,g5,hB]
    show AV.t [.s (.d (.val (.string (bs [119,105,116,104,100,114,97,119,32]++(bs [115,117,114,118,101,121,32]++bs (Lib.itoa f.bM)++bs [32]++bs (Lib.itoa f.month)))))),.s (.d (dI 0))]=_
    simp only [jR,cond_true]
    rfl
   ·have g5:(f.kind==3)=false:=g5
    refine aC.of_eq ?_
    rw[e,pF e,g5,hB]
    show AV.t [.s (.d (.val (.string (bs [115,117,114,118,101,121,32]++bs (Lib.itoa f.bM)++bs [32]++bs (Lib.itoa f.month))))),.s (.d (dI 0))]=_
    simp only [jR,cond_false]
 ·have k0:(nB f==0)=false:=k0
  refine aI (fun k1=>?_) (fun k1=>?_)
  ·have k1:(nB f==1)=true:=k1
   have k1':nB f=1:=by simpa using k1
   refine aB (cD _ _ _) ?_
   repeat refine aR ?_
   refine aI (fun g1=>?_) (fun g1=>?_)
   ·have g1:(!within f.number 1 1000000)=true:=g1
    have e:oL f=2:=by
     rw[hk,k1']
     unfold cM
     revert g1
     cases within f.number 1 1000000 <;> simp
    exact aC.of_eq (by rw[bad (by rw[e];decide),e];rfl)
   ·have g1:(!within f.number 1 1000000)=false:=g1
    have e:oL f=0:=by
     rw[hk,k1']
     unfold cM
     revert g1
     cases within f.number 1 1000000 <;> simp
    have g2:=within_iff.1 (show within f.number 1 1000000=true by simpa using g1)
    have l1:(Lib.itoa f.number).length≤14:=l4 oM
    have hB:xH f=[108,111,97,100,32]++Lib.itoa f.number:=by
     unfold xH
     rw[k1']
     show nC [C3,Lib.itoa f.number]=_
     rw[jJ,sJ]
     simp[C3]
    refine aB (E7 f.number oM oM) ?_
    refine oi (show(bs [108,111,97,100,32]).size+(bs (Lib.itoa f.number)).size≤9223372036854775807 by simp only [fH,List.length_cons,List.length_nil];omega) ?_
    have qL:=CY e
    rw[hB]at qL
    refine aI (fun g5=>?_) (fun g5=>?_)
    ·have g5:(f.kind==3)=true:=g5
     refine oi (show(bs [119,105,116,104,100,114,97,119,32]).size+(bs [108,111,97,100,32]++bs (Lib.itoa f.number)).size≤9223372036854775807 by simp only [jR,fH,List.length_append,List.length_cons,List.length_nil]at qL ⊢;omega) ?_
     refine aC.of_eq ?_
     rw[e,pF e,g5,hB]
     show AV.t [.s (.d (.val (.string (bs [119,105,116,104,100,114,97,119,32]++(bs [108,111,97,100,32]++bs (Lib.itoa f.number)))))),.s (.d (dI 0))]=_
     simp only [jR,cond_true]
     rfl
    ·have g5:(f.kind==3)=false:=g5
     refine aC.of_eq ?_
     rw[e,pF e,g5,hB]
     show AV.t [.s (.d (.val (.string (bs [108,111,97,100,32]++bs (Lib.itoa f.number))))),.s (.d (dI 0))]=_
     simp only [jR,cond_false]
  ·have k1:(nB f==1)=false:=k1
   have k2':nB f=2:=by
    rcases IF g with h|h|h
    ·rw[h]at k0;cases k0
    ·rw[h]at k1;cases k1
    ·exact h
   refine aB (cD _ _ _) ?_
   repeat refine aR ?_
   refine aI (fun g1=>?_) (fun g1=>?_)
   ·have g1:(!within f.month 1 24)=true:=g1
    have e:oL f=2:=by
     rw[hk,k2']
     unfold cM
     revert g1
     cases within f.month 1 24 <;> simp
    exact aC.of_eq (by rw[bad (by rw[e];decide),e];rfl)
   ·have g1:(!within f.month 1 24)=false:=g1
    refine aB (rT f.eO hf.eO) ?_
    repeat refine aR ?_
    refine aI (fun g4=>?_) (fun g4=>?_)
    ·have g4:(!isName f.eO)=true:=g4
     have e:oL f=4:=by
      rw[hk,k2']
      unfold cM
      revert g1 g4
      cases within f.month 1 24 <;> cases isName f.eO <;> simp
     exact aC.of_eq (by rw[bad (by rw[e];decide),e];rfl)
    ·have g4:(!isName f.eO)=false:=g4
     have e:oL f=0:=by
      rw[hk,k2']
      unfold cM
      revert g1 g4
      cases within f.month 1 24 <;> cases isName f.eO <;> simp
     have g2:=within_iff.1 (show within f.month 1 24=true by simpa using g1)
     have l1:(Lib.itoa f.month).length≤14:=l4 oM
     have l2:=kL (show isName f.eO=true by simpa using g4)
     have l3:(tx f.eO).length≤12:=by rw[vY];omega
     have hB:xH f=[119,97,105,118,101,32]++tx f.eO++ [32]++Lib.itoa f.month:=by
      unfold xH
      rw[k2']
      show nC [vW,tx f.eO,Lib.itoa f.month]=_
      rw[jJ,jJ,sJ]
      simp[vW]
     refine oi (show(bs [119,97,105,118,101,32]).size+(f.eO).size≤9223372036854775807 by rw[fH];simp only [List.length_cons,List.length_nil];omega) ?_
     refine oi (show(bs [119,97,105,118,101,32]++f.eO).size+(bs [32]).size≤9223372036854775807 by rw[←D9 f.eO];simp only [jR,fH,List.length_append,List.length_cons,List.length_nil];omega) ?_
     refine aB (E7 f.month oM oM) ?_
     refine oi (show(bs [119,97,105,118,101,32]++f.eO++bs [32]).size+(bs (Lib.itoa f.month)).size≤9223372036854775807 by rw[←D9 f.eO];simp only [jR,fH,List.length_append,List.length_cons,List.length_nil];omega) ?_
     refine aD ?_
     have qL:=CY e
     rw[hB]at qL
     refine aI (fun g5=>?_) (fun g5=>?_)
     ·have g5:(f.kind==3)=true:=g5
      refine oi (show(bs [119,105,116,104,100,114,97,119,32]).size+(bs [119,97,105,118,101,32]++f.eO++bs [32]++bs (Lib.itoa f.month)).size≤9223372036854775807 by rw[←D9 f.eO];simp only [jR,fH,List.length_append,List.length_cons,List.length_nil]at qL ⊢;omega) ?_
      refine aC.of_eq ?_
      rw[e,pF e,g5,hB]
      show AV.t [.s (.d (.val (.string (bs [119,105,116,104,100,114,97,119,32]++(bs [119,97,105,118,101,32]++f.eO++bs [32]++bs (Lib.itoa f.month)))))),.s (.d (dI 0))]=_
      rw[show bs [119,97,105,118,101,32]++f.eO=bs ([119,97,105,118,101,32]++tx f.eO) by rw[←jR,D9]]
      simp only [jR,cond_true]
      rfl
     ·have g5:(f.kind==3)=false:=g5
      refine aC.of_eq ?_
      rw[e,pF e,g5,hB]
      show AV.t [.s (.d (.val (.string (bs [119,97,105,118,101,32]++f.eO++bs [32]++bs (Lib.itoa f.month))))),.s (.d (dI 0))]=_
      rw[show bs [119,97,105,118,101,32]++f.eO=bs ([119,97,105,118,101,32]++tx f.eO) by rw[←jR,D9]]
      simp only [jR,cond_false]
theorem KZ{f:Fact}(h:lW f=false):iZ f=2:=by
 unfold lW at h
 unfold iZ
 cases h1:within f.seq 0 1000000 with
 |false=>rfl
 |true=>
  rw[h1]at h
  cases h2:f.kind==1 with
  |true=>
   rw[h2]at h
   have k0:(f.kind==0)=false:=by
    have:f.kind=1:=by simpa using h2
    rw[this];rfl
   have h3:jN f=true:=by simpa using h
   rw[k0,h3];rfl
  |false=>
   rw[h2]at h
   cases h3:f.kind==0 with
   |false=>rw[h3]at h;cases h
   |true=>
    rw[h3]at h
    have h4:f.levels.any iR=true:=by
     cases h5:f.levels.any iR with
     |true=>rfl
     |false=>rw[h5]at h;cases h
    rw[h4];rfl
theorem QW{f:Fact}(h:lW f=true):iZ f=bif f.kind==1&&(!isName f.aO|| !isName f.dO)then 4 else bif f.kind==0&&decide ((f.levels.length:Int)>100)then 8 else 0:=by
 unfold lW at h
 unfold iZ
 cases h1:within f.seq 0 1000000 with
 |false=>rw[h1]at h;cases h
 |true=>
  rw[h1]at h
  cases h2:f.kind==1 with
  |true=>
   rw[h2]at h
   have k0:(f.kind==0)=false:=by
    have:f.kind=1:=by simpa using h2
    rw[this];rfl
   have h3:jN f=false:=by simpa using h
   rw[k0,h3]
   cases !isName f.aO|| !isName f.dO <;> rfl
  |false=>
   rw[h2]at h
   cases h3:f.kind==0 with
   |false=>rfl
   |true=>
    rw[h3]at h
    have h4:f.levels.any iR=false:=by
     cases h5:f.levels.any iR with
     |false=>rfl
     |true=>rw[h5]at h;cases h
    rw[h4]
    cases decide ((f.levels.length:Int)>100) <;> rfl
theorem QY(f:Fact)(hf:f.fits):aF prog 49 [p8 f] (vI (j6 f)):=by
 refine eP func49 rfl rfl call49 rfl rfl fun cx aA=>?_
 refine aB (aLW f hf) ?_
 refine aI (fun h1=>?_) (fun h1=>?_)
 ·have h1:(oL f !=0)=true:=h1
  exact aC.of_eq (by unfold j6;rw[h1];rfl)
 have h1:(oL f !=0)=false:=h1
 have e1:j6 f=iZ f:=by unfold j6;rw[h1];rfl
 refine aB (aB9 f hf) ?_
 refine aI (fun h2=>?_) (fun h2=>?_)
 ·have h2:(!lW f)=true:=h2
  exact aC.of_eq (by rw[e1,KZ (by simpa using h2)];rfl)
 have h2:(!lW f)=false:=h2
 have e2:=QW (f:=f) (by simpa using h2)
 repeat refine aR ?_
 refine bS (rT f.aO hf.aO) ?_
 repeat refine aR ?_
 refine bS (rT f.dO hf.dO) ?_
 repeat refine aR ?_
 refine aI (fun h3=>?_) (fun h3=>?_)
 ·have h3:(f.kind==1&&(!isName f.aO|| !isName f.dO))=true:=h3
  exact aC.of_eq (by rw[e1,e2,h3];rfl)
 have h3:(f.kind==1&&(!isName f.aO|| !isName f.dO))=false:=h3
 repeat refine aR ?_
 refine aI (fun h4=>?_) (fun h4=>?_)
 ·have h4:(f.kind==0&&decide ((f.levels.length:Int)>100))=true:=h4
  exact aC.of_eq (by rw[e1,e2,h3,h4];rfl)
 ·have h4:(f.kind==0&&decide ((f.levels.length:Int)>100))=false:=h4
  exact aC.of_eq (by rw[e1,e2,h3,h4];rfl)
theorem VJ(p:Proj)(f:Fact)(hf:f.fits):aF prog 41 [vE p,p8 f] (vI (MX p f)):=by
 refine eP func41 rfl rfl call41 rfl rfl fun cx aA=>?_
 refine aB (QY f hf) ?_
 refine aI (fun h1=>?_) (fun h1=>?_)
 ·have h1:(j6 f !=0)=true:=h1
  exact aC.of_eq (by unfold MX;rw[h1];rfl)
 have h1:(j6 f !=0)=false:=h1
 repeat refine aR ?_
 refine aI (fun h2=>?_) (fun h2=>?_)
 ·have h2:tJ p f=true:=h2
  exact aC.of_eq (by unfold MX;rw[h1,h2];rfl)
 ·have h2:tJ p f=false:=h2
  exact aC.of_eq (by unfold MX;rw[h1,h2];rfl)
theorem Q2(p:Proj)(f:Fact)(hp:p.fits)(hf:f.fits):aF prog 11 [vE p,p8 f] (vI (D1 p f)):=by
 refine eP func11 rfl rfl call11 rfl rfl fun cx aA=>?_
 refine aB (yG p hp) ?_
 refine aI (fun h1=>?_) (fun h1=>?_)
 ·have h1:(fJ p !=0)=true:=h1
  exact aC.of_eq (by unfold D1;rw[h1];rfl)
 have h1:(fJ p !=0)=false:=h1
 refine aB (VJ p f hf) ?_
 exact aC.of_eq (by unfold D1;rw[h1];rfl)
structure Proj.okk(p:Proj):Prop where
 name:p.name.size≤9223372036854775807
 aW:p.aW.levels.length≤9223372036854775807
 chan:p.chan.ok
 gr:p.gr.fits
 cI:p.cI.length≤9223372036854775807
 cN:p.cN.length≤9223372036854775807
 uQ:∀x∈p.aP,x.name.size≤9223372036854775807
 qG:∀x∈p.a8,x.aO.size≤9223372036854775807
theorem Proj.okk.fits{p:Proj}(h:p.okk)(hg:tT p=false):p.fits:=by
 simp only [tT,gr0,Bool.or_eq_false_iff,decide_eq_false_iff_not]at hg
 obtain⟨⟨⟨g0,_⟩,_⟩,g3⟩:=hg
 refine⟨h.name,h.aW,h.chan,h.chan.regions,h.gr,h.cI,h.cN,⟨by show p.aP.length≤_;omega,by show p.a8.length≤_;omega,Nat.zero_le _,by show(List.replicate p.a8.length (0:Int)).length≤_;rw[List.length_replicate];omega,fun x hx=>?_⟩,h.uQ,h.qG⟩
 have:=List.any_eq_false.1 g3 x hx
 simp only [grP,decide_eq_true_eq]at this
 omega
theorem rP(p:Proj)(f:Fact)(hp:p.okk)(hf:f.fits):aF prog 3 [vE p,p8 f] (vB true):=by
 refine eP func3 rfl rfl call3 rfl rfl fun cx aA=>?_
 refine aB (aGQ p) ?_
 repeat refine aR ?_
 refine bS (aKD f) ?_
 repeat refine aR ?_
 refine aI (fun h=>?_) (fun h=>?_)
 ·refine aB (aEY) ?_
  exact aC.refl _
 have h:(tT p||aEC f)=false:=h
 rw[Bool.or_eq_false_iff]at h
 have o7:=hp.fits h.1
 refine aB (uF p o7) ?_
 refine aB (yG p o7) ?_
 repeat refine aR ?_
 refine bS (XO p f o7 hf) ?_
 repeat refine aR ?_
 refine bS (Q2 p f o7 hf) ?_
 repeat refine aR ?_
 refine bS (aEY) ?_
 repeat refine aR ?_
 refine aD ?_
 exact aC.of_eq (by show vB (fJ p==fJ p&&D1 p f==D1 p f&&true)=vB true;rw[beq_self_eq_true,beq_self_eq_true];rfl)
abbrev lim(n:Nat):Prop:=n≤9223372036854775807
theorem aEA:Rd prog 137 2 (fun p:Int×Int=>[.d (dI p.1),.d (dI p.2)]) (fun _=>True):=
 (eV underlying137 rfl kR (aQ rfl rI (aQ rfl rI iT))).to (fun a=>(a.1,a.2.1)) (fun _=>rfl) (fun _ _=>trivial)
theorem aII:Rd prog 139 5 (fun s:kQ=>[.d (dS s.name),.d (dI s.run),.d (dI s.aDJ),.d (dI s.num),.d (dI s.den)]) (fun s=>lim s.name.size):=
 (eV underlying139 rfl kR (aQ rfl rS (aQ rfl rI (aQ rfl rI (aQ rfl aEA iT))))).to (fun a=>⟨a.1,a.2.1,a.2.2.1,a.2.2.2.1.1,a.2.2.2.1.2⟩) (fun _=>rfl) (fun _ h=>h.1)
theorem aFR:Rd prog 29 1 (fun l:List kQ=>[.d (j8 l)]) (fun l=>lim l.length∧∀a∈l,lim a.name.size):=
 kI underlying29 kR aII dC aD7 (fun _=>rfl) (fun a j hj=>by match j,hj with|0,_|1,_|2,_|3,_|4,_=>rfl)
theorem aFS:Rd prog 141 2 (fun s:q9=>[.d (dI s.top),.d (dS s.aO)]) (fun _=>True):=
 (eV underlying141 rfl kR (aQ rfl rI (aQ rfl rS iT))).to (fun a=>⟨a.1,a.2.1⟩) (fun _=>rfl) (fun _ _=>trivial)
theorem aCG:Rd prog 65 1 (fun l:List q9=>[.d (lY l)]) (fun l=>lim l.length∧∀a∈l,True):=
 kI underlying65 kR aFS dC aI5 (fun _=>rfl) (fun a j hj=>by match j,hj with|0,_|1,_=>rfl)
theorem aL2:Rd prog 67 4 (fun s:fF=>[.d (dS s.name),.d (dI s.x),.d (dI s.y),.d (lY s.bA)]) (fun s=>lim s.name.size∧lim s.bA.length):=
 (eV underlying67 rfl kR (aQ rfl rS (aQ rfl rI (aQ rfl rI (aQ rfl aCG iT))))).to (fun a=>⟨a.1,a.2.1,a.2.2.1,a.2.2.2.1⟩) (fun _=>rfl) (fun _ h=>⟨h.1,h.2.2.2.1.1⟩)
theorem aIP:Rd prog 30 1 (fun l:List fF=>[.d (oY l)]) (fun l=>lim l.length∧∀a∈l,lim a.name.size∧lim a.bA.length):=
 kI underlying30 kR aL2 dC aK7 (fun _=>rfl) (fun a j hj=>by match j,hj with|0,_|1,_|2,_|3,_=>rfl)
theorem aLU:Rd prog 143 2 (fun s:o4=>[.d (dS s.aO),.d (dI s.uW)]) (fun _=>True):=
 (eV underlying143 rfl kR (aQ rfl rS (aQ rfl rI iT))).to (fun a=>⟨a.1,a.2.1⟩) (fun _=>rfl) (fun _ _=>trivial)
theorem aIM:Rd prog 33 1 (fun l:List o4=>[.d (BI l)]) (fun l=>lim l.length∧∀a∈l,True):=
 kI underlying33 kR aLU dC aFW (fun _=>rfl) (fun a j hj=>by match j,hj with|0,_|1,_=>rfl)
theorem aLR:Rd prog 161 3 (fun s:yE=>[.d (dS s.name),.d (dI s.due),.d (dI s.Y5)]) (fun _=>True):=
 (eV underlying161 rfl kR (aQ rfl rS (aQ rfl rI (aQ rfl rI iT)))).to (fun a=>⟨a.1,a.2.1,a.2.2.1⟩) (fun _=>rfl) (fun _ _=>trivial)
theorem aIJ:Rd prog 34 1 (fun l:List yE=>[.d (PI l)]) (fun l=>lim l.length∧∀a∈l,True):=
 kI underlying34 kR aLR dC aFH (fun _=>rfl) (fun a j hj=>by match j,hj with|0,_|1,_|2,_=>rfl)
theorem aLV:Rd prog 69 6 (fun s:tD=>[.d (dS s.name),.d (dI s.MN),.d (dI s.base),.d (dI s.top),.d (cE s.aT),.d (dI s.FQ)]) (fun s=>lim s.name.size):=
 (eV underlying69 rfl kR (aQ rfl rS (aQ rfl rI (aQ rfl rI (aQ rfl rI (aQ rfl Y1 (aQ rfl rI iT))))))).to (fun a=>⟨a.1,a.2.1,a.2.2.1,a.2.2.2.1,a.2.2.2.2.1,a.2.2.2.2.2.1⟩) (fun _=>rfl) (fun _ h=>h.1)
theorem aIN:Rd prog 35 1 (fun l:List tD=>[.d (qC l)]) (fun l=>lim l.length∧∀a∈l,lim a.name.size):=
 kI underlying35 kR aLV dC VO (fun _=>rfl) (fun a j hj=>by match j,hj with|0,_|1,_|2,_|3,_|4,_|5,_=>rfl)
theorem aL3:Rd prog 145 3 (fun s:mM=>[.d (dS s.aO),.d (dI s.num),.d (dI s.den)]) (fun s=>lim s.aO.size):=
 (eV underlying145 rfl kR (aQ rfl rS (aQ rfl aEA iT))).to (fun a=>⟨a.1,a.2.1.1,a.2.1.2⟩) (fun _=>rfl) (fun _ h=>h.1)
theorem aIQ:Rd prog 36 1 (fun l:List mM=>[.d (oA l)]) (fun l=>lim l.length∧∀a∈l,lim a.aO.size):=
 kI underlying36 kR aL3 dC aK9 (fun _=>rfl) (fun a j hj=>by match j,hj with|0,_|1,_|2,_=>rfl)
theorem aLZ:Rd prog 32 2 (fun g:Ground=>[.d (j8 g.bE),.d (oY g.b6)]) Ground.fits:=
 (eV underlying32 rfl kR (aQ rfl aFR (aQ rfl aIP iT))).to (fun a=>⟨a.1,a.2.1⟩) (fun _=>rfl) (fun _ h=>⟨h.1.1,h.2.1.1,h.1.2,fun x hx=>(h.2.1.2 x hx).1,fun x hx=>(h.2.1.2 x hx).2⟩)
theorem aLY:Rd prog 24 6 (fun g:eZ=>[.d (dI g.x),.d (dI g.y),.d (dI g.side),.d (dI g.dL),.d (dI g.rows),.d (cE g.levels)]) (fun g=>lim g.levels.length):=
 (eV underlying24 rfl kR (aQ rfl rI (aQ rfl rI (aQ rfl rI (aQ rfl rI (aQ rfl rI (aQ rfl Y1 iT))))))).to (fun a=>⟨a.1,a.2.1,a.2.2.1,a.2.2.2.1,a.2.2.2.2.1,a.2.2.2.2.2.1⟩) (fun _=>rfl) (fun _ h=>h.2.2.2.2.2.1.1)
theorem aL1:Rd prog 28 5 (fun c:jS=>[.d (dS c.name),.d (xC c.aX),.d (dI c.over),.d (dI c.buffer),.d (yM c.regions)]) jS.ok:=
 (eV underlying28 rfl kR (aQ rfl rS (aQ rfl aL4 (aQ rfl rI (aQ rfl rI (aQ rfl aIK iT)))))).to (fun a=>⟨a.1,a.2.1,a.2.2.1,a.2.2.2.1,a.2.2.2.2.1⟩) (fun _=>rfl)
  (fun _ h=>⟨h.1,h.2.1.1,h.2.1.2,h.2.2.1,h.2.2.2.1,h.2.2.2.2.1.1,h.2.2.2.2.1.2⟩)
theorem aIL:RdA prog 38 vE Proj.okk:=
 TF (k:=20) underlying38 ((eV underlying38 rfl kR (aQ rfl rS (aQ rfl aLY (aQ rfl aL1 (aQ rfl aLZ (aQ rfl rI (aQ rfl rI (aQ rfl aIM (aQ rfl aIJ (aQ rfl aIN (aQ rfl aIQ iT))))))))))).to
  (fun a=>(⟨a.1,a.2.1,a.2.2.1,a.2.2.2.1,a.2.2.2.2.1,a.2.2.2.2.2.1,a.2.2.2.2.2.2.1,a.2.2.2.2.2.2.2.1,a.2.2.2.2.2.2.2.2.1,a.2.2.2.2.2.2.2.2.2.1⟩:Proj)) (fun _=>rfl)
  (fun _ h=>⟨h.1,h.2.1,h.2.2.1,h.2.2.2.1,h.2.2.2.2.2.2.1.1,h.2.2.2.2.2.2.2.1.1,h.2.2.2.2.2.2.2.2.1.2,h.2.2.2.2.2.2.2.2.2.1.2⟩))
theorem aL0:Rd prog 40 13 (fun f:Fact=>[.d (dI f.kind),.d (dI f.seq),.d (dI f.bM),.d (dI f.month),.d (dI f.number),.d (dI f.aW),.d (dI f.over),.d (dI f.cls),.d (dI f.target),.d (dS f.aO),.d (dS f.dO),.d (dS f.eO),.d (cE f.levels)]) Fact.fits:=
 (eV underlying40 rfl kR (aQ rfl rI (aQ rfl rI (aQ rfl rI (aQ rfl rI (aQ rfl rI (aQ rfl rI (aQ rfl rI (aQ rfl rI (aQ rfl rI (aQ rfl rS (aQ rfl rS (aQ rfl rS (aQ rfl Y1 iT)))))))))))))).to
  (fun a=>(⟨a.1,a.2.1,a.2.2.1,a.2.2.2.1,a.2.2.2.2.1,a.2.2.2.2.2.1,a.2.2.2.2.2.2.1,a.2.2.2.2.2.2.2.1,a.2.2.2.2.2.2.2.2.1,a.2.2.2.2.2.2.2.2.2.1,a.2.2.2.2.2.2.2.2.2.2.1,a.2.2.2.2.2.2.2.2.2.2.2.1,a.2.2.2.2.2.2.2.2.2.2.2.2.1⟩:Fact)) (fun _=>rfl)
  (fun _ h=>⟨h.2.2.2.2.2.2.2.2.2.2.2.2.1.1,h.2.2.2.2.2.2.2.2.2.1,h.2.2.2.2.2.2.2.2.2.2.1,h.2.2.2.2.2.2.2.2.2.2.2.1⟩)
theorem aIO:RdA prog 40 p8 Fact.fits:=TF (k:=13) underlying40 aL0
end Go.Pj
