/- Part 9: lemmas that the proofs of this seat share; by itself it claims nothing. -/
import Derived.Test.YtaalojbkjiplcaaGreatDoorPt8
set_option maxRecDepth 100000
set_option maxHeartbeats 1000000
namespace Go.Pj
open Go Go.Ax Go.Ch Go.Proofs Go.Proofs.Tryz
def aC4:List Piece→AV
 |[]=>.s (.d dK)
 |_::_=>.s (.own 100)
def aC5:List Piece→aO
 |[]=>[]
 |x::r=>[(100,some (.row 130 (x::r).length 7 (dY (x::r))))]
abbrev j6(p:Proj):List SV:=[.d (dI p.aS.x),.d (dI p.aS.y),.d (dI p.aS.side),.d (dI p.aS.dP),.d (dI p.aS.rows),.d (cG (lU p.chan p.aS p.chan.over).levels)]
def HR(p:Proj)(fs:List Fact)(M:Nat)(bm i:Nat)(out:List Piece):St:=
 ⟨(7,aC4 out):: [(1,vI M),(2,.s (.d (cP (cY p fs (M+1))))),(3,.s (.ptr 3 0)),(8,dG bm),(9,.s (.ptr 9 0)),(11,vI (c8 p)),(51,vI p.aS.levels.length),(52,vI i)],[(3,some (.cells (k9 p fs))),(9,some (.cells (j6 p)))]++aC5 out⟩
def DD(p:Proj)(fs:List Fact)(M:Nat)(E:List lO)(i:Nat):PS:=(List.range i).foldl (vG p fs M) (E,[])
theorem FZ(p:Proj)(fs:List Fact)(M:Nat)(E:List lO)(i:Nat):DD p fs M E (i+1)=vG p fs M (DD p fs M E i) i:=by
 unfold DD
 rw[List.range_succ,List.foldl_append];rfl
def LG(p:Proj)(m:Int)(i:Nat)(s:PS)(xs:List Part)(j:Nat):PS:=(xs.take j).foldl (nU p m i) s
theorem ZI{p:Proj}{m:Int}{i:Nat}{s:PS}{xs:List Part}{j:Nat}(h:j<xs.length):LG p m i s xs (j+1)=nU p m i (LG p m i s xs j) (xs.getD j default):=by
 unfold LG
 rw[List.take_add_one,List.getElem?_eq_getElem h,bA h,List.foldl_append];rfl
def wE(p:Proj)(fs:List Fact)(M:Nat)(bm i:Nat)(xs:List Part)(j:Nat)(out:List Piece):St:=
 ⟨(7,aC4 out):: [(1,vI M),(2,.s (.d (cP (cY p fs (M+1))))),(3,.s (.ptr 3 0)),(8,dG bm),(9,.s (.ptr 9 0)),(11,vI (c8 p)),(12,vI i),(51,vI p.aS.levels.length),(52,vI i),(97,gW xs),(98,vI xs.length),(99,vI j)],[(3,some (.cells (k9 p fs))),(9,some (.cells (j6 p)))]++aC5 out⟩
def A5(p:Proj)(fs:List Fact)(M:Nat)(bm i:Nat)(xs:List Part)(j:Nat)(out zs:List Piece):St:=
 ⟨(7,aC4 out):: [(1,vI M),(2,.s (.d (cP (cY p fs (M+1))))),(3,.s (.ptr 3 0)),(8,dG bm),(9,.s (.ptr 9 0)),(11,vI (c8 p)),(12,vI i),(23,gX zs),(51,vI p.aS.levels.length),(52,vI i),(97,gW xs),(98,vI xs.length),(99,vI j)],[(3,some (.cells (k9 p fs))),(9,some (.cells (j6 p)))]++aC5 out⟩
def aIP(p:Proj)(fs:List Fact)(M:Nat)(bm i:Nat)(xs:List Part)(j:Nat)(out:List Piece)(x:Part):St:=
 ⟨(7,aC4 out):: [(1,vI M),(2,.s (.d (cP (cY p fs (M+1))))),(3,.s (.ptr 3 0)),(8,dG bm),(9,.s (.ptr 9 0)),(11,vI (c8 p)),(12,vI i),(20,.s (.ptr 20 0)),(21,.s (.ptr 21 0)),(51,vI p.aS.levels.length),(52,vI i),(97,gW xs),(98,vI xs.length),(99,vI j)],[(3,some (.cells (k9 p fs))),(9,some (.cells (j6 p)))]++aC5 out++ [(20,some (.cells [.d (dS x.aN),.d (dI x.top),.d (dI x.bot)])),(21,some (.cells [.d (dI M),.d (dI i),.d (dS x.aN),.d (dI (bE p M i x).jO),.d (dI (bE p M i x).gO),.d (dI 0),.d (dS (bs []))]))]⟩
def JI(p:Proj)(m:Int)(i:Nat)(s0:PS)(xs:List Part)(s:Nat×HM):Prop:=s.1≤xs.length∧lP s.2.l (LG p m i s0 xs s.1).1∧s.2.clock=(LG p m i s0 xs s.1).1.length∧s.2.it=none∧C3 (LG p m i s0 xs s.1) (i*2412+s.1*201)
def JC(p:Proj)(fs:List Fact)(M:Nat)(E:List lO)(s:Nat×HM):Prop:=s.1≤p.aS.levels.length∧lP s.2.l (DD p fs M E s.1).1∧s.2.clock=(DD p fs M E s.1).1.length∧s.2.it=none∧C3 (DD p fs M E s.1) (s.1*2412)
def aLQ:Code→Nat→Code
 |.seq x _,0=>x
 |.seq _ y,1=>y
 |.block _ c,2=>c
 |.loop c,2=>c
 |c,_=>c
def nav(c:Option Code)(l:List Nat):Code:=l.foldl aLQ (c.getD .skip)
theorem vP{p:Proj}{fs:List Fact}{M bm i j:Nat}{xs:List Part}{o zs:List Piece}{cx:Cx}{H:Hid}{X:St→Hid→Prop}{K:Exit→St→Hid→Prop}(aA:cx.ref=[])(hz:0<zs.length)(hzl:zs.length≤201)(G0:o.length≤1000000)(hj:j<12)
  (hX:∀σ',HSub cx f62.ntmps σ' H (wE p fs M bm i xs (j+1) (o++zs)) H→X σ' H):
  bI prog cx f62.ntmps (nav f62.body [1,1,1,1,1,0,1,2,2,1,1,0,2,1,1,1,1,1,1,2,2,1,1,0,2,1,1,1,1,1]) (A5 p fs M bm i xs j o zs) H (zC 3 (qG (fun s H=>bI prog cx f62.ntmps (nav f62.body [1,1,1,1,1,0,1,2,2,1,1,0,2,1,1,1,1,1,1,2,2,1,1,1]) s H (qG X K)) (qG X K))):=by
 have ej:aU ((j:Int)+1)=((j+1:Nat):Int):=aG oM oM
 cases o with
 |nil=>
  show bI prog cx _ _ ⟨[(7,.s (.d dK)),(1,vI M),(2,.s (.d (cP (cY p fs (M+1))))),(3,.s (.ptr 3 0)),(8,dG bm),(9,.s (.ptr 9 0)),(11,vI (c8 p)),(12,vI i),(23,gX zs),(51,vI p.aS.levels.length),(52,vI i),(97,gW xs),(98,vI xs.length),(99,vI j)],[(3,some (.cells (k9 p fs))),(9,some (.cells (j6 p)))]⟩ H _
  refine eA aA [3,9] fun _ h'=>?_
  refine ob hz ?_
  refine ob (by show zs.length*72≤_;omega) ?_
  refine eA aA [3,9,148] fun _ h'=>?_
  refine hX _ ?_
  obtain⟨z0,zr,rfl⟩:∃z0 zr,zs=z0::zr:=by cases zs with|nil=>exact absurd hz (Nat.lt_irrefl _)|cons a b=>exact⟨a,b,rfl⟩
  show HSub _ _ _ _ ⟨[(7,.s (.own 100)),(1,vI M),(2,.s (.d (cP (cY p fs (M+1))))),(3,.s (.ptr 3 0)),(8,dG bm),(9,.s (.ptr 9 0)),(11,vI (c8 p)),(12,vI i),(51,vI p.aS.levels.length),(52,vI i),(97,gW xs),(98,vI xs.length),(99,vI (j+1:Nat))],[(3,some (.cells (k9 p fs))),(9,some (.cells (j6 p))),(100,some (.row 130 (z0::zr).length 7 (dY (z0::zr))))]⟩ _
  exact HSub.of (eS.of [(100,148)] (by rw[aA];rfl) rfl ⟨bQ,bQ,bQ,oO⟩ ⟨qZ,qZ,qZ,qZ,qZ,qZ,qZ,qZ,qZ,qZ,qZ,qZ,⟨rfl,aM.int ej⟩,oO⟩)
 |cons py po=>
  have G0:(py::po).length≤1000000:=G0
  show bI prog cx _ _ ⟨[(7,.s (.own 100)),(1,vI M),(2,.s (.d (cP (cY p fs (M+1))))),(3,.s (.ptr 3 0)),(8,dG bm),(9,.s (.ptr 9 0)),(11,vI (c8 p)),(12,vI i),(23,gX zs),(51,vI p.aS.levels.length),(52,vI i),(97,gW xs),(98,vI xs.length),(99,vI j)],[(3,some (.cells (k9 p fs))),(9,some (.cells (j6 p))),(100,some (.row 130 (py::po).length 7 (dY (py::po))))]⟩ H _
  refine eA aA [3,9,100] fun _ h'=>?_
  refine ob (show((py::po).length+zs.length)*72≤_ by omega) ?_
  refine ob (fun a c ha hc=>by match c,hc with|0,_|1,_|2,_|3,_|4,_|5,_|6,_=>rfl) ?_
  refine bI.sub (σ':=⟨[(7,.s (.own 148)),(1,vI M),(2,.s (.d (cP (cY p fs (M+1))))),(3,.s (.ptr 3 0)),(8,dG bm),(9,.s (.ptr 9 0)),(11,vI (c8 p)),(12,vI i),(51,vI p.aS.levels.length),(52,vI i),(97,gW xs),(98,vI xs.length),(99,vI j)],[(3,some (.cells (k9 p fs))),(9,some (.cells (j6 p))),(148,some (.row 130 ((py::po).length+zs.length) 7 (kM (py::po).length (dY (py::po)) (dY zs))))]⟩) (HSub.of (eS.of [] (by rw[aA];rfl) rfl ⟨bQ,bQ,bQ,oO⟩ ⟨qZ,qZ,qZ,qZ,qZ,qZ,qZ,qZ,qZ,qZ,qZ,qZ,qZ,oO⟩)) ?_
  refine eA aA [3,9,148] fun _ h'=>?_
  refine hX _ ?_
  show HSub _ _ _ _ ⟨[(7,.s (.own 100)),(1,vI M),(2,.s (.d (cP (cY p fs (M+1))))),(3,.s (.ptr 3 0)),(8,dG bm),(9,.s (.ptr 9 0)),(11,vI (c8 p)),(12,vI i),(51,vI p.aS.levels.length),(52,vI i),(97,gW xs),(98,vI xs.length),(99,vI (j+1:Nat))],[(3,some (.cells (k9 p fs))),(9,some (.cells (j6 p))),(100,some (.row 130 (py::(po++zs)).length 7 (dY (py::(po++zs)))))]⟩ _
  exact HSub.of (eS.of [(100,148)] (by rw[aA];rfl) rfl ⟨bQ,bQ,⟨rfl,aQ.row (by simp;omega) fun a c ha hc=>aJ.of_eq (aHS (a:=py::po) ha)⟩,oO⟩ ⟨qZ,qZ,qZ,qZ,qZ,qZ,qZ,qZ,qZ,qZ,qZ,qZ,⟨rfl,aM.int ej⟩,oO⟩)
theorem HI{pt:Piece}(hv:0≤pt.jO∧pt.jO≤1000000000000000):((cA pt 0 []).lo,(cA pt 0 []).cur)=(0,[]):=by
 obtain⟨q1,q2,_⟩:=E4 (pt:=pt) (lo:=0) (n:=0) (l:=[]) rfl (Nat.le_refl _) dC hv (fun _ _ h=>absurd h (Nat.not_lt_zero _))
 rw[List.eq_nil_of_length_eq_zero q2,Nat.le_zero.1 q1]
theorem FJ{p:Proj}{m:Int}{i:Nat}{E:List lO}{o:List Piece}{x:Part}(h:fP E x.aN.data.toList 0=none)(hv:0≤(bE p m i x).jO∧(bE p m i x).jO≤1000000000000000):
  nU p m i (E,o) x=(E++ [(x.aN.data.toList,(0,[]),E.length)],o++(cA (bE p m i x) 0 []).out):=by
 have hg:AY E x.aN.data.toList=(0,[]):=by unfold AY;rw[h]
 unfold nU
 simp only [hg,HI hv]
 unfold YY
 rw[h]
theorem FI{p:Proj}{m:Int}{i je:Nat}{E:List lO}{o:List Piece}{x:Part}{e:lO}(h:fP E x.aN.data.toList 0=some (je,e)):
  nU p m i (E,o) x=(E.modify je fun e'=>(e'.1,((cA (bE p m i x) e.2.1.1 e.2.1.2).lo,(cA (bE p m i x) e.2.1.1 e.2.1.2).cur),e'.2.2),o++(cA (bE p m i x) e.2.1.1 e.2.1.2).out):=by
 have hg:AY E x.aN.data.toList=e.2.1:=by unfold AY;rw[h]
 unfold nU
 simp only [hg]
 unfold YY
 rw[h]
theorem TN{p:Proj}{fs:List Fact}{M i j:Nat}{xs:List Part}{o:List Piece}{E1:List lO}{x:Part}{k:HM}{cx:Cx}{X:St→Hid→Prop}{K:Exit→St→Hid→Prop}(aA:cx.ref=[])(ha:lP k.l E1)(jC:k.clock=E1.length)(hit:k.it=none)
  (hgE:∀e∈E1,uH e.2.1) (hv:0<(bE p M i x).jO∧(bE p M i x).jO≤1000000000000000) (G0:o.length≤1000000) (hj:j<12)
  (hX:∀σ2 k2,lP k2.l (nU p M i (E1,o) x).1→k2.clock=(nU p M i (E1,o) x).1.length→k2.it=none→HSub cx f62.ntmps σ2 (hid 259 14 k2) (wE p fs M k2.bm i xs (j+1) (nU p M i (E1,o) x).2) (hid 259 14 k2)→X σ2 (hid 259 14 k2)):
  bI prog cx f62.ntmps (nav f62.body [1,1,1,1,1,0,1,2,2,1,1,0,2,1,1,1,1,1,1,2,2,1,1,0,2,1,1,1]) (aIP p fs M k.bm i xs j o x) (hid 259 14 k) (zC 3 (qG (fun s H=>bI prog cx f62.ntmps (nav f62.body [1,1,1,1,1,0,1,2,2,1,1,0,2,1,1,1,1,1,1,2,2,1,1,1]) s H (qG X K)) (qG X K))):=by
 have GZ:bs x.aN.data.toList=x.aN:=rfl
 have AQ:0≤(bE p M i x).jO∧(bE p M i x).jO≤1000000000000000:=⟨oM,hv.2⟩
 cases o with
 |nil=>
  show bI prog cx _ _ ⟨[(7,.s (.d dK)),(1,vI M),(2,.s (.d (cP (cY p fs (M+1))))),(3,.s (.ptr 3 0)),(8,dG k.bm),(9,.s (.ptr 9 0)),(11,vI (c8 p)),(12,vI i),(20,.s (.ptr 20 0)),(21,.s (.ptr 21 0)),(51,vI p.aS.levels.length),(52,vI i),(97,gW xs),(98,vI xs.length),(99,vI j)],[(3,some (.cells (k9 p fs))),(9,some (.cells (j6 p))),(20,some (.cells [.d (dS x.aN),.d (dI x.top),.d (dI x.bot)])),(21,some (.cells [.d (dI M),.d (dI i),.d (dS x.aN),.d (dI (bE p M i x).jO),.d (dI (bE p M i x).gO),.d (dI 0),.d (dS (bs []))]))]⟩ (hid 259 14 k) _
  refine bI.seq (bI.region (bD.some (rc:=[]) aK 4 aA [3,9,20,21] rfl rfl ?_))
  refine bD.op rfl ?_
  refine nE.look (k:=x.aN) (h:=k) rfl rfl dC rfl rfl rfl underlying200 underlying9 zeroValue211 ?_
  cases x4:fP E1 x.aN.data.toList 0 with
  |none=>
   have tA:=yW ha x4
   rw[GZ]at tA
   rw[tA]
   obtain⟨s1,s2,s3,s4⟩:=NW ha jC tA
   have hS:=FJ (p:=p) (m:=M) (i:=i) (o:=[]) x4 AQ
   refine bD.some (rc:=[]) aK 6 aA [3,9,20,21] rfl rfl ?_
   refine aB (E6 (bE p M i x) AQ) ?_
   refine bD.nil ?_
   refine bI.seq (bI.region (bD.some (rc:=[]) aK 4 aA [3,9,20,21] rfl rfl ?_))
   refine bD.op rfl ?_
   refine nE.K4 (k:=x.aN) (h:=k) rfl rfl rfl rfl rfl underlying200 underlying9 (fun _=>hit) ?_
   refine bD.nil ?_
   refine bI.sub (σ':=A5 p fs M k.bm i xs j ([]) (cA (bE p M i x) 0 []).out) (by show HSub _ _ _ _ ⟨[(7,.s (.d dK)),(1,vI M),(2,.s (.d (cP (cY p fs (M+1))))),(3,.s (.ptr 3 0)),(8,dG k.bm),(9,.s (.ptr 9 0)),(11,vI (c8 p)),(12,vI i),(23,gX (cA (bE p M i x) 0 []).out),(51,vI p.aS.levels.length),(52,vI i),(97,gW xs),(98,vI xs.length),(99,vI j)],[(3,some (.cells (k9 p fs))),(9,some (.cells (j6 p)))]⟩ _;exact HSub.of (eS.of [] (by rw[aA];rfl) rfl ⟨bQ,bQ,oO⟩ ⟨qZ,qZ,qZ,qZ,qZ,qZ,qZ,qZ,qZ,qZ,qZ,qZ,qZ,qZ,oO⟩)) ?_
   exact vP aA (pE hv.1) (Nat.le_trans (pX _ _ _) dC) G0 hj (fun σ2 h2=>hX σ2 _ (by rw[hS];exact s1) (by rw[hS];rw[List.length_append];exact s3) (s4.trans hit) (by rw[hS];exact Eq.mpr (congrArg (fun b=>HSub cx _ σ2 _ (wE p fs M b i xs (j+1) _) _) s2) h2))
  |some pr=>
   obtain⟨je,e⟩:=pr
   obtain⟨q,tA,hq⟩:=yV ha x4
   rw[GZ]at tA
   have tA:cT k.l x.aN 0=some (je,q):=tA
   rw[tA]
   have hS:=FI (p:=p) (m:=M) (i:=i) (o:=[]) x4
   have n9:=hgE e (List.mem_of_getElem? (MA x4).2.1)
   rcases hq.row with⟨hV,r,WI,hr⟩|⟨WI,hqv,hqe⟩
   ·show match q.row with|some r=>_|none=>_
    rw[WI]
    obtain⟨ek,⟨elo,el⟩,eb⟩:=e
    obtain⟨g0,n0,aKT,BY,F⟩:=r
    obtain rfl:BY=elo:=hr.lo
    obtain rfl:n0=el.length:=hr.n
    have hF:∀a c,a<el.length→c<14→aJ (F a c) (jU el a c):=hr.f
    have wG:0<el.length:=List.length_pos_iff.2 hV
    have hgl:BY≤el.length:=n9.le
    have hgf:el.length≤200:=n9.few
    obtain⟨q1,q2,_⟩:=E4 (pt:=bE p M i x) (lo:=BY) (n:=el.length) (l:=el) rfl hgl oM AQ n9.left
    have hdn:=pE (lo:=BY) (l:=el) hv.1
    have hdf:=pX (bE p M i x) BY el
    cases BY with
    |zero=>
     refine bD.sub (σ':=⟨[(7,.s (.d dK)),(1,vI M),(2,.s (.d (cP (cY p fs (M+1))))),(3,.s (.ptr 3 0)),(8,dG k.bm),(9,.s (.ptr 9 0)),(11,vI (c8 p)),(12,vI i),(20,.s (.ptr 20 0)),(21,.s (.ptr 21 0)),(134,.g [.d (dI M),.d (dI i),.d (dS x.aN),.d (dI (bE p M i x).jO),.d (dI (bE p M i x).gO),.d (dI 0),.d (dS (bs []))]),(138,.s (.own 138)),(51,vI p.aS.levels.length),(52,vI i),(97,gW xs),(98,vI xs.length),(99,vI j)],[(3,some (.cells (k9 p fs))),(9,some (.cells (j6 p))),(20,some (.cells [.d (dS x.aN),.d (dI x.top),.d (dI x.bot)])),(21,some (.cells [.d (dI M),.d (dI i),.d (dS x.aN),.d (dI (bE p M i x).jO),.d (dI (bE p M i x).gO),.d (dI 0),.d (dS (bs []))])),(138,some (.row 259 el.length 14 (jU el)))]⟩) (H':=hid 259 14 {k with l:=cL k.l je}) (HSub.of (eS.of [] (by rw[aA];rfl) rfl ⟨bQ,bQ,bQ,bQ,⟨rfl,aQ.row rfl hF⟩,oO⟩ ⟨qZ,qZ,qZ,qZ,qZ,qZ,qZ,qZ,qZ,qZ,qZ,qZ,qZ,qZ,qZ,qZ,qZ,oO⟩)) ?_
     refine bD.some (rc:=[123]) aK 6 aA [3,9,20,21,138] rfl rfl ?_
     refine⟨[(1001,138)],_,_,_,_,UL (bE p M i x) el el.length rfl oM AQ (fun a ha=>n9.left a (Nat.zero_le _) ha),rfl,⟨rfl,oO⟩,rfl,?_⟩
     refine bD.nil ?_
     refine bI.seq (bI.region (bD.some (rc:=[]) aK 4 aA [3,9,20,21,138] rfl rfl ?_))
     refine bD.op rfl ?_
     refine nE.YK (b:=138) (k:=x.aN) (n:=el.length) (n':=el.length - (cA (bE p M i x) (0) el).lo) (lo:=(cA (bE p M i x) (0) el).lo) aA rfl rfl rfl rfl (.inr rfl) rfl wG underlying200 underlying9 (fun _=>hit) (fun gg cap v=>?_)
     refine bD.nil ?_
     have oP:XY ⟨gg,(cA (bE p M i x) (0) el).lo+(el.length - (cA (bE p M i x) (0) el).lo),cap,(cA (bE p M i x) (0) el).lo,jU (cA (bE p M i x) (0) el).cur⟩ ((cA (bE p M i x) (0) el).lo,(cA (bE p M i x) (0) el).cur):=⟨rfl,by show _+_=(cA (bE p M i x) (0) el).cur.length;omega,by show _≤(cA (bE p M i x) (0) el).cur.length;omega,fun a c _ _=>aJ.refl _⟩
     obtain⟨s1,s2,s3,s4⟩:=sO (v:=v) ha tA oP (by intro e0;have e0:(cA (bE p M i x) (0) el).cur=[]:=e0;rw[e0]at q2;have q2:0=el.length:=q2;omega)
     refine bI.sub (σ':=A5 p fs M k.bm i xs j ([]) (cA (bE p M i x) (0) el).out) (by show HSub _ _ _ _ ⟨[(7,.s (.d dK)),(1,vI M),(2,.s (.d (cP (cY p fs (M+1))))),(3,.s (.ptr 3 0)),(8,dG k.bm),(9,.s (.ptr 9 0)),(11,vI (c8 p)),(12,vI i),(23,gX (cA (bE p M i x) (0) el).out),(51,vI p.aS.levels.length),(52,vI i),(97,gW xs),(98,vI xs.length),(99,vI j)],[(3,some (.cells (k9 p fs))),(9,some (.cells (j6 p)))]⟩ _;exact HSub.of (eS.of [] (by rw[aA];rfl) rfl ⟨bQ,bQ,oO⟩ ⟨qZ,qZ,qZ,qZ,qZ,qZ,qZ,qZ,qZ,qZ,qZ,qZ,qZ,qZ,oO⟩)) ?_
     exact vP aA hdn oM G0 hj (fun σ2 h2=>hX σ2 _ (by rw[hS];exact s1) (by rw[hS];rw[List.length_modify];exact s3.trans jC) (s4.trans hit) (by rw[hS];exact Eq.mpr (congrArg (fun b=>HSub cx _ σ2 _ (wE p fs M b i xs (j+1) _) _) s2) h2))
    |succ xQ=>
     refine bD.sub (σ':=⟨[(7,.s (.d dK)),(1,vI M),(2,.s (.d (cP (cY p fs (M+1))))),(3,.s (.ptr 3 0)),(8,dG k.bm),(9,.s (.ptr 9 0)),(11,vI (c8 p)),(12,vI i),(20,.s (.ptr 20 0)),(21,.s (.ptr 21 0)),(134,.g [.d (dI M),.d (dI i),.d (dS x.aN),.d (dI (bE p M i x).jO),.d (dI (bE p M i x).gO),.d (dI 0),.d (dS (bs []))]),(138,.s (.jQ 138 14 (xQ+1) (el.length - (xQ+1)))),(51,vI p.aS.levels.length),(52,vI i),(97,gW xs),(98,vI xs.length),(99,vI j)],[(3,some (.cells (k9 p fs))),(9,some (.cells (j6 p))),(20,some (.cells [.d (dS x.aN),.d (dI x.top),.d (dI x.bot)])),(21,some (.cells [.d (dI M),.d (dI i),.d (dS x.aN),.d (dI (bE p M i x).jO),.d (dI (bE p M i x).gO),.d (dI 0),.d (dS (bs []))])),(138,some (.row 259 el.length 14 (jU el)))]⟩) (H':=hid 259 14 {k with l:=cL k.l je}) (HSub.of (eS.of [] (by rw[aA];rfl) rfl ⟨bQ,bQ,bQ,bQ,⟨rfl,aQ.row rfl hF⟩,oO⟩ ⟨qZ,qZ,qZ,qZ,qZ,qZ,qZ,qZ,qZ,qZ,qZ,qZ,qZ,qZ,qZ,qZ,qZ,oO⟩)) ?_
     refine bD.some (rc:=[123]) aK 6 aA [3,9,20,21,138] rfl rfl ?_
     refine⟨[(1001,138)],_,_,_,_,aA8 (bE p M i x) el (xQ+1) el.length rfl hgl oM AQ n9.left,rfl,⟨rfl,oO⟩,rfl,?_⟩
     refine bD.nil ?_
     refine bI.seq (bI.region (bD.some (rc:=[]) aK 4 aA [3,9,20,21,138] rfl rfl ?_))
     refine bD.op rfl ?_
     refine nE.YK (b:=138) (k:=x.aN) (n:=el.length) (n':=el.length - (cA (bE p M i x) (xQ+1) el).lo) (lo:=(cA (bE p M i x) (xQ+1) el).lo) aA rfl rfl rfl rfl (.inr rfl) rfl wG underlying200 underlying9 (fun _=>hit) (fun gg cap v=>?_)
     refine bD.nil ?_
     have oP:XY ⟨gg,(cA (bE p M i x) (xQ+1) el).lo+(el.length - (cA (bE p M i x) (xQ+1) el).lo),cap,(cA (bE p M i x) (xQ+1) el).lo,jU (cA (bE p M i x) (xQ+1) el).cur⟩ ((cA (bE p M i x) (xQ+1) el).lo,(cA (bE p M i x) (xQ+1) el).cur):=⟨rfl,by show _+_=(cA (bE p M i x) (xQ+1) el).cur.length;omega,by show _≤(cA (bE p M i x) (xQ+1) el).cur.length;omega,fun a c _ _=>aJ.refl _⟩
     obtain⟨s1,s2,s3,s4⟩:=sO (v:=v) ha tA oP (by intro e0;have e0:(cA (bE p M i x) (xQ+1) el).cur=[]:=e0;rw[e0]at q2;have q2:0=el.length:=q2;omega)
     refine bI.sub (σ':=A5 p fs M k.bm i xs j ([]) (cA (bE p M i x) (xQ+1) el).out) (by show HSub _ _ _ _ ⟨[(7,.s (.d dK)),(1,vI M),(2,.s (.d (cP (cY p fs (M+1))))),(3,.s (.ptr 3 0)),(8,dG k.bm),(9,.s (.ptr 9 0)),(11,vI (c8 p)),(12,vI i),(23,gX (cA (bE p M i x) (xQ+1) el).out),(51,vI p.aS.levels.length),(52,vI i),(97,gW xs),(98,vI xs.length),(99,vI j)],[(3,some (.cells (k9 p fs))),(9,some (.cells (j6 p)))]⟩ _;exact HSub.of (eS.of [] (by rw[aA];rfl) rfl ⟨bQ,bQ,oO⟩ ⟨qZ,qZ,qZ,qZ,qZ,qZ,qZ,qZ,qZ,qZ,qZ,qZ,qZ,qZ,oO⟩)) ?_
     exact vP aA hdn oM G0 hj (fun σ2 h2=>hX σ2 _ (by rw[hS];exact s1) (by rw[hS];rw[List.length_modify];exact s3.trans jC) (s4.trans hit) (by rw[hS];exact Eq.mpr (congrArg (fun b=>HSub cx _ σ2 _ (wE p fs M b i xs (j+1) _) _) s2) h2))
   ·show match q.row with|some r=>_|none=>_
    rw[WI]
    refine⟨hqv,?_⟩
    obtain⟨ek,ex2,eb⟩:=e
    obtain rfl:ex2=(0,[]):=hqe
    obtain⟨s1,s2,s3,s4⟩:=NV ha tA
    rw[HI AQ]at hS
    refine bD.some (rc:=[]) aK 6 aA [3,9,20,21] rfl rfl ?_
    refine aB (E6 (bE p M i x) AQ) ?_
    refine bD.nil ?_
    refine bI.seq (bI.region (bD.some (rc:=[]) aK 4 aA [3,9,20,21] rfl rfl ?_))
    refine bD.op rfl ?_
    refine nE.K4 (k:=x.aN) (h:=k) rfl rfl rfl rfl rfl underlying200 underlying9 (fun _=>hit) ?_
    refine bD.nil ?_
    refine bI.sub (σ':=A5 p fs M k.bm i xs j ([]) (cA (bE p M i x) 0 []).out) (by show HSub _ _ _ _ ⟨[(7,.s (.d dK)),(1,vI M),(2,.s (.d (cP (cY p fs (M+1))))),(3,.s (.ptr 3 0)),(8,dG k.bm),(9,.s (.ptr 9 0)),(11,vI (c8 p)),(12,vI i),(23,gX (cA (bE p M i x) 0 []).out),(51,vI p.aS.levels.length),(52,vI i),(97,gW xs),(98,vI xs.length),(99,vI j)],[(3,some (.cells (k9 p fs))),(9,some (.cells (j6 p)))]⟩ _;exact HSub.of (eS.of [] (by rw[aA];rfl) rfl ⟨bQ,bQ,oO⟩ ⟨qZ,qZ,qZ,qZ,qZ,qZ,qZ,qZ,qZ,qZ,qZ,qZ,qZ,qZ,oO⟩)) ?_
    exact vP aA (pE hv.1) (Nat.le_trans (pX _ _ _) dC) G0 hj (fun σ2 h2=>hX σ2 _ (by rw[hS];exact s1) (by rw[hS];rw[List.length_modify];exact s3.trans jC) (s4.trans hit) (by rw[hS];exact Eq.mpr (congrArg (fun b=>HSub cx _ σ2 _ (wE p fs M b i xs (j+1) _) _) s2) h2))
 |cons py po=>
  show bI prog cx _ _ ⟨[(7,.s (.own 100)),(1,vI M),(2,.s (.d (cP (cY p fs (M+1))))),(3,.s (.ptr 3 0)),(8,dG k.bm),(9,.s (.ptr 9 0)),(11,vI (c8 p)),(12,vI i),(20,.s (.ptr 20 0)),(21,.s (.ptr 21 0)),(51,vI p.aS.levels.length),(52,vI i),(97,gW xs),(98,vI xs.length),(99,vI j)],[(3,some (.cells (k9 p fs))),(9,some (.cells (j6 p))),(100,some (.row 130 (py::po).length 7 (dY (py::po)))),(20,some (.cells [.d (dS x.aN),.d (dI x.top),.d (dI x.bot)])),(21,some (.cells [.d (dI M),.d (dI i),.d (dS x.aN),.d (dI (bE p M i x).jO),.d (dI (bE p M i x).gO),.d (dI 0),.d (dS (bs []))]))]⟩ (hid 259 14 k) _
  refine bI.seq (bI.region (bD.some (rc:=[]) aK 4 aA [3,9,100,20,21] rfl rfl ?_))
  refine bD.op rfl ?_
  refine nE.look (k:=x.aN) (h:=k) rfl rfl dC rfl rfl rfl underlying200 underlying9 zeroValue211 ?_
  cases x4:fP E1 x.aN.data.toList 0 with
  |none=>
   have tA:=yW ha x4
   rw[GZ]at tA
   rw[tA]
   obtain⟨s1,s2,s3,s4⟩:=NW ha jC tA
   have hS:=FJ (p:=p) (m:=M) (i:=i) (o:=py::po) x4 AQ
   refine bD.some (rc:=[]) aK 6 aA [3,9,100,20,21] rfl rfl ?_
   refine aB (E6 (bE p M i x) AQ) ?_
   refine bD.nil ?_
   refine bI.seq (bI.region (bD.some (rc:=[]) aK 4 aA [3,9,100,20,21] rfl rfl ?_))
   refine bD.op rfl ?_
   refine nE.K4 (k:=x.aN) (h:=k) rfl rfl rfl rfl rfl underlying200 underlying9 (fun _=>hit) ?_
   refine bD.nil ?_
   refine bI.sub (σ':=A5 p fs M k.bm i xs j (py::po) (cA (bE p M i x) 0 []).out) (by show HSub _ _ _ _ ⟨[(7,.s (.own 100)),(1,vI M),(2,.s (.d (cP (cY p fs (M+1))))),(3,.s (.ptr 3 0)),(8,dG k.bm),(9,.s (.ptr 9 0)),(11,vI (c8 p)),(12,vI i),(23,gX (cA (bE p M i x) 0 []).out),(51,vI p.aS.levels.length),(52,vI i),(97,gW xs),(98,vI xs.length),(99,vI j)],[(3,some (.cells (k9 p fs))),(9,some (.cells (j6 p))),(100,some (.row 130 (py::po).length 7 (dY (py::po))))]⟩ _;exact HSub.of (eS.of [] (by rw[aA];rfl) rfl ⟨bQ,bQ,bQ,oO⟩ ⟨qZ,qZ,qZ,qZ,qZ,qZ,qZ,qZ,qZ,qZ,qZ,qZ,qZ,qZ,oO⟩)) ?_
   exact vP aA (pE hv.1) (Nat.le_trans (pX _ _ _) dC) G0 hj (fun σ2 h2=>hX σ2 _ (by rw[hS];exact s1) (by rw[hS];rw[List.length_append];exact s3) (s4.trans hit) (by rw[hS];exact Eq.mpr (congrArg (fun b=>HSub cx _ σ2 _ (wE p fs M b i xs (j+1) _) _) s2) h2))
  |some pr=>
   obtain⟨je,e⟩:=pr
   obtain⟨q,tA,hq⟩:=yV ha x4
   rw[GZ]at tA
   have tA:cT k.l x.aN 0=some (je,q):=tA
   rw[tA]
   have hS:=FI (p:=p) (m:=M) (i:=i) (o:=py::po) x4
   have n9:=hgE e (List.mem_of_getElem? (MA x4).2.1)
   rcases hq.row with⟨hV,r,WI,hr⟩|⟨WI,hqv,hqe⟩
   ·show match q.row with|some r=>_|none=>_
    rw[WI]
    obtain⟨ek,⟨elo,el⟩,eb⟩:=e
    obtain⟨g0,n0,aKT,BY,F⟩:=r
    obtain rfl:BY=elo:=hr.lo
    obtain rfl:n0=el.length:=hr.n
    have hF:∀a c,a<el.length→c<14→aJ (F a c) (jU el a c):=hr.f
    have wG:0<el.length:=List.length_pos_iff.2 hV
    have hgl:BY≤el.length:=n9.le
    have hgf:el.length≤200:=n9.few
    obtain⟨q1,q2,_⟩:=E4 (pt:=bE p M i x) (lo:=BY) (n:=el.length) (l:=el) rfl hgl oM AQ n9.left
    have hdn:=pE (lo:=BY) (l:=el) hv.1
    have hdf:=pX (bE p M i x) BY el
    cases BY with
    |zero=>
     refine bD.sub (σ':=⟨[(7,.s (.own 100)),(1,vI M),(2,.s (.d (cP (cY p fs (M+1))))),(3,.s (.ptr 3 0)),(8,dG k.bm),(9,.s (.ptr 9 0)),(11,vI (c8 p)),(12,vI i),(20,.s (.ptr 20 0)),(21,.s (.ptr 21 0)),(134,.g [.d (dI M),.d (dI i),.d (dS x.aN),.d (dI (bE p M i x).jO),.d (dI (bE p M i x).gO),.d (dI 0),.d (dS (bs []))]),(138,.s (.own 138)),(51,vI p.aS.levels.length),(52,vI i),(97,gW xs),(98,vI xs.length),(99,vI j)],[(3,some (.cells (k9 p fs))),(9,some (.cells (j6 p))),(100,some (.row 130 (py::po).length 7 (dY (py::po)))),(20,some (.cells [.d (dS x.aN),.d (dI x.top),.d (dI x.bot)])),(21,some (.cells [.d (dI M),.d (dI i),.d (dS x.aN),.d (dI (bE p M i x).jO),.d (dI (bE p M i x).gO),.d (dI 0),.d (dS (bs []))])),(138,some (.row 259 el.length 14 (jU el)))]⟩) (H':=hid 259 14 {k with l:=cL k.l je}) (HSub.of (eS.of [] (by rw[aA];rfl) rfl ⟨bQ,bQ,bQ,bQ,bQ,⟨rfl,aQ.row rfl hF⟩,oO⟩ ⟨qZ,qZ,qZ,qZ,qZ,qZ,qZ,qZ,qZ,qZ,qZ,qZ,qZ,qZ,qZ,qZ,qZ,oO⟩)) ?_
     refine bD.some (rc:=[123]) aK 6 aA [3,9,100,20,21,138] rfl rfl ?_
     refine⟨[(1001,138)],_,_,_,_,UL (bE p M i x) el el.length rfl oM AQ (fun a ha=>n9.left a (Nat.zero_le _) ha),rfl,⟨rfl,oO⟩,rfl,?_⟩
     refine bD.nil ?_
     refine bI.seq (bI.region (bD.some (rc:=[]) aK 4 aA [3,9,100,20,21,138] rfl rfl ?_))
     refine bD.op rfl ?_
     refine nE.YK (b:=138) (k:=x.aN) (n:=el.length) (n':=el.length - (cA (bE p M i x) (0) el).lo) (lo:=(cA (bE p M i x) (0) el).lo) aA rfl rfl rfl rfl (.inr rfl) rfl wG underlying200 underlying9 (fun _=>hit) (fun gg cap v=>?_)
     refine bD.nil ?_
     have oP:XY ⟨gg,(cA (bE p M i x) (0) el).lo+(el.length - (cA (bE p M i x) (0) el).lo),cap,(cA (bE p M i x) (0) el).lo,jU (cA (bE p M i x) (0) el).cur⟩ ((cA (bE p M i x) (0) el).lo,(cA (bE p M i x) (0) el).cur):=⟨rfl,by show _+_=(cA (bE p M i x) (0) el).cur.length;omega,by show _≤(cA (bE p M i x) (0) el).cur.length;omega,fun a c _ _=>aJ.refl _⟩
     obtain⟨s1,s2,s3,s4⟩:=sO (v:=v) ha tA oP (by intro e0;have e0:(cA (bE p M i x) (0) el).cur=[]:=e0;rw[e0]at q2;have q2:0=el.length:=q2;omega)
     refine bI.sub (σ':=A5 p fs M k.bm i xs j (py::po) (cA (bE p M i x) (0) el).out) (by show HSub _ _ _ _ ⟨[(7,.s (.own 100)),(1,vI M),(2,.s (.d (cP (cY p fs (M+1))))),(3,.s (.ptr 3 0)),(8,dG k.bm),(9,.s (.ptr 9 0)),(11,vI (c8 p)),(12,vI i),(23,gX (cA (bE p M i x) (0) el).out),(51,vI p.aS.levels.length),(52,vI i),(97,gW xs),(98,vI xs.length),(99,vI j)],[(3,some (.cells (k9 p fs))),(9,some (.cells (j6 p))),(100,some (.row 130 (py::po).length 7 (dY (py::po))))]⟩ _;exact HSub.of (eS.of [] (by rw[aA];rfl) rfl ⟨bQ,bQ,bQ,oO⟩ ⟨qZ,qZ,qZ,qZ,qZ,qZ,qZ,qZ,qZ,qZ,qZ,qZ,qZ,qZ,oO⟩)) ?_
     exact vP aA hdn oM G0 hj (fun σ2 h2=>hX σ2 _ (by rw[hS];exact s1) (by rw[hS];rw[List.length_modify];exact s3.trans jC) (s4.trans hit) (by rw[hS];exact Eq.mpr (congrArg (fun b=>HSub cx _ σ2 _ (wE p fs M b i xs (j+1) _) _) s2) h2))
    |succ xQ=>
     refine bD.sub (σ':=⟨[(7,.s (.own 100)),(1,vI M),(2,.s (.d (cP (cY p fs (M+1))))),(3,.s (.ptr 3 0)),(8,dG k.bm),(9,.s (.ptr 9 0)),(11,vI (c8 p)),(12,vI i),(20,.s (.ptr 20 0)),(21,.s (.ptr 21 0)),(134,.g [.d (dI M),.d (dI i),.d (dS x.aN),.d (dI (bE p M i x).jO),.d (dI (bE p M i x).gO),.d (dI 0),.d (dS (bs []))]),(138,.s (.jQ 138 14 (xQ+1) (el.length - (xQ+1)))),(51,vI p.aS.levels.length),(52,vI i),(97,gW xs),(98,vI xs.length),(99,vI j)],[(3,some (.cells (k9 p fs))),(9,some (.cells (j6 p))),(100,some (.row 130 (py::po).length 7 (dY (py::po)))),(20,some (.cells [.d (dS x.aN),.d (dI x.top),.d (dI x.bot)])),(21,some (.cells [.d (dI M),.d (dI i),.d (dS x.aN),.d (dI (bE p M i x).jO),.d (dI (bE p M i x).gO),.d (dI 0),.d (dS (bs []))])),(138,some (.row 259 el.length 14 (jU el)))]⟩) (H':=hid 259 14 {k with l:=cL k.l je}) (HSub.of (eS.of [] (by rw[aA];rfl) rfl ⟨bQ,bQ,bQ,bQ,bQ,⟨rfl,aQ.row rfl hF⟩,oO⟩ ⟨qZ,qZ,qZ,qZ,qZ,qZ,qZ,qZ,qZ,qZ,qZ,qZ,qZ,qZ,qZ,qZ,qZ,oO⟩)) ?_
     refine bD.some (rc:=[123]) aK 6 aA [3,9,100,20,21,138] rfl rfl ?_
     refine⟨[(1001,138)],_,_,_,_,aA8 (bE p M i x) el (xQ+1) el.length rfl hgl oM AQ n9.left,rfl,⟨rfl,oO⟩,rfl,?_⟩
     refine bD.nil ?_
     refine bI.seq (bI.region (bD.some (rc:=[]) aK 4 aA [3,9,100,20,21,138] rfl rfl ?_))
     refine bD.op rfl ?_
     refine nE.YK (b:=138) (k:=x.aN) (n:=el.length) (n':=el.length - (cA (bE p M i x) (xQ+1) el).lo) (lo:=(cA (bE p M i x) (xQ+1) el).lo) aA rfl rfl rfl rfl (.inr rfl) rfl wG underlying200 underlying9 (fun _=>hit) (fun gg cap v=>?_)
     refine bD.nil ?_
     have oP:XY ⟨gg,(cA (bE p M i x) (xQ+1) el).lo+(el.length - (cA (bE p M i x) (xQ+1) el).lo),cap,(cA (bE p M i x) (xQ+1) el).lo,jU (cA (bE p M i x) (xQ+1) el).cur⟩ ((cA (bE p M i x) (xQ+1) el).lo,(cA (bE p M i x) (xQ+1) el).cur):=⟨rfl,by show _+_=(cA (bE p M i x) (xQ+1) el).cur.length;omega,by show _≤(cA (bE p M i x) (xQ+1) el).cur.length;omega,fun a c _ _=>aJ.refl _⟩
     obtain⟨s1,s2,s3,s4⟩:=sO (v:=v) ha tA oP (by intro e0;have e0:(cA (bE p M i x) (xQ+1) el).cur=[]:=e0;rw[e0]at q2;have q2:0=el.length:=q2;omega)
     refine bI.sub (σ':=A5 p fs M k.bm i xs j (py::po) (cA (bE p M i x) (xQ+1) el).out) (by show HSub _ _ _ _ ⟨[(7,.s (.own 100)),(1,vI M),(2,.s (.d (cP (cY p fs (M+1))))),(3,.s (.ptr 3 0)),(8,dG k.bm),(9,.s (.ptr 9 0)),(11,vI (c8 p)),(12,vI i),(23,gX (cA (bE p M i x) (xQ+1) el).out),(51,vI p.aS.levels.length),(52,vI i),(97,gW xs),(98,vI xs.length),(99,vI j)],[(3,some (.cells (k9 p fs))),(9,some (.cells (j6 p))),(100,some (.row 130 (py::po).length 7 (dY (py::po))))]⟩ _;exact HSub.of (eS.of [] (by rw[aA];rfl) rfl ⟨bQ,bQ,bQ,oO⟩ ⟨qZ,qZ,qZ,qZ,qZ,qZ,qZ,qZ,qZ,qZ,qZ,qZ,qZ,qZ,oO⟩)) ?_
     exact vP aA hdn oM G0 hj (fun σ2 h2=>hX σ2 _ (by rw[hS];exact s1) (by rw[hS];rw[List.length_modify];exact s3.trans jC) (s4.trans hit) (by rw[hS];exact Eq.mpr (congrArg (fun b=>HSub cx _ σ2 _ (wE p fs M b i xs (j+1) _) _) s2) h2))
   ·show match q.row with|some r=>_|none=>_
    rw[WI]
    refine⟨hqv,?_⟩
    obtain⟨ek,ex2,eb⟩:=e
    obtain rfl:ex2=(0,[]):=hqe
    obtain⟨s1,s2,s3,s4⟩:=NV ha tA
    rw[HI AQ]at hS
    refine bD.some (rc:=[]) aK 6 aA [3,9,100,20,21] rfl rfl ?_
    refine aB (E6 (bE p M i x) AQ) ?_
    refine bD.nil ?_
    refine bI.seq (bI.region (bD.some (rc:=[]) aK 4 aA [3,9,100,20,21] rfl rfl ?_))
    refine bD.op rfl ?_
    refine nE.K4 (k:=x.aN) (h:=k) rfl rfl rfl rfl rfl underlying200 underlying9 (fun _=>hit) ?_
    refine bD.nil ?_
    refine bI.sub (σ':=A5 p fs M k.bm i xs j (py::po) (cA (bE p M i x) 0 []).out) (by show HSub _ _ _ _ ⟨[(7,.s (.own 100)),(1,vI M),(2,.s (.d (cP (cY p fs (M+1))))),(3,.s (.ptr 3 0)),(8,dG k.bm),(9,.s (.ptr 9 0)),(11,vI (c8 p)),(12,vI i),(23,gX (cA (bE p M i x) 0 []).out),(51,vI p.aS.levels.length),(52,vI i),(97,gW xs),(98,vI xs.length),(99,vI j)],[(3,some (.cells (k9 p fs))),(9,some (.cells (j6 p))),(100,some (.row 130 (py::po).length 7 (dY (py::po))))]⟩ _;exact HSub.of (eS.of [] (by rw[aA];rfl) rfl ⟨bQ,bQ,bQ,oO⟩ ⟨qZ,qZ,qZ,qZ,qZ,qZ,qZ,qZ,qZ,qZ,qZ,qZ,qZ,qZ,oO⟩)) ?_
    exact vP aA (pE hv.1) (Nat.le_trans (pX _ _ _) dC) G0 hj (fun σ2 h2=>hX σ2 _ (by rw[hS];exact s1) (by rw[hS];rw[List.length_modify];exact s3.trans jC) (s4.trans hit) (by rw[hS];exact Eq.mpr (congrArg (fun b=>HSub cx _ σ2 _ (wE p fs M b i xs (j+1) _) _) s2) h2))
theorem aC2{p:Proj}{fs:List Fact}{M i j:Nat}{xs:List Part}{o:List Piece}{E1:List lO}{k:HM}{cx:Cx}{X:St→Hid→Prop}{K:Exit→St→Hid→Prop}(aA:cx.ref=[])(hv:PV p)(WE:∀x∈xs,zG x)(hxl:xs.length≤12)(hi:i<p.aS.levels.length)(hj:j≤xs.length)
  (ha:lP k.l E1) (jC:k.clock=E1.length) (hit:k.it=none) (iT:C3 (E1,o) 1000000)
  (hX:j<xs.length→∀σ2 k2,lP k2.l (nU p M i (E1,o) (xs.getD j default)).1→k2.clock=(nU p M i (E1,o) (xs.getD j default)).1.length→k2.it=none→HSub cx f62.ntmps σ2 (hid 259 14 k2) (wE p fs M k2.bm i xs (j+1) (nU p M i (E1,o) (xs.getD j default)).2) (hid 259 14 k2)→X σ2 (hid 259 14 k2))
  (hE:j=xs.length→∀v,K (.exit 2) (oJ (wE p fs M k.bm i xs j o) 100 v) (hid 259 14 k)):
  bI prog cx f62.ntmps (nav f62.body [1,1,1,1,1,0,1,2,2,1,1,0,2,1,1,1,1,1,1,2,2]) (wE p fs M k.bm i xs j o) (hid 259 14 k) (qG X K):=by
 have G0:o.length≤1000000:=iT.2
 have jV:=hv.cells
 cases o with
 |nil=>
  show bI prog cx _ _ ⟨[(7,.s (.d dK)),(1,vI M),(2,.s (.d (cP (cY p fs (M+1))))),(3,.s (.ptr 3 0)),(8,dG k.bm),(9,.s (.ptr 9 0)),(11,vI (c8 p)),(12,vI i),(51,vI p.aS.levels.length),(52,vI i),(97,gW xs),(98,vI xs.length),(99,vI j)],[(3,some (.cells (k9 p fs))),(9,some (.cells (j6 p)))]⟩ (hid 259 14 k) _
  refine sA aA [3,9] fun _ h'=>?_
  refine bI.seq (bI.cond ?_)
  refine aI (fun g=>bI.skip ?_) (fun g=>bI.exit ?_)
  ·have g:(j:Int)<xs.length:=cB g
   have xS:j<xs.length:=oM
   have hxo:=WE _ (dZ xS)
   have hX:=hX xS
   generalize hx0:xs.getD j default=x at hX hxo
   have hvo:=AF (m:=M) (i:=i) hv hxo
   have hpt:(bE p M i x).jO=aU (aU (x.top - x.bot)*c8 p):=rfl
   refine bI.seq (bI.block ?_)
   refine sA aA [3,9] fun _ h'=>?_
   refine oi (show(0:Int)≤(j:Int)∧(j:Int)<(xs.length:Int) by omega) ?_
   refine sA aA [3,9,20] fun _ h'=>?_
   refine bI.cut (σ':=⟨[(7,.s (.d dK)),(1,vI M),(2,.s (.d (cP (cY p fs (M+1))))),(3,.s (.ptr 3 0)),(8,dG k.bm),(9,.s (.ptr 9 0)),(11,vI (c8 p)),(12,vI i),(20,.s (.ptr 20 0)),(21,.s (.ptr 21 0)),(51,vI p.aS.levels.length),(52,vI i),(97,gW xs),(98,vI xs.length),(99,vI j)],[(3,some (.cells (k9 p fs))),(9,some (.cells (j6 p))),(20,some (.cells [.d (dS x.aN),.d (dI x.top),.d (dI x.bot)])),(21,some (.cells [.d (dI M),.d (dI i),.d (dS x.aN),.d (dI (bE p M i x).jO),.d (dI (bE p M i x).gO),.d (dI 0),.d (dS (bs []))]))]⟩) (H':=hid 259 14 k) ?_ ?_
   ·refine sA aA [3,9,20,21] fun _ h'=>?_
    refine oi (show(0:Int)≤(i:Int)∧(i:Int)<(((lU p.chan p.aS p.chan.over).levels.length:Nat):Int) by rw[D6];omega) ?_
    refine sA aA [3,9,20,21] fun _ h'=>?_
    refine bI.cond ?_
    refine aI (fun g2=>?_) (fun g2=>bI.skip ?_)
    ·have g2:(OG p i !=30000)=true:=g2
     have hpd:(bE p M i x).gO=aU (mm true 0 (aU (x.top - mm true x.bot (OG p i)))*c8 p):=by unfold bE;rw[g2];rfl
     refine eA aA [3,9,20,21] fun _ h'=>?_
     exact⟨rfl,HSub.of (eS.of [] (by rw[aA];rfl) rfl ⟨bQ,bQ,⟨rfl,aQ.of_eq (by rw[←hx0];rfl)⟩,⟨rfl,aQ.of_eq (by rw[hpd,hpt,←hx0];rfl)⟩,oO⟩ ⟨qZ,qZ,qZ,qZ,qZ,qZ,qZ,qZ,qZ,qZ,qZ,qZ,qZ,qZ,qZ,oO⟩)⟩
    ·have g2:(OG p i !=30000)=false:=g2
     have hpd:(bE p M i x).gO=0:=by unfold bE;rw[g2];rfl
     exact⟨rfl,HSub.of (eS.of [] (by rw[aA];rfl) rfl ⟨bQ,bQ,⟨rfl,aQ.of_eq (by rw[←hx0];rfl)⟩,⟨rfl,aQ.of_eq (by rw[hpd,hpt,←hx0];rfl)⟩,oO⟩ ⟨qZ,qZ,qZ,qZ,qZ,qZ,qZ,qZ,qZ,qZ,qZ,qZ,qZ,qZ,qZ,oO⟩)⟩
   exact TN aA ha jC hit iT.1 hvo G0 oM hX
  ·have g:¬(j:Int)<xs.length:=cD g
   exact hE oM _
 |cons py po=>
  show bI prog cx _ _ ⟨[(7,.s (.own 100)),(1,vI M),(2,.s (.d (cP (cY p fs (M+1))))),(3,.s (.ptr 3 0)),(8,dG k.bm),(9,.s (.ptr 9 0)),(11,vI (c8 p)),(12,vI i),(51,vI p.aS.levels.length),(52,vI i),(97,gW xs),(98,vI xs.length),(99,vI j)],[(3,some (.cells (k9 p fs))),(9,some (.cells (j6 p))),(100,some (.row 130 (py::po).length 7 (dY (py::po))))]⟩ (hid 259 14 k) _
  refine sA aA [3,9,100] fun _ h'=>?_
  refine bI.seq (bI.cond ?_)
  refine aI (fun g=>bI.skip ?_) (fun g=>bI.exit ?_)
  ·have g:(j:Int)<xs.length:=cB g
   have xS:j<xs.length:=oM
   have hxo:=WE _ (dZ xS)
   have hX:=hX xS
   generalize hx0:xs.getD j default=x at hX hxo
   have hvo:=AF (m:=M) (i:=i) hv hxo
   have hpt:(bE p M i x).jO=aU (aU (x.top - x.bot)*c8 p):=rfl
   refine bI.seq (bI.block ?_)
   refine sA aA [3,9,100] fun _ h'=>?_
   refine oi (show(0:Int)≤(j:Int)∧(j:Int)<(xs.length:Int) by omega) ?_
   refine sA aA [3,9,100,20] fun _ h'=>?_
   refine bI.cut (σ':=⟨[(7,.s (.own 100)),(1,vI M),(2,.s (.d (cP (cY p fs (M+1))))),(3,.s (.ptr 3 0)),(8,dG k.bm),(9,.s (.ptr 9 0)),(11,vI (c8 p)),(12,vI i),(20,.s (.ptr 20 0)),(21,.s (.ptr 21 0)),(51,vI p.aS.levels.length),(52,vI i),(97,gW xs),(98,vI xs.length),(99,vI j)],[(3,some (.cells (k9 p fs))),(9,some (.cells (j6 p))),(100,some (.row 130 (py::po).length 7 (dY (py::po)))),(20,some (.cells [.d (dS x.aN),.d (dI x.top),.d (dI x.bot)])),(21,some (.cells [.d (dI M),.d (dI i),.d (dS x.aN),.d (dI (bE p M i x).jO),.d (dI (bE p M i x).gO),.d (dI 0),.d (dS (bs []))]))]⟩) (H':=hid 259 14 k) ?_ ?_
   ·refine sA aA [3,9,100,20,21] fun _ h'=>?_
    refine oi (show(0:Int)≤(i:Int)∧(i:Int)<(((lU p.chan p.aS p.chan.over).levels.length:Nat):Int) by rw[D6];omega) ?_
    refine sA aA [3,9,100,20,21] fun _ h'=>?_
    refine bI.cond ?_
    refine aI (fun g2=>?_) (fun g2=>bI.skip ?_)
    ·have g2:(OG p i !=30000)=true:=g2
     have hpd:(bE p M i x).gO=aU (mm true 0 (aU (x.top - mm true x.bot (OG p i)))*c8 p):=by unfold bE;rw[g2];rfl
     refine eA aA [3,9,100,20,21] fun _ h'=>?_
     exact⟨rfl,HSub.of (eS.of [] (by rw[aA];rfl) rfl ⟨bQ,bQ,bQ,⟨rfl,aQ.of_eq (by rw[←hx0];rfl)⟩,⟨rfl,aQ.of_eq (by rw[hpd,hpt,←hx0];rfl)⟩,oO⟩ ⟨qZ,qZ,qZ,qZ,qZ,qZ,qZ,qZ,qZ,qZ,qZ,qZ,qZ,qZ,qZ,oO⟩)⟩
    ·have g2:(OG p i !=30000)=false:=g2
     have hpd:(bE p M i x).gO=0:=by unfold bE;rw[g2];rfl
     exact⟨rfl,HSub.of (eS.of [] (by rw[aA];rfl) rfl ⟨bQ,bQ,bQ,⟨rfl,aQ.of_eq (by rw[←hx0];rfl)⟩,⟨rfl,aQ.of_eq (by rw[hpd,hpt,←hx0];rfl)⟩,oO⟩ ⟨qZ,qZ,qZ,qZ,qZ,qZ,qZ,qZ,qZ,qZ,qZ,qZ,qZ,qZ,qZ,oO⟩)⟩
   exact TN aA ha jC hit iT.1 hvo G0 oM hX
  ·have g:¬(j:Int)<xs.length:=cD g
   exact hE oM _
theorem N8{p:Proj}{fs:List Fact}{M i j:Nat}{xs:List Part}{s0:PS}{k:HM}{cx:Cx}{X:St→Hid→Prop}{K:Exit→St→Hid→Prop}(aA:cx.ref=[])(hv:PV p)(WE:∀x∈xs,zG x)(hxl:xs.length≤12)(hi:i<p.aS.levels.length)(hJ:JI p M i s0 xs (j,k))
  (hXo:∀σ2 k2,JI p M i s0 xs (xs.length,k2)→HSub cx f62.ntmps σ2 (hid 259 14 k2) (HR p fs M k2.bm (i+1) (LG p M i s0 xs xs.length).2) (hid 259 14 k2)→X σ2 (hid 259 14 k2)):
  bI prog cx f62.ntmps (nav f62.body [1,1,1,1,1,0,1,2,2,1,1,0,2,1,1,1,1,1,1,2,2]) (wE p fs M k.bm i xs j (LG p M i s0 xs j).2) (hid 259 14 k) (qG (fun σ' H'=>∃s',JI p M i s0 xs s'∧xs.length - s'.1<xs.length - j∧HSub cx f62.ntmps σ' H' (wE p fs M s'.2.bm i xs s'.1 (LG p M i s0 xs s'.1).2) (hid 259 14 s'.2))
   (zC 2 (zC 1 (qG (fun s H=>bI prog cx f62.ntmps (nav f62.body [1,1,1,1,1,0,1,2,2,1,1,1]) s H (qG X K)) (qG X K))))):=by
 obtain⟨hj,ha,jC,hit,iT⟩:=hJ
 have hj:j≤xs.length:=hj
 have ha:lP k.l (LG p M i s0 xs j).1:=ha
 have jC:k.clock=(LG p M i s0 xs j).1.length:=jC
 have hit:k.it=none:=hit
 have iT:C3 (LG p M i s0 xs j) (i*2412+j*201):=iT
 have jV:=hv.cells
 have ew:aU ((i:Int)+1)=((i+1:Nat):Int):=aG oM oM
 have hpI:=@ZI p M i s0 xs j
 generalize hqs:LG p M i s0 xs j=qs at ha jC iT hpI
 obtain⟨E1,o1⟩:=qs
 refine aC2 (E1:=E1) (o:=o1) aA hv WE hxl hi hj ha jC hit (iT.more oM) (fun hj2 σ2 k2 p1 p2 p3 p4=>?_) (fun hjx v=>?_)
 ·have hpI:=hpI hj2
  have hvo:=AF (m:=M) (i:=i) hv (WE _ (dZ hj2))
  have aJJ:=I9 (m:=M) (i:=i) (x:=xs.getD j default) iT ⟨oM,hvo.2⟩
  rw[←hpI]at p1 p2 p4 aJJ
  exact⟨(j+1,k2),⟨hj2,p1,p2,p3,aJJ.more (by show i*2412+j*201+201≤i*2412+(j+1)*201;omega)⟩,by show xs.length - (j+1)<xs.length - j;omega,p4⟩
 ·subst hjx
  cases o1 with
  |nil=>
   show bI prog cx _ _ (oJ ⟨[(7,.s (.d dK)),(1,vI M),(2,.s (.d (cP (cY p fs (M+1))))),(3,.s (.ptr 3 0)),(8,dG k.bm),(9,.s (.ptr 9 0)),(11,vI (c8 p)),(12,vI i),(51,vI p.aS.levels.length),(52,vI i),(97,gW xs),(98,vI xs.length),(99,vI xs.length)],[(3,some (.cells (k9 p fs))),(9,some (.cells (j6 p)))]⟩ 100 v) (hid 259 14 k) _
   refine eA aA [3,9] fun _ h'=>?_
   refine hXo _ k ⟨Nat.le_refl _,by rw[hqs];exact ha,by rw[hqs];exact jC,hit,by rw[hqs];exact iT⟩ ?_
   rw[hqs]
   show HSub _ _ _ _ ⟨[(7,.s (.d dK)),(1,vI M),(2,.s (.d (cP (cY p fs (M+1))))),(3,.s (.ptr 3 0)),(8,dG k.bm),(9,.s (.ptr 9 0)),(11,vI (c8 p)),(51,vI p.aS.levels.length),(52,vI (i+1:Nat))],[(3,some (.cells (k9 p fs))),(9,some (.cells (j6 p)))]⟩ _
   exact HSub.of (eS.of [] (by rw[aA];rfl) rfl ⟨bQ,bQ,oO⟩ ⟨qZ,qZ,qZ,qZ,qZ,qZ,qZ,qZ,⟨rfl,aM.int ew⟩,oO⟩)
  |cons py po=>
   show bI prog cx _ _ (oJ ⟨[(7,.s (.own 100)),(1,vI M),(2,.s (.d (cP (cY p fs (M+1))))),(3,.s (.ptr 3 0)),(8,dG k.bm),(9,.s (.ptr 9 0)),(11,vI (c8 p)),(12,vI i),(51,vI p.aS.levels.length),(52,vI i),(97,gW xs),(98,vI xs.length),(99,vI xs.length)],[(3,some (.cells (k9 p fs))),(9,some (.cells (j6 p))),(100,some (.row 130 (py::po).length 7 (dY (py::po))))]⟩ 100 v) (hid 259 14 k) _
   refine eA aA [3,9,100] fun _ h'=>?_
   refine hXo _ k ⟨Nat.le_refl _,by rw[hqs];exact ha,by rw[hqs];exact jC,hit,by rw[hqs];exact iT⟩ ?_
   rw[hqs]
   show HSub _ _ _ _ ⟨[(7,.s (.own 100)),(1,vI M),(2,.s (.d (cP (cY p fs (M+1))))),(3,.s (.ptr 3 0)),(8,dG k.bm),(9,.s (.ptr 9 0)),(11,vI (c8 p)),(51,vI p.aS.levels.length),(52,vI (i+1:Nat))],[(3,some (.cells (k9 p fs))),(9,some (.cells (j6 p))),(100,some (.row 130 (py::po).length 7 (dY (py::po))))]⟩ _
   exact HSub.of (eS.of [] (by rw[aA];rfl) rfl ⟨bQ,bQ,bQ,oO⟩ ⟨qZ,qZ,qZ,qZ,qZ,qZ,qZ,qZ,⟨rfl,aM.int ew⟩,oO⟩)
theorem pieces(p:Proj)(fs:List Fact)(M:Nat)(hp:p.fits)(hv:PV p)(hS:SOK p fs)(hn:XV fs M)(hM:1≤M∧M≤24)(jE:∀e∈pG (Rm.j8 (iC p (jT fs M) (jT fs M).length).1 M (iC p (jT fs M) (jT fs M).length).1.length),uH e.2.1):
  aF prog 62 [QY p fs,vI M,.s (.d (cP (cY p fs (M+1))))] (gX (F5 p fs M)):=by
 have hR:=Rm.aIK p fs M hp hv hS.len hn
 have hT:=G9 p.chan p.aS hp.chan (ES.gok hv.gv)
 rw[hv.yS p.chan.over]at hT
 generalize hL:(iC p (jT fs M) (jT fs M).length).1=L at hR jE
 have hpc:F5 p fs M=(DD p fs M (pG (Rm.j8 L M L.length)) p.aS.levels.length).2:=by unfold F5 DD;rw[hL]
 rw[hpc]
 refine eW func62 rfl rfl call62 rfl rfl (fun cx aA=>AW.CI ?_)
 refine sA aA [] fun _ h'=>?_
 refine sA aA [3] fun _ h'=>?_
 refine bI.seq (bI.region (bD.some (rc:=[]) aK 2 aA [3] rfl rfl (bD.op rfl (nE.aKV (ars:=[QY p fs,vI M]) rfl rfl dC rfl rfl hR ?_))))
 rintro x H ⟨h,rfl,rfl,ha,jC,hit⟩
 refine bD.some (rc:=[]) aK 1 aA [3] rfl rfl (bD.nil ?_)
 refine sA aA [3] fun _ h'=>?_
 refine aB (hT) ?_
 refine sA aA [3,9] fun _ h'=>?_
 refine bI.seq (sA aA [3,9] fun _ h'=>?_)
 refine bI.block ?_
 have ha:=lP.of ha
 have jC:h.clock=(pG (Rm.j8 L M L.length)).length:=by rw[jC];unfold pG;rw[List.length_map]
 generalize pG (Rm.j8 L M L.length)=E at ha jC jE
 refine bI.loop (S:=Nat×HM) (fun s=>HR p fs M s.2.bm s.1 (DD p fs M E s.1).2) (fun s=>hid 259 14 s.2) (JC p fs M E) (fun s=>p.aS.levels.length - s.1) (0,h) ⟨Nat.zero_le _,ha,jC,hit,jE,Nat.zero_le _⟩ ?_ ?_
 ·exact HSub.of (eS.of [] (by rw[aA];rfl) rfl ⟨bQ,bQ,oO⟩ ⟨qZ,qZ,qZ,qZ,qZ,qZ,qZ,qZ,qZ,oO⟩)
 ·rintro⟨i,h⟩ ⟨hi,ha,jC,hit,iT⟩
  have hi:i≤p.aS.levels.length:=hi
  have ha:lP h.l (DD p fs M E i).1:=ha
  have jC:h.clock=(DD p fs M E i).1.length:=jC
  have hit:h.it=none:=hit
  have iT:C3 (DD p fs M E i) (i*2412):=iT
  obtain⟨hM1,hM2⟩:=hM
  have ew:aU ((i:Int)+1)=((i+1:Nat):Int):=by have:=hv.cells;exact aG oM oM
  have jV:=hv.cells
  have aJH:=hv.bR
  have eM:aU ((M:Int) - 1)=((M - 1:Nat):Int):=by rw[aG oM oM];omega
  have eMn:(aU ((M:Int) - 1)).toNat=M - 1:=by rw[eM];omega
  show bI prog cx _ _ (HR p fs M h.bm i (DD p fs M E i).2) (hid 259 14 h) _
  generalize hps:DD p fs M E i=ps at ha jC iT
  obtain⟨E0,out⟩:=ps
  cases out with
  |nil=>
   refine sA aA [3,9] fun _ h'=>?_
   refine bI.seq (bI.cond ?_)
   refine aI (fun g=>bI.skip ?_) (fun g=>bI.exit ?_)
   ·have g:(i:Int)<p.aS.levels.length:=cB g
    have bN:i<p.aS.levels.length:=oM
    refine bI.seq (bI.block ?_)
    refine sA aA [3,9] fun _ h'=>?_
    refine sA aA [3,9] fun _ h'=>?_
    refine oi (show 0≤aU ((M:Int) - 1)∧aU ((M:Int) - 1)<((cY p fs (M+1)).length:Int) by rw[eM,mN];omega) ?_
    refine oi (show(0:Int)≤(i:Int)∧(i:Int)<((((cY p fs (M+1)).getD (aU ((M:Int) - 1)).toNat default).levels.length:Nat):Int) by rw[eMn,mO oM];show(0:Int)≤(i:Int)∧(i:Int)<((o6 p fs (M - 1)).length:Int);unfold o6;simp;omega) ?_
    refine oi (show(0:Int)≤(M:Int)∧(M:Int)<((cY p fs (M+1)).length:Int) by rw[mN];omega) ?_
    refine oi (show(0:Int)≤(i:Int)∧(i:Int)<((((cY p fs (M+1)).getD (M:Int).toNat default).levels.length:Nat):Int) by rw[show(M:Int).toNat=M from rfl,mO oM];show(0:Int)≤(i:Int)∧(i:Int)<((o6 p fs M).length:Int);unfold o6;simp;omega) ?_
    refine aD ?_
    have e1:((cY p fs (M+1)).getD (aU ((M:Int) - 1)).toNat default).levels.getD i 0=lC p fs (M - 1) i:=by
     rw[eMn,mO oM];exact AI bN
    have e2:((cY p fs (M+1)).getD (M:Int).toNat default).levels.getD i 0=lC p fs M i:=by
     rw[show(M:Int).toNat=M from rfl,mO oM];exact AI bN
    generalize hfr:lC p fs (M - 1) i=fr at e1
    generalize DR:lC p fs M i=tt at e2
    have jE:DD p fs M E (i+1)=vG p fs M (E0,[]) i:=by rw[FZ,hps]
    refine bI.sub (σ':=⟨[(7,.s (.d dK)),(1,vI M),(2,.s (.d (cP (cY p fs (M+1))))),(3,.s (.ptr 3 0)),(8,dG h.bm),(9,.s (.ptr 9 0)),(11,vI (c8 p)),(12,vI i),(13,vI fr),(14,vI tt),(51,vI p.aS.levels.length),(52,vI i)],[(3,some (.cells (k9 p fs))),(9,some (.cells (j6 p)))]⟩) (HSub.of (eS.of [] (by rw[aA];rfl) rfl ⟨bQ,bQ,oO⟩ ⟨qZ,qZ,qZ,qZ,qZ,qZ,qZ,qZ,⟨rfl,aM.int e1⟩,⟨rfl,aM.int e2⟩,qZ,qZ,oO⟩)) ?_
    refine bI.seq (sA aA [3,9] fun _ h'=>?_)
    repeat refine aR ?_
    refine bI.cond ?_
    refine aI (fun h2=>bI.exit ?_) (fun h2=>bI.skip ?_)
    ·have h2:(fr==30000||decide (tt≥fr))=true:=h2
     have yM:DD p fs M E (i+1)=(E0,[]):=by rw[jE];unfold vG;rw[hfr,DR,h2];rfl
     refine eA aA [3,9] fun _ h'=>?_
     refine⟨(i+1,h),⟨by show i+1≤p.aS.levels.length;omega,by rw[yM];exact ha,by rw[yM];exact jC,hit,by rw[yM];exact iT.more (by show i*2412≤(i+1)*2412;omega)⟩,by show p.aS.levels.length - (i+1)<p.aS.levels.length - i;omega,?_⟩
     show HSub _ _ _ _ (HR p fs M h.bm (i+1) (DD p fs M E (i+1)).2) _
     rw[yM]
     show HSub _ _ _ _ ⟨[(7,.s (.d dK)),(1,vI M),(2,.s (.d (cP (cY p fs (M+1))))),(3,.s (.ptr 3 0)),(8,dG h.bm),(9,.s (.ptr 9 0)),(11,vI (c8 p)),(51,vI p.aS.levels.length),(52,vI (i+1:Nat))],[(3,some (.cells (k9 p fs))),(9,some (.cells (j6 p)))]⟩ _
     exact HSub.of (eS.of [] (by rw[aA];rfl) rfl ⟨bQ,bQ,oO⟩ ⟨qZ,qZ,qZ,qZ,qZ,qZ,qZ,qZ,⟨rfl,aM.int ew⟩,oO⟩)
    ·have h2:(fr==30000||decide (tt≥fr))=false:=h2
     refine sA aA [3,9] fun _ h'=>?_
     refine aB (MW p.aS i hv.aS oM oM oM) ?_
     refine sA aA [3,9,15] fun _ h'=>?_
     refine aB (aCC p.gr (dF p.aS i) fr tt hp.gr aJH) ?_
     have yM:DD p fs M E (i+1)=(tS p.gr (dF p.aS i) fr tt).foldl (nU p M i) (E0,[]):=by rw[jE];unfold vG;rw[hfr,DR,h2];rfl
     have WE:∀x∈tS p.gr (dF p.aS i) fr tt,zG x:=fun x hx=>C5 hx
     have hxl:=H3 (c:=dF p.aS i) (hi:=fr) (lo:=tt) hv
     generalize tS p.gr (dF p.aS i) fr tt=xs at yM WE hxl
     refine sA aA [3,9,15] fun _ h'=>?_
     refine bI.block ?_
     refine bI.loop (S:=Nat×HM) (fun s=>wE p fs M s.2.bm i xs s.1 (LG p M i (E0,[]) xs s.1).2) (fun s=>hid 259 14 s.2) (JI p M i (E0,[]) xs) (fun s=>xs.length - s.1) (0,h) ⟨Nat.zero_le _,ha,jC,hit,iT⟩ ?_ ?_
     ·show HSub _ _ _ _ ⟨[(7,.s (.d dK)),(1,vI M),(2,.s (.d (cP (cY p fs (M+1))))),(3,.s (.ptr 3 0)),(8,dG h.bm),(9,.s (.ptr 9 0)),(11,vI (c8 p)),(12,vI i),(51,vI p.aS.levels.length),(52,vI i),(97,gW xs),(98,vI xs.length),(99,vI (0:Nat))],[(3,some (.cells (k9 p fs))),(9,some (.cells (j6 p)))]⟩ _
      exact HSub.of (eS.of [] (by rw[aA];rfl) rfl ⟨bQ,bQ,oO⟩ ⟨qZ,qZ,qZ,qZ,qZ,qZ,qZ,qZ,qZ,qZ,qZ,qZ,qZ,oO⟩)
     ·rintro⟨j,k⟩ ⟨hj,ha',aGU,aGQ,lD⟩
      refine N8 (p:=p) (fs:=fs) (M:=M) (j:=j) (k:=k) aA hv WE hxl bN ⟨hj,ha',aGU,aGQ,lD⟩ (fun σ2 k2 hJ h2=>?_)
      have aGJ:LG p M i (E0,[]) xs xs.length=DD p fs M E (i+1):=by rw[yM];unfold LG;rw[List.take_length]
      obtain⟨_,q1,q2,q3,q4⟩:=hJ
      rw[aGJ]at q1 q2 q4 h2
      exact⟨(i+1,k2),⟨by show i+1≤p.aS.levels.length;omega,q1,q2,q3,q4.more (by show i*2412+xs.length*201≤(i+1)*2412;omega)⟩,by show p.aS.levels.length - (i+1)<p.aS.levels.length - i;omega,h2⟩
   ·have g:¬(i:Int)<p.aS.levels.length:=cD g
    obtain rfl:i=p.aS.levels.length:=oM
    refine sA aA [3,9] fun _ h'=>?_
    refine bI.ret ?_
    rw[hps]
    exact aC.le aJ.nil
  |cons px pr=>
   refine sA aA [3,9,100] fun _ h'=>?_
   refine bI.seq (bI.cond ?_)
   refine aI (fun g=>bI.skip ?_) (fun g=>bI.exit ?_)
   ·have g:(i:Int)<p.aS.levels.length:=cB g
    have bN:i<p.aS.levels.length:=oM
    refine bI.seq (bI.block ?_)
    refine sA aA [3,9,100] fun _ h'=>?_
    refine sA aA [3,9,100] fun _ h'=>?_
    refine oi (show 0≤aU ((M:Int) - 1)∧aU ((M:Int) - 1)<((cY p fs (M+1)).length:Int) by rw[eM,mN];omega) ?_
    refine oi (show(0:Int)≤(i:Int)∧(i:Int)<((((cY p fs (M+1)).getD (aU ((M:Int) - 1)).toNat default).levels.length:Nat):Int) by rw[eMn,mO oM];show(0:Int)≤(i:Int)∧(i:Int)<((o6 p fs (M - 1)).length:Int);unfold o6;simp;omega) ?_
    refine oi (show(0:Int)≤(M:Int)∧(M:Int)<((cY p fs (M+1)).length:Int) by rw[mN];omega) ?_
    refine oi (show(0:Int)≤(i:Int)∧(i:Int)<((((cY p fs (M+1)).getD (M:Int).toNat default).levels.length:Nat):Int) by rw[show(M:Int).toNat=M from rfl,mO oM];show(0:Int)≤(i:Int)∧(i:Int)<((o6 p fs M).length:Int);unfold o6;simp;omega) ?_
    refine aD ?_
    have e1:((cY p fs (M+1)).getD (aU ((M:Int) - 1)).toNat default).levels.getD i 0=lC p fs (M - 1) i:=by
     rw[eMn,mO oM];exact AI bN
    have e2:((cY p fs (M+1)).getD (M:Int).toNat default).levels.getD i 0=lC p fs M i:=by
     rw[show(M:Int).toNat=M from rfl,mO oM];exact AI bN
    generalize hfr:lC p fs (M - 1) i=fr at e1
    generalize DR:lC p fs M i=tt at e2
    have jE:DD p fs M E (i+1)=vG p fs M (E0,px::pr) i:=by rw[FZ,hps]
    refine bI.sub (σ':=⟨[(7,.s (.own 100)),(1,vI M),(2,.s (.d (cP (cY p fs (M+1))))),(3,.s (.ptr 3 0)),(8,dG h.bm),(9,.s (.ptr 9 0)),(11,vI (c8 p)),(12,vI i),(13,vI fr),(14,vI tt),(51,vI p.aS.levels.length),(52,vI i)],[(3,some (.cells (k9 p fs))),(9,some (.cells (j6 p))),(100,some (.row 130 (px::pr).length 7 (dY (px::pr))))]⟩) (HSub.of (eS.of [] (by rw[aA];rfl) rfl ⟨bQ,bQ,bQ,oO⟩ ⟨qZ,qZ,qZ,qZ,qZ,qZ,qZ,qZ,⟨rfl,aM.int e1⟩,⟨rfl,aM.int e2⟩,qZ,qZ,oO⟩)) ?_
    refine bI.seq (sA aA [3,9,100] fun _ h'=>?_)
    repeat refine aR ?_
    refine bI.cond ?_
    refine aI (fun h2=>bI.exit ?_) (fun h2=>bI.skip ?_)
    ·have h2:(fr==30000||decide (tt≥fr))=true:=h2
     have yM:DD p fs M E (i+1)=(E0,px::pr):=by rw[jE];unfold vG;rw[hfr,DR,h2];rfl
     refine eA aA [3,9,100] fun _ h'=>?_
     refine⟨(i+1,h),⟨by show i+1≤p.aS.levels.length;omega,by rw[yM];exact ha,by rw[yM];exact jC,hit,by rw[yM];exact iT.more (by show i*2412≤(i+1)*2412;omega)⟩,by show p.aS.levels.length - (i+1)<p.aS.levels.length - i;omega,?_⟩
     show HSub _ _ _ _ (HR p fs M h.bm (i+1) (DD p fs M E (i+1)).2) _
     rw[yM]
     show HSub _ _ _ _ ⟨[(7,.s (.own 100)),(1,vI M),(2,.s (.d (cP (cY p fs (M+1))))),(3,.s (.ptr 3 0)),(8,dG h.bm),(9,.s (.ptr 9 0)),(11,vI (c8 p)),(51,vI p.aS.levels.length),(52,vI (i+1:Nat))],[(3,some (.cells (k9 p fs))),(9,some (.cells (j6 p))),(100,some (.row 130 (px::pr).length 7 (dY (px::pr))))]⟩ _
     exact HSub.of (eS.of [] (by rw[aA];rfl) rfl ⟨bQ,bQ,bQ,oO⟩ ⟨qZ,qZ,qZ,qZ,qZ,qZ,qZ,qZ,⟨rfl,aM.int ew⟩,oO⟩)
    ·have h2:(fr==30000||decide (tt≥fr))=false:=h2
     refine sA aA [3,9,100] fun _ h'=>?_
     refine aB (MW p.aS i hv.aS oM oM oM) ?_
     refine sA aA [3,9,100,15] fun _ h'=>?_
     refine aB (aCC p.gr (dF p.aS i) fr tt hp.gr aJH) ?_
     have yM:DD p fs M E (i+1)=(tS p.gr (dF p.aS i) fr tt).foldl (nU p M i) (E0,px::pr):=by rw[jE];unfold vG;rw[hfr,DR,h2];rfl
     have WE:∀x∈tS p.gr (dF p.aS i) fr tt,zG x:=fun x hx=>C5 hx
     have hxl:=H3 (c:=dF p.aS i) (hi:=fr) (lo:=tt) hv
     generalize tS p.gr (dF p.aS i) fr tt=xs at yM WE hxl
     refine sA aA [3,9,100,15] fun _ h'=>?_
     refine bI.block ?_
     refine bI.loop (S:=Nat×HM) (fun s=>wE p fs M s.2.bm i xs s.1 (LG p M i (E0,px::pr) xs s.1).2) (fun s=>hid 259 14 s.2) (JI p M i (E0,px::pr) xs) (fun s=>xs.length - s.1) (0,h) ⟨Nat.zero_le _,ha,jC,hit,iT⟩ ?_ ?_
     ·show HSub _ _ _ _ ⟨[(7,.s (.own 100)),(1,vI M),(2,.s (.d (cP (cY p fs (M+1))))),(3,.s (.ptr 3 0)),(8,dG h.bm),(9,.s (.ptr 9 0)),(11,vI (c8 p)),(12,vI i),(51,vI p.aS.levels.length),(52,vI i),(97,gW xs),(98,vI xs.length),(99,vI (0:Nat))],[(3,some (.cells (k9 p fs))),(9,some (.cells (j6 p))),(100,some (.row 130 (px::pr).length 7 (dY (px::pr))))]⟩ _
      exact HSub.of (eS.of [] (by rw[aA];rfl) rfl ⟨bQ,bQ,bQ,oO⟩ ⟨qZ,qZ,qZ,qZ,qZ,qZ,qZ,qZ,qZ,qZ,qZ,qZ,qZ,oO⟩)
     ·rintro⟨j,k⟩ ⟨hj,ha',aGU,aGQ,lD⟩
      refine N8 (p:=p) (fs:=fs) (M:=M) (j:=j) (k:=k) aA hv WE hxl bN ⟨hj,ha',aGU,aGQ,lD⟩ (fun σ2 k2 hJ h2=>?_)
      have aGJ:LG p M i (E0,px::pr) xs xs.length=DD p fs M E (i+1):=by rw[yM];unfold LG;rw[List.take_length]
      obtain⟨_,q1,q2,q3,q4⟩:=hJ
      rw[aGJ]at q1 q2 q4 h2
      exact⟨(i+1,k2),⟨by show i+1≤p.aS.levels.length;omega,q1,q2,q3,q4.more (by show i*2412+xs.length*201≤(i+1)*2412;omega)⟩,by show p.aS.levels.length - (i+1)<p.aS.levels.length - i;omega,h2⟩
   ·have g:¬(i:Int)<p.aS.levels.length:=cD g
    obtain rfl:i=p.aS.levels.length:=oM
    refine sA aA [3,9,100] fun _ h'=>?_
    refine bI.ret ?_
    rw[hps]
    exact aC.refl _
theorem G3{p:Proj}{l:List Fact}:∀{k:Nat},k≤l.length→∀f∈(iC p l k).1,f∈l
 |0,_,f,hf=>by cases hf
 |k+1,hk,f,hf=>by
  rw[iC]at hf
  cases hq:(nW (iC p l k).2 (xW (l.getD k default)) (l.getD k default).cQ==0)with
  |true=>
   rw[hq]at hf
   rcases List.mem_append.1 hf with hf|hf
   ·exact G3 oM f hf
   ·rw[List.mem_singleton.1 hf];exact dZ oM
  |false=>
   rw[hq]at hf
   exact G3 oM f hf
theorem YS{fs:List Fact}{m:Int}{f:Fact}(h:f∈jT fs m):f∈fs∧f.kind=1∧f.month≤m:=by
 have h:=(List.mergeSort_perm _ _).mem_iff.1 h
 unfold rP at h
 obtain⟨h1,h2⟩:=List.mem_filter.1 h
 simp only [Bool.and_eq_true,beq_iff_eq,decide_eq_true_eq]at h2
 exact⟨h1,h2.1,h2.2⟩
theorem Rm.XT{E:List Rm.gM}{k:bG}{t:Room}{Q:Room→Prop}(h:∀e∈E,∀r∈e.2.1,Q r)(ht:Q t):∀e∈Rm.oR E k t,∀r∈e.2.1,Q r:=by
 intro e he
 unfold Rm.oR at he
 split at he
 ·rename_i i p hp
  obtain⟨j,hj⟩:=List.getElem?_of_mem he
  rw[List.getElem?_modify]at hj
  cases hE:E[j]? with
  |none=>rw[hE]at hj;cases hj
  |some y=>
   rw[hE]at hj
   have hy:=h y (List.mem_of_getElem? hE)
   have hj:(if i=j then(y.1,y.2.1++ [t],y.2.2)else y)=e:=by simpa using hj
   split at hj
   ·subst hj
    intro r hr
    rcases List.mem_append.1 hr with hr|hr
    ·exact hy r hr
    ·rw[List.mem_singleton.1 hr];exact ht
   ·subst hj;exact hy
 ·rcases List.mem_append.1 he with he|he
  ·exact h e he
  ·rw[List.mem_singleton.1 he]
   intro r hr
   rw[List.mem_singleton.1 hr];exact ht
theorem Rm.CU{L:List Fact}{m:Int}{Q:Room→Prop}(hQ:∀f∈L,Q (f,f.aS)):∀{i:Nat},i≤L.length→∀e∈Rm.j8 L m i,∀r∈e.2.1,Q r
 |0,_,e,he=>by simp[Rm.j8]at he
 |i+1,hi,e,he=>by
  rw[Rm.CT oM]at he
  unfold Rm.I8 at he
  cases hw:((L.getD i default).month==m)with
  |false=>rw[hw]at he;exact Rm.CU hQ oM e he
  |true=>
   rw[hw]at he
   exact Rm.XT (fun e he=>Rm.CU hQ oM e he) (hQ _ (dZ oM)) e he
theorem NO{L:List Fact}{m:Int}(hb:∀f∈L,1≤f.aS∧f.aS≤1000000000000)(hl:L.length≤200):∀e∈pG (Rm.j8 L m L.length),uH e.2.1:=by
 intro e he
 unfold pG at he
 obtain⟨e0,h0,rfl⟩:=List.mem_map.1 he
 have h1:=Rm.pW h0
 have h2:=Rm.CU (Q:=fun r=>1≤r.2∧r.2≤1000000000000) (m:=m) hb (Nat.le_refl _) e0 h0
 refine⟨Nat.zero_le _,by show e0.2.1.length≤200;omega,fun i _ hi=>?_⟩
 have hi:i<e0.2.1.length:=hi
 exact h2 _ (dZ hi)
theorem FK{p:Proj}{m:Int}{i:Nat}(hv:PV p):∀{xs:List Part} {s:PS} {n:Nat},C3 s n→(∀x∈xs,zG x)→C3 (xs.foldl (nU p m i) s) (n+xs.length*201)
 |[],s,n,h,_=>by simpa using h
 |x::r,s,n,h,hx=>by
  have hx0:=AF (m:=m) (i:=i) hv (hx x (List.mem_cons_self))
  have h1:=FK (m:=m) (i:=i) hv (xs:=r) (I9 (m:=m) (i:=i) (x:=x) h ⟨oM,hx0.2⟩) fun y hy=>hx y (List.mem_cons_of_mem _ hy)
  rw[List.foldl_cons]
  rw[show n+(x::r).length*201=n+201+r.length*201 by rw[List.length_cons];omega]
  exact h1
theorem TM{p:Proj}{fs:List Fact}{M:Nat}{E:List lO}(hv:PV p)(hE:∀e∈E,uH e.2.1):∀i,C3 (DD p fs M E i) (i*2412)
 |0=>⟨hE,Nat.zero_le _⟩
 |i+1=>by
  have ih:=TM (fs:=fs) (M:=M) hv hE i
  rw[FZ]
  unfold vG
  cases(lC p fs (M - 1) i==30000||decide (lC p fs M i≥lC p fs (M - 1) i))with
  |true=>exact ih.more oM
  |false=>
   have h1:=H3 (c:=dF p.aS i) (hi:=lC p fs (M - 1) i) (lo:=lC p fs M i) hv
   exact(FK (m:=M) (i:=i) hv (xs:=tS p.gr (dF p.aS i) (lC p fs (M - 1) i) (lC p fs M i)) ih fun x hx=>C5 hx).more oM
theorem aKX{l:List Fact}(hv:∀f∈l,fA f=0):∀f∈cntF l,f.kind=1→1≤f.aS∧f.aS≤1000000000000:=by
 intro f hf hk
 obtain⟨k,_,_,g,hg,rfl,_⟩:=US hv hf
 have hk:g.kind=1:=hk
 have h1:=kJ (nM (hv g hg)).2 (by rw[hk];rfl)
 have h2:=within_iff.1 h1.1.2.1
 have e:(bH g).aS=g.aS:=by unfold bH;rw[hk];rfl
 rw[e];exact h2
theorem aC0{p:Proj}{l:List Fact}{M:Nat}(hp:p.fits)(hk:FOK p l)(hM:1≤M∧M≤24)(hs:XV (cntF l) M):
  aF prog 62 [QY p (cntF l),vI M,.s (.d (cP (cY p (cntF l) (M+1))))] (gX (F5 p (cntF l) M))∧(F5 p (cntF l) M).length≤241200:=by
 have hv:=PV.of hk.proj
 have hS:=P5 hk
 have hL:(iC p (jT (cntF l) M) (jT (cntF l) M).length).1.length≤200:=by
  refine Nat.le_trans (AT p _ _) ?_
  unfold jT
  rw[zR]
  exact Nat.le_trans (List.length_filter_le _ _) hS.len
 have hg:=NO (m:=M) (fun f hf=>by
  obtain⟨h1,h2,_⟩:=YS (G3 (Nat.le_refl _) f hf)
  exact aKX hk.fmt f h1 h2) hL
 refine⟨pieces p (cntF l) M hp hv hS hs hM hg,?_⟩
 have h1:=(TM (fs:=cntF l) (M:=M) hv hg p.aS.levels.length).2
 have h2:=hv.cells
 have e:F5 p (cntF l) M=(DD p (cntF l) M (pG (Rm.j8 (iC p (jT (cntF l) M) (jT (cntF l) M).length).1 M (iC p (jT (cntF l) M) (jT (cntF l) M).length).1.length)) p.aS.levels.length).2:=rfl
 rw[e]
 omega
def NK(p:Proj)(l:List Fact)(M:Nat):Stmt:=
 aCI p M (F5 p (cntF l) M) (fN p (F5 p (cntF l) M) p.gr.bT.length) (LU p (cntF l) M (xP p (cntF l) M) p.fV.length) (nD p (cntF l) M p.aS.levels.length)
theorem aEH(p:Proj)(l:List Fact)(M:Nat)(hp:p.fits)(hf:∀f∈l,f.fits)(hl:l.length≤9223372036854775807)(he:F9 p l M 1=0)(hs:XV (cntF l) M)
  (O8:aF prog 65 [QY p (cntF l),vI M,yS (xP p (cntF l) M)] (TB (LU p (cntF l) M (xP p (cntF l) M) p.fV.length))):
  aF prog 21 [LH p,jF l,vI M] (.t [.g [.d (dI M),.d (dI (NK p l M).over),.d (dI (NK p l M).eU),.d (dI (NK p l M).total),.d (wQ (NK p l M).W2),.d (wP (NK p l M).aLU),.d (cG (NK p l M).aMS)],.s (.d (dI 0))]):=by
 obtain⟨hk,hw⟩:=F8 he
 have hw:=within_iff.1 hw
 obtain⟨h1,h2⟩:=aC0 (M:=M) hp hk ⟨oM,oM⟩ hs
 exact XW p l M (F5 p (cntF l) M) hp hf hl he (P5 hk) oM oM O8 h1
def ZV(f:Fact):Bool:=decide ((f.levels.length:Int)>120)||decide ((f.aN.size:Int)>40)||decide ((f.cQ.size:Int)>40)||decide ((f.cE.size:Int)>40)
theorem aJ4(f:Fact):aF prog 6 [oB f] (vB (ZV f)):=by
 refine eP func6 rfl rfl call6 rfl rfl fun cx aA=>?_
 repeat refine aR ?_
 exact aC.refl _
end Go.Pj
--K62
namespace Go.Ax
theorem HSub.ofM{cx:Cx}{N:Nat}{σ σ':St}(h:kH cx N σ σ'):HSub cx N σ Hid.none σ' Hid.none:=fun M β a w i _=>
 let⟨M',β',i',g⟩:=h M β a w i
 ⟨M',β',i',lQ.none,g⟩
end Go.Ax
namespace Go.Pj
open Go Go.Ax Go.Ch Go.Proofs Go.Proofs.Tryz
set_option maxRecDepth 100000
set_option maxHeartbeats 1000000
abbrev kB:ByteArray:=bs [115,97,110,100]
abbrev NC:ByteArray:=bs [119,101,115,116]
def PM:Proj:=
 {name:=bs [66,97,114],aS:=⟨0,0,1000,2,1,[-900, -900]⟩,chan:=⟨bs [77,97,105,110],[⟨0,500,1000, -1000,0⟩,⟨2000,500,1000, -1000,0⟩],50,0,[]⟩
  gr:=⟨[⟨kB,30,1900,6,5⟩],[⟨bs [66,49],0,0,[⟨0,kB⟩]⟩]⟩,agree:=10,eU:=300,eY:=[⟨kB,500⟩],fV:=[]
  a6:=[⟨NC,10000000, -2000, -1000,[0],100⟩],b8:=[⟨kB,6,5⟩]}
def WX:List Fact:=
 [⟨0,1,0,1,0,0,0,0,0,bs [],bs [],bs [],[-1000, -1060]⟩,⟨0,1,1,1,0,0,0,0,0,bs [],bs [],bs [],[-1005, -1065]⟩,
  ⟨1,1,0,1,1,200000000,0,0,0,kB,NC,bs [],[]⟩]
theorem Example:aF prog 22 [] (LH PM):=by
 refine eW func22 rfl rfl call22 rfl rfl (fun cx aA=>AW.CI ?_)
 refine sA aA [] fun _ h'=>?_
 refine bI.seq (bI.region ?_)
 refine bD.some (rc:=[]) aK 1 aA [0] rfl rfl ?_
 refine bD.sub (σ':=⟨[(0,.s (.ptr 0 0)),(1,.s (.d (cG [-900, -900])))],[(0,some (.cells (iE ty38.zero)))]⟩) (H':=Hid.none) (HSub.ofM (kH.of aA [] [1] rfl rfl rfl ⟨⟨rfl,iI.rfl⟩,oO⟩ ⟨⟨rfl,bO.rfl⟩,⟨rfl,(bO.own (List.mem_singleton.2 rfl) rfl).then (aM.d (aJ.fJ fun i j hi hj=>by have hi:i<2:=hi;have hj:j<1:=hj;match i,j,hi,hj with|0,0,_,_|1,0,_,_=>exact aJ.refl _))⟩,oO⟩)) ?_
 refine bD.some (rc:=[]) aK 4 aA [0] rfl rfl ?_
 refine bD.sub (σ':=⟨[(0,.s (.ptr 0 0)),(2,.g [.d (dI 0),.d (dI 0),.d (dI 1000),.d (dI 2),.d (dI 1),.d (cG [-900, -900])]),(5,.s (.d (BE [⟨0,500,1000, -1000,0⟩,⟨2000,500,1000, -1000,0⟩])))],[(0,some (.cells (iE ty38.zero)))]⟩) (H':=Hid.none) (HSub.ofM (kH.of aA [] [5] rfl rfl rfl ⟨⟨rfl,iI.rfl⟩,oO⟩ ⟨⟨rfl,bO.rfl⟩,⟨rfl,bO.rfl⟩,⟨rfl,(bO.own (List.mem_singleton.2 rfl) rfl).then (aM.d (aJ.fJ fun i j hi hj=>by have hi:i<2:=hi;have hj:j<5:=hj;match i,j,hi,hj with|0,0,_,_|0,1,_,_|0,2,_,_|0,3,_,_|0,4,_,_|1,0,_,_|1,1,_,_|1,2,_,_|1,3,_,_|1,4,_,_=>exact aJ.refl _))⟩,oO⟩)) ?_
 refine bD.some (rc:=[]) aK 4 aA [0] rfl rfl ?_
 refine bD.sub (σ':=⟨[(0,.s (.ptr 0 0)),(2,.g [.d (dI 0),.d (dI 0),.d (dI 1000),.d (dI 2),.d (dI 1),.d (cG [-900, -900])]),(6,.g [.d (dS (bs [77,97,105,110])),.d (BE [⟨0,500,1000, -1000,0⟩,⟨2000,500,1000, -1000,0⟩]),.d (dI 50),.d (dI 0),.d dK]),(9,.s (.d (mX [⟨kB,30,1900,6,5⟩])))],[(0,some (.cells (iE ty38.zero)))]⟩) (H':=Hid.none) (HSub.ofM (kH.of aA [] [9] rfl rfl rfl ⟨⟨rfl,iI.rfl⟩,oO⟩ ⟨⟨rfl,bO.rfl⟩,⟨rfl,bO.rfl⟩,⟨rfl,bO.rfl⟩,⟨rfl,(bO.own (List.mem_singleton.2 rfl) rfl).then (aM.d (aJ.fJ fun i j hi hj=>by have hi:i<1:=hi;have hj:j<5:=hj;match i,j,hi,hj with|0,0,_,_|0,1,_,_|0,2,_,_|0,3,_,_|0,4,_,_=>exact aJ.refl _))⟩,oO⟩)) ?_
 refine bD.some (rc:=[]) aK 2 aA [0] rfl rfl ?_
 refine bD.sub (σ':=⟨[(0,.s (.ptr 0 0)),(2,.g [.d (dI 0),.d (dI 0),.d (dI 1000),.d (dI 2),.d (dI 1),.d (cG [-900, -900])]),(6,.g [.d (dS (bs [77,97,105,110])),.d (BE [⟨0,500,1000, -1000,0⟩,⟨2000,500,1000, -1000,0⟩]),.d (dI 50),.d (dI 0),.d dK]),(9,.s (.d (mX [⟨kB,30,1900,6,5⟩]))),(11,.s (.d (nT [⟨0,kB⟩])))],[(0,some (.cells (iE ty38.zero)))]⟩) (H':=Hid.none) (HSub.ofM (kH.of aA [] [11] rfl rfl rfl ⟨⟨rfl,iI.rfl⟩,oO⟩ ⟨⟨rfl,bO.rfl⟩,⟨rfl,bO.rfl⟩,⟨rfl,bO.rfl⟩,⟨rfl,bO.rfl⟩,⟨rfl,(bO.own (List.mem_singleton.2 rfl) rfl).then (aM.d (aJ.fJ fun i j hi hj=>by have hi:i<1:=hi;have hj:j<2:=hj;match i,j,hi,hj with|0,0,_,_|0,1,_,_=>exact aJ.refl _))⟩,oO⟩)) ?_
 refine bD.some (rc:=[]) aK 2 aA [0] rfl rfl ?_
 refine bD.sub (σ':=⟨[(0,.s (.ptr 0 0)),(2,.g [.d (dI 0),.d (dI 0),.d (dI 1000),.d (dI 2),.d (dI 1),.d (cG [-900, -900])]),(6,.g [.d (dS (bs [77,97,105,110])),.d (BE [⟨0,500,1000, -1000,0⟩,⟨2000,500,1000, -1000,0⟩]),.d (dI 50),.d (dI 0),.d dK]),(9,.s (.d (mX [⟨kB,30,1900,6,5⟩]))),(13,.s (.d (uB [⟨bs [66,49],0,0,[⟨0,kB⟩]⟩])))],[(0,some (.cells (iE ty38.zero)))]⟩) (H':=Hid.none) (HSub.ofM (kH.of aA [] [13] rfl rfl rfl ⟨⟨rfl,iI.rfl⟩,oO⟩ ⟨⟨rfl,bO.rfl⟩,⟨rfl,bO.rfl⟩,⟨rfl,bO.rfl⟩,⟨rfl,bO.rfl⟩,⟨rfl,(bO.own (List.mem_singleton.2 rfl) rfl).then (aM.d (aJ.fJ fun i j hi hj=>by have hi:i<1:=hi;have hj:j<4:=hj;match i,j,hi,hj with|0,0,_,_|0,1,_,_|0,2,_,_|0,3,_,_=>exact aJ.refl _))⟩,oO⟩)) ?_
 refine bD.some (rc:=[]) aK 3 aA [0] rfl rfl ?_
 refine bD.sub (σ':=⟨[(0,.s (.ptr 0 0)),(2,.g [.d (dI 0),.d (dI 0),.d (dI 1000),.d (dI 2),.d (dI 1),.d (cG [-900, -900])]),(6,.g [.d (dS (bs [77,97,105,110])),.d (BE [⟨0,500,1000, -1000,0⟩,⟨2000,500,1000, -1000,0⟩]),.d (dI 50),.d (dI 0),.d dK]),(14,.g [.d (mX [⟨kB,30,1900,6,5⟩]),.d (uB [⟨bs [66,49],0,0,[⟨0,kB⟩]⟩])]),(16,.s (.d (D8 [⟨kB,500⟩])))],[(0,some (.cells (iE ty38.zero)))]⟩) (H':=Hid.none) (HSub.ofM (kH.of aA [] [16] rfl rfl rfl ⟨⟨rfl,iI.rfl⟩,oO⟩ ⟨⟨rfl,bO.rfl⟩,⟨rfl,bO.rfl⟩,⟨rfl,bO.rfl⟩,⟨rfl,bO.rfl⟩,⟨rfl,(bO.own (List.mem_singleton.2 rfl) rfl).then (aM.d (aJ.fJ fun i j hi hj=>by have hi:i<1:=hi;have hj:j<2:=hj;match i,j,hi,hj with|0,0,_,_|0,1,_,_=>exact aJ.refl _))⟩,oO⟩)) ?_
 refine bD.some (rc:=[]) aK 1 aA [0] rfl rfl ?_
 refine bD.sub (σ':=⟨[(0,.s (.ptr 0 0)),(2,.g [.d (dI 0),.d (dI 0),.d (dI 1000),.d (dI 2),.d (dI 1),.d (cG [-900, -900])]),(6,.g [.d (dS (bs [77,97,105,110])),.d (BE [⟨0,500,1000, -1000,0⟩,⟨2000,500,1000, -1000,0⟩]),.d (dI 50),.d (dI 0),.d dK]),(14,.g [.d (mX [⟨kB,30,1900,6,5⟩]),.d (uB [⟨bs [66,49],0,0,[⟨0,kB⟩]⟩])]),(16,.s (.d (D8 [⟨kB,500⟩]))),(17,.s (.d (cG [0])))],[(0,some (.cells (iE ty38.zero)))]⟩) (H':=Hid.none) (HSub.ofM (kH.of aA [] [17] rfl rfl rfl ⟨⟨rfl,iI.rfl⟩,oO⟩ ⟨⟨rfl,bO.rfl⟩,⟨rfl,bO.rfl⟩,⟨rfl,bO.rfl⟩,⟨rfl,bO.rfl⟩,⟨rfl,bO.rfl⟩,⟨rfl,(bO.own (List.mem_singleton.2 rfl) rfl).then (aM.d (aJ.fJ fun i j hi hj=>by have hi:i<1:=hi;have hj:j<1:=hj;match i,j,hi,hj with|0,0,_,_=>exact aJ.refl _))⟩,oO⟩)) ?_
 refine bD.some (rc:=[]) aK 2 aA [0] rfl rfl ?_
 refine bD.sub (σ':=⟨[(0,.s (.ptr 0 0)),(2,.g [.d (dI 0),.d (dI 0),.d (dI 1000),.d (dI 2),.d (dI 1),.d (cG [-900, -900])]),(6,.g [.d (dS (bs [77,97,105,110])),.d (BE [⟨0,500,1000, -1000,0⟩,⟨2000,500,1000, -1000,0⟩]),.d (dI 50),.d (dI 0),.d dK]),(14,.g [.d (mX [⟨kB,30,1900,6,5⟩]),.d (uB [⟨bs [66,49],0,0,[⟨0,kB⟩]⟩])]),(16,.s (.d (D8 [⟨kB,500⟩]))),(19,.s (.d (qM [⟨NC,10000000, -2000, -1000,[0],100⟩])))],[(0,some (.cells (iE ty38.zero)))]⟩) (H':=Hid.none) (HSub.ofM (kH.of aA [] [19] rfl rfl rfl ⟨⟨rfl,iI.rfl⟩,oO⟩ ⟨⟨rfl,bO.rfl⟩,⟨rfl,bO.rfl⟩,⟨rfl,bO.rfl⟩,⟨rfl,bO.rfl⟩,⟨rfl,bO.rfl⟩,⟨rfl,(bO.own (List.mem_singleton.2 rfl) rfl).then (aM.d (aJ.fJ fun i j hi hj=>by have hi:i<1:=hi;have hj:j<6:=hj;match i,j,hi,hj with|0,0,_,_|0,1,_,_|0,2,_,_|0,3,_,_|0,4,_,_|0,5,_,_=>exact aJ.refl _))⟩,oO⟩)) ?_
 refine bD.some (rc:=[]) aK 3 aA [0] rfl rfl ?_
 refine bD.sub (σ':=⟨[(0,.s (.ptr 0 0)),(2,.g [.d (dI 0),.d (dI 0),.d (dI 1000),.d (dI 2),.d (dI 1),.d (cG [-900, -900])]),(6,.g [.d (dS (bs [77,97,105,110])),.d (BE [⟨0,500,1000, -1000,0⟩,⟨2000,500,1000, -1000,0⟩]),.d (dI 50),.d (dI 0),.d dK]),(14,.g [.d (mX [⟨kB,30,1900,6,5⟩]),.d (uB [⟨bs [66,49],0,0,[⟨0,kB⟩]⟩])]),(16,.s (.d (D8 [⟨kB,500⟩]))),(19,.s (.d (qM [⟨NC,10000000, -2000, -1000,[0],100⟩]))),(22,.s (.d (oY [⟨kB,6,5⟩])))],[(0,some (.cells (iE ty38.zero)))]⟩) (H':=Hid.none) (HSub.ofM (kH.of aA [] [22] rfl rfl rfl ⟨⟨rfl,iI.rfl⟩,oO⟩ ⟨⟨rfl,bO.rfl⟩,⟨rfl,bO.rfl⟩,⟨rfl,bO.rfl⟩,⟨rfl,bO.rfl⟩,⟨rfl,bO.rfl⟩,⟨rfl,bO.rfl⟩,⟨rfl,(bO.own (List.mem_singleton.2 rfl) rfl).then (aM.d (aJ.fJ fun i j hi hj=>by have hi:i<1:=hi;have hj:j<3:=hj;match i,j,hi,hj with|0,0,_,_|0,1,_,_|0,2,_,_=>exact aJ.refl _))⟩,oO⟩)) ?_
 refine bD.some (rc:=[]) aK 2 aA [0] rfl rfl ?_
 refine bD.nil ?_
 refine bI.ret ?_
 exact aC.le ⟨aJ.refl _,aJ.refl _,aJ.refl _,aJ.refl _,aJ.refl _,aJ.refl _,aJ.refl _,aJ.refl _,aJ.refl _,aJ.refl _,aJ.refl _,aJ.nil,aJ.refl _,aJ.refl _,aJ.refl _,aJ.refl _,aJ.refl _,aJ.nil,aJ.refl _,aJ.refl _,oO⟩
theorem told:aF prog 23 [] (jF WX):=by
 refine eW func23 rfl rfl call23 rfl rfl (fun cx aA=>AW.CI ?_)
 refine sA aA [] fun _ h'=>?_
 refine bI.seq (bI.region ?_)
 refine bD.some (rc:=[]) aK 1 aA [] rfl rfl ?_
 refine bD.sub (σ':=⟨[(1,.s (.d (cG [-1000, -1060])))],[]⟩) (H':=Hid.none) (HSub.ofM (kH.of aA [] [1] rfl rfl rfl trivial ⟨⟨rfl,(bO.own (List.mem_singleton.2 rfl) rfl).then (aM.d (aJ.fJ fun i j hi hj=>by have hi:i<2:=hi;have hj:j<1:=hj;match i,j,hi,hj with|0,0,_,_|1,0,_,_=>exact aJ.refl _))⟩,oO⟩)) ?_
 refine bD.some (rc:=[]) aK 2 aA [] rfl rfl ?_
 refine bD.sub (σ':=⟨[(2,.g [.d (dI 0),.d (dI 1),.d (dI 0),.d (dI 1),.d (dI 0),.d (dI 0),.d (dI 0),.d (dI 0),.d (dI 0),.d (dS (bs [])),.d (dS (bs [])),.d (dS (bs [])),.d (cG [-1000, -1060])]),(3,.s (.d (cG [-1005, -1065])))],[]⟩) (H':=Hid.none) (HSub.ofM (kH.of aA [] [3] rfl rfl rfl trivial ⟨⟨rfl,bO.rfl⟩,⟨rfl,(bO.own (List.mem_singleton.2 rfl) rfl).then (aM.d (aJ.fJ fun i j hi hj=>by have hi:i<2:=hi;have hj:j<1:=hj;match i,j,hi,hj with|0,0,_,_|1,0,_,_=>exact aJ.refl _))⟩,oO⟩)) ?_
 refine bD.some (rc:=[]) aK 4 aA [] rfl rfl ?_
 refine bD.nil ?_
 refine bI.ret ?_
 refine aC.le (aJ.fJ fun i j hi hj=>?_)
 have hi:i<3:=hi
 have hj:j<13:=hj
 match i,j,hi,hj with
 |0,0,_,_|0,1,_,_|0,2,_,_|0,3,_,_|0,4,_,_|0,5,_,_|0,6,_,_|0,7,_,_|0,8,_,_|0,9,_,_|0,10,_,_|0,11,_,_|0,12,_,_|1,0,_,_|1,1,_,_|1,2,_,_|1,3,_,_|1,4,_,_|1,5,_,_|1,6,_,_|1,7,_,_|1,8,_,_|1,9,_,_|1,10,_,_|1,11,_,_|1,12,_,_|2,0,_,_|2,1,_,_|2,2,_,_|2,3,_,_|2,4,_,_|2,5,_,_|2,6,_,_|2,7,_,_|2,8,_,_|2,9,_,_|2,10,_,_|2,11,_,_=>exact aJ.refl _
 |2,12,_,_=>exact aJ.nil
end Go.Pj
namespace Go.Pj
open Go Go.Ax Go.Ch Go.Proofs Go.Proofs.Tryz
def V9(x:bG):List bG→List bG
 |[]=>[x]
 |y::r=>bif decide (x≤y)then x::y::r else y::V9 x r
def OU:List bG→List bG
 |[]=>[]
 |x::r=>V9 x (OU r)
theorem CN(x:bG):∀l:List bG,(V9 x l).Perm (x::l)
 |[]=>List.Perm.refl _
 |y::r=>by
  rw[V9]
  cases decide (x≤y)with
  |true=>exact List.Perm.refl _
  |false=>exact((CN x r).cons y).trans (List.Perm.swap x y r)
theorem JZ:∀l:List bG,(OU l).Perm l
 |[]=>List.Perm.refl _
 |x::r=>(CN x (OU r)).trans ((JZ r).cons x)
theorem DO{x:bG}:∀{l:List bG},l.Pairwise (fun a b=>a≤b)→(V9 x l).Pairwise (fun a b=>a≤b)
 |[],_=>List.pairwise_singleton _ _
 |y::r,h=>by
  rw[V9]
  obtain⟨h1,h2⟩:=List.pairwise_cons.1 h
  cases hd:decide (x≤y)with
  |true=>
   have hd:x≤y:=of_decide_eq_true hd
   refine List.pairwise_cons.2 ⟨fun z hz=>?_,h⟩
   rcases List.mem_cons.1 hz with rfl|hz
   ·exact hd
   ·exact List.le_trans hd (h1 z hz)
  |false=>
   have hd:¬x≤y:=of_decide_eq_false hd
   refine List.pairwise_cons.2 ⟨fun z hz=>?_,DO h2⟩
   rcases List.mem_cons.1 ((CN x r).mem_iff.1 hz)with rfl|hz
   ·exact List.le_of_lt (List.not_le.1 hd)
   ·exact h1 z hz
theorem DM:∀l:List bG,(OU l).Pairwise (fun a b=>a≤b)
 |[]=>List.Pairwise.nil
 |_::r=>DO (DM r)
theorem JB(l:List bG):mG l=OU l:=(vH l (OU l) (JZ l) ((DM l).imp fun {x y} h=>by rw[ltB,decide_eq_false_iff_not];exact List.not_lt.2 h)).symm
def aH9(G:List (ByteArray×Int))(e:gM):Option gM:=bif (gE G e.1 e.2.1).isEmpty then none else some (e.1,uY (OU (gE G e.1 e.2.1)),e.2.2)
def aCL(l:List Fact):List gM:=(gP l l.length).filterMap (aH9 (o8 l l.length))
def aKM(l:List Fact):List Fact:=(OU ((aCL l).map (·.1))).map fun k=>tT (GK (aCL l) k)
theorem VD(l:List Fact):sL l=aCL l:=by
 unfold sL aCL PK
 exact yU fun e _=>by unfold zK aH9 tV;rw[JB]
theorem XE(l:List Fact):cntF l=aKM l:=by
 unfold cntF aKM qC
 rw[VD,JB]
abbrev exL:Fact:=⟨1,1,0,1,1,200000000,0,0,0,kB,NC,bs [],[]⟩
def WY:List Fact:=[exL,⟨0,1,0,1,0,0,0,0,0,bs [],bs [],bs [],[-1000, -1060]⟩,⟨0,1,1,1,0,0,0,0,0,bs [],bs [],bs [],[-1005, -1065]⟩]
theorem R8:cntF WX=WY:=by
 rw[XE]
 kernel_rfl
def aC3(p:Proj)(fs L:List Fact)(M:Nat):List Piece:=
 ((List.range p.aS.levels.length).foldl (vG p fs M) (pG (Rm.j8 (iC p L L.length).1 M (iC p L L.length).1.length),[])).2
theorem aGY:jT WY 1=[exL]:=by
 have e:rP WY 1=[exL]:=kR
 unfold jT IA
 rw[e]
 exact List.mergeSort_singleton _
theorem aKB:F5 PM (cntF WX) 1=aC3 PM WY [exL] 1:=by
 rw[R8]
 have:F5 PM WY 1=aC3 PM WY (jT WY (1:Nat)) 1:=rfl
 rw[this,show((1:Nat):Int)=1 from rfl,aGY]
def HB:Stmt:=aCI PM 1 (aC3 PM WY [exL] 1) (fN PM (aC3 PM WY [exL] 1) 1) (LU PM WY 1 (xP PM WY 1) 0) (nD PM WY 1 2)
theorem aA0:NK PM WX 1=HB:=by
 unfold NK HB
 rw[aKB,R8];rfl
theorem aDQ:HB.total=96400:=by decide+kernel
theorem aGZ:HB.over=12000000:=by decide+kernel
theorem aG1:HB.W2.map (·.jO)=[200000000]:=by decide+kernel
theorem aG0:F9 PM WX 1 1=0:=by decide+kernel
theorem aKC:fA (WX.getD 0 default)=0:=by decide+kernel
theorem aIZ(p:Proj)(fs:List Fact)(m:Int)(low:fS)(h:p.fV=[]):aF prog 65 [QY p fs,vI m,yS low] (TB []):=by
 refine eW func65 rfl rfl call65 rfl rfl (fun cx aA=>?_)
 refine sX aA ?_
 refine sX aA ?_
 refine AW.seq (sX aA ?_)
 refine AW.block ?_
 refine AW.cZ (fun _:Nat=>⟨[(7,.s (.d dK)),(14,vI 0),(15,vI 0)],[]⟩) (fun _=>True) (fun _=>0) 0 trivial ?_ ?_
 ·exact aP.b7 aA [] rfl trivial ⟨qZ,⟨rfl,aM.int (by rw[h];rfl)⟩,qZ,oO⟩
 ·rintro _ _
  refine sX aA ?_
  refine AW.seq (AW.cond ?_)
  refine aI (fun g=>AW.skip ?_) (fun g=>AW.exit ?_)
  ·exact absurd (show(0:Int)<0 from cB g) dC
  ·refine eX aA ?_
   exact aC.le aJ.nil
theorem aGG(f:Nat→Nat→DV):bM prog 316 [.s (.own 1001),vI 0,vI 1,.s (.dQ 225 [])] [(1001,.row 40 1 13 f)] (.t []) [(1001,.row 40 1 13 f)]:=by
 refine kN func316 rfl rfl call316 aK rfl rfl rfl rfl (fun cx aA=>?_)
 refine sX aA ?_
 refine AW.block ?_
 refine AW.cZ (fun _:Nat=>⟨[(2,vI 1),(8,vI 1)],[(1001,some (.row 40 1 13 f))]⟩) (fun _=>True) (fun _=>0) 0 trivial ?_ ?_
 ·exact aP.of [] (by rw[aA];rfl) rfl ⟨bQ,oO⟩ ⟨qZ,⟨rfl,aM.int rfl⟩,oO⟩
 ·rintro _ _
  refine AW.seq (sX aA ?_)
  refine AW.cond ?_
  refine aI (fun g=>AW.skip ?_) (fun g=>AW.exit ?_)
  ·exact absurd (show(1:Int)<1 from cB g) dC
  ·exact⟨aC.refl _,rfl,oO⟩
theorem aF6(f:Nat→Nat→DV)(n:Int):bM prog 272 [.s (.own 1001),vI 0,vI 1,vI n,.s (.dQ 225 [])] [(1001,.row 40 1 13 f)] (.t []) [(1001,.row 40 1 13 f)]:=by
 refine kN func272 rfl rfl call272 aK rfl rfl rfl rfl (fun cx aA=>?_)
 refine sX aA ?_
 refine sX aA ?_
 refine AW.block ?_
 refine AW.cZ (fun _:Nat=>⟨[(0,.s (.own 1001)),(1,vI 0),(2,vI 1),(4,.s (.dQ 225 []))],[(1001,some (.row 40 1 13 f))]⟩) (fun _=>True) (fun _=>0) 0 trivial ?_ ?_
 ·exact aP.of [] (by rw[aA];rfl) rfl ⟨bQ,oO⟩ ⟨qZ,qZ,qZ,qZ,oO⟩
 ·rintro _ _
  refine AW.block ?_
  refine sX aA ?_
  refine AW.seq (sX aA ?_)
  refine AW.cond ?_
  refine aI (fun g=>?_) (fun g=>?_)
  ·refine ex.sound (rc:=[316]) aK mix aA _ ?_
   refine⟨[(1001,1001)],_,_,_,_,aGG f,rfl,⟨rfl,oO⟩,rfl,?_⟩
   exact⟨aC.refl _,rfl,oO⟩
  ·have g:¬aU ((1:Int) - 0)≤12:=cD g
   exact absurd dC g
theorem aGF:aF prog 252 [.s (.d (.val (.int .u64 1)))] (vI 1):=by
 refine eP func252 rfl rfl call252 rfl rfl fun cx aA=>?_
 refine aI (fun g=>absurd (show(1:Int)≥4294967296 from cB g) dC) (fun _=>?_)
 refine aI (fun g=>absurd (show(1:Int)≥65536 from cB g) dC) (fun _=>?_)
 refine aI (fun g=>absurd (show(1:Int)≥256 from cB g) dC) (fun _=>?_)
 refine oi dC ?_
 exact aC.of_eq (by rfl)
theorem aDD:aF prog 269 [.s (.d (.val (.int .u64 1)))] (vI 1):=by
 refine eP func269 rfl rfl call269 rfl rfl fun cx aA=>?_
 refine aB (aGF) ?_
 exact aC.refl _
theorem aEG(f:Nat→Nat→DV):bM prog 224 [.s (.own 1001),.s (.dQ 225 [])] [(1001,.row 40 1 13 f)] (.t []) [(1001,.row 40 1 13 f)]:=by
 refine fZ (rc:=[272]) (N:=14) func224 rfl rfl call224 aK mix rfl rfl rfl rfl (fun cx aA=>?_)
 refine aB aDD ?_
 refine⟨[(1001,1001)],_,_,_,_,aF6 f 1,rfl,⟨rfl,oO⟩,rfl,?_⟩
 exact⟨aC.refl _,rfl,oO⟩
theorem aA2:PM.fits where
 name:=by decide+kernel
 aS:=by decide+kernel
 chan:=⟨by decide+kernel,by decide+kernel,by
  intro a ha
  rcases List.mem_cons.1 ha with rfl|ha
  ·exact⟨rfl,rfl,rfl,rfl,rfl⟩
  ·rw[List.mem_singleton.1 ha];exact⟨rfl,rfl,rfl,rfl,rfl⟩,rfl,rfl,by decide+kernel,fun _ h=>by cases h⟩
 regions:=by decide+kernel
 gr:=⟨by decide+kernel,by decide+kernel,fun x hx=>by rw[List.mem_singleton.1 hx];decide+kernel,fun x hx=>by rw[List.mem_singleton.1 hx];decide+kernel,fun x hx=>by rw[List.mem_singleton.1 hx];decide+kernel⟩
 eY:=by decide+kernel
 fV:=by decide+kernel
 small:=⟨by decide+kernel,by decide+kernel,by decide+kernel,by decide+kernel,fun x hx=>by rw[List.mem_singleton.1 hx];decide+kernel⟩
 DE:=fun x hx=>by rw[List.mem_singleton.1 hx];decide+kernel
 x8:=fun x hx=>by rw[List.mem_singleton.1 hx];decide+kernel
theorem PN:∀f∈WX,f.fits:=by
 intro f hf
 rcases List.mem_cons.1 hf with rfl|hf
 ·exact⟨by decide+kernel,by decide+kernel,by decide+kernel,by decide+kernel⟩
 rcases List.mem_cons.1 hf with rfl|hf
 ·exact⟨by decide+kernel,by decide+kernel,by decide+kernel,by decide+kernel⟩
 ·rw[List.mem_singleton.1 hf];exact⟨by decide+kernel,by decide+kernel,by decide+kernel,by decide+kernel⟩
theorem aJ9:bs (eI (WX.getD 0 default))=⟨#[115,117,114,118,101,121,32,48,32,49,32,49,32,45,49,48,48,48,32,45,49,48,54,48]⟩:=by
 decide+kernel
theorem aKD:∃d,HB.W2=[d]∧d.jO=200000000:=by
 have h:=aG1
 cases hd:HB.W2 with
 |nil=>rw[hd]at h;cases h
 |cons d r=>
  rw[hd]at h
  cases r with
  |nil=>exact⟨d,rfl,(List.cons.inj h).1⟩
  |cons e r=>cases(List.cons.inj h).2
theorem aKA:XV (cntF WX) (1:Nat):=by
 rw[R8]
 intro _
 have e:rP WY (1:Nat)=[exL]:=kR
 rw[e,show IA [exL]=[exL] from List.mergeSort_singleton _]
 exact aEG _
theorem aBS:aF prog 7 [] (vB true):=by
 have hS:=aEH PM WX 1 aA2 PN dC aG0 aKA (aIZ PM (cntF WX) (1:Nat) _ rfl)
 rw[aA0,aGZ,aDQ]at hS
 obtain⟨d,hd,hdv⟩:=aKD
 rw[hd]at hS
 have hF:=qA (WX.getD 0 default) (PN _ (dZ dC))
 rw[aKC]at hF
 have hT:=aJ9
 generalize eI (WX.getD 0 default)=tx at hF hT
 refine eW func7 rfl rfl call7 rfl rfl (fun cx aA=>?_)
 refine sX aA ?_
 refine sX aA ?_
 refine aB (Example) ?_
 refine aB (told) ?_
 refine aB (hS) ?_
 refine sX aA ?_
 refine aB (told) ?_
 refine oi dC ?_
 refine aB (hF) ?_
 refine eX aA ?_
 repeat refine aR ?_
 refine og (fun _=>⟨dC,by show(0:Int)<1;decide⟩) ?_
 repeat refine aR ?_
 refine aC.of_eq (congrArg (fun b=>vB b) ?_)
 rw[hT]
 have e:([d].getD (Int.toNat 0) default).jO=200000000:=hdv
 rw[e]
 generalize ByteArray.toList _=u
 have eu:(u==u)=true:=beq_self_eq_true u
 rw[eu]
 rfl

theorem JM{s:bG}(hs:s.length<4294967281):(xM s).fits:=by
 unfold xM
 cases qT s==0 with
 |true=>exact DB (B7 hs false)
 |false=>exact kL 0
theorem MY(f:Fact)(s:bG)(hf:f.fits):aF prog 4 [oB f,vT s] (vB true):=by
 refine eP func4 rfl rfl call4 rfl rfl fun cx aA=>?_
 refine aB (aJ4 f) ?_
 repeat refine aR ?_
 refine aI (fun h=>?_) (fun h=>?_)
 ·refine aB (aBS) ?_
  exact aC.refl _
 have h:(ZV f||decide (((bs s).size:Int)>300))=false:=h
 rw[Bool.or_eq_false_iff,aW]at h
 have hl:s.length<4294967281:=by
  have:=of_decide_eq_false h.2
  omega
 have aMB:f.levels.length≤1000000:=by
  have h1:=h.1
  simp only [ZV,Bool.or_eq_false_iff,decide_eq_false_iff_not]at h1
  omega
 obtain⟨q1,q2⟩:=Q8 s
 have hR:=S3 s hl
 rw[←q1,←q2]at hR
 have hP:=KZ s hl
 have nK:=JM hl
 generalize xM s=x at hR hP nK
 generalize qT s=j at hR hP
 refine aB (Key f hf) ?_
 refine aB (aF0 f hf) ?_
 refine aB (qA f hf) ?_
 refine aB (DC f hf) ?_
 refine aB (hP) ?_
 refine aB (hR) ?_
 repeat refine aR ?_
 refine eJ (aEN x x nK) ?_
 repeat refine aR ?_
 have key:((((((bs (dR f)).toList !=(bs (dR f)).toList)||(mH f !=mH f))||((bs (eI f)).toList !=(bs (eI f)).toList))||(fA f !=fA f))|| !JJ x x||(j !=j))=false:=by
  simp[FN]
 refine aI (fun h2=>Bool.noConfusion (key.symm.trans h2)) (fun _=>?_)
 refine aI (fun h3=>?_) (fun h3=>?_)
 ·refine aB (aBS) ?_
  exact aC.refl _
 have h3:(fA f !=0)=false:=h3
 have he:fA f=0:=by simpa using h3
 obtain⟨b1,b2⟩:=XR he
 have hB:=KZ (eI f) (by have:=A1 f;omega)
 have hbf:=JM (s:=eI f) (by have:=A1 f;omega)
 rw[b1,b2]at hB
 rw[b2]at hbf
 refine aB (hB) ?_
 repeat refine aR ?_
 refine eJ (aF1 f aMB) ?_
 repeat refine aR ?_
 refine eJ (aEN (bH f) (bH f) hbf) ?_
 repeat refine aR ?_
 refine eJ (aBS) ?_
 repeat refine aR ?_
 refine aD ?_
 exact aC.of_eq (congrArg (fun b=>vB b) (by rw[FN];rfl))
theorem aLI:Rd prog 40 13 (fun f:Fact=>[.d (dI f.kind),.d (dI f.seq),.d (dI f.aX),.d (dI f.month),.d (dI f.number),.d (dI f.aS),.d (dI f.over),.d (dI f.cls),.d (dI f.target),.d (dS f.aN),.d (dS f.cQ),.d (dS f.cE),.d (cG f.levels)]) Fact.fits:=
 (VT underlying40 rfl kR (jH rfl rI (jH rfl rI (jH rfl rI (jH rfl rI (jH rfl rI (jH rfl rI (jH rfl rI (jH rfl rI (jH rfl rI (jH rfl rS (jH rfl rS (jH rfl rS (jH rfl Ch.ZH aCV)))))))))))))).to
  (fun a=>(⟨a.1,a.2.1,a.2.2.1,a.2.2.2.1,a.2.2.2.2.1,a.2.2.2.2.2.1,a.2.2.2.2.2.2.1,a.2.2.2.2.2.2.2.1,a.2.2.2.2.2.2.2.2.1,a.2.2.2.2.2.2.2.2.2.1,a.2.2.2.2.2.2.2.2.2.2.1,a.2.2.2.2.2.2.2.2.2.2.2.1,a.2.2.2.2.2.2.2.2.2.2.2.2.1⟩:Fact)) (fun _=>rfl)
  (fun _ h=>⟨h.2.2.2.2.2.2.2.2.2.2.2.2.1.1,h.2.2.2.2.2.2.2.2.2.1,h.2.2.2.2.2.2.2.2.2.2.1,h.2.2.2.2.2.2.2.2.2.2.2.1⟩)
theorem aM8:RdA prog 40 oB Fact.fits:=aCW (k:=13) underlying40 aLI
theorem aCE(f:Fact)(b:ByteArray)(hf:f.fits):aF prog 4 [oB f,vS b] (vB true):=by
 have h:=MY f (tx b) hf
 rwa [show vT (tx b)=vS b by show AV.s (.d (dS (bs (tx b))))=_;rw[sF]]at h
end Go.Pj
