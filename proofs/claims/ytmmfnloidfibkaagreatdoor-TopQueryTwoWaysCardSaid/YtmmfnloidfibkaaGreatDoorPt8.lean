/- Part 8: lemmas that the proofs of this seat share; by itself it claims nothing. -/
import Derived.Handy
import Derived.Test.YtmmfnloidfibkaaGreatDoorPt7
set_option maxRecDepth 100000
set_option maxHeartbeats 2000000
set_option linter.defProp false
namespace Go.Pj
open Go Go.Ax Go.Ch Go.Proofs Go.Proofs.Tryz
end Go.Pj
--K78
namespace Go.Ax
end Go.Ax
namespace Go.Pj
open Go Go.Ax Go.Ch Go.Proofs Go.Proofs.Tryz
def kn(Y:List Fact):Prop:=∀f∈Y,f.kind=0->∀x∈f.levels,x=30000\/(-20000<=x/\x<=20000)
def GD{Y:List Fact}(h:kn Y)(a8 month:Int){cell n:Nat}(hc:cell<n)(hs:∀f∈Y,f.kind=0->f.levels.length=n):lT Y a8 month cell=30000\/(-20000<=lT Y a8 month cell/\lT Y a8 month cell<=20000):=by
 unfold lT
 cases hd:decide (OM Y a8 month<0)with
 |true=>exact .inl rfl
 |false=>
  have hd:=Wj hd;obtain⟨a,b⟩:=aAK (Y:=Y) (a8:=a8) (month:=month) O;have hm:=bP a;simp only[Ua];have vA:cell<(Y.getD (OM Y a8 month).toNat default).levels.length:=by rw[hs _ hm b];exact hc
  exact h _ hm b _ (by rw[aX vA];exact Ce _)
def Cm(p:Proj)(Y:List Fact)(m:Int):List Int->eV
 |[]=>[(1001,.cells (l0 p Y)),(1002,.cells [.d (dI m)]),(1003,.cells [.d eO])]
 |x::r=>[(1001,.cells (l0 p Y)),(1002,.cells [.d (dI m)]),(1003,.cells [.own 1004]),(1004,.row 3 (x::r).length 1 (cP (x::r)))]
abbrev Zs:SV:=.dZ 42 [.ptr 1001 0,.ptr 1002 0,.ptr 1003 0]
def aDY(p:Proj)(Y:List Fact)(m:Int)(l:List Int)(i:Nat)(hl:Y.length<=9223372036854775807)
  (hc:∀f∈Y,f.kind=0->i<f.levels.length) (h:(fF p Y m i).2=false):
  bW prog 42 [vI i,.s (.ptr 1001 0),.s (.ptr 1002 0),.s (.ptr 1003 0)] (Cm p Y m l) (vI (fF p Y m i).1) (Cm p Y m l):=by
 cases l with
 |nil=>
  refine gH (rc:=[]) (N:=21) func42 rfl rfl call42 aJ mix rfl rfl rfl rfl (λR J=>?_);refine aB (uP p Y m i hl hc) (aI (λh1=>?_) (λ_=>?_))
  ·exact zdL
  exact⟨db _,rfl,rfl,rfl,oO⟩
 |cons x r=>
  refine gH (rc:=[]) (N:=21) func42 rfl rfl call42 aJ mix rfl rfl rfl rfl (λR J=>?_);refine aB (uP p Y m i hl hc) (aI (λh1=>?_) (λ_=>?_))
  ·exact zdL
  exact⟨db _,rfl,rfl,rfl,rfl,oO⟩
def W0(p:Proj)(Y:List Fact)(m:Int)(l:List Int)(i:Nat)(hl:Y.length<=9223372036854775807)(TW:l.length<=1000000)
  (hc:∀f∈Y,f.kind=0->i<f.levels.length) (h:(fF p Y m i).2=true):
  ∃n f,iJ 1 n f (λx _=>dI x) (l++ [(i:Int)])/\
  bW prog 42 [vI i,.s (.ptr 1001 0),.s (.ptr 1002 0),.s (.ptr 1003 0)] (Cm p Y m l) (vI (fF p Y m i).1) [(1001,.cells (l0 p Y)),(1002,.cells [.d (dI m)]),(1003,.cells [.own 19]),(19,.row 3 n 1 f)]:=by
 cases l with
 |nil=>
  apply Exists.intro;apply Exists.intro;apply And.intro;rotate_left
  ·refine E9 (rc:=[]) (N:=21) func42 rfl rfl call42 aJ mix rfl rfl rfl (λR J=>?_);refine aB (uP p Y m i hl hc) (aI (λ_=>?_) (λh1=>?_))
   ·refine ob dC (ob dC ?_);exact Nu
   exact zdw
  all_goals exact iJ.one (AS rfl)
 |cons x r=>
  apply Exists.intro;apply Exists.intro;apply And.intro;rotate_left
  ·refine E9 (rc:=[]) (N:=21) func42 rfl rfl call42 aJ mix rfl rfl rfl (λR J=>?_);refine aB (uP p Y m i hl hc) (aI (λ_=>?_) (λh1=>?_))
   ·refine ob (by show((x::r).length+1)*8<=_;omega) ?_;exact ob (nJ (AS rfl)) Nu
   exact zdw
  all_goals exact wk (Lr (l:=x::r) (el:=λ(x:Int) (_:Nat)=>dI x)) (AS rfl)
def gY(p:Proj)(Y:List Fact)(m:Int)(i:Nat):List Int:=(List.range i).filterMap λk=>bif (fF p Y m k).2 then some (k:Int)else none
def fK(p:Proj)(Y:List Fact)(m:Int)(i:Nat):List Int:=(List.range i).map λk=>(fF p Y m k).1
def IJ(p:Proj)(Y:List Fact)(m:Int)(i:Nat):gY p Y m (i+1)=bif (fF p Y m i).2 then gY p Y m i++ [(i:Int)]else gY p Y m i:=by
 unfold gY;rw[c8]
 cases(fF p Y m i).2 <;> simp
def DY(p:Proj)(Y:List Fact)(m:Int)(i:Nat):(gY p Y m i).length<=i:=by have:=Qg (λk=>bif (fF p Y m k).2 then some (k:Int)else none) (List.range i);exact Tp
def X7(p:Proj)(Y:List Fact)(m:Int)(i:Nat):fK p Y m (i+1)=fK p Y m i++ [(fF p Y m i).1]:=by unfold fK;rw[zw,Vi];rfl
def BQ(p:Proj)(Y:List Fact)(m:Int)(i:Nat):(fK p Y m i).length=i:=by unfold fK;simp
abbrev C3(g:eZ)(lv:SV):List SV:=[.d (dI g.x),.d (dI g.y),.d (dI g.side),.d (dI g.dO),.d (dI g.rows),lv]
def gSt(p:Proj)(Y:List Fact)(m:Int)(i:Nat):List Int->St
 |[]=>⟨[(1,.s Zs),(2,.s (.ptr 2 0)),(4,.s (.ptr 4 0)),(5,.s (.ptr 5 0)),(15,vI p.aT.levels.length),(16,vI i)],[(2,some (.cells (l0 p Y))),(4,some (.cells (iB Xk.zero))),(5,some (.cells (C3 p.aT (.mo (fK p Y m i).isEmpty 100)))),(100,some (.b8 3 (fK p Y m i).length 1 (cP (fK p Y m i)))),(1001,some (.cells (l0 p Y))),(1002,some (.cells [.d (dI m)])),(1003,some (.cells [.d eO]))]⟩
 |x::r=>⟨[(1,.s Zs),(2,.s (.ptr 2 0)),(4,.s (.ptr 4 0)),(5,.s (.ptr 5 0)),(15,vI p.aT.levels.length),(16,vI i)],[(2,some (.cells (l0 p Y))),(4,some (.cells (iB Xk.zero))),(5,some (.cells (C3 p.aT (.mo (fK p Y m i).isEmpty 100)))),(100,some (.b8 3 (fK p Y m i).length 1 (cP (fK p Y m i)))),(1001,some (.cells (l0 p Y))),(1002,some (.cells [.d (dI m)])),(1003,some (.cells [.own 1004])),(1004,some (.row 3 (x::r).length 1 (cP (x::r))))]⟩
def aMT(p:Proj)(Y:List Fact)(m:Int)(hl:Y.length<=9223372036854775807)(hn:0<p.aT.levels.length/\p.aT.levels.length<=1024)(hc:∀f∈Y,f.kind=0->f.levels.length=p.aT.levels.length):
  bW prog 41 [SR p Y,.s Zs] (Cm p Y m []) (.g (C3 p.aT (.own 1005))) (Cm p Y m (gY p Y m p.aT.levels.length)++ [(1005,.row 3 p.aT.levels.length 1 (cP (fK p Y m p.aT.levels.length)))]):=by
 refine gJ func41 rfl rfl call41 aJ rfl ze6 ze6 rfl (λR J=>?_)
 apply sX J
 apply sX J
 apply sX J
 refine Sa (sX J ?_)
 apply Eb
 refine Gb (λi:Nat=>gSt p Y m i (gY p Y m i)) (λi=>i<=p.aT.levels.length) (λi=>p.aT.levels.length-i) 0 (Nat.zero_le _) ?_ ?_
 ·exact Lb [(100,1000)] lb rfl ⟨bQ,bQ,⟨rfl,Pe ⟨Ta,Ta,Ta,Ta,Ta,fg rfl,oO⟩⟩,⟨rfl,rfl⟩,Fa⟩ Fa
 ·intro i hi;have hlen:=DY p Y m i;have fN:=IJ p Y m i;have SJ:=X7 p Y m i;have TW:=BQ p Y m i
  cases hL:gY p Y m i with
  |nil=>
   rw[hL]at fN hlen;refine sX J (Sa (Cb ?_));refine aI (λh1=>Qb ?_) (λh1=>Ld ?_)
   ·have h1:(i:Int)<p.aT.levels.length:=bG h1;have bC:i<p.aT.levels.length:=O;have hci:∀f∈Y,f.kind=0->i<f.levels.length:=λf hf hk=>by rw[hc f hf hk];exact bC
    refine Sa (Eb (sX J ?_))
    cases h3:(fF p Y m i).2 with
    |true=>rw[h3]at fN;obtain⟨n,f,pD,eF⟩:=W0 p Y m [] i hl O hci h3;refine Sb (rc:=[1500042]) aJ mix J _ ⟨[(19,701)],_,_,_,_,eF,rfl,⟨rfl,rfl,rfl,oO⟩,rfl,?_⟩;exact ug
    |false=>rw[h3]at fN;refine Sb (rc:=[1500042]) aJ mix J _ ⟨[],_,_,_,_,aDY p Y m [] i hl hci h3,rfl,⟨rfl,rfl,rfl,oO⟩,rfl,?_⟩;refine ob dC (ob zeV ?_);refine ob (nJ (AS rfl)) (aD ?_);refine eX J ⟨i+1,O,O,?_⟩;rw[fN];refine Lb [(100,25)] lb rfl ⟨bQ,bQ,⟨rfl,Pe ⟨Ta,Ta,Ta,Ta,Ta,Ye (by rw[SJ];exact cA _ _),oO⟩⟩,⟨rfl,?_⟩,Fa⟩ Fa;exact ve
   have h1:¬(i:Int)<p.aT.levels.length:=bF h1;obtain rfl:i=p.aT.levels.length:=O;rw[hL];have hz:(fK p Y m p.aT.levels.length).isEmpty=false:=zbQ
   refine Tb (ox (z:=(fK p Y m p.aT.levels.length).isEmpty) (e:=3) (n:=(fK p Y m p.aT.levels.length).length) (s:=1) (f:=cP (fK p Y m p.aT.levels.length)) (cs:=C3 p.aT (.mo (fK p Y m p.aT.levels.length).isEmpty 100)) 5 5 100 rfl rfl hz rfl) ?_;refine Tb (I':=⟨[(4,.s (.ptr 4 0)),(5,.s (.ptr 5 0))],[(4,some (.cells (iB Xk.zero))),(5,some (.cells (C3 p.aT (.own 1005)))),(1005,some (.row 3 p.aT.levels.length 1 (cP (fK p Y m p.aT.levels.length)))),(1001,some (.cells (l0 p Y))),(1002,some (.cells [.d (dI m)])),(1003,some (.cells [.d eO]))]⟩) (Lb [(1005,100)] lb rfl ⟨bQ,⟨rfl,Pe ⟨Ta,Ta,Ta,Ta,Ta,λ_ _ _ r=>r.2 hz,oO⟩⟩,⟨rfl,cc (by rw[TW];rfl)⟩,Fa⟩ Fa) ?_;exact eX J Nu
  |cons x r=>
   rw[hL]at fN hlen;refine sX J (Sa (Cb ?_));refine aI (λh1=>Qb ?_) (λh1=>Ld ?_)
   ·have h1:(i:Int)<p.aT.levels.length:=bG h1;have bC:i<p.aT.levels.length:=O;have hci:∀f∈Y,f.kind=0->i<f.levels.length:=λf hf hk=>by rw[hc f hf hk];exact bC
    refine Sa (Eb (sX J ?_))
    cases h3:(fF p Y m i).2 with
    |true=>rw[h3]at fN;obtain⟨n,f,pD,eF⟩:=W0 p Y m (x::r) i hl O hci h3;refine Sb (rc:=[1500042]) aJ mix J _ ⟨[(19,701)],_,_,_,_,eF,rfl,⟨rfl,rfl,rfl,rfl,oO⟩,rfl,?_⟩;exact ug
    |false=>rw[h3]at fN;refine Sb (rc:=[1500042]) aJ mix J _ ⟨[],_,_,_,_,aDY p Y m (x::r) i hl hci h3,rfl,⟨rfl,rfl,rfl,rfl,oO⟩,rfl,?_⟩;refine ob dC (ob zeV ?_);refine ob (nJ (AS rfl)) (aD ?_);refine eX J ⟨i+1,O,O,?_⟩;rw[fN];refine Lb [(100,25)] lb rfl ⟨bQ,bQ,⟨rfl,Pe ⟨Ta,Ta,Ta,Ta,Ta,Ye (by rw[SJ];exact cA _ _),oO⟩⟩,⟨rfl,?_⟩,Fa⟩ Fa;exact ve
   have h1:¬(i:Int)<p.aT.levels.length:=bF h1;obtain rfl:i=p.aT.levels.length:=O;rw[hL];have hz:(fK p Y m p.aT.levels.length).isEmpty=false:=zbQ
   refine Tb (ox (z:=(fK p Y m p.aT.levels.length).isEmpty) (e:=3) (n:=(fK p Y m p.aT.levels.length).length) (s:=1) (f:=cP (fK p Y m p.aT.levels.length)) (cs:=C3 p.aT (.mo (fK p Y m p.aT.levels.length).isEmpty 100)) 5 5 100 rfl rfl hz rfl) ?_;refine Tb (I':=⟨[(4,.s (.ptr 4 0)),(5,.s (.ptr 5 0))],[(4,some (.cells (iB Xk.zero))),(5,some (.cells (C3 p.aT (.own 1005)))),(1005,some (.row 3 p.aT.levels.length 1 (cP (fK p Y m p.aT.levels.length)))),(1001,some (.cells (l0 p Y))),(1002,some (.cells [.d (dI m)])),(1003,some (.cells [.own 1004])),(1004,some (.row 3 (x::r).length 1 (cP (x::r))))]⟩) (Lb [(1005,100)] lb rfl ⟨bQ,⟨rfl,Pe ⟨Ta,Ta,Ta,Ta,Ta,λ_ _ _ r=>r.2 hz,oO⟩⟩,⟨rfl,cc (by rw[TW];rfl)⟩,Fa⟩ Fa) ?_;exact zdv
def aD7{a:TV}{x y:DV}(h:aK x y):aU (.t [a,.s (.d x)]) (.t [a,.s (.d y)]):=by
 rintro M V v ⟨vs,e,r⟩
 match vs,r with
 |[u1,u2],⟨r1,r2,r3⟩=>exact⟨[u1,u2],e,r1,h M u2 r2,r3⟩
structure nj(p:Proj)(Y:List Fact):Prop where
 len:Y.length<=200
 n:0<p.aT.levels.length/\p.aT.levels.length<=100
 shape:∀f∈Y,f.kind=0->f.levels.length=p.aT.levels.length
def OH(p:Proj)(Y:List Fact)(m:Int)(h:nj p Y):
  bW prog 16 [SR p Y,vI m] [] (.t [.g (C3 p.aT (.own 9)),.s (.d (b5 (gY p Y m p.aT.levels.length)))]) [(9,.row 3 p.aT.levels.length 1 (cP (fK p Y m p.aT.levels.length)))]:=by
 have SN:=aMT p Y m (by have:=h.len;omega) ⟨h.n.1,by have:=h.n.2;omega⟩ h.shape
 generalize gY p Y m p.aT.levels.length=L at SN
 cases L with
 |nil=>refine eG (rc:=[41]) (N:=13) func16 rfl rfl call16 aJ mix rfl rfl rfl rfl (λR J=>?_);refine⟨[(1001,2),(1002,3),(1003,6),(1005,9)],_,_,_,_,SN,rfl,⟨rfl,rfl,rfl,oO⟩,rfl,?_⟩;exact aD ⟨aD7 Nd,rfl,oO⟩
 |cons x r=>refine eG (rc:=[41]) (N:=13) func16 rfl rfl call16 aJ mix rfl rfl rfl rfl (λR J=>?_);refine⟨[(1001,2),(1002,3),(1003,6),(1005,9)],_,_,_,_,SN,rfl,⟨rfl,rfl,rfl,oO⟩,rfl,?_⟩;exact aD gj
def iL(p:Proj)(Y:List Fact):Nat->Nat->Int
 |0,i=>bif (fF p Y (0:Nat) i).1==30000 then p.aT.levels.getD i 0 else(fF p Y (0:Nat) i).1
 |m+1,i=>mm false (fF p Y (m+1:Nat) i).1 (iL p Y m i)
def lE(p:Proj)(Y:List Fact)(m:Nat):List Int:=(List.range p.aT.levels.length).map (iL p Y m)
def sK(p:Proj)(Y:List Fact)(m:Nat):eZ:={p.aT with levels:=lE p Y m}
def dA(p:Proj)(Y:List Fact)(k:Nat):List eZ:=(List.range k).map (sK p Y)
def nG(p:Proj)(Y:List Fact)(m i:Nat):List Int:=(List.range p.aT.levels.length).map λk=>if k<i then iL p Y m k else(fF p Y m k).1
def lN{p:Proj}{Y:List Fact}{m i k:Nat}(h:k<p.aT.levels.length):(nG p Y m i).getD k 0=if k<i then iL p Y m k else(fF p Y m k).1:=by unfold nG;exact qm
def FT{p:Proj}{Y:List Fact}{m:Int}{n k:Nat}(h:k<n):(fK p Y m n).getD k 0=(fF p Y m k).1:=by unfold fK;exact qm
def HB(p:Proj)(Y:List Fact)(m:Nat):nG p Y m p.aT.levels.length=lE p Y m:=by unfold nG lE;exact Xv λk hk=>La (Gf.1 hk)
def mE(p:Proj)(Y:List Fact)(k:Nat):(dA p Y k).length=k:=by unfold dA;simp
def mK{p:Proj}{Y:List Fact}{k m:Nat}(h:m<k):(dA p Y k).getD m default=sK p Y m:=by unfold dA;exact qm
def X5(p:Proj)(Y:List Fact)(k:Nat):dA p Y (k+1)=dA p Y k++ [sK p Y k]:=by unfold dA;rw[zw,Vi];rfl
def uS{p:Proj}{Y:List Fact}{m k:Nat}(h:k<p.aT.levels.length):(lE p Y m).getD k 0=iL p Y m k:=by unfold lE;exact qm
def PX{p:Proj}{Y:List Fact}{m i a:Nat}(ha:a<p.aT.levels.length)(h:(fF p Y m i).1=iL p Y m i):(nG p Y m i).getD a 0=(nG p Y m (i+1)).getD a 0:=by
 rw[lN ha,lN ha];by_cases h1:a<i
 ·rw[La h1,La O]
 rw[Ka h1];by_cases h2:a=i
 ·subst h2;rw[La O,h]
 rw[Ka O]
def MW{p:Proj}{Y:List Fact}{m i a c:Nat}{x:Int}(ha:a<p.aT.levels.length)(hc:c<1)(h:x=iL p Y m i):eT (cP (nG p Y m i)) i 0 [.d (dI x)] a c=dI ((nG p Y m (i+1)).getD a 0):=by
 obtain rfl:c=0:=O;by_cases h2:a=i
 ·subst h2;rw[oP,lN ha,La O,h]
 rw[tG h2];show dI ((nG p Y m i).getD a 0)=_;rw[lN ha,lN ha];exact zcZ
def aO0(p:Proj)(Y:List Fact)(n:Nat):Nat->St
 |0=>⟨[(2,.s (.ptr 2 0)),(5,.s (.d eO)),(12,vI n),(13,vI (0:Nat))],[(2,some (.cells (l0 p Y)))]⟩
 |k+1=>⟨[(2,.s (.ptr 2 0)),(5,.s (.own 100)),(12,vI n),(13,vI (k+1:Nat))],[(2,some (.cells (l0 p Y))),(100,some (.row 24 (dA p Y (k+1)).length 6 (xQ (dA p Y (k+1)))))]⟩
def lowest(p:Proj)(Y:List Fact)(month:Nat)(h:nj p Y)(hm:month<=24):aF prog 14 [SR p Y,vI month] (.s (.d (cZ (dA p Y (month+1))))):=by
 obtain⟨hn0,hn1⟩:=h.n
 refine eW func14 rfl rfl call14 rfl rfl (λR J=>?_)
 apply sX J
 apply sX J
 refine Sa (sX J ?_)
 apply Eb
 refine Gb (λk:Nat=>aO0 p Y (month+1) k) (λk=>k<=month+1) (λk=>month+1-k) 0 (Nat.zero_le _) ?_ ?_
 ·exact Qa J [] rfl Fa Fa
 ·intro k hk
  cases k with
  |zero=>
   apply sX J
   refine Sa (Cb ?_)
   refine aI (λh1=>Qb ?_) (λh1=>by simp at h1)
   refine Sa (Eb (sX J ?_))
   refine Sa (Sb (rc:=[16]) aJ mix J _ ?_)
   refine⟨[(9,700)],_,_,_,_,OH p Y (0:Nat) h,rfl,trivial,rfl,?_⟩
   refine Tb (I':=⟨[(2,.s (.ptr 2 0)),(5,.s (.d eO)),(6,vI (0:Nat)),(7,.s (.ptr 7 0)),(12,vI (month+1:Nat)),(13,vI (0:Nat))],[(2,some (.cells (l0 p Y))),(7,some (.cells (C3 p.aT (.own 700)))),(700,some (.row 3 p.aT.levels.length 1 (cP (fK p Y (0:Nat) p.aT.levels.length))))]⟩) (Qa J [] rfl Fa Fa) ?_
   refine Sa (sX J ?_)
   apply Eb
   refine Gb (λi:Nat=>⟨[(2,.s (.ptr 2 0)),(5,.s (.d eO)),(6,vI (0:Nat)),(7,.s (.ptr 7 0)),(12,vI (month+1:Nat)),(13,vI (0:Nat)),(23,.s (.own 700)),(24,vI p.aT.levels.length),(25,vI i)],[(2,some (.cells (l0 p Y))),(7,some (.cells (C3 p.aT (.own 700)))),(700,some (.row 3 p.aT.levels.length 1 (cP (nG p Y 0 i))))]⟩)
    (λi=>i<=p.aT.levels.length) (λi=>p.aT.levels.length-i) 0 (Nat.zero_le _) ?_ ?_
   ·exact Qa J [] rfl ⟨bQ,bQ,⟨rfl,Bc rfl λa c ha hc=>Wa (by show dI ((fK p Y (0:Nat) p.aT.levels.length).getD a 0)=dI ((nG p Y 0 0).getD a 0);rw[FT ha,lN ha,Ka (cd _)])⟩,oO⟩ Fa
   ·intro i hi
    apply sX J
    refine Sa (Cb ?_)
    refine aI (λh2=>Qb ?_) (λh2=>Ld ?_)
    ·have h2:(i:Int)<p.aT.levels.length:=bG h2
     have bC:i<p.aT.levels.length:=O
     refine Sa (Eb (sX J ?_))
     apply oi Ha
     refine oi (show i<p.aT.levels.length by omega) ?_
     refine Eb (sX J ?_)
     repeat refine aR ?_
     apply Cb
     apply aI<;>intro h3
     ·have h3:((0:Int)==0&&(nG p Y 0 i).getD i 0==30000)=true:=h3
      rw[lN bC,Ka (Qn i)]at h3
      have y2:iL p Y 0 i=p.aT.levels.getD i 0:=by
       exact zcl
      apply eX J
      apply oi Ha
      apply oi Ha
      refine ob (show((i:Nat):Int).toNat<p.aT.levels.length by omega) ?_
      refine aD ?_
      apply eX J
      refine⟨i+1,O,O,?_⟩
      refine Qa J [] rfl ⟨bQ,bQ,⟨rfl,Bc rfl λa c ha hc=>Wa ?_⟩,oO⟩ Fa
      exact zaY
     ·have h3:((0:Int)==0&&(nG p Y 0 i).getD i 0==30000)=false:=h3
      rw[lN bC,Ka (Qn i)]at h3
      have y2:iL p Y 0 i=(fF p Y (0:Nat) i).1:=by
       exact zch
      apply sX J
      apply Cb
      refine aI (λh4=>by simp at h4) (λh4=>Qb ?_)
      apply eX J
      refine⟨i+1,O,O,?_⟩
      refine Qa J [] rfl ⟨bQ,bQ,⟨rfl,Bc rfl λa c ha hc=>Wa ?_⟩,oO⟩ Fa
      exact zbG
    ·have h2:¬(i:Int)<p.aT.levels.length:=bF h2
     obtain rfl:i=p.aT.levels.length:=O
     rw[HB]
     refine Bk (I':=⟨[(2,.s (.ptr 2 0)),(5,.s (.d eO)),(7,.s (.ptr 7 0)),(12,vI (month+1:Nat)),(13,vI (0:Nat))],[(2,some (.cells (l0 p Y))),(7,some (.cells (C3 p.aT (.d (b5 (lE p Y 0))))))]⟩) (Se J [] [700] rfl rfl rfl ⟨⟨rfl,ee⟩,⟨rfl,Bo ⟨qb,qb,qb,qb,qb,(Ee sM rfl).then (Xc (Wa (by unfold b5;rw[show(lE p Y 0).length=p.aT.levels.length by unfold lE;simp]))),oO⟩⟩,oO⟩ ⟨⟨rfl,qb⟩,⟨rfl,qb⟩,⟨rfl,qb⟩,⟨rfl,qb⟩,⟨rfl,qb⟩,oO⟩) ?_
     apply eX J
     apply ob dC
     apply ob dC
     apply eX J
     refine⟨0+1,O,O,?_⟩
     exact Qa J [(100,70)] rfl ⟨bQ,⟨rfl,Bc (by rw[mE]) λa c ha hc=>Wa (by
      obtain rfl:a=0:=O
      match c,hc with|0,_|1,_|2,_|3,_|4,_|5,_=>rfl)⟩,oO⟩ Fa
  |succ k=>
   apply sX J
   refine Sa (Cb ?_)
   refine aI (λh1=>Qb ?_) (λh1=>Ld ?_)
   ·have h1:((k+1:Nat):Int)<((month+1:Nat):Int):=bG h1
    refine Sa (Eb (sX J ?_))
    refine Sa (Sb (rc:=[16]) aJ mix J _ ?_)
    refine⟨[(9,700)],_,_,_,_,OH p Y (k+1:Nat) h,rfl,trivial,rfl,?_⟩
    refine Tb (I':=⟨[(2,.s (.ptr 2 0)),(5,.s (.own 100)),(6,vI (k+1:Nat)),(7,.s (.ptr 7 0)),(12,vI (month+1:Nat)),(13,vI (k+1:Nat))],[(2,some (.cells (l0 p Y))),(100,some (.row 24 (dA p Y (k+1)).length 6 (xQ (dA p Y (k+1))))),(7,some (.cells (C3 p.aT (.own 700)))),(700,some (.row 3 p.aT.levels.length 1 (cP (fK p Y (k+1:Nat) p.aT.levels.length))))]⟩) (Qa J [] rfl Fa Fa) ?_
    refine Sa (sX J ?_)
    apply Eb
    refine Gb (λi:Nat=>⟨[(2,.s (.ptr 2 0)),(5,.s (.own 100)),(6,vI (k+1:Nat)),(7,.s (.ptr 7 0)),(12,vI (month+1:Nat)),(13,vI (k+1:Nat)),(23,.s (.own 700)),(24,vI p.aT.levels.length),(25,vI i)],[(2,some (.cells (l0 p Y))),(100,some (.row 24 (dA p Y (k+1)).length 6 (xQ (dA p Y (k+1))))),(7,some (.cells (C3 p.aT (.own 700)))),(700,some (.row 3 p.aT.levels.length 1 (cP (nG p Y (k+1) i))))]⟩)
     (λi=>i<=p.aT.levels.length) (λi=>p.aT.levels.length-i) 0 (Nat.zero_le _) ?_ ?_
    ·exact Qa J [] rfl ⟨bQ,bQ,bQ,⟨rfl,Bc rfl λa c ha hc=>Wa (by show dI ((fK p Y (k+1:Nat) p.aT.levels.length).getD a 0)=dI ((nG p Y (k+1) 0).getD a 0);rw[FT ha,lN ha,Ka (cd _)])⟩,oO⟩ Fa
    ·intro i hi
     apply sX J
     refine Sa (Cb ?_)
     refine aI (λh2=>Qb ?_) (λh2=>Ld ?_)
     ·have h2:(i:Int)<p.aT.levels.length:=bG h2
      have bC:i<p.aT.levels.length:=O
      refine Sa (Eb (sX J ?_))
      apply oi Ha
      refine oi (show i<p.aT.levels.length by omega) ?_
      refine Eb (sX J ?_)
      repeat refine aR ?_
      apply Cb
      apply aI<;>intro h3
      ·have h3:((((k+1:Nat):Int)==0)&&(nG p Y (k+1) i).getD i 0==30000)=true:=h3
       rw[show((((k+1:Nat):Int)==0))=false by simp only[Wq];omega]at h3
       cases h3
      ·have y2:mm false (fF p Y (k+1:Nat) i).1 (iL p Y k i)=iL p Y (k+1) i:=rfl
       have aPC:(nG p Y (k+1) i).getD i 0=(fF p Y (k+1:Nat) i).1:=by rw[lN bC,Ka (Qn i)]
       have ek:aW (((k+1:Nat):Int)-1)=(k:Int):=by rw[aG O O];omega
       have ekn:(aW (((k+1:Nat):Int)-1)).toNat=k:=by rw[ek];rfl
       apply sX J
       apply Cb
       apply aI<;>intro h4
       ·apply eX J
        refine oi (show 0<=aW (((k+1:Nat):Int)-1)/\aW (((k+1:Nat):Int)-1)<((dA p Y (k+1)).length:Int) by rw[ek,mE];omega) ?_
        refine oi (show(aW (((k+1:Nat):Int)-1)).toNat<(dA p Y (k+1)).length by rw[ekn,mE];omega) ?_
        refine oi (show(0:Int)<=(i:Int)/\(i:Int)<((((dA p Y (k+1)).getD (aW (((k+1:Nat):Int)-1)).toNat default).levels.length:Nat):Int) by rw[ekn,mK O];show(0:Int)<=(i:Int)/\(i:Int)<((lE p Y k).length:Int);unfold lE;simp;omega) ?_
        apply oi Ha
        refine ob (show((i:Nat):Int).toNat<p.aT.levels.length by omega) ?_
        refine aD ?_
        apply eX J
        refine⟨i+1,O,O,?_⟩
        refine Qa J [] rfl ⟨bQ,bQ,bQ,⟨rfl,Bc rfl λa c ha hc=>Wa ?_⟩,oO⟩ Fa
        refine MW (x:=mm false ((nG p Y (k+1) i).getD i 0) (((dA p Y (k+1)).getD (aW (((k+1:Nat):Int)-1)).toNat default).levels.getD i 0)) ha hc ?_
        rw[aPC,ekn,mK O]
        show mm false _ ((lE p Y k).getD i 0)=_
        rw[uS bC]
        exact y2
       ·have h4:decide (((k+1:Nat):Int)>0)=false:=h4
        simp at h4
     ·have h2:¬(i:Int)<p.aT.levels.length:=bF h2
      obtain rfl:i=p.aT.levels.length:=O
      rw[HB]
      refine Bk (I':=⟨[(2,.s (.ptr 2 0)),(5,.s (.own 100)),(7,.s (.ptr 7 0)),(12,vI (month+1:Nat)),(13,vI (k+1:Nat))],[(2,some (.cells (l0 p Y))),(100,some (.row 24 (dA p Y (k+1)).length 6 (xQ (dA p Y (k+1))))),(7,some (.cells (C3 p.aT (.d (b5 (lE p Y (k+1)))))))]⟩) (Se J [] [700] rfl rfl rfl ⟨⟨rfl,ee⟩,⟨rfl,ee⟩,⟨rfl,Bo ⟨qb,qb,qb,qb,qb,(Ee sM rfl).then (Xc (Wa (by unfold b5;rw[show(lE p Y (k+1)).length=p.aT.levels.length by unfold lE;simp]))),oO⟩⟩,oO⟩ ⟨⟨rfl,qb⟩,⟨rfl,qb⟩,⟨rfl,qb⟩,⟨rfl,qb⟩,⟨rfl,qb⟩,oO⟩) ?_
      apply eX J
      refine ob (by rw[mE];show(k+1+1)*64<=_;omega) ?_
      refine ob (nJ λc hc=>by match c,hc with|0,_|1,_|2,_|3,_|4,_|5,_=>rfl) ?_
      apply eX J
      refine⟨(k+1)+1,O,O,?_⟩
      refine Qa J [(100,70)] rfl ⟨bQ,⟨rfl,?_⟩,oO⟩ Fa
      show aY _ (.row 24 (dA p Y (k+1+1)).length 6 (xQ (dA p Y (k+1+1))))
      rw[X5 p Y (k+1)]
      exact iJ.row (el:=pj) (wk Lr λc hc=>by match c,hc with|0,_|1,_|2,_|3,_|4,_|5,_=>rfl)
   ·have h1:¬((k+1:Nat):Int)<((month+1:Nat):Int):=bF h1
    obtain rfl:k=month:=O
    apply eX J
    exact db _
end Go.Pj
namespace Go.Pj
open Go Go.Ax Go.Ch Go.Proofs Go.Proofs.Tryz Go.Sort Go.Shelf
def Qf(a b:Int):Int:=if a<b then -1 else if b<a then 1 else 0
def Bl(a b:Int):Int:=bif a !=0 then a else bif b !=0 then b else 0
end Go.Pj
namespace Go.Pj
open Go Go.Ax Go.Ch Go.Proofs Go.Proofs.Tryz
abbrev aNW(b:lf):List SV:=[.d (dI b.number),.d (dI b.aT),.d (dI b.over),.d (dS b.aN),.d (dI b.Jb)]
def zO(l:List nM)(s:ta):Int:=Ch.cL (λx=>bE x.aN s) l 0
def aM2(q:nM)(s:ta)(f:Nat->DV)(hf:f 0=dS s):aF prog 334 [.g [.d (dS q.aN),.d (dI q.num),.d (dI q.den)],.s (.d (.rp 1 f))] (vB (bE q.aN s)):=by refine Ze (args:=[.g [.d (dS q.aN),.d (dI q.num),.d (dI q.den)],.s (.d (.rp 1 λ_=>dS s))]) ?_ ⟨⟨Ja _,Ja _,Ja _,oO⟩,Zc λj hj=>Wa Yk,oO⟩;exact eP func334 rfl rfl call334 rfl rfl λR J=>db _
def Q9(y:gK)(s:ta)(hl:y.bA.length<=9223372036854775807):aF prog 292 [tD y,vS s] (vI (zO y.bA s)):=by exact eP func292 rfl rfl call292 rfl rfl λR J=>aB (YG y.bA hl 334 1 _ (λq=>bE q.aN s) (λq _=>aM2 q s _ rfl)) (db _)
def R6(y:gK)(b:lf):Int:=
 bif !within b.number 1 1000000|| !within b.aT 0 1000000000000|| !within b.over 0 b.aT then 2
 else bif decide (zO y.bA b.aN<0)then 6 else bif !within b.Jb 0 9 then 2 else 0
def UN(y:gK)(b:lf)(hl:y.bA.length<=9223372036854775807):aF prog 287 [tD y,tp b] (vI (R6 y b)):=by
 refine eP func287 rfl rfl call287 rfl rfl λR J=>?_
 refine aB (kD _ _ _) ?_
 repeat refine aR ?_
 refine bR (kD _ _ _) ?_
 repeat refine aR ?_
 refine bR (kD _ _ _) ?_
 repeat refine aR ?_
 apply aI<;>intro h1
 ·have h1:(!within b.number 1 1000000|| !within b.aT 0 1000000000000|| !within b.over 0 b.aT)=true:=h1
  exact Ia (by unfold R6;rw[h1];rfl)
 have h1:(!within b.number 1 1000000|| !within b.aT 0 1000000000000|| !within b.over 0 b.aT)=false:=h1
 refine aB (Q9 y b.aN hl) ?_
 apply aI<;>intro h2
 ·have h2:decide (zO y.bA b.aN<0)=true:=h2
  exact Ia (by unfold R6;rw[h1,h2];rfl)
 have h2:decide (zO y.bA b.aN<0)=false:=h2
 refine aB (kD _ _ _) ?_
 apply aI<;>intro h3
 ·have h3:(!within b.Jb 0 9)=true:=h3
  exact zed
 ·have h3:(!within b.Jb 0 9)=false:=h3
  exact zed
def yD(y:gK)(b:lf):Int:=bif kX y !=0 then kX y else R6 y b
def U4(y:gK)(b:lf)(hy:y.fits):aF prog 202 [tD y,tp b] (vI (yD y b)):=by
 refine eP func202 rfl rfl call202 rfl rfl λR J=>aB (aDA y hy) (aI (λh1=>?_) (λh1=>?_))
 ·have h1:(kX y !=0)=true:=h1;exact Ia (by unfold yD;rw[h1];rfl)
 have h1:(kX y !=0)=false:=h1;refine aB (UN y b hy.bA) ?_;exact Ia (by unfold yD;rw[h1];rfl)
def NX(y:gK)(n:Int):Bool:=y.bH.any λd=>d.Od==n
def aP3(q:OQ)(n:Int)(f:Nat->DV)(hf:f 0=dI n):aF prog 291 [Fq q,.s (.d (.rp 1 f))] (vB (q.Od==n)):=by refine Ze (args:=[Fq q,.s (.d (.rp 1 λ_=>dI n))]) ?_ ⟨⟨Ja _,Ja _,Ja _,oO⟩,Zc λj hj=>Wa Yk,oO⟩;exact eP func291 rfl rfl call291 rfl rfl λR J=>db _
def Y6(y:gK)(n:Int)(hl:y.bH.length<=9223372036854775807):aF prog 204 [tD y,vI n] (vB (NX y n)):=by exact eP func204 rfl rfl call204 rfl rfl λR J=>aB (RT y.bH hl 291 1 _ (λq=>q.Od==n) (λq _=>aP3 q n _ rfl)) (db _)
def JL(y:gK)(p:uF)(Jb iZ:Int):Int:=bif !p.aV.contains Jb then 20 else bif decide (GL y p<iZ)then 19 else 0
def refusal(y:gK)(p:uF)(Jb iZ:Int)(hl:y.bH.length<=9223372036854775807)(hc:p.aV.length<=1000000):aF prog 206 [tD y,G1 p,vI Jb,vI iZ] (vI (JL y p Jb iZ)):=by
 refine eP func206 rfl rfl call206 rfl rfl λR J=>aB (Z0 p.aV Jb hc) (aI (λh1=>?_) (λh1=>?_))
 ·have h1:(!p.aV.contains Jb)=true:=h1;exact Ia (by unfold JL;rw[h1];rfl)
 have h1:(!p.aV.contains Jb)=false:=h1;refine aB (aHG y p hl) (aI (λh2=>?_) (λh2=>?_))
 ·have h2:decide (GL y p<iZ)=true:=h2;exact Ia (by unfold JL;rw[h1,h2];rfl)
 have h2:decide (GL y p<iZ)=false:=h2;exact Ia (by unfold JL;rw[h1,h2];rfl)
def N6:aF prog 250 [wU []] (.s (.d eO)):=by
 refine eP func250 rfl rfl call250 rfl rfl λR J=>aI (λh=>?_) (λh=>?_)
 ·exact db _
 cases h
def aGA(y:gK)(h:y.small)(y1:0<y.aQ.length)(hc:0<y.carry.length)(hd:y.bH=[]):bW prog 190 [tD y] [] (.g [.d (q7 y.aQ),.d (oY y.bA),.d eO,.own 9]) [(9,.row 3 y.carry.length 1 (cP y.carry))]:=by
 have hp:=h.aQ;have vA:=h.carry;refine gJ func190 rfl rfl call190 aJ rfl rfl rfl rfl (λR J=>?_);have J:R.ref=[]:=J;refine sX J (Sa (Sb (rc:=[1000248,1000251]) aJ mix J _ ?_));refine⟨[(9,501)],_,_,_,_,AM y.aQ y1 h.aQ,rfl,rfl,rfl,?_⟩;refine aB (vL y.bA h.bA) ?_;rw[hd];refine aB N6 ⟨[(9,502)],_,_,_,_,IP y.carry hc vA,rfl,rfl,rfl,?_⟩;refine aD (Sa (sX J ?_));refine Eb (Gb (λi:Nat=>⟨[(2,.s (.ptr 2 0)),(3,.s (.ptr 3 0)),(20,vI y.aQ.length),(21,vI i)],[(2,some (.cells (iB Fe.zero))),(3,some (.cells [.own 501,.d (oY y.bA),.d eO,.own 502])),(501,some (.row 116 y.aQ.length 6 (EF y.aQ))),(502,some (.row 3 y.carry.length 1 (cP y.carry)))]⟩) (λi=>i<=y.aQ.length) (λi=>y.aQ.length-i) 0 (Nat.zero_le _) ?_ ?_)
 ·exact Qa J [] rfl ⟨bQ,bQ,⟨rfl,(yR (el:=X0) y.aQ).row⟩,⟨rfl,(yR (el:=λx _=>dI x) y.carry).row⟩,oO⟩ Fa
 intro i hi;apply eX J;apply aI<;>intro h5
 ·have h5:(i:Int)<y.aQ.length:=bG h5;refine oi Ha (oi tl ?_);refine aB (uA (y.aQ.getD i default).aV (h.aV _ (bP O))) (oi Ha ?_);refine ob tl (aD ?_);refine⟨i+1,O,O,?_⟩;exact Qa J [] rfl ⟨bQ,bQ,⟨rfl,(N5 y.aQ i).row⟩,Fa⟩ Fa
 refine Bk (I':=⟨[(2,.s (.ptr 2 0)),(3,.s (.ptr 3 0))],[(2,some (.cells (iB Fe.zero))),(3,some (.cells [.d (q7 y.aQ),.d (oY y.bA),.d eO,.own 9])),(9,some (.row 3 y.carry.length 1 (cP y.carry)))]⟩) (Se J [(9,502)] [501] rfl rfl rfl ⟨⟨rfl,ee⟩,⟨rfl,Bo ⟨Ee sM rfl,qb,qb,qb,oO⟩⟩,⟨rfl,ee⟩,oO⟩ ⟨⟨rfl,qb⟩,⟨rfl,qb⟩,oO⟩) (eX J ?_);exact gj
def aF9(y:gK)(h:y.small)(y1:0<y.aQ.length)(hc:0<y.carry.length)(hd:0<y.bH.length):bW prog 190 [tD y] [] (.g [.d (q7 y.aQ),.d (oY y.bA),.own 8,.own 9]) [(8,.row 224 y.bH.length 3 (E7 y.bH)),(9,.row 3 y.carry.length 1 (cP y.carry))]:=by
 have hp:=h.aQ;have vA:=h.carry;refine gJ func190 rfl rfl call190 aJ rfl rfl rfl rfl (λR J=>?_);have J:R.ref=[]:=J;refine sX J (Sa (Sb (rc:=[1000248,1000250,1000251]) aJ mix J _ ?_));refine⟨[(9,501)],_,_,_,_,AM y.aQ y1 h.aQ,rfl,rfl,rfl,?_⟩;refine aB (vL y.bA h.bA) ⟨[(9,503)],_,_,_,_,UL y.bH hd h.bH,rfl,rfl,rfl,?_⟩;refine⟨[(9,502)],_,_,_,_,IP y.carry hc vA,rfl,rfl,rfl,?_⟩;refine aD (Sa (sX J ?_));refine Eb (Gb (λi:Nat=>⟨[(2,.s (.ptr 2 0)),(3,.s (.ptr 3 0)),(20,vI y.aQ.length),(21,vI i)],[(2,some (.cells (iB Fe.zero))),(3,some (.cells [.own 501,.d (oY y.bA),.own 503,.own 502])),(501,some (.row 116 y.aQ.length 6 (EF y.aQ))),(503,some (.row 224 y.bH.length 3 (E7 y.bH))),(502,some (.row 3 y.carry.length 1 (cP y.carry)))]⟩) (λi=>i<=y.aQ.length) (λi=>y.aQ.length-i) 0 (Nat.zero_le _) ?_ ?_)
 ·exact Qa J [] rfl ⟨bQ,bQ,⟨rfl,(yR (el:=X0) y.aQ).row⟩,⟨rfl,(yR (el:=Mp) y.bH).row⟩,⟨rfl,(yR (el:=λx _=>dI x) y.carry).row⟩,oO⟩ Fa
 intro i hi;apply eX J;apply aI<;>intro h5
 ·have h5:(i:Int)<y.aQ.length:=bG h5;refine oi Ha (oi tl ?_);refine aB (uA (y.aQ.getD i default).aV (h.aV _ (bP O))) (oi Ha ?_);refine ob tl (aD ?_);refine⟨i+1,O,O,?_⟩;exact Qa J [] rfl ⟨bQ,bQ,⟨rfl,(N5 y.aQ i).row⟩,Fa⟩ Fa
 refine Bk (I':=⟨[(2,.s (.ptr 2 0)),(3,.s (.ptr 3 0))],[(2,some (.cells (iB Fe.zero))),(3,some (.cells [.d (q7 y.aQ),.d (oY y.bA),.own 8,.own 9])),(8,some (.row 224 y.bH.length 3 (E7 y.bH))),(9,some (.row 3 y.carry.length 1 (cP y.carry)))]⟩) (Se J [(8,503),(9,502)] [501] rfl rfl rfl ⟨⟨rfl,ee⟩,⟨rfl,Bo ⟨Ee sM rfl,qb,qb,qb,oO⟩⟩,⟨rfl,ee⟩,⟨rfl,ee⟩,oO⟩ ⟨⟨rfl,qb⟩,⟨rfl,qb⟩,oO⟩) (eX J ?_);exact⟨Ta,rfl,rfl,oO⟩
def I0(y:gK)(b:lf):Nat:=(zO y.bA b.aN).toNat
def R2(y:gK)(b:lf):Int:=aW (aW (aW (b.aT-b.over)*(y.bA.getD (I0 y b) default).num)+y.carry.getD (I0 y b) 0)
def q8(y:gK)(b:lf):Int:=aW (Int.tdiv (R2 y b) (y.bA.getD (I0 y b) default).den)
def oZ(y:gK)(b:lf):List Int:=y.carry.set (I0 y b) (Int.tmod (R2 y b) (y.bA.getD (I0 y b) default).den)
def aJ8(y:gK)(b:lf)(hl:y.bA.length<=1000000)(h0:0<=zO y.bA b.aN)(hc:y.carry.length=y.bA.length)(hd:(y.bA.getD (I0 y b) default).den≠0):
  bW prog 205 [tD y,tp b,.s (.own 1001)] [(1001,.row 3 y.carry.length 1 (cP y.carry))] (vI (q8 y b)) [(1001,.row 3 y.carry.length 1 (cP (oZ y b)))]:=by
 have fZ:I0 y b<y.bA.length:=(yN (λx:nM=>bE x.aN b.aN) y.bA 0 h0).2.1
 have hN:zO y.bA b.aN=(I0 y b:Int):=by unfold I0;omega
 refine lH func205 rfl rfl call205 aJ rfl rfl rfl rfl (λR J=>?_)
 apply sX J
 apply sX J
 refine aB (Q9 y b.aN O) ?_
 rw[hN]
 generalize hi:I0 y b=i at fZ hd
 apply sX J
 apply oi Ha
 apply sX J
 apply oi Ha
 refine oi (show((i:Nat):Int).toNat<y.carry.length by omega) ?_
 refine aD ?_
 apply sX J
 apply oi hd
 apply oi Ha
 refine ob (show((i:Nat):Int).toNat<y.carry.length by omega) ?_
 have hT:R2 y b=aW (aW (aW (b.aT-b.over)*(y.bA.getD i default).num)+y.carry.getD i 0):=by unfold R2;rw[hi]
 refine Tb (I':=⟨[(8,.s (.ptr 8 0)),(9,vI (R2 y b))],[(8,some (.cells [.d (dI (y.bA.getD i default).num),.d (dI (y.bA.getD i default).den)])),(1001,some (.row 3 y.carry.length 1 (cP (oZ y b))))]⟩) (Lb [] lb rfl ⟨bQ,⟨rfl,Bc rfl λa c ha Q1=>Wa ?_⟩,oO⟩ ⟨Z,⟨rfl,Ra hT.symm⟩,oO⟩) ?_
 ·obtain rfl:c=0:=O;show eT (cP y.carry) i 0 [.d (dI (Int.tmod (aW (aW (aW (b.aT-b.over)*(y.bA.getD i default).num)+y.carry.getD i 0)) (y.bA.getD i default).den))] a 0=dI ((oZ y b).getD a 0);unfold oZ;rw[hi,hT];by_cases h2:a=i
  ·subst h2;rw[oP];simp[show a<y.carry.length by omega]
  rw[tG h2];show dI (y.carry.getD a 0)=_;simp[Ne.symm h2]
 apply eX J
 apply oi hd
 refine⟨Ia (by unfold q8;rw[hi];rfl),rfl,oO⟩
def oS(y:gK)(b:lf)(dN:ta):Int:=
 bif yD y b !=0 then yD y b else bif NX y b.number then 5 else bif decide (lU y.aQ dN<0)then 6
 else bif JL y (y.aQ.getD (lU y.aQ dN).toNat default) b.Jb (q8 y b) !=0 then JL y (y.aQ.getD (lU y.aQ dN).toNat default) b.Jb (q8 y b)
 else bif decide ((y.bH.length:Int)>=200)then 8 else 0
def PO(y:gK)(b:lf)(dN:ta):gK:={y with bH:=y.bH++ [⟨b.number,dN,q8 y b⟩],carry:=oZ y b}
def G0(y:gK)(b:lf)(dN:ta):List SV:=bif oS y b dN !=0 then iB Fe.zero else uH (PO y b dN)
structure yA(y:gK):Prop where
 fits:y.fits
 small:y.small
 zero:kX y=0->y.carry.length=y.bA.length/\∀i,i<y.bA.length->(y.bA.getD i default).den≠0
def Place(y:gK)(b:lf)(dN:ta)(hy:yA y):aF prog 139 [tD y,tp b,vS dN] (.t [.g (G0 y b dN),.s (.d (dI (oS y b dN)))]):=by
 have aCL:=hy.fits;have z6:=hy.small;have hl:y.bH.length<=9223372036854775807:=aCL.bH;have vE:∀{e:Int},oS y b dN=e->(e !=0)=true->aC (.t [.g (iB Fe.zero),.s (.d (dI e))]) (.t [.g (G0 y b dN),.s (.d (dI (oS y b dN)))]):=λh1 h2=>Ia (by unfold G0;rw[h1,h2];rfl)
 refine eW func139 rfl rfl call139 rfl rfl (λR J=>?_);refine sX J (Sa (sX J ?_));refine aB (U4 y b aCL) (sX J ?_);refine Cb (aI (λh1=>?_) (λh1=>Qb ?_))
 ·have h1:(yD y b !=0)=true:=h1;apply eX J;exact vE (by unfold oS;rw[h1];rfl) h1
 have h1:(yD y b !=0)=false:=h1;have hyz:kX y=0:=by
  have JX:yD y b=0:=by simpa using h1
  unfold yD at JX
  cases h:(kX y !=0)with
  |true=>rw[h]at JX;have JX:kX y=0:=JX;rw[JX]at h;cases h
  |false=>simpa using h
 have hba:R6 y b=0:=by
  have JX:yD y b=0:=by simpa using h1
  unfold yD at JX;rw[hyz]at JX;exact JX
 have hblk:0<=zO y.bA b.aN:=by
  unfold R6 at hba
  cases h:decide (zO y.bA b.aN<0)with
  |false=>
   have:¬zO y.bA b.aN<0:=by simpa using h
   omega
  |true=>
   rw[h]at hba
   cases h':(!within b.number 1 1000000|| !within b.aT 0 1000000000000|| !within b.over 0 b.aT) <;> rw[h']at hba <;> cases hba
 obtain⟨vA,aPR⟩:=hy.zero hyz;have fZ:I0 y b<y.bA.length:=(yN (λx:nM=>bE x.aN b.aN) y.bA 0 hblk).2.1;refine sX J (aB (aGZ y dN aCL.aQ) ?_);refine Sa (Eb (sX J ?_));refine aB (Y6 y b.number hl) (Cb ?_);apply aI<;>intro h2
 ·have h2:NX y b.number=true:=h2;apply eX J;exact vE (by unfold oS;rw[h1,h2];rfl) rfl
 have h2:NX y b.number=false:=h2;refine sX J (Cb ?_);refine aI (λh3=>?_) (λh3=>Qb ?_)
 ·have h3:decide (lU y.aQ dN<0)=true:=h3;apply eX J;exact vE (by unfold oS;rw[h1,h2,h3];rfl) rfl
 have h3:decide (lU y.aQ dN<0)=false:=h3;have hp0:0<=lU y.aQ dN:=by
  have:¬lU y.aQ dN<0:=by simpa using h3
  omega
 have hpl:(lU y.aQ dN).toNat<y.aQ.length:=(yN (λx:uF=>bE x.name dN) y.aQ 0 hp0).2.1;have aME:(y.aQ.getD (lU y.aQ dN).toNat default).aV.length<=1000000:=z6.aV _ (bP hpl);have hb:=aJ8 y b z6.bA hblk vA (aPR _ fZ);by_cases hd:y.bH=[]
 ·refine Sa (Sb (rc:=[190]) aJ mix J _ ?_);refine⟨[(9,602)],_,_,_,_,aGA y z6 O O hd,rfl,trivial,rfl,?_⟩;refine Sa (Sb (rc:=[205]) aJ mix J _ ?_);refine⟨[(1001,602)],_,_,_,_,hb,rfl,⟨rfl,oO⟩,rfl,?_⟩;refine Sa (sX J ?_);refine oi Ha (aB (refusal y (y.aQ.getD (lU y.aQ dN).toNat default) b.Jb (q8 y b) hl aME) ?_);refine aD (sX J ?_);refine Cb (aI (λh4=>?_) (λh4=>Qb ?_))
  ·exact zak
  have h4:(JL y (y.aQ.getD (lU y.aQ dN).toNat default) b.Jb (q8 y b) !=0)=false:=h4;refine Sa (sX J ?_);refine Cb (aI (λh5=>?_) (λh5=>Qb ?_))
  ·exact za6
  have h5:decide ((y.bH.length:Int)>=200)=false:=h5;have he:oS y b dN=0:=by unfold oS;rw[h1,h2,h3,h4,h5];rfl
  have aI5:(oZ y b).length=y.carry.length:=by unfold oZ;simp
  refine Tb (I':=⟨[(2,vS dN),(6,.s (.ptr 6 0)),(4,.s (.ptr 4 0)),(10,.s (.ptr 10 0)),(11,vI (q8 y b))],[(4,some (.cells (aNW b))),(6,some (.cells (iB Fe.zero))),(10,some (.cells [.d (q7 y.aQ),.d (oY y.bA),.d eO,.own 602])),(602,some (.row 3 (oZ y b).length 1 (cP (oZ y b))))]⟩) (Qa J [] rfl ⟨bQ,bQ,bQ,⟨rfl,cc (by rw[aI5];rfl)⟩,oO⟩ Fa) ?_;refine eX J (ob dC ?_);apply ob dC;rw[show G0 y b dN=uH (PO y b dN) by unfold G0;rw[he];rfl,he];refine Re ⟨⟨Ja _,Ja _,?_,Ja _,oO⟩,Ja _,oO⟩;show aK _ (LU (y.bH++ [⟨b.number,dN,q8 y b⟩]));rw[hd];exact iJ.fU (el:=Mp) (iJ.one (Em rfl rfl rfl))
 refine Sa (Sb (rc:=[190]) aJ mix J _ ?_);refine⟨[(8,601),(9,602)],_,_,_,_,aF9 y z6 O O (Nh.2 hd),rfl,trivial,rfl,?_⟩;refine Sa (Sb (rc:=[205]) aJ mix J _ ?_);refine⟨[(1001,602)],_,_,_,_,hb,rfl,⟨rfl,oO⟩,rfl,?_⟩;refine Sa (sX J ?_);refine oi Ha (aB (refusal y (y.aQ.getD (lU y.aQ dN).toNat default) b.Jb (q8 y b) hl aME) ?_);refine aD (sX J ?_);refine Cb (aI (λh4=>?_) (λh4=>Qb ?_))
 ·exact zak
 have h4:(JL y (y.aQ.getD (lU y.aQ dN).toNat default) b.Jb (q8 y b) !=0)=false:=h4;refine Sa (sX J ?_);refine Cb (aI (λh5=>?_) (λh5=>Qb ?_))
 ·exact za6
 have h5:decide ((y.bH.length:Int)>=200)=false:=h5;have he:oS y b dN=0:=by unfold oS;rw[h1,h2,h3,h4,h5];rfl
 have aI5:(oZ y b).length=y.carry.length:=by unfold oZ;simp
 refine Tb (I':=⟨[(2,vS dN),(6,.s (.ptr 6 0)),(4,.s (.ptr 4 0)),(10,.s (.ptr 10 0)),(11,vI (q8 y b))],[(4,some (.cells (aNW b))),(6,some (.cells (iB Fe.zero))),(10,some (.cells [.d (q7 y.aQ),.d (oY y.bA),.own 601,.own 602])),(601,some (.row 224 y.bH.length 3 (E7 y.bH))),(602,some (.row 3 (oZ y b).length 1 (cP (oZ y b))))]⟩) (Qa J [] rfl ⟨bQ,bQ,bQ,bQ,⟨rfl,cc (by rw[aI5];rfl)⟩,oO⟩ Fa) ?_;apply eX J;refine ob (show(y.bH.length+1)*32<=140737488355328 by have:=z6.bH;omega) ?_;refine ob (nJ (Em rfl rfl rfl)) ?_;rw[show G0 y b dN=uH (PO y b dN) by unfold G0;rw[he];rfl,he];refine Re ⟨⟨Ja _,Ja _,?_,Ja _,oO⟩,Ja _,oO⟩;show aK _ (LU (y.bH++ [⟨b.number,dN,q8 y b⟩]));exact iJ.fU (el:=Mp) (wk Lr (Em rfl rfl rfl))
end Go.Pj
namespace Go.Ch
open Go Go.Ax Go.Proofs Go.Proofs.Tryz
def Mul64(n:Int)(h:0<=n)(k:n<4294967296):aF prog 339 [uI 1,uI n] (.t [.s (.d (Gl 0)),.s (.d (Gl n))]):=by
 refine eP func339 rfl rfl call339 rfl rfl λR _=>oi dC (oi dC ?_)
 refine oi dC (oi dC ?_);refine oi dC (Ia ?_);have e1:ZO .u64 1 4294967295=1:=andM dC dC;have e2:wm .u64 1 32=0:=wt dC dC;have e3:=andM h k;have e4:=wt h k;have e5:IntKind.u64.wrap n=n:=SQ h O;have e6:IntKind.u64.wrap 0=0:=rfl;have e7:ZO .u64 0 4294967295=0:=andM dC dC;have e8:wm .u64 0 32=0:=wt dC dC;show AV.t [.s (.d (.val (.int .u64 _))),.s (.d (.val (.int .u64 _)))]=_;simp only[e1,e2,e3,e4,e5,e6,e7,e8,Int.one_mul,Int.zero_mul,Yy,Un]
def Mul(n:Int)(h:0<=n)(k:n<4294967296):aF prog 295 [uI 1,uI n] (.t [.s (.d (Gl 0)),.s (.d (Gl n))]):=by exact eP func295 rfl rfl call295 rfl rfl λR _=>aB (Mul64 n h k) (db _)
def aGP{f:Nat->Nat->DV}{v:Int}{n:Nat}(hf:f 0 0=dI v)(hn:n<=1000000):bW prog 207 [.s (.own 1001),vI n] [(1001,.row 3 1 1 f)] (.s (.own 30)) [(1001,.row 3 1 1 f),(30,.row 3 n 1 (B8 v n))]:=by
 refine eG (rc:=[]) (N:=48) func207 rfl rfl call207 aJ mix rfl rfl rfl rfl (λR J=>?_);refine aI (λh=>absurd (bG h) O) (λ_=>?_);have e1:IntKind.u64.wrap (1:Int)=1:=rfl;have e2:IntKind.u64.wrap (n:Int)=n:=SQ O O;have hM:aF prog 295 [uI (IntKind.u64.wrap ((1:Nat):Int)),uI (IntKind.u64.wrap n)] (.t [.s (.d (Gl 0)),.s (.d (Gl n))]):=by rw[e2];exact Mul n O O
 apply aB hM;repeat first|apply sk|apply st|apply sg;refine aI (λh=>?_) (λ_=>?_)
 ·have h:(decide ((0:Int)>0)||decide ((n:Int)>9223372036854775807))=true:=h;simp only[gt_iff_lt,Int.lt_irrefl,Dw,Ml,ae]at h;omega
 have e3:IntKind.i64.wrap (n:Int)=n:=aG O O;refine ob (show 0<=IntKind.i64.wrap (n:Int) by omega) (ob (Me _) ?_);refine ob (show((8:Nat):Int)*IntKind.i64.wrap (n:Int)<=_ by omega) (ob (λk j hk hj=>?_) ?_)
 ·obtain rfl:k=0:=O;obtain rfl:j=0:=O;rw[hf];rfl
 refine Gb (λk:Nat=>⟨[(7,.s (.own 30)),(8,vI k)],[(30,some (.row 3 n 1 (B8 v k))),(1001,some (.row 3 1 1 f))]⟩)
  (λk=>k<=n/\(0<n->0<k)) (λk=>n-k) (min 1 n) O ?_ ?_
 ·refine Lb [] lb rfl ⟨⟨rfl,Bc (by rw[e3];rfl) λk j hk hj=>Wa ?_⟩,Fa⟩ ⟨Z,⟨rfl,Ra ?_⟩,oO⟩
  ·have hj:j=0:=by have:j<1:=hj;omega
   subst hj;have hk:k<(IntKind.i64.wrap (n:Int)).toNat:=hk;rw[e3]at hk⊢;show(if 0<=k/\k<0+Nat.min 1 n then f (k-0) 0 else dI 0)=(if k<min 1 n then dI v else dI 0);rw[Ec];by_cases h1:k<min 1 n
   ·obtain rfl:k=0:=O;rw[La h1,La ⟨Nat.zero_le _,h1⟩,hf]
   rw[Ka h1,Ka (λh=>h1 h.2)]
  rw[e3];rfl
 intro k ⟨hk,QW⟩;apply eX J;apply aI<;>intro h
 ·have h:(k:Int)<n:=bG h;refine oi (show 0<=(k:Int)/\(k:Int)<=(n:Int)/\(n:Int)<=n by omega) (oi (show(0:Int)<=0/\(0:Int)<=(k:Int)/\(k:Int)<=n by omega) ?_);refine ob (λi j _ _=>?_) ?_
  ·show(if 0+i<k then dI v else dI 0).fit=true;split <;> rfl
  refine aD ?_;have hq:Nat.min (k-0) (n-k)<=k:=Iy _ _;have hq2:Nat.min (k-0) (n-k)<=n-k:=Dy _ _;have hq3:0<Nat.min (k-0) (n-k):=Nat.lt_min.2 Ha;refine⟨k+Nat.min (k-0) (n-k),Ha,O,?_⟩;refine Lb [] lb rfl ⟨⟨rfl,Bc rfl λi j hi hj=>Wa ?_⟩,Fa⟩ ⟨Z,⟨rfl,Ra ?_⟩,oO⟩
  ·show N1 k (Nat.min (k-0) (n-k)) (B8 v k) (λi=>B8 v k (0+i)) i j=_;exact aDE hq
  show aW ((k:Int)+((Nat.min (k-0) (n-k):Nat):Int))=_;rw[aG O O];omega
 have h:¬(k:Int)<n:=bF h;obtain rfl:k=n:=O;exact⟨Ta,rfl,rfl,oO⟩
def aKK(g:eZ)(hg:FO g):bW prog 141 [rK g] [] (.g [.d (dI g.x),.d (dI g.y),.d (dI g.side),.d (dI g.dO),.d (dI g.rows),.own 601]) [(601,.row 3 g.levels.length 1 (B8 30000 g.levels.length))]:=by
 have hn:=hg.n;have e:aW (g.dO*g.rows)=(g.levels.length:Int):=by rw[<-hg.len];exact aG O O
 refine eG (rc:=[207]) (N:=12) func141 rfl rfl call141 aJ mix rfl rfl rfl rfl (λR _=>?_);refine⟨[(1001,3),(30,601)],_,_,_,_,aGP (v:=30000) (n:=g.levels.length) rfl O,Na (λn=>[_,vI n]) e,⟨rfl,oO⟩,rfl,?_⟩;exact gj
def zK(c:kE)(g:eZ)(less:Int):eZ×Int:=bif mI c [g] !=0 then(Tu,mI c [g])else(mM c g less,0)
def El(c:kE)(g:eZ)(less:Int)(i:Nat):Nat->Nat->DV:=λk _=>dI (if k<i then L0 c g less k else 30000)
attribute [local irreducible] kC mU in
def aM0(c:kE)(g:eZ)(less:Int)(hc:c.ok)(hg:g.ok):aF prog 72 [chan c,rK g,vI less] (Lp (zK c g less).1 (zK c g less).2):=by
 refine gI (rc:=[141]) (N:=46) func72 rfl rfl call72 aJ mix rfl rfl (λR J=>?_);refine aB (aNM c g hc hg) (aI (λh1=>?_) (λh1=>?_))
 ·have h1:(mI c [g] !=0)=true:=h1;have e:zK c g less=(Tu,mI c [g]):=by unfold zK;rw[h1];rfl
  rw[e];exact aAB rfl
 have h1:(mI c [g] !=0)=false:=h1;have h0:mI c [g]=0:=by simpa using h1
 obtain⟨e1,e2⟩:=JE h0;have e:zK c g less=(mM c g less,0):=by unfold zK;rw[h1];rfl
 rw[e];have hv:=aHP c e1;have gv:=FO.of e2;have hn:=gv.n;refine⟨[(601,601)],_,_,_,_,aKK g gv,rfl,trivial,rfl,?_⟩;refine Gb (λi:Nat=>⟨[(2,vI less),(3,.s (.ptr 3 0)),(4,.s (.ptr 4 0)),(6,.s (.ptr 6 0)),(9,.s (.ptr 9 0)),(24,vI g.levels.length),(25,vI i)],
   [(3,some (IT c)),(4,some (aMS g)),(6,some (.cells [.d (dI 0),.d (dI 0),.d (dI 0),.d (dI 0),.d (dI 0),.d (.val (.slice none 0 0))])),(9,some (.cells [.d (dI g.x),.d (dI g.y),.d (dI g.side),.d (dI g.dO),.d (dI g.rows),.own 601])),(601,some (.row 3 g.levels.length 1 (El c g less i)))]⟩)
  (λi=>i<=g.levels.length) (λi=>g.levels.length-i) 0 (Nat.zero_le _) ?_ ?_
 ·refine Qa J [] rfl ⟨bQ,bQ,bQ,bQ,⟨rfl,Bc rfl λk j hk _=>Wa ?_⟩,oO⟩ Fa;unfold B8 El;rw[La hk,Ka (cd k)]
 intro i hi;refine Sb (rc:=[141]) aJ mix J _ (aI (λh=>?_) (λh=>?_))
 ·have h:(i:Int)<g.levels.length:=bG h;have bC:i<g.levels.length:=O;have hgd:=(RY gv bC).1;refine aB (aGE g i e2 O h O) (aB (aJJ c (dP g i) hv hgd) ?_);refine aD ?_;apply aI<;>intro h2
  ·have h2:(UI c (dP g i)).2=true:=h2;have e:L0 c g less i=aW ((UI c (dP g i)).1-less):=by unfold L0;rw[h2];rfl
   refine oi Ha (ob bC ?_);refine⟨i+1,O,O,?_⟩;refine Qa J [] rfl ⟨bQ,bQ,bQ,bQ,⟨rfl,Bc rfl λk j hk hj=>Wa ?_⟩,oO⟩ Fa;have hj:j=0:=by have:j<1:=hj;omega
   subst hj;by_cases ON:k=i
   ·subst ON;apply oP.trans;unfold El;rw[La (Kl _),e]
   refine(tG ON).trans ?_;unfold El;exact zc0
  have h2:(UI c (dP g i)).2=false:=h2;have e:L0 c g less i=30000:=by unfold L0;rw[h2];rfl
  refine⟨i+1,O,O,?_⟩;refine Qa J [] rfl ⟨bQ,bQ,bQ,bQ,⟨rfl,Bc rfl λk j hk hj=>Wa ?_⟩,oO⟩ Fa;unfold El;by_cases ON:k=i
  ·subst ON;rw[Ka (Qn _),La (Kl _),e]
  exact zc0
 have h:¬(i:Int)<g.levels.length:=bF h;have bC:i=g.levels.length:=O;subst bC;refine Re ⟨⟨Ja _,Ja _,Ja _,Ja _,Ja _,Qe (by simp[mM]) λk j hk hj=>Wa ?_,oO⟩,Ja _,oO⟩;unfold El cP;rw[La hk];congr 2;simp[mM,hk]
def H8(c:kE)(g:eZ)(hc:c.ok)(hg:g.ok):aF prog 37 [chan c,rK g] (Lp (zK c g c.over).1 (zK c g c.over).2):=by exact eP func37 rfl rfl call37 rfl rfl λR J=>aB (aM0 c g c.over hc hg) (db _)
def hR(a b p:Pt):Bool:=(!(decide (a.x<=p.x)==decide (b.x<=p.x)))&&(decide (SY (nU a b p)<0)==decide (a.x<b.x))
def Pd(f:Nat->Bool):Nat->Bool
 |0=>false
 |n+1=>Pd f n !=f n
def Oj(l:List Pt)(p:Pt)(i:Nat):Bool:=jP (sI l i) (qB l (i+1)) p
def yq(l:List Pt)(p:Pt)(i:Nat):Bool:=hR (sI l i) (qB l (i+1)) p
def al(l:List Pt)(p:Pt):Int:=bif zD l.length (Oj l p)then 0 else bif Pd (yq l p) l.length then 1 else -1
def Lj(g:eZ)(l:List Pt)(i:Nat):Bool:=decide (al l (dP g i)>=0)
def Be(g:eZ)(l:List Pt)(i:Nat):List Int:=(List.range i).filterMap λk=>bif Lj g l k then some (k:Int)else none
end Go.Ch
namespace Go.Pj
open Go Go.Ax Go.Ch Go.Proofs Go.Proofs.Tryz
def Ki(a b:Pt):Int:=bif [a,b].any (λp=> !fB p)then 0 else af a b b
def aKC(a b:Pt):aF prog 212 [pt a,pt b] (vI (Ki a b)):=by
 refine eP func212 rfl rfl call212 rfl rfl λR J=>aB ((B0 [a,b] sM).conv (args':=_) ⟨Yc λi j hi hj=>Wa ?_,oO⟩) ?_
 ·exact zbp
 apply aI<;>intro h
 ·have h:([a,b].any λp=> !fB p)=true:=h;exact Ia (by unfold Ki;rw[h];rfl)
 have h:([a,b].any λp=> !fB p)=false:=h;refine aB (aMY a b b) ?_;exact Ia (by unfold Ki;rw[h];rfl)
def L2(n:Int):Bool:= !within n (-20000) 20000
def aP9(n:Int):aF prog 147 [vI n] (vB (L2 n)):=by exact eP func147 rfl rfl call147 rfl rfl λR J=>aB (O6 n) (db _)
def FN(g:Ground)(p:Pt)(l:List Int):Int:=bif dX g !=0 then dX g else bif !fB p||l.any L2 then 2 else 0
def asked(g:Ground)(p:Pt)(l:List Int)(hg:g.fits)(hl:l.length<=9223372036854775807):aF prog 75 [T7 g,pt p,iR l] (vI (FN g p l)):=by
 refine eP func75 rfl rfl call75 rfl rfl λR J=>?_
 refine aB (E8 g hg) ?_
 apply aI<;>intro h
 ·have h:(dX g !=0)=true:=h
  exact Ia (by unfold FN;rw[h];rfl)
 have h:(dX g !=0)=false:=h
 refine aB (aBI p) ?_
 repeat refine aR ?_
 refine bR (tZ l hl 147 0 (λ_=>.bL) L2 (λn _=>aP9 n)) ?_
 repeat refine aR ?_
 apply aI<;>intro h2
 ·have h2:(!fB p||l.any L2)=true:=h2
  exact Ia (by unfold FN;rw[h,h2];rfl)
 ·have h2:(!fB p||l.any L2)=false:=h2
  exact Ia (by unfold FN;rw[h,h2];rfl)
def Rj(b:fS):Pt:=⟨b.x,b.y⟩
def PT(l:List fS)(p:Pt):Nat->Nat×Int
 |0=>(0,0)
 |i+1=>bif i==0||decide (Ki (Rj (l.getD i default)) p<(PT l p i).2)then(i,Ki (Rj (l.getD i default)) p)else PT l p i
def MS(l:List fS)(p:Pt):∀i,0<i->(PT l p i).1<i
 |0,h=>by omega
 |1,_=>Kl 0
 |i+2,_=>by
  have ih:=MS l p (i+1) O;rw[PT]
  cases(i+1==0||decide (Ki (Rj (l.getD (i+1) default)) p<(PT l p (i+1)).2))with
  |true=>exact Kl (i+1)
  |false=>exact Nat.lt_succ_of_lt ih
def nearest(g:Ground)(p:Pt)(hl:g.cC.length<=9223372036854775807):aF prog 149 [T7 g,pt p] (vI (PT g.cC p g.cC.length).1):=by
 refine eP func149 rfl rfl call149 rfl rfl λR J=>Gb (λi:Nat=>⟨[(3,.s (.ptr 3 0)),(5,vI (PT g.cC p i).1),(6,vI (PT g.cC p i).2),(12,GB g.cC),(13,vI g.cC.length),(14,vI i)],[(3,some (rj p))]⟩) (λi=>i<=g.cC.length) (λi=>g.cC.length-i) 0 (Nat.zero_le _) ?_ ?_
 ·exact Qa J [] rfl Fa Fa
 intro i hi;apply eX J;apply aI<;>intro h
 ·have h:(i:Int)<g.cC.length:=bG h;refine oi Ha (aB (aKC (Rj (g.cC.getD i default)) p) ?_);repeat refine aR ?_;have ez:(((i:Nat):Int)==0)=(i==0):=by rw[Ff];simp
  apply aI<;>intro h2
  ·have h2:(((i:Nat):Int)==0||decide (Ki (Rj (g.cC.getD i default)) p<(PT g.cC p i).2))=true:=h2;rw[ez]at h2;have e:PT g.cC p (i+1)=(i,Ki (Rj (g.cC.getD i default)) p):=by rw[PT,h2];rfl
   exact xz
  have h2:(((i:Nat):Int)==0||decide (Ki (Rj (g.cC.getD i default)) p<(PT g.cC p i).2))=false:=h2;rw[ez]at h2;have e:PT g.cC p (i+1)=PT g.cC p i:=by rw[PT,h2];rfl
  exact xz
 have h:¬(i:Int)<g.cC.length:=bF h;obtain rfl:i=g.cC.length:=O;exact db _
def C4(l:List sC)(hi:Int)(i:Nat):Int:=bif decide ((i:Int)>0)then mm false hi (l.getD i default).cb else hi
def FM(l:List sC)(lo:Int)(i:Nat):Int:=bif decide (((i+1:Nat):Int)<l.length)then mm true lo (l.getD (i+1) default).cb else lo
def X8(l:List sC)(hi lo:Int)(i:Nat):Da Part:=bif decide (C4 l hi i>FM l lo i)then some ⟨(l.getD i default).aN,C4 l hi i,FM l lo i⟩else none
def nL(l:List sC)(hi lo:Int)(n:Nat):List Part:=(List.range n).filterMap (X8 l hi lo)
def ZC(l:List sC)(hi lo:Int)(n:Nat):nL l hi lo (n+1)=nL l hi lo n++(X8 l hi lo n).toList:=by unfold nL;rw[c8]
def RU(l:List sC)(hi lo:Int)(n:Nat):(nL l hi lo n).length<=n:=by have:=Qg (X8 l hi lo) (List.range n);exact Tp
def uD(g:Ground)(p:Pt):fS:=g.cC.getD (PT g.cC p g.cC.length).1 default
def column(g:Ground)(p:Pt)(hi lo:Int)(h0:0<g.cC.length)(hl:g.cC.length<=9223372036854775807)(hy:(uD g p).bB.length<=1000000):
  aF prog 76 [T7 g,pt p,vI hi,vI lo] (iC (nL (uD g p).bB hi lo (uD g p).bB.length)):=by
 have fZ:=MS g.cC p g.cC.length h0
 refine eW func76 rfl rfl call76 rfl rfl (λR J=>?_)
 apply sX J
 apply sX J
 refine aB (nearest g p hl) ?_
 apply oi Ha
 refine aD ?_
 generalize hL:(uD g p).bB=L at hy
 have hL':(g.cC.getD (PT g.cC p g.cC.length).1 default).bB=L:=hL
 refine Tb (I':=⟨[(2,vI hi),(3,vI lo),(9,.s (.ptr 9 0))],[(9,some (.cells [.d .bL,.d .bL,.d .bL,.d (mN L)]))]⟩) (Qa J [] rfl ⟨⟨rfl,Pe ⟨Xc λ_ _ _=>trivial,Xc λ_ _ _=>trivial,Xc λ_ _ _=>trivial,Wb (by rw[<-hL'];rfl),oO⟩⟩,oO⟩ Fa) ?_
 apply sX J
 refine Sa (sX J ?_)
 apply Eb
 refine Gb (λi:Nat=>⟨[(2,vI hi),(3,vI lo),(9,.s (.ptr 9 0)),(10,.s (.mo (nL L hi lo i).isEmpty 100)),(24,AZ L),(25,vI L.length),(26,vI i)],[(9,some (.cells [.d .bL,.d .bL,.d .bL,.d (mN L)])),(100,some (.b8 134 (nL L hi lo i).length 3 (vR (nL L hi lo i))))]⟩) (λi=>i<=L.length) (λi=>L.length-i) 0 (Nat.zero_le _) ?_ ?_
 ·exact Qa J [(100,1000)] rfl ⟨bQ,⟨rfl,rfl⟩,oO⟩ ⟨Z,Z,Z,⟨rfl,fg rfl⟩,Fa⟩
 ·intro i bC;have hlen:=RU L hi lo i;have fN:=ZC L hi lo i;refine sX J (Sa (Cb ?_));refine aI (λh=>Qb ?_) (λh=>Ld ?_)
  ·have h:(i:Int)<L.length:=bG h;have e1:aW ((i:Int)+1)=((i+1:Nat):Int):=aG O O;refine Sa (Eb ?_);refine sX J (oi Ha ?_);refine sX J (Tb (I':=⟨[(2,vI hi),(3,vI lo),(9,.s (.ptr 9 0)),(10,.s (.mo (nL L hi lo i).isEmpty 100)),(11,vI i),(12,.s (.ptr 12 0)),(13,vI hi),(14,vI lo),(24,AZ L),(25,vI L.length),(26,vI i)],[(9,some (.cells [.d .bL,.d .bL,.d .bL,.d (mN L)])),(12,some (.cells [.d (dI (L.getD i default).cb),.d (dS (L.getD i default).aN)])),(100,some (.b8 134 (nL L hi lo i).length 3 (vR (nL L hi lo i))))]⟩) (Qa J [] rfl Fa Fa) ?_);refine Uf (I':=⟨[(2,vI hi),(3,vI lo),(9,.s (.ptr 9 0)),(10,.s (.mo (nL L hi lo i).isEmpty 100)),(11,vI i),(12,.s (.ptr 12 0)),(13,vI (C4 L hi i)),(14,vI lo),(24,AZ L),(25,vI L.length),(26,vI i)],[(9,some (.cells [.d .bL,.d .bL,.d .bL,.d (mN L)])),(12,some (.cells [.d (dI (L.getD i default).cb),.d (dS (L.getD i default).aN)])),(100,some (.b8 134 (nL L hi lo i).length 3 (vR (nL L hi lo i))))]⟩) ?_ ?_
   ·refine sX J (Cb ?_);refine aI (λh1=>?_) (λh1=>Qb ?_)
    ·have h1:decide ((i:Int)>0)=true:=h1;exact eX J zaF
    have h1:decide ((i:Int)>0)=false:=h1;exact zaF
   refine Uf (I':=⟨[(2,vI hi),(3,vI lo),(9,.s (.ptr 9 0)),(10,.s (.mo (nL L hi lo i).isEmpty 100)),(11,vI i),(12,.s (.ptr 12 0)),(13,vI (C4 L hi i)),(14,vI (FM L lo i)),(24,AZ L),(25,vI L.length),(26,vI i)],[(9,some (.cells [.d .bL,.d .bL,.d .bL,.d (mN L)])),(12,some (.cells [.d (dI (L.getD i default).cb),.d (dS (L.getD i default).aN)])),(100,some (.b8 134 (nL L hi lo i).length 3 (vR (nL L hi lo i))))]⟩) ?_ ?_
   ·refine sX J (Cb ?_);refine aI (λh1=>?_) (λh1=>Qb ?_)
    ·have h1:decide (aW ((i:Int)+1)<(L.length:Int))=true:=h1;rw[e1]at h1;have JX:((i+1:Nat):Int)<L.length:=bG h1;apply eX J;refine oi (show 0<=aW ((i:Int)+1)/\aW ((i:Int)+1)<L.length by rw[e1];omega) ?_;have e1n:(aW ((i:Int)+1)).toNat=i+1:=by rw[e1];omega
     exact⟨rfl,Qa J [] rfl Fa ⟨Z,Z,Z,Z,Z,Z,Z,⟨rfl,Ra (by unfold FM;rw[h1,<-e1n];rfl)⟩,Fa⟩⟩
    have h1:decide (aW ((i:Int)+1)<(L.length:Int))=false:=h1;rw[e1]at h1;exact⟨rfl,Qa J [] rfl Fa ⟨Z,Z,Z,Z,Z,Z,Z,⟨rfl,Ra (by unfold FM;rw[h1];rfl)⟩,Fa⟩⟩
   refine sX J (Cb ?_);refine aI (λh1=>?_) (λh1=>Qb ?_)
   ·have h1:decide (C4 L hi i>FM L lo i)=true:=h1;have e:nL L hi lo (i+1)=nL L hi lo i++ [⟨(L.getD i default).aN,C4 L hi i,FM L lo i⟩]:=by rw[fN];unfold X8;rw[h1];rfl
    refine eX J (ob dC ?_);refine ob (by rw[dK];show((nL L hi lo i).length+1)*32<=_;omega) ?_;refine ob (nJ (Em rfl rfl rfl)) (eX J ?_);refine⟨i+1,O,O,?_⟩;refine Qa J [(100,64)] rfl ⟨bQ,⟨rfl,?_⟩,oO⟩ ⟨Z,Z,Z,⟨rfl,Ye (by rw[e];exact cA _ _)⟩,Z,Z,⟨rfl,Ra e1⟩,oO⟩;show aY _ (.b8 134 (nL L hi lo (i+1)).length 3 (vR (nL L hi lo (i+1))));rw[e];refine Nf (el:=XY) (x:=⟨(L.getD i default).aN,C4 L hi i,FM L lo i⟩) (λc hc=>?_);have hc:c<3:=hc
    match c,hc with|0,_|1,_|2,_=>rfl
   have h1:decide (C4 L hi i>FM L lo i)=false:=h1;have e:nL L hi lo (i+1)=nL L hi lo i:=by rw[fN];unfold X8;rw[h1];exact mh _
   refine eX J ⟨i+1,O,O,?_⟩;exact Qa J [] rfl ⟨bQ,⟨rfl,cc (by rw[e];rfl)⟩,oO⟩ ⟨Z,Z,Z,⟨rfl,Wb (by rw[e];rfl)⟩,Z,Z,⟨rfl,Ra e1⟩,oO⟩
  have h:¬(i:Int)<L.length:=bF h;obtain rfl:i=L.length:=O;exact zdc
def FQ(g:Ground)(p:Pt)(hi lo:Int):Int:=bif FN g p [hi,lo] !=0 then FN g p [hi,lo]else bif decide (hi<lo)then 9 else 0
def vP(g:Ground)(p:Pt)(hi lo:Int):List Part:=bif FQ g p hi lo !=0 then []else nL (uD g p).bB hi lo (uD g p).bB.length
def EX{g:Ground}(h:dX g=0):0<g.cC.length/\g.cC.length<=20:=by
 unfold dX at h
 cases h1:(mO g.bK !=0)with
 |true=>rw[h1]at h;have h:mO g.bK=0:=h;rw[h]at h1;cases h1
 |false=>
  rw[h1]at h
  cases h2:((g.cC.length:Int)==0)with
  |true=>rw[h2]at h;cases h
  |false=>
   rw[h2]at h
   cases h3:decide ((g.cC.length:Int)>20)with
   |true=>rw[h3]at h;cases h
   |false=>
    have h2:¬(g.cC.length:Int)=0:=by simpa using h2
    have h3:¬(g.cC.length:Int)>20:=by simpa using h3
    omega
def aD9(g:Ground)(p:Pt)(hi lo:Int)(hg:g.fits)(hy:∀x∈g.cC,x.bB.length<=1000000):aF prog 39 [T7 g,pt p,vI hi,vI lo] (.t [.s (.d (RM (vP g p hi lo))),.s (.d (dI (FQ g p hi lo)))]):=by
 refine eP func39 rfl rfl call39 rfl rfl λR J=>aB ((asked g p [hi,lo] hg sM).conv (args':=_) ⟨⟨Ja _,Ja _,oO⟩,⟨Ja _,Ja _,oO⟩,Yc λi j hi hj=>Wa ?_,oO⟩) ?_
 ·have hi:i<2:=hi;have hj:j<1:=hj
  match i,j,hi,hj with
  |0,0,_,_=>rfl
  |1,0,_,_=>rfl
 apply aI<;>intro h1
 ·have h1:(FN g p [hi,lo] !=0)=true:=h1;have e:FQ g p hi lo=FN g p [hi,lo]:=by unfold FQ;rw[h1];rfl
  have e2:vP g p hi lo=[]:=by unfold vP;rw[e,h1];rfl
  exact zeo
 have h1:(FN g p [hi,lo] !=0)=false:=h1;apply aI<;>intro h2
 ·have h2:decide (hi<lo)=true:=h2;have e:FQ g p hi lo=9:=by unfold FQ;rw[h1,h2];rfl
  have e2:vP g p hi lo=[]:=by unfold vP;rw[e];rfl
  exact zeo
 have h2:decide (hi<lo)=false:=h2;have e:FQ g p hi lo=0:=by unfold FQ;rw[h1,h2];rfl
 have e2:vP g p hi lo=nL (uD g p).bB hi lo (uD g p).bB.length:=by unfold vP;rw[e];rfl
 have hz:dX g=0:=by
  have JX:FN g p [hi,lo]=0:=by simpa using h1
  unfold FN at JX
  cases h:(dX g !=0)with
  |true=>rw[h]at JX;have JX:dX g=0:=JX;rw[JX]at h;cases h
  |false=>simpa using h
 obtain⟨hb0,hb1⟩:=EX hz;have fZ:=MS g.cC p g.cC.length hb0;refine aB (column g p hi lo hb0 O (hy _ (bP fZ))) ?_;rw[e,e2];exact db _
def r8(v p:Int):Int:=aW (Int.tdiv (aW (aW (v*p)+500000)) 1000000)
def vY(v p:Int):aF prog 19 [vI v,vI p] (vI (r8 v p)):=by exact eP func19 rfl rfl call19 rfl rfl λR J=>oi dC (db _)
def wL(l:List Oa)(s:ta):Nat->Int
 |0=>0
 |i+1=>bif bE (l.getD i default).aN s&&decide ((l.getD i default).load>0)then aW (wL l s i+(l.getD i default).gV)else wL l s i
def IK(l:List pQ)(s:ta):Nat->Int
 |0=>0
 |i+1=>bif bE (l.getD i default).aN s then(l.getD i default).vY else IK l s i
def Tm(p:Proj)(l:List Oa)(s:ta):Wf:=⟨s,wL l s l.length,IK p.cO s p.cO.length,r8 (wL l s l.length) (IK p.cO s p.cO.length)⟩
def wi(p:Proj)(l:List Oa)(i:Nat):Da Wf:=bif decide (wL l (p.gr.bK.getD i default).name l.length>0)then some (Tm p l (p.gr.bK.getD i default).name)else none
def gB(p:Proj)(l:List Oa)(n:Nat):List Wf:=(List.range n).filterMap (wi p l)
def UH(p:Proj)(l:List Oa)(n:Nat):gB p l (n+1)=gB p l n++(wi p l n).toList:=by unfold gB;rw[c8]
def LS(p:Proj)(l:List Oa)(n:Nat):(gB p l n).length<=n:=by have:=Qg (wi p l) (List.range n);exact Tp
def Y4(p:Proj)(Y:List Fact)(l:List Oa)(hs:p.gr.bK.length<=1000000)(hl:l.length<=9223372036854775807)(hp:p.cO.length<=9223372036854775807):aF prog 17 [SR p Y,iD l] (aGR (gB p l p.gr.bK.length)):=by
 refine eW func17 rfl rfl call17 rfl rfl (λR J=>?_)
 apply sX J
 apply sX J
 refine Sa (sX J ?_)
 apply Eb
 refine Gb (λi:Nat=>⟨[(1,iD l),(2,.s (.ptr 2 0)),(5,.s (.mo (gB p l i).isEmpty 100)),(16,jQ p.gr.bK),(17,vI p.gr.bK.length),(18,vI i)],[(2,some (.cells (l0 p Y))),(100,some (.b8 61 (gB p l i).length 4 (E5 (gB p l i))))]⟩) (λi=>i<=p.gr.bK.length) (λi=>p.gr.bK.length-i) 0 (Nat.zero_le _) ?_ ?_
 ·exact Qa J [(100,1000)] rfl ⟨bQ,⟨rfl,rfl⟩,oO⟩ ⟨Z,Z,⟨rfl,fg rfl⟩,Fa⟩
 ·intro i hi
  have hlen:=LS p l i
  have fN:=UH p l i
  apply sX J
  refine Sa (Cb ?_)
  refine aI (λh=>Qb ?_) (λh=>Ld ?_)
  ·have h:(i:Int)<p.gr.bK.length:=bG h
   refine Sa (Eb ?_)
   apply sX J
   apply oi Ha
   apply sX J
   generalize hS:(p.gr.bK.getD i default).name=s
   refine Tb (I':=⟨[(1,iD l),(2,.s (.ptr 2 0)),(5,.s (.mo (gB p l i).isEmpty 100)),(7,.s (.ptr 7 0)),(8,.s (.ptr 8 0)),(16,jQ p.gr.bK),(17,vI p.gr.bK.length),(18,vI i)],[(2,some (.cells (l0 p Y))),(7,some (.cells [.d (dS s),.d .bL,.d .bL,.d .bL,.d .bL])),(8,some (.cells [.d (dS s),.d (dI 0),.d (dI 0),.d (dI 0)])),(100,some (.b8 61 (gB p l i).length 4 (E5 (gB p l i))))]⟩) (Qa J [] rfl ⟨bQ,⟨rfl,Pe ⟨Wb (by rw[<-hS];rfl),Xc λ_ _ _=>trivial,Xc λ_ _ _=>trivial,Xc λ_ _ _=>trivial,Xc λ_ _ _=>trivial,oO⟩⟩,⟨rfl,Pe ⟨Wb (by rw[<-hS];rfl),Ta,Ta,Ta,oO⟩⟩,Fa⟩ Fa) ?_
   refine Uf (I':=⟨[(1,iD l),(2,.s (.ptr 2 0)),(5,.s (.mo (gB p l i).isEmpty 100)),(7,.s (.ptr 7 0)),(8,.s (.ptr 8 0)),(16,jQ p.gr.bK),(17,vI p.gr.bK.length),(18,vI i)],[(2,some (.cells (l0 p Y))),(7,some (.cells [.d (dS s),.d .bL,.d .bL,.d .bL,.d .bL])),(8,some (.cells [.d (dS s),.d (dI (wL l s l.length)),.d (dI 0),.d (dI 0)])),(100,some (.b8 61 (gB p l i).length 4 (E5 (gB p l i))))]⟩) ?_ ?_
   ·apply sX J
    apply Eb
    refine Gb (λj:Nat=>⟨[(1,iD l),(2,.s (.ptr 2 0)),(5,.s (.mo (gB p l i).isEmpty 100)),(7,.s (.ptr 7 0)),(8,.s (.ptr 8 0)),(16,jQ p.gr.bK),(17,vI p.gr.bK.length),(18,vI i),(25,iD l),(26,vI l.length),(27,vI j)],[(2,some (.cells (l0 p Y))),(7,some (.cells [.d (dS s),.d .bL,.d .bL,.d .bL,.d .bL])),(8,some (.cells [.d (dS s),.d (dI (wL l s j)),.d (dI 0),.d (dI 0)])),(100,some (.b8 61 (gB p l i).length 4 (E5 (gB p l i))))]⟩) (λj=>j<=l.length) (λj=>l.length-j) 0 (Nat.zero_le _) ?_ ?_
    ·exact zb8
    ·intro j hj
     apply sX J
     refine Sa (Cb ?_)
     refine aI (λh2=>Qb ?_) (λh2=>Ld ?_)
     ·have h2:(j:Int)<l.length:=bG h2
      refine Sa (Eb ?_)
      apply sX J
      apply oi Ha
      apply sX J
      repeat refine aR ?_
      apply Cb
      refine aI (λh3=>?_) (λh3=>Qb ?_)
      ·have h3:(bE (l.getD j default).aN s&&decide ((l.getD j default).load>0))=true:=h3
       have e:wL l s (j+1)=aW (wL l s j+(l.getD j default).gV):=by rw[wL,h3];rfl
       apply eX J
       apply eX J
       refine⟨j+1,O,O,?_⟩
       exact Qa J [] rfl ⟨bQ,bQ,⟨rfl,cc (by rw[e];rfl)⟩,Fa⟩ Fa
      ·have h3:(bE (l.getD j default).aN s&&decide ((l.getD j default).load>0))=false:=h3
       have e:wL l s (j+1)=wL l s j:=by rw[wL,h3];rfl
       exact uk
     ·have h2:¬(j:Int)<l.length:=bF h2
      obtain rfl:j=l.length:=O
      exact zb9
   refine Uf (I':=⟨[(1,iD l),(2,.s (.ptr 2 0)),(5,.s (.mo (gB p l i).isEmpty 100)),(7,.s (.ptr 7 0)),(8,.s (.ptr 8 0)),(16,jQ p.gr.bK),(17,vI p.gr.bK.length),(18,vI i)],[(2,some (.cells (l0 p Y))),(7,some (.cells [.d (dS s),.d .bL,.d .bL,.d .bL,.d .bL])),(8,some (.cells [.d (dS s),.d (dI (wL l s l.length)),.d (dI (IK p.cO s p.cO.length)),.d (dI 0)])),(100,some (.b8 61 (gB p l i).length 4 (E5 (gB p l i))))]⟩) ?_ ?_
   ·apply sX J
    apply Eb
    refine Gb (λj:Nat=>⟨[(1,iD l),(2,.s (.ptr 2 0)),(5,.s (.mo (gB p l i).isEmpty 100)),(7,.s (.ptr 7 0)),(8,.s (.ptr 8 0)),(16,jQ p.gr.bK),(17,vI p.gr.bK.length),(18,vI i),(50,OT p.cO),(51,vI p.cO.length),(52,vI j)],[(2,some (.cells (l0 p Y))),(7,some (.cells [.d (dS s),.d .bL,.d .bL,.d .bL,.d .bL])),(8,some (.cells [.d (dS s),.d (dI (wL l s l.length)),.d (dI (IK p.cO s j)),.d (dI 0)])),(100,some (.b8 61 (gB p l i).length 4 (E5 (gB p l i))))]⟩) (λj=>j<=p.cO.length) (λj=>p.cO.length-j) 0 (Nat.zero_le _) ?_ ?_
    ·exact zb8
    ·intro j hj
     apply sX J
     refine Sa (Cb ?_)
     refine aI (λh2=>Qb ?_) (λh2=>Ld ?_)
     ·have h2:(j:Int)<p.cO.length:=bG h2
      refine Sa (Eb ?_)
      apply sX J
      apply oi Ha
      apply sX J
      apply Cb
      refine aI (λh3=>?_) (λh3=>Qb ?_)
      ·have h3:bE (p.cO.getD j default).aN s=true:=h3
       have e:IK p.cO s (j+1)=(p.cO.getD j default).vY:=by rw[IK,h3];rfl
       apply eX J
       apply eX J
       refine⟨j+1,O,O,?_⟩
       exact Qa J [] rfl ⟨bQ,bQ,⟨rfl,cc (by rw[e];rfl)⟩,Fa⟩ Fa
      ·have h3:bE (p.cO.getD j default).aN s=false:=h3
       have e:IK p.cO s (j+1)=IK p.cO s j:=by rw[IK,h3];rfl
       exact uk
     ·have h2:¬(j:Int)<p.cO.length:=bF h2
      obtain rfl:j=p.cO.length:=O
      exact zb9
   apply sX J
   refine aB (vY (wL l s l.length) (IK p.cO s p.cO.length)) ?_
   apply sX J
   apply Cb
   refine aI (λh3=>?_) (λh3=>Qb ?_)
   ·have h3:decide (wL l s l.length>0)=true:=h3
    have e:gB p l (i+1)=gB p l i++ [Tm p l s]:=by rw[fN];unfold wi;rw[hS,h3];rfl
    apply eX J
    apply ob dC
    refine ob (by rw[dK];show((gB p l i).length+1)*40<=_;omega) ?_
    refine ob (nJ (Hm rfl rfl rfl rfl)) ?_
    apply eX J
    refine⟨i+1,O,O,?_⟩
    refine Qa J [(100,77)] rfl ⟨bQ,⟨rfl,?_⟩,oO⟩ ⟨Z,Z,⟨rfl,Ye (by rw[e];exact cA _ _)⟩,Fa⟩
    show aY _ (.b8 61 (gB p l (i+1)).length 4 (E5 (gB p l (i+1))))
    rw[e]
    refine Nf (el:=aM9) (x:=Tm p l s) (λc hc=>?_)
    have hc:c<4:=hc
    match c,hc with|0,_|1,_|2,_|3,_=>rfl
   ·have h3:decide (wL l s l.length>0)=false:=h3
    have e:gB p l (i+1)=gB p l i:=by rw[fN];unfold wi;rw[hS,h3];exact mh _
    apply eX J
    refine⟨i+1,O,O,?_⟩
    exact Qa J [] rfl ⟨bQ,⟨rfl,cc (by rw[e];rfl)⟩,oO⟩ ⟨Z,Z,⟨rfl,Wb (by rw[e];rfl)⟩,Fa⟩
  ·have h:¬(i:Int)<p.gr.bK.length:=bF h
   obtain rfl:i=p.gr.bK.length:=O
   exact zdc
def dU{e r:Int}(h:(bif e !=0 then e else r)=0):e=0/\r=0:=by
 cases h1:(e !=0)with
 |true=>rw[h1]at h;have h:e=0:=h;rw[h]at h1;cases h1
 |false=>rw[h1]at h;exact⟨by simpa using h1,h⟩
def dF{c:Bool}{e r:Int}(he:e≠0)(h:(bif c then e else r)=0):c=false/\r=0:=by
 cases c with
 |true=>exact absurd h he
 |false=>exact⟨rfl,h⟩
structure PV(p:Proj):Prop where
 aT:kC p.aT=0
 side:p.aT.side<=1000
 cells:p.aT.levels.length<=100
 chan:mU p.chan=0
 gr:dX p.gr=0
 agree:0<=p.agree/\p.agree<=1000
 fG:0<=p.fG/\p.fG<=1000000
 cO:rW p=0
 cU:rR p=0
 new:PW p.aQ p.bA=0
def PV.of{p:Proj}(h:iG p=0):PV p:=by unfold iG at h;obtain⟨_,h⟩:=dF dC h;obtain⟨h1,h⟩:=dU h;obtain⟨h2,h⟩:=dF dC h;obtain⟨h3,h⟩:=dU h;obtain⟨h4,h⟩:=dU h;obtain⟨h5,h⟩:=dF dC h;obtain⟨h6,h⟩:=dU h;simp only[Ed,Qd]at h2;simp only[Ed,Ph,within,Bool.and_eq_true,ae]at h5;unfold nN at h6;obtain⟨h7,h8⟩:=dU h6;exact⟨h1,O,O,h3,h4,O,O,h7,h8,h⟩
def Yh:=@PV.of
def wx{g:eZ}(h:FO g):g.ok:=by
 have hn:=h.n;have key:∀n:Int, -2000000<=n->n<=2000000->nC n:=λn h1 h2=>by simp[nC,Lit.wf,IntKind.min,IntKind.max,IntKind.signed,IntKind.bits];omega
 have:=h.x;have:=h.y;have:=h.side;have:=h.dO;have:=h.rows;refine⟨key _ O O,key _ O O,key _ O O,key _ O O,key _ O O,O,λa ha=>?_⟩;rcases h.Ju a ha with h|h <;> exact key _ O O
def PV.gv{p:Proj}(h:PV p):FO p.aT:=FO.of h.aT
def PV.with{p:Proj}(h:PV p):mI p.chan [p.aT]=0:=by unfold mI;rw[h.chan];show(bif kC p.aT !=0 then kC p.aT else 0)=0;rw[h.aT];rfl
def PV.rK{p:Proj}(h:PV p)(less:Int):zK p.chan p.aT less=(mM p.chan p.aT less,0):=by unfold zK;rw[h.with];rfl
def Su(des low:List Int)(i:Nat):Bool:=des.getD i 0 !=30000&&decide (low.getD i 0>des.getD i 0)
abbrev Rp(p:Proj):eZ:=mM p.chan p.aT 0
def cj(p:Proj)(s:ta):List Pt:=(p.chan.Ya.getD (PG p.chan.Ya s).toNat default).lS
def aP5(p:Proj)(s:ta)(low:eZ):Bool:= !(Be p.aT (cj p s) p.aT.levels.length).any λn=>Su (Rp p).levels low.levels n.toNat
def ot(s:ta)(m:Int)(f:Fact):Bool:=f.kind==2&&bE f.eS s&&f.month==m
def aHO(Y:List Fact)(s:ta)(m:Int):Bool:=Y.any (ot s m)
def Lv(p:Proj)(Y:List Fact)(m:Int)(low:eZ)(s:zF):Bool:=(decide (s.due<=m)&& !aHO Y s.name m)&& !aP5 p s.name low
def Mm(p:Proj)(Y:List Fact)(m:Int)(low:eZ)(i:Nat):Da OK:=bif Lv p Y m low (p.cU.getD i default)then some ⟨(p.cU.getD i default).name,(p.cU.getD i default).Cf⟩else none
def M6(p:Proj)(Y:List Fact)(m:Int)(low:eZ)(n:Nat):List OK:=(List.range n).filterMap (Mm p Y m low)
def aB0(p:Proj)(Y:List Fact)(m:Int)(low:eZ)(n:Nat):(M6 p Y m low n).length<=n:=by have:=Qg (Mm p Y m low) (List.range n);exact Tp
abbrev Room:=Fact×Int
def Kv(x:Room)(j:Nat):DV:=if j=13 then dI x.2 else J0 x.1 j
def j9(l:List Room)(i:Nat)(j:Nat):DV:=Kv (l.getD i default) j
structure DS where
 out:List Oa
 lo:Nat
 v:Int
 p:Int
 cur:List Room
def a6(pt:Oa)(s:DS):DS:=
 bif decide (s.lo<s.cur.length)then
  {out:=s.out++ [⟨pt.month,pt.cell,pt.aN,mm false s.v (s.cur.getD s.lo default).2,mm false s.p (mm false s.v (s.cur.getD s.lo default).2),(s.cur.getD s.lo default).1.number,(s.cur.getD s.lo default).1.dN⟩],
   lo:=bif aW ((s.cur.getD s.lo default).2-mm false s.v (s.cur.getD s.lo default).2)==0 then s.lo+1 else s.lo,
   v:=aW (s.v-mm false s.v (s.cur.getD s.lo default).2),p:=aW (s.p-mm false s.p (mm false s.v (s.cur.getD s.lo default).2)),
   cur:=s.cur.set s.lo ((s.cur.getD s.lo default).1,aW ((s.cur.getD s.lo default).2-mm false s.v (s.cur.getD s.lo default).2))}
 else {s with out:=s.out++ [⟨pt.month,pt.cell,pt.aN,s.v,mm false s.p s.v,pt.load,pt.dN⟩],v:=aW (s.v-s.v),p:=aW (s.p-mm false s.p s.v)}
def pB(pt:Oa):Nat->DS->DS
 |0,s=>s
 |k+1,s=>bif decide (s.v>0)then pB pt k (a6 pt s)else s
def qE(pt:Oa)(lo:Nat)(l:List Room):DS:=⟨[],lo,pt.iZ,pt.gV,l⟩
def cH(pt:Oa)(lo:Nat)(l:List Room):DS:=pB pt (l.length-lo+1) (qE pt lo l)
structure DJ(pt:Oa)(n:Nat)(fin:DS)(x:Nat×DS):Prop where
 run:pB pt x.1 x.2=fin
 lo:x.2.lo<=n
 len:x.2.cur.length=n
 v:0<=x.2.v/\x.2.v<=1000000000000000
 Ma:x.2.v>0->n-x.2.lo<x.1
 left:∀i,x.2.lo<=i->i<n->1<=(x.2.cur.getD i default).2/\(x.2.cur.getD i default).2<=1000000000000
 Hi:x.2.out.length+x.1<=1000000
def ij(x y:Int):mm false x y=min x y:=by unfold mm;simp only;split <;> omega
def DJ.step{pt:Oa}{n:Nat}{fin:DS}{k:Nat}{s:DS}(h:DJ pt n fin (k,s))(hv:s.v>0):∃k',k=k'+1/\DJ pt n fin (k',a6 pt s):=by
 have hf:=h.Ma hv;simp only at hf;obtain⟨k',rfl⟩:∃k',k=k'+1:=⟨k-1,O⟩;refine⟨k',rfl,?_⟩;have hr:=h.run;simp only[pB,pc hv,cond_true]at hr;have DR:=h.lo;have hlen:=h.len;have hvv:=h.v;have T0:=h.Hi;simp only at DR hlen hvv T0;by_cases hl:s.lo<n
 ·have hd:decide (s.lo<s.cur.length)=true:=pc O;obtain⟨l1,l2⟩:=h.left s.lo (mb _) hl;simp only at l1 l2;have hm:=ij s.v (s.cur.getD s.lo default).2;have V7:aW ((s.cur.getD s.lo default).2-mm false s.v (s.cur.getD s.lo default).2)=(s.cur.getD s.lo default).2-mm false s.v (s.cur.getD s.lo default).2:=aG O O;have V6:aW (s.v-mm false s.v (s.cur.getD s.lo default).2)=s.v-mm false s.v (s.cur.getD s.lo default).2:=aG O O;have e1:(a6 pt s).lo=bif aW ((s.cur.getD s.lo default).2-mm false s.v (s.cur.getD s.lo default).2)==0 then s.lo+1 else s.lo:=by unfold a6;rw[hd];rfl
  have e2:(a6 pt s).cur=s.cur.set s.lo ((s.cur.getD s.lo default).1,aW ((s.cur.getD s.lo default).2-mm false s.v (s.cur.getD s.lo default).2)):=by unfold a6;rw[hd];rfl
  have e3:(a6 pt s).v=aW (s.v-mm false s.v (s.cur.getD s.lo default).2):=by unfold a6;rw[hd];rfl
  have e4:(a6 pt s).out.length=s.out.length+1:=by unfold a6;rw[hd];simp
  have key:∀i,i<n->i≠s.lo->(s.cur.set s.lo ((s.cur.getD s.lo default).1,aW ((s.cur.getD s.lo default).2-mm false s.v (s.cur.getD s.lo default).2))).getD i default=s.cur.getD i default:=λi hi fJ=>by simp[Ne.symm fJ]
  have aO3:(s.cur.set s.lo ((s.cur.getD s.lo default).1,aW ((s.cur.getD s.lo default).2-mm false s.v (s.cur.getD s.lo default).2))).getD s.lo default=((s.cur.getD s.lo default).1,aW ((s.cur.getD s.lo default).2-mm false s.v (s.cur.getD s.lo default).2)):=by simp[show s.lo<s.cur.length by omega]
  cases hz:(aW ((s.cur.getD s.lo default).2-mm false s.v (s.cur.getD s.lo default).2)==0)with
  |true=>rw[hz]at e1;have e1:(a6 pt s).lo=s.lo+1:=e1;refine⟨hr,by simp only[e1];omega,by simp only[e2,List.length_set];exact hlen,by simp only[e3,V6];omega,λ_=>by simp only[e1];omega,λi h1 h2=>?_,by simp only[e4];omega⟩;simp only[e1]at h1;simp only[e2];rw[key i h2 O];exact h.left i (by simp only;omega) h2
  |false=>
   rw[hz]at e1;have e1:(a6 pt s).lo=s.lo:=e1;have fJ:aW ((s.cur.getD s.lo default).2-mm false s.v (s.cur.getD s.lo default).2)≠0:=by simpa using hz
   refine⟨hr,by simp only[e1];omega,by simp only[e2,List.length_set];exact hlen,by simp only[e3,V6];omega,λZ3=>by simp only[e3,V6]at Z3;omega,λi h1 h2=>?_,by simp only[e4];omega⟩;simp only[e1]at h1;simp only[e2];by_cases hi:i=s.lo
   ·subst hi;rw[aO3];simp only;omega
   rw[key i h2 hi];exact h.left i (by simp only;omega) h2
 have hd:decide (s.lo<s.cur.length)=false:=Kc O;have e1:(a6 pt s).lo=s.lo:=by unfold a6;rw[hd];rfl
 have e2:(a6 pt s).cur=s.cur:=by unfold a6;rw[hd];rfl
 have e3:(a6 pt s).v=0:=by unfold a6;rw[hd];show aW (s.v-s.v)=0;rw[Wy];rfl
 have e4:(a6 pt s).out.length=s.out.length+1:=by unfold a6;rw[hd];simp
 exact⟨hr,by simp only[e1];omega,by simp only[e2];exact hlen,by simp only[e3];omega,λZ3=>by simp only[e3]at Z3;omega,λi h1 h2=>by simp only[e1]at h1;omega,by simp only[e4];omega⟩
def BD{pt:Oa}{k:Nat}{s:DS}(h:¬s.v>0):pB pt k s=s:=by
 cases k with
 |zero=>rfl
 |succ k=>rw[pB,Kc h];rfl
def xD(s:DS):Int:=bif decide (s.lo<s.cur.length)then mm false s.v (s.cur.getD s.lo default).2 else s.v
def I8(pt:Oa)(s:DS):Int:=bif decide (s.lo<s.cur.length)then(s.cur.getD s.lo default).1.number else pt.load
def FG(pt:Oa)(s:DS):ta:=bif decide (s.lo<s.cur.length)then(s.cur.getD s.lo default).1.dN else pt.dN
def lJ(pt:Oa)(s:DS):(a6 pt s).out=s.out++ [⟨pt.month,pt.cell,pt.aN,xD s,mm false s.p (xD s),I8 pt s,FG pt s⟩]:=by unfold a6 xD I8 FG;cases decide (s.lo<s.cur.length) <;> rfl
def L8(pt:Oa)(s:DS):(a6 pt s).v=aW (s.v-xD s):=zdJ
def L9(pt:Oa)(s:DS):(a6 pt s).p=aW (s.p-mm false s.p (xD s)):=zdJ
def aD8{x y:DV}{a:TV}(h:aK x y):aU (.t [.s (.d x),a]) (.t [.s (.d y),a]):=by
 rintro M V v ⟨vs,e,r⟩
 match vs,r with
 |[u1,u2],⟨r1,r2,r3⟩=>exact⟨[u1,u2],e,h M u1 r1,r2,r3⟩
def aGX{l:List Room}{i a c:Nat}{x:Int}(hi:i<l.length)(ha:a<l.length)(hc:c<14):eT (j9 l) i 13 [.d (dI x)] a c=j9 (l.set i ((l.getD i default).1,x)) a c:=by
 unfold eT;by_cases h:a=i
 ·subst h;rw[La rfl];unfold j9;rw[show(l.set a ((l.getD a default).1,x)).getD a default=((l.getD a default).1,x) by simp[ha]];by_cases h13:c=13
  ·subst h13;rfl
  match c,hc,h13 with
  |0,_,_|1,_,_|2,_,_|3,_,_|4,_,_|5,_,_|6,_,_|7,_,_|8,_,_|9,_,_|10,_,_|11,_,_|12,_,_=>rfl
  |13,_,h=>exact absurd rfl h
 rw[Ka h];unfold j9;congr 1;simp[Ne.symm h]
def aC5(pt:Oa)(l:List Room)(lo n:Nat)(hn:l.length=n)(DR:lo<=n)(hn2:n<=1000)(hv:0<=pt.iZ/\pt.iZ<=1000000000000000)
  (hl:∀i,lo<=i->i<n->1<=(l.getD i default).2/\(l.getD i default).2<=1000000000000):
  bW prog 40 [Fl pt,.s (.j0 1001 14 lo (n-lo))] [(1001,.row 180 n 14 (j9 l))]
   (.t [.s (.d (WR (cH pt lo l).out)),.s (.j0 1001 14 (cH pt lo l).lo (n-(cH pt lo l).lo))]) [(1001,.row 180 n 14 (j9 (cH pt lo l).cur))]:=by
 generalize aCM:cH pt lo l=fin
 refine gJ func40 rfl rfl call40 aJ rfl rfl rfl rfl (λR J=>?_)
 apply sX J
 apply sX J
 apply sX J
 refine aD ?_
 apply Sa
 apply Eb
 refine Gb (λx:Nat×DS=>⟨[(1,.s (.j0 1001 14 x.2.lo (n-x.2.lo))),(2,.s (.ptr 2 0)),(6,.s (.mo x.2.out.isEmpty 100)),(7,vI x.2.v),(8,vI x.2.p)],[(1001,some (.row 180 n 14 (j9 x.2.cur))),(2,some (.cells [.d (dI pt.month),.d (dI pt.cell),.d (dS pt.aN),.d (dI pt.iZ),.d (dI pt.gV),.d (dI pt.load),.d (dS pt.dN)])),(100,some (.b8 82 x.2.out.length 7 (eJ x.2.out)))]⟩) (DJ pt n fin) (λx=>x.1) (n-lo+1,qE pt lo l) ⟨by rw[<-aCM];unfold cH;rw[hn],DR,hn,hv,λ_=>by show n-lo<n-lo+1;omega,hl,by show 0+(n-lo+1)<=_;omega⟩ ?_ ?_
 ·exact za9
 ·exact zev
end Go.Pj
namespace Go.Pj
open Go Go.Ax Go.Ch Go.Proofs Go.Proofs.Tryz Go.Sort Go.Shelf
def Ai(x y:Fact):Int:=Bl (Qf x.month y.month) (Qf x.number y.number)
def JH(l:List Fact):List Fact:=l.mergeSort λx y=> !(ltOf Ai y x)
def A5(l:List Fact):(JH l).length=l.length:=by unfold JH;simp
end Go.Pj
namespace Go.Pj
open Go Go.Ax Go.Ch Go.Proofs Go.Proofs.Tryz
def W6{y:gK}(h:kX y=0):y.carry.length=y.bA.length/\∀i,i<y.bA.length->(y.bA.getD i default).den≠0:=by
 unfold kX at h;obtain⟨_,h⟩:=dF dC h;obtain⟨_,h⟩:=dU h;obtain⟨h,_⟩:=dU h;unfold o4 at h;obtain⟨_,h⟩:=dF dC h;obtain⟨h1,h⟩:=dU h;obtain⟨h2,_⟩:=dF dC h;have h2:(y.carry.length:Int)=y.bA.length:=by simpa using h2
 refine⟨O,λi hi=>?_⟩;have hb:=lQ h1 i (Nat.zero_le _) O;unfold rN at hb;obtain⟨_,hb⟩:=dF dC hb;obtain⟨_,hb⟩:=dF dC hb;unfold JZ at hb;obtain⟨hb,_⟩:=dF dC hb;simp only[Ed,Ph,within,Bool.and_eq_true,ae]at hb;omega
def yA.of{y:gK}(h1:y.fits)(h2:y.small):yA y:=⟨h1,h2,W6⟩
def yA.plc{y:gK}(h:yA y){b:lf}{dN:ta}(he:oS y b dN=0):yA (PO y b dN):=by
 have hd:y.bH.length<200:=by unfold oS at he;obtain⟨_,he⟩:=dU he;obtain⟨_,he⟩:=dF dC he;obtain⟨_,he⟩:=dF dC he;obtain⟨_,he⟩:=dU he;obtain⟨he,_⟩:=dF dC he;simp only[Qd]at he;omega
 have hc:(oZ y b).length=y.carry.length:=by unfold oZ;simp
 have hf:=h.fits;have hs:=h.small;refine yA.of ⟨hf.aQ,hf.bA,?_,?_,hf.vU,hf.rB,hf.aV⟩ ⟨hs.aQ,hs.bA,?_,?_,hs.aV⟩
 ·exact zb4
 ·show(oZ y b).length<=_;rw[hc];exact hf.carry
 ·exact zb4
 show(oZ y b).length<=_;rw[hc];exact hs.carry
def zC(f:Fact):lf:=⟨f.number,f.aT,f.over,f.aN,f.Jb⟩
def tO(Y:List Fact)(m:Int):List Fact:=Y.filter λf=>f.kind==1&&decide (f.month<=m)
def j8(Y:List Fact)(m:Int):List Fact:=JH (tO Y m)
def iM(p:Proj)(l:List Fact):Nat->List Fact×gK
 |0=>([],G7 p.aQ p.bA)
 |k+1=>bif oS (iM p l k).2 (zC (l.getD k default)) (l.getD k default).dN==0 then((iM p l k).1++ [l.getD k default],PO (iM p l k).2 (zC (l.getD k default)) (l.getD k default).dN)else iM p l k
def LF{p:Proj}{l:List Fact}(h:yA (G7 p.aQ p.bA)):∀k,yA (iM p l k).2
 |0=>h
 |k+1=>by
  have ih:=LF (l:=l) h k;rw[iM]
  cases he:(oS (iM p l k).2 (zC (l.getD k default)) (l.getD k default).dN==0)with
  |true=>exact ih.plc (by simpa using he)
  |false=>exact ih
def BY(p:Proj)(l:List Fact):∀k,(iM p l k).1.length<=k
 |0=>mb _
 |k+1=>by
  have ih:=BY p l k;rw[iM]
  cases(oS (iM p l k).2 (zC (l.getD k default)) (l.getD k default).dN==0)with
  |true=>show(_++ [_]).length<=_;rw[ed];simp only[List.length_singleton];omega
  |false=>exact Nat.le_succ_of_le ih
def aOX{p:Proj}(hp:p.fits)(hv:PV p):G7 p.aQ p.bA=BL p.aQ p.bA/\yA (G7 p.aQ p.bA):=by
 have e:G7 p.aQ p.bA=BL p.aQ p.bA:=by unfold G7;rw[hv.new];rfl
 refine⟨e,?_⟩;rw[e];exact yA.of (DK hp.small hp.vU hp.rB) hp.small
def yW(Y:List Fact)(m:Int)(i:Nat):List Fact:=(Y.take i).filter λf=>f.kind==1&&decide (f.month<=m)
def XB{Y:List Fact}{m:Int}{i:Nat}(h:i<Y.length):yW Y m (i+1)=yW Y m i++(bif (Y.getD i default).kind==1&&decide ((Y.getD i default).month<=m)then [Y.getD i default]else []):=by
 unfold yW;rw[Bg,List.getElem?_eq_getElem h,cw,aX h]
 cases hh:(Y[i].kind==1&&decide (Y[i].month<=m)) <;> simp[hh]
def aAJ(Y:List Fact)(m:Int)(i:Nat):(yW Y m i).length<=i:=Xb (Mh _ _) re
end Go.Pj
--K37
namespace Go.Ax
def AW.aP4{P:Ba}{R:Cx}{N:Nat}{I I':St}{K:Exit->St->Prop}{x y:Code}(h:AW P R N x I λe s=>e=.normal/\pI R N s I')(k:AW P R N y I' K):AW P R N (.seq x y) I K:=
 Sa (Rr h λ_ _ ⟨he,hs⟩=>by subst he;exact Bk hs k)
end Go.Ax
namespace Go.Pj
open Go Go.Ax Go.Ch Go.Proofs Go.Proofs.Tryz
def aD5(a:AV):aF prog 135 [.s (.d eO),a] (.t []):=by
 refine⟨call135,λM w vs _ hr hM=>?_⟩
 match vs,hr with
 |[v,v2],⟨hv,_,_⟩=>have hv:v=.slice none 0 0:=hv;subst hv;exact(AnyF.slices_SortFunc_none (P:=prog) (ρ:=Tryz.BR) {Tryz.aBY with} none 0 v2 w).mono zat
 |[],h=>exact h.elim
 |[_],h=>exact h.2.elim
 |_::_::_::_,h=>exact h.2.2.elim
def ZR(Y:List Fact)(m:Int):Prop:=0<(tO Y m).length->bW prog 135 [.s (.own 1001),.s (.dZ 136 [])] [(1001,.row 67 (tO Y m).length 13 (nE (tO Y m)))] (.t []) [(1001,.row 67 (tO Y m).length 13 (nE (JH (tO Y m))))]
def aI8(p:Proj)(Y:List Fact)(m:Int)(hp:p.fits)(hv:PV p)(hl:Y.length<=200)(hn:ZR Y m):
  aF prog 71 [SR p Y,vI m] (.t [.s (.d (RN (iM p (j8 Y m) (j8 Y m).length).1)),.g (uH (iM p (j8 Y m) (j8 Y m).length).2)]):=by
 obtain⟨eN,gN⟩:=aOX hp hv
 have aPX:=aNC p.aQ p.bA hp.small hp.vU hp.rB
 have lC:yW Y m Y.length=tO Y m:=by unfold yW tO;rw[Vd]
 have hLl:(j8 Y m).length<=200:=by
  exact zc5
 have oV:=λk=>LF (l:=j8 Y m) gN k
 refine eW func71 rfl rfl call71 rfl rfl (λR J=>?_)
 apply sX J
 apply sX J
 refine Uf (I':=⟨[(1,vI m),(2,.s (.ptr 2 0)),(5,.s (.ptr 5 0)),(6,.s (.mo (tO Y m).isEmpty 100))],[(2,some (.cells (l0 p Y))),(5,some (.cells (iB Fe.zero))),(100,some (.b8 67 (tO Y m).length 13 (nE (tO Y m))))]⟩) ?_ ?_
 ·apply sX J
  apply Eb
  refine Gb (λi:Nat=>⟨[(1,vI m),(2,.s (.ptr 2 0)),(5,.s (.ptr 5 0)),(6,.s (.mo (yW Y m i).isEmpty 100)),(17,cJ Y),(18,vI Y.length),(19,vI i)],[(2,some (.cells (l0 p Y))),(5,some (.cells (iB Fe.zero))),(100,some (.b8 67 (yW Y m i).length 13 (nE (yW Y m i))))]⟩) (λi=>i<=Y.length) (λi=>Y.length-i) 0 (Nat.zero_le _) ?_ ?_
  ·exact Qa J [(100,1000)] rfl ⟨bQ,bQ,⟨rfl,rfl⟩,oO⟩ ⟨Z,Z,Z,⟨rfl,fg rfl⟩,Fa⟩
  ·intro i hi
   have hlen:=aAJ Y m i
   apply sX J
   refine Sa (Cb ?_)
   refine aI (λh=>Qb ?_) (λh=>Ld ?_)
   ·have h:(i:Int)<Y.length:=bG h
    have fN:=XB (m:=m) (show i<Y.length by omega)
    refine Sa (Eb ?_)
    apply sX J
    apply oi Ha
    apply sX J
    repeat refine aR ?_
    apply Cb
    refine aI (λh2=>?_) (λh2=>Qb ?_)
    ·have h2:((Y.getD i default).kind==1&&decide ((Y.getD i default).month<=m))=true:=h2
     rw[h2]at fN
     have fN:yW Y m (i+1)=yW Y m i++ [Y.getD i default]:=fN
     apply eX J
     apply ob dC
     refine ob (by rw[dK];show((yW Y m i).length+1)*144<=_;omega) ?_
     refine ob (nJ λc hc=>by match c,hc with|0,_|1,_|2,_|3,_|4,_|5,_|6,_|7,_|8,_|9,_|10,_|11,_|12,_=>rfl) ?_
     apply eX J
     refine⟨i+1,O,O,?_⟩
     refine Qa J [(100,35)] rfl ⟨bQ,bQ,⟨rfl,?_⟩,oO⟩ ⟨Z,Z,Z,⟨rfl,Ye (by rw[fN];exact cA _ _)⟩,Fa⟩
     show aY _ (.b8 67 (yW Y m (i+1)).length 13 (nE (yW Y m (i+1))))
     rw[fN]
     refine Nf (el:=J0) (x:=Y.getD i default) (λc hc=>?_)
     exact zbR
    ·have h2:((Y.getD i default).kind==1&&decide ((Y.getD i default).month<=m))=false:=h2
     rw[h2]at fN
     have fN:yW Y m (i+1)=yW Y m i:=fN.trans (mh _)
     apply eX J
     refine⟨i+1,O,O,?_⟩
     exact Qa J [] rfl ⟨bQ,bQ,⟨rfl,cc (by rw[fN];rfl)⟩,oO⟩ ⟨Z,Z,Z,⟨rfl,Wb (by rw[fN];rfl)⟩,Fa⟩
   ·have h:¬(i:Int)<Y.length:=bF h
    obtain rfl:i=Y.length:=O
    rw[lC]
    exact kq
 refine AW.aP4 (I':=⟨[(2,.s (.ptr 2 0)),(5,.s (.ptr 5 0)),(6,cJ (j8 Y m))],[(2,some (.cells (l0 p Y))),(5,some (.cells (iB Fe.zero)))]⟩) ?_ ?_
 ·have hn:0<(tO Y m).length->bW prog 135 [.s (.own 1001),.s (.dZ 136 [])] [(1001,.row 67 (tO Y m).length 13 (nE (tO Y m)))] (.t []) [(1001,.row 67 (tO Y m).length 13 (nE (JH (tO Y m))))]:=hn
  generalize hD:tO Y m=D at hn
  have hsD:j8 Y m=JH D:=by unfold j8;rw[hD]
  cases hz:D.isEmpty with
  |true=>
   have hDn:D=[]:=by simpa using hz
   refine Tb (I':=⟨[(2,.s (.ptr 2 0)),(5,.s (.ptr 5 0)),(6,.s (.d eO))],[(2,some (.cells (l0 p Y))),(5,some (.cells (iB Fe.zero)))]⟩) (Qa J [] rfl Fa ⟨Z,Z,⟨rfl,nx rfl⟩,oO⟩) ?_
   apply eX J
   refine aB (aD5 _) ?_
   exact⟨rfl,pI.aFD (Qa J [] rfl Fa ⟨Z,Z,⟨rfl,Xc (by rw[hsD,hDn,show JH []=[] by simp[JH]];exact Nd)⟩,oO⟩)⟩
  |false=>
   refine Tb (aM.own (z:=false) (e:=67) (n:=D.length) (s:=13) (f:=nE D) 6 100 rfl rfl rfl) ?_
   refine Tb (I':=⟨[(2,.s (.ptr 2 0)),(5,.s (.ptr 5 0)),(6,.s (.own 100))],[(2,some (.cells (l0 p Y))),(5,some (.cells (iB Fe.zero))),(100,some (.row 67 D.length 13 (nE D)))]⟩) (Qa J [] rfl Fa Fa) ?_
   refine Sb (rc:=[135]) aJ mix J _ ?_
   have hDl:D.length<=200:=by rw[<-hD];exact Xb (Mh _ _) hl
   refine⟨[(1001,100)],_,_,_,_,hn (by cases D with|nil=>cases hz|cons a b=>simp),rfl,⟨rfl,oO⟩,rfl,?_⟩
   exact⟨rfl,Se J [] [100] rfl rfl rfl ⟨⟨rfl,ee⟩,⟨rfl,ee⟩,oO⟩ ⟨⟨rfl,qb⟩,⟨rfl,qb⟩,⟨rfl,(Ee sM rfl).then (Xc (Wa (by rw[hsD];unfold RN;rw[A5])))⟩,oO⟩⟩
 generalize j8 Y m=L at hLl oV
 apply sX J
 apply aB aPX
 apply sX J
 refine Sa (sX J ?_)
 apply Eb
 refine Gb (λk:Nat=>⟨[(5,.s (.ptr 5 0)),(9,.s (.ptr 9 0)),(11,.s (.mo (iM p L k).1.isEmpty 100)),(49,cJ L),(50,vI L.length),(51,vI k)],[(5,some (.cells (iB Fe.zero))),(9,some (.cells (uH (iM p L k).2))),(100,some (.b8 67 (iM p L k).1.length 13 (nE (iM p L k).1)))]⟩) (λk=>k<=L.length) (λk=>L.length-k) 0 (Nat.zero_le _) ?_ ?_
 ·exact Qa J [(100,1000)] rfl ⟨bQ,bQ,⟨rfl,rfl⟩,oO⟩ ⟨Z,Z,⟨rfl,fg rfl⟩,Fa⟩
 ·intro k hk
  have hlen:=BY p L k
  have hg:=oV k
  apply sX J
  refine Sa (Cb ?_)
  refine aI (λh=>Qb ?_) (λh=>Ld ?_)
  ·have h:(k:Int)<L.length:=bG h
   refine Sa (Eb ?_)
   apply sX J
   apply oi Ha
   generalize hF:L.getD k default=f
   have hP:=Place (iM p L k).2 (zC f) f.dN hg
   have jO:iM p L (k+1)=bif oS (iM p L k).2 (zC f) f.dN==0 then((iM p L k).1++ [f],PO (iM p L k).2 (zC f) f.dN)else iM p L k:=by rw[iM,hF]
   refine Tb (I':=⟨[(5,.s (.ptr 5 0)),(9,.s (.ptr 9 0)),(11,.s (.mo (iM p L k).1.isEmpty 100)),(49,cJ L),(50,vI L.length),(51,vI k),(13,.s (.ptr 13 0))],[(5,some (.cells (iB Fe.zero))),(9,some (.cells (uH (iM p L k).2))),(100,some (.b8 67 (iM p L k).1.length 13 (nE (iM p L k).1))),(13,some (.cells (xT f)))]⟩) (Qa J [] rfl ⟨bQ,bQ,bQ,⟨rfl,cc (by rw[<-hF];rfl)⟩,oO⟩ Fa) ?_
   generalize hau:iM p L k=QW at hP jO hlen hg
   obtain⟨o,y⟩:=QW
   simp only at hP jO hlen hg
   cases he:(oS y (zC f) f.dN==0)with
   |true=>
    have he0:oS y (zC f) f.dN=0:=by simpa using he
    have eC:G0 y (zC f) f.dN=uH (PO y (zC f) f.dN):=by unfold G0;rw[he0];rfl
    rw[he]at jO
    have jO:iM p L (k+1)=(o++ [f],PO y (zC f) f.dN):=jO
    rw[eC,he0]at hP
    apply sX J
    apply aB hP
    apply sX J
    apply Cb
    refine aI (λ_=>?_) (λh2=>by cases h2)
    apply sX J
    apply eX J
    apply ob dC
    refine ob (by rw[dK];show(o.length+1)*144<=_;omega) ?_
    refine ob (nJ λc hc=>by match c,hc with|0,_|1,_|2,_|3,_|4,_|5,_|6,_|7,_|8,_|9,_|10,_|11,_|12,_=>rfl) ?_
    apply eX J
    refine⟨k+1,O,O,?_⟩
    rw[jO]
    refine Qa J [(100,79)] rfl ⟨bQ,bQ,⟨rfl,?_⟩,oO⟩ ⟨Z,Z,⟨rfl,Ye (cA _ _)⟩,Fa⟩
    show aY _ (.b8 67 (o++ [f]).length 13 (nE (o++ [f])))
    refine Nf (el:=J0) (x:=f) (λc hc=>?_)
    exact zbR
   |false=>
    have eC:G0 y (zC f) f.dN=iB Fe.zero:=by
     unfold G0
     rw[show(oS y (zC f) f.dN !=0)=true by simpa[bne]using he];rfl
    rw[he]at jO
    have jO:iM p L (k+1)=(o,y):=jO
    rw[eC]at hP
    apply sX J
    apply aB hP
    apply sX J
    apply Cb
    refine aI (λh2=>?_) (λ_=>Qb ?_)
    ·have h2:(oS y (zC f) f.dN==0)=true:=h2
     rw[he]at h2;cases h2
    apply eX J
    refine⟨k+1,O,O,?_⟩
    rw[jO]
    exact Qa J [] rfl Fa Fa
  ·have h:¬(k:Int)<L.length:=bF h
   obtain rfl:k=L.length:=O
   apply eX J
   refine aD ?_
   exact Re ⟨Qe (dK _) λ_ _ _ _=>Ja _,⟨Ja _,Ja _,Ja _,Ja _,oO⟩,oO⟩
def G5(l:List Oa):Nat->Int
 |0=>0
 |i+1=>aW (G5 l i+aW ((l.getD i default).iZ-(l.getD i default).gV))
def Ik(t:Int)(l:List Wf):Nat->Int
 |0=>t
 |i+1=>aW (Ik t l i+(l.getD i default).I3)
def Ip(t:Int)(l:List OK):Nat->Int
 |0=>t
 |i+1=>aW (Ip t l i-(l.getD i default).I3)
def aq(p:Proj)(m:Int)(lM:List Oa)(E4:List Wf)(I7:List OK)(dsp:List Int):Stmt:=
 ⟨m,(G5 lM lM.length),(r8 (G5 lM lM.length) p.fG),(Ip (Ik (aW (0-(r8 (G5 lM lM.length) p.fG))) E4 E4.length) I7 I7.length),E4,I7,dsp⟩
def ZS(p:Proj)(l:List Fact)(M:Nat)(lM:List Oa)(hp:p.fits)(hf:∀f∈l,f.fits)(hl:l.length<=9223372036854775807)(he:j6 p l M 1=0)(hS:nj p (cntF l))(hM:M<=24)
  (hlp:lM.length<=1000000) (QV:aF prog 18 [SR p (cntF l),vI M,rK (sK p (cntF l) M)] (U8 (M6 p (cntF l) M (sK p (cntF l) M) p.cU.length))) (hP:aF prog 15 [SR p (cntF l),vI M,.s (.d (cZ (dA p (cntF l) (M+1))))] (iD lM)):
  aF prog 7 [oR p,cJ l,vI M] (.t [.g [.d (dI M),.d (dI (G5 lM lM.length)),.d (dI (aq p M lM (gB p lM p.gr.bK.length) (M6 p (cntF l) M (sK p (cntF l) M) p.cU.length) (gY p (cntF l) M p.aT.levels.length)).fG),.d (dI (aq p M lM (gB p lM p.gr.bK.length) (M6 p (cntF l) M (sK p (cntF l) M) p.cU.length) (gY p (cntF l) M p.aT.levels.length)).total),.d (x0 (gB p lM p.gr.bK.length)),.d (xZ (M6 p (cntF l) M (sK p (cntF l) M) p.cU.length)),.d (b5 (gY p (cntF l) M p.aT.levels.length))],.s (.d (dI 0))]):=by
 obtain⟨hk,_⟩:=tL he
 have hv:=Yh hk.proj
 have hO:=MP p l M 1 hp hf hl he
 generalize cntF l=Y at hS hP hO QV
 have hfl:=hS.len
 have HV:p.gr.bK.length<=1000000:=by have h:=hv.gr;unfold dX mO at h;obtain⟨h,_⟩:=dU h;obtain⟨_,h⟩:=dF dC h;exact zcQ
 have y2:((dA p Y (M+1)).getD (M:Int).toNat default)=sK p Y M:=mK O
 have aQL:(sK p Y M).levels.length=p.aT.levels.length:=by show(lE p Y M).length=_;unfold lE;simp
 rw[<-y2]at QV
 have aPP:=LS p lM p.gr.bK.length
 have aPK:=aB0 p Y M (sK p Y M) p.cU.length
 have hsl:p.cU.length<=20:=by have h:=hv.cU;unfold rR at h;exact zcQ
 refine eW func7 rfl rfl call7 rfl rfl (λR J=>?_)
 apply sX J
 apply sX J
 apply aB hO
 refine Sa (sX J ?_)
 apply Cb
 refine aI (λh=>by cases h) (λ_=>Qb ?_)
 apply sX J
 refine aB (lowest p Y M hS hM) ?_
 apply sX J
 apply aB hP
 refine Sa (Sb (rc:=[16]) aJ mix J _ ?_)
 refine⟨[(9,700)],_,_,_,_,OH p Y M hS,rfl,trivial,rfl,?_⟩
 apply sX J
 refine aB (Y4 p Y lM HV O hp.cO) ?_
 refine oi (show(0:Int)<=(M:Int)/\(M:Int)<((dA p Y (M+1)).length:Int) by rw[mE];omega) ?_
 apply aB QV
 refine aD ?_
 rw[y2]
 generalize gB p lM p.gr.bK.length=E4 at aPP
 generalize M6 p Y M (sK p Y M) p.cU.length=I7 at aPK
 generalize gY p Y M p.aT.levels.length=dsp
 refine Tb (I':=⟨[(3,.s (.ptr 3 0)),(6,.s (.ptr 6 0)),(11,iD lM),(14,.s (.ptr 14 0))],[(3,some (.cells (qH p))),(6,some (.cells (iB gi.zero))),(14,some (.cells [.d (dI M),.d (dI 0),.d (dI 0),.d (dI 0),.d (x0 E4),.d (xZ I7),.d (b5 dsp)]))]⟩) (Qa J [] rfl Fa Fa) ?_
 refine Uf (I':=⟨[(3,.s (.ptr 3 0)),(6,.s (.ptr 6 0)),(11,iD lM),(14,.s (.ptr 14 0))],[(3,some (.cells (qH p))),(6,some (.cells (iB gi.zero))),(14,some (.cells [.d (dI M),.d (dI (G5 lM lM.length)),.d (dI 0),.d (dI 0),.d (x0 E4),.d (xZ I7),.d (b5 dsp)]))]⟩) ?_ ?_
 ·refine sX J (Eb ?_);refine Gb (λi:Nat=>⟨[(3,.s (.ptr 3 0)),(6,.s (.ptr 6 0)),(11,iD lM),(14,.s (.ptr 14 0)),(58,iD lM),(59,vI lM.length),(60,vI i)],[(3,some (.cells (qH p))),(6,some (.cells (iB gi.zero))),(14,some (.cells [.d (dI M),.d (dI (G5 lM i)),.d (dI 0),.d (dI 0),.d (x0 E4),.d (xZ I7),.d (b5 dsp)]))]⟩) (λi=>i<=lM.length) (λi=>lM.length-i) 0 (Nat.zero_le _) ?_ ?_
  ·exact Ku
  intro i hi;refine sX J (Sa (Cb ?_));refine aI (λh=>Qb ?_) (λh=>Ld ?_)
  ·have h:(i:Int)<lM.length:=bG h;exact ut
  have h:¬(i:Int)<lM.length:=bF h;obtain rfl:i=lM.length:=O;exact kq
 apply sX J
 refine aB (vY (G5 lM lM.length) p.fG) ?_
 apply sX J
 refine Tb (I':=⟨[(3,.s (.ptr 3 0)),(6,.s (.ptr 6 0)),(11,iD lM),(14,.s (.ptr 14 0))],[(3,some (.cells (qH p))),(6,some (.cells (iB gi.zero))),(14,some (.cells [.d (dI M),.d (dI (G5 lM lM.length)),.d (dI (r8 (G5 lM lM.length) p.fG)),.d (dI (aW (0-(r8 (G5 lM lM.length) p.fG)))),.d (x0 E4),.d (xZ I7),.d (b5 dsp)]))]⟩) (Qa J [] rfl Fa Fa) ?_
 refine Uf (I':=⟨[(3,.s (.ptr 3 0)),(6,.s (.ptr 6 0)),(11,iD lM),(14,.s (.ptr 14 0))],[(3,some (.cells (qH p))),(6,some (.cells (iB gi.zero))),(14,some (.cells [.d (dI M),.d (dI (G5 lM lM.length)),.d (dI (r8 (G5 lM lM.length) p.fG)),.d (dI (Ik (aW (0-(r8 (G5 lM lM.length) p.fG))) E4 E4.length)),.d (x0 E4),.d (xZ I7),.d (b5 dsp)]))]⟩) ?_ ?_
 ·refine sX J (Eb ?_);refine Gb (λi:Nat=>⟨[(3,.s (.ptr 3 0)),(6,.s (.ptr 6 0)),(11,iD lM),(14,.s (.ptr 14 0)),(85,aGR E4),(86,vI E4.length),(87,vI i)],[(3,some (.cells (qH p))),(6,some (.cells (iB gi.zero))),(14,some (.cells [.d (dI M),.d (dI (G5 lM lM.length)),.d (dI (r8 (G5 lM lM.length) p.fG)),.d (dI (Ik (aW (0-(r8 (G5 lM lM.length) p.fG))) E4 i)),.d (x0 E4),.d (xZ I7),.d (b5 dsp)]))]⟩) (λi=>i<=E4.length) (λi=>E4.length-i) 0 (Nat.zero_le _) ?_ ?_
  ·exact Ku
  intro i hi;refine sX J (Sa (Cb ?_));refine aI (λh=>Qb ?_) (λh=>Ld ?_)
  ·have h:(i:Int)<E4.length:=bG h;exact ut
  have h:¬(i:Int)<E4.length:=bF h;obtain rfl:i=E4.length:=O;exact kq
 refine Uf (I':=⟨[(3,.s (.ptr 3 0)),(6,.s (.ptr 6 0)),(11,iD lM),(14,.s (.ptr 14 0))],[(3,some (.cells (qH p))),(6,some (.cells (iB gi.zero))),(14,some (.cells [.d (dI M),.d (dI (G5 lM lM.length)),.d (dI (r8 (G5 lM lM.length) p.fG)),.d (dI (Ip (Ik (aW (0-(r8 (G5 lM lM.length) p.fG))) E4 E4.length) I7 I7.length)),.d (x0 E4),.d (xZ I7),.d (b5 dsp)]))]⟩) ?_ ?_
 ·refine sX J (Eb ?_);refine Gb (λi:Nat=>⟨[(3,.s (.ptr 3 0)),(6,.s (.ptr 6 0)),(11,iD lM),(14,.s (.ptr 14 0)),(99,U8 I7),(100,vI I7.length),(101,vI i)],[(3,some (.cells (qH p))),(6,some (.cells (iB gi.zero))),(14,some (.cells [.d (dI M),.d (dI (G5 lM lM.length)),.d (dI (r8 (G5 lM lM.length) p.fG)),.d (dI (Ip (Ik (aW (0-(r8 (G5 lM lM.length) p.fG))) E4 E4.length) I7 i)),.d (x0 E4),.d (xZ I7),.d (b5 dsp)]))]⟩) (λi=>i<=I7.length) (λi=>I7.length-i) 0 (Nat.zero_le _) ?_ ?_
  ·exact Ku
  intro i hi;refine sX J (Sa (Cb ?_));refine aI (λh=>Qb ?_) (λh=>Ld ?_)
  ·have h:(i:Int)<I7.length:=bG h;exact ut
  have h:¬(i:Int)<I7.length:=bF h;obtain rfl:i=I7.length:=O;exact kq
 apply eX J
 exact db _
def aD0{E:List gL}{k t:bJ}{e:gL}(he:e∈o6 E k t):(∃e'∈E,e.1=e'.1/\∀x∈e.2.1,x∈e'.2.1\/(x=t/\e.1=k))\/(e.1=k/\∀x∈e.2.1,x=t):=by
 unfold o6 at he;split at he
 ·rename_i i p hp;obtain⟨_,hg,hk⟩:=xU hp;obtain⟨j,hj⟩:=dd he;rw[se]at hj
  cases hE:E[j]? with
  |none=>rw[hE]at hj;cases hj
  |some y=>
   rw[hE]at hj;have hj:(if i=j then(y.1,y.2.1++ [t],y.2.2)else y)=e:=by simpa using hj
   left;refine⟨y,Dd hE,?_⟩;by_cases Z5:i=j
   ·rw[La Z5]at hj;subst hj;refine⟨rfl,λx hx=>?_⟩;rcases ic.1 hx with hx|hx
    ·exact .inl hx
    refine .inr ⟨Ib.1 hx,?_⟩;simp only[ak]at hg;rw[Z5,hE]at hg;obtain rfl:=sc hg;exact hk
   rw[Ka Z5]at hj;subst hj;exact⟨rfl,λx hx=>.inl hx⟩
 rcases ic.1 he with he|he
 ·exact .inl ⟨e,he,rfl,λx hx=>.inl hx⟩
 rw[Ib.1 he];exact .inr ⟨rfl,λx hx=>Ib.1 hx⟩
def yP{l:List Fact}:∀{i:Nat} {e:gL},e∈fM l i->∀t∈e.2.1,∃g∈l,t=dR g/\bT g=e.1
 |0,e,he,_,_=>by simp[fM]at he
 |i+1,e,he,t,ht=>by
  by_cases h:i<l.length
  ·rw[p9 h]at he;unfold A3 at he;have hm:l.getD i default∈l:=bP h
   cases hw:DN (l.getD i default)with
   |true=>rw[hw]at he;exact yP (i:=i) he t ht
   |false=>
    rw[hw]at he;rcases aD0 he with⟨e',DT,hk,hx⟩|⟨hk,hx⟩
    ·rcases hx t ht with h1|⟨h1,h2⟩
     ·obtain⟨g,g1,g2,g3⟩:=yP (i:=i) DT t h1;exact⟨g,g1,g2,g3.trans hk.symm⟩
     exact⟨_,hm,h1,h2.symm⟩
    exact⟨_,hm,hx t ht,hk.symm⟩
  have e1:fM l (i+1)=fM l i:=xd
  rw[e1]at he;exact yP (i:=i) he t ht
def aF7{l:List bJ}{t:bJ}(h:t∈rG l):t∈l:=by
 unfold rG zA at h;obtain⟨i,hi,hx⟩:=lh.1 h;have hi:=Gf.1 hi
 cases hq:qd l i with
 |true=>rw[hq]at hx;have hx:l.getD i []=t:=sc hx;rw[<-hx,aX hi];exact Ce hi
 |false=>rw[hq]at hx;cases hx
def XZ{G:List (ta×Int)}{k:bJ}{ts:List bJ}{t:bJ}(h:t∈rV G k ts):t∈ts:=by unfold rV at h;have h1:=(Oi _ _).mem_iff.1 (aF7 h);unfold fX dM at h1;exact(rf.1 h1).1
def N4{l:List Fact}(hv:∀f∈l,fR f=0){f:Fact}(h:f∈cntF l):∃k∈pS l,f=rU (zH (pT l) k)/\∃g∈l,f=jE g/\bT g=k:=by
 unfold cntF at h;obtain⟨k,hk,rfl⟩:=Lc.1 h;refine⟨k,hk,rfl,?_⟩;obtain⟨j,e,uZ,he⟩:=KO hk;obtain⟨hl1,_⟩:=O0 he;obtain⟨e',DT,y5,_,hp,_⟩:=A4 he;have qP:zH (pT l) k=e.2.1.getD (e.2.1.length-1) []:=by unfold zH;rw[uZ]
 have kK:zH (pT l) k∈e.2.1:=by rw[qP,aX O];exact Ce _
 rw[hp]at kK;obtain⟨g,hg,ht,tR⟩:=yP DT _ (XZ kK);refine⟨g,hg,?_,?_⟩
 ·rw[ht];exact LZ (hv g hg)
 rw[tR,<-y5];exact(xU uZ).2.2
def x4{p:Proj}{l:List Fact}(hk:Ci p l):nj p (cntF l):=by
 have hv:=Yh hk.proj;have gv:=hv.gv;have h1:=gv.len;have hc:=gv.dO;have hr:=gv.rows;have y1:0<p.aT.dO*p.aT.rows:=Int.mul_pos O O;have vA:(cntF l).length<=l.length:=by unfold cntF;rw[bg];exact OZ l
 have hlen:=hk.len;refine⟨O,⟨O,hv.cells⟩,λf hf h0=>?_⟩;obtain⟨_,_,_,g,hg,rfl,_⟩:=N4 hk.fmt hf;have h0:g.kind=0:=h0;have hs:=hk.shape g hg;unfold uM at hs;rw[h0]at hs;have hs:((g.levels.length:Int) !=p.aT.levels.length)=false:=hs;have hs:(g.levels.length:Int)=p.aT.levels.length:=by simpa using hs
 show(bif g.kind==0 then g.levels else []).length=_;rw[h0];show g.levels.length=_;omega
end Go.Pj
namespace Go.Ax
open Go.RowKit
section
variable{P:Ba}{T:List (Nat×bV)}{N:Nat}{all:List Oper}{md:Region.Mode}{ft:List fY}
def VM(e:Ef):Prop:=∀p∈e.2,∀b,p.2=some b->b.real=true
def KH(P:Ba)(T:List (Nat×bV))(N:Nat)(all:List Oper)(m:Nat)(om:Oper)(em:Ef)(fm:fY)(C:St->Prop)(i:Nat)(o:Oper)(I:St)(e:Ef)(f:fY):Prop:=
 (i≠m/\FD P T N [] all o I e f/\VM e)\/(i=m/\o=om/\e=em/\f=fm/\C I)
structure Mid(all:List Oper)(om:Oper)(em:Ef)(fm:fY)(C:St->Prop):Prop where
 wr:em.2.map (·.1)=fm.2
 real:VM em
 congr:∀I I',C I->U6 all om I I'->(∀x,x∈fm.2->aH I'.box x=aH I.box x)->C I'
variable{m:Nat}{om:Oper}{em:Ef}{fm:fY}{C:St->Prop}(hm:Mid all om em fm C)
include hm
def KH.wr{i:Nat}{o:Oper}{I:St}{e:Ef}{f:fY}(h:KH P T N all m om em fm C i o I e f):e.2.map (·.1)=f.2:=by
 rcases h with⟨_,h,_⟩|⟨_,_,rfl,rfl,_⟩
 ·exact h.wr
 exact hm.wr
def KH.congr{i:Nat}{o:Oper}{I I':St}{e:Ef}{f:fY}(h:KH P T N all m om em fm C i o I e f)(ht:U6 all o I I')(hr:wS f.1 I I')(hw:∀x,x∈f.2->aH I'.box x=aH I.box x):KH P T N all m om em fm C i o I' e f:=by
 rcases h with⟨h0,h,h1⟩|⟨h0,rfl,rfl,rfl,h⟩
 ·exact .inl ⟨h0,h.congr ht hr hw,h1⟩
 exact .inr ⟨h0,rfl,rfl,rfl,hm.congr _ _ h ht hw⟩
def KH.eqv{i:Nat}{o:Oper}{I I':St}{e:Ef}{f:fY}(h:KH P T N all m om em fm C i o I e f)(k:FP I I'):KH P T N all m om em fm C i o I' e f:=
 h.congr hm (λt _=>k.env t) (λx _=>k.box x) (λx _=>k.box x)
def KH.past{j:Nat}{oi oj:Oper}{ei ej:Ef}{fi fj:fY}{I:St}(hwi:ei.2.map (·.1)=fi.2)(C2:oi.apart all.toArray oj=true)(xO:iP fi fj=true)(h:KH P T N all m om em fm C j oj (eU oi ei I) ej fj):KH P T N all m om em fm C j oj I ej fj:=by
 obtain⟨h1,h2,h3⟩:=tj C2;obtain⟨k1,k2,k3⟩:=Vh xO;have ht:U6 all oj I (eU oi ei I):=Ck h1;refine h.congr hm (λt ER=>(ht t ER).symm) (λx hx=>(o0 (λhw=>?_)).symm) (λx hx=>(o0 (λhw=>?_)).symm)
 ·exact k1 x (hwi▸hw) hx
 exact k2 x (hwi▸hw) hx
def KH.over{i:Nat}{oi oj:Oper}{ei ej:Ef}{fi fj:fY}{I:St}(hwj:ej.2.map (·.1)=fj.2)(C2:oi.apart all.toArray oj=true)(xO:iP fi fj=true)(h:KH P T N all m om em fm C i oi I ei fi):KH P T N all m om em fm C i oi (eU oj ej I) ei fi:=by
 obtain⟨h1,h2,h3⟩:=tj C2;obtain⟨k1,k2,k3⟩:=Vh xO;refine h.congr hm (Ck h3) (λx hx=>o0 (λhw=>?_)) (λx hx=>o0 (λhw=>?_))
 ·exact k3 x (hwj▸hw) hx
 exact k2 x hx (hwj▸hw)
omit hm
def wP(P:Ba)(T:List (Nat×bV))(N:Nat)(all:List Oper)(m:Nat)(om:Oper)(em:Ef)(fm:fY)(C:St->Prop)(md:Region.Mode)(ft:List fY)(ca:St)(last:Nat):Nat->Array Bool->St->Prop
 |0,_,_=>False
 |Ma+1,listed,I=>
  Region.ready md all.toArray listed≠[]/\
  ∀i∈Region.ready md all.toArray listed,(i=last/\Region.ready md all.toArray (listed.setIfInBounds i true)=[]/\listed.getD m true=true/\FP ca I)\/
   (i≠last/\∃o e f,all[i]? =some o/\ft[i]? =some f/\KH P T N all m om em fm C i o I e f/\wP P T N all m om em fm C md ft ca last Ma (listed.setIfInBounds i true) (eU o e I))
include hm
def wP.eqv{ca:St}{last:Nat}:∀(Ma:Nat) {listed:Array Bool} {I I':St},FP I I'->wP P T N all m om em fm C md ft ca last Ma listed I->wP P T N all m om em fm C md ft ca last Ma listed I'
 |0,_,_,_,_,h=>h
 |Ma+1,_,_,_,k,h=>⟨h.1,λi hi=>by
  rcases h.2 i hi with⟨h1,h2,h3,h4⟩|⟨h0,o,e,f,h1,h2,h3,h4⟩
  ·exact .inl ⟨h1,h2,h3,h4.trans k⟩
  exact .inr ⟨h0,o,e,f,h1,h2,h3.eqv hm k,wP.eqv Ma (Co k) h4⟩⟩
def wP.first{ca:St}{last:Nat}{i:Nat}{oi:Oper}{ei:Ef}{fi:fY}(hi:all[i]? =some oi)(hfi:ft[i]? =some fi)(hil:i≠last){d:Nat}(aCN:dep md all.toArray i d last=true):
  ∀(Ma:Nat) (listed:Array Bool) (I:St),
   (∀j oj fj,all[j]? =some oj->ft[j]? =some fj->j≠i->listed.getD j true=false->(∀n,dep md all.toArray i n j=false)->oi.apart all.toArray oj=true/\iP fi fj=true)->sZ md all listed->
   i∈Region.ready md all.toArray listed->KH P T N all m om em fm C i oi I ei fi->
   wP P T N all m om em fm C md ft ca last Ma (listed.setIfInBounds i true) (eU oi ei I)->wP P T N all m om em fm C md ft ca last (Ma+1) listed I:=by
 intro Ma
 induction Ma with
 |zero=>intro listed I _ _ hr hy H;exact H.elim
 |succ Ma ih=>
  intro listed I EV vA hr hy H;refine⟨λh=>Bq,λj hj=>?_⟩;by_cases y7:j=i
  ·exact zdT
  obtain⟨QX,oj',aCI,lC⟩:=ph.1 hj;have ET:all[j]? =some oj':=by simpa using aCI
  have NB:∀n,dep md all.toArray i n j=false:=λn=>NW vA (NL (ph.1 hr).1) n j oj' ET lC
  have tC:j≠last:=λe=>by rw[e]at NB;rw[NB d]at aCN;cases aCN
  rcases H.2 j (Ej hj y7)with⟨h1,_,_⟩|⟨_,oj,ej,fj,TS,hfj,hyj,Hj⟩
  ·exact absurd h1 tC
  obtain rfl:oj=oj':=sc (TS.symm.trans ET);obtain⟨C2,xO⟩:=EV j oj fj TS hfj y7 QX NB;have aB8:KH P T N all m om em fm C j oj I ej fj:=KH.past hm (hy.wr hm) C2 xO hyj;have aB9:KH P T N all m om em fm C i oi (eU oj ej I) ei fi:=KH.over hm (hyj.wr hm) C2 xO hy;have HY:∀k ok fk,all[k]? =some ok->ft[k]? =some fk->k≠i->(listed.setIfInBounds j true).getD k true=false->
    (∀n,dep md all.toArray i n k=false)->oi.apart all.toArray ok=true/\iP fi fk=true:=λk ok fk hk oL ON V9 YN=>by
   refine EV k ok fk hk oL ON ?_ YN
   by_cases SL:j=k
   ·subst SL;exact QX
   ·exact yv
  refine .inr ⟨tC,oj,ej,fj,TS,hfj,aB8,ih (listed.setIfInBounds j true) (eU oj ej I) HY (vA.set TS lC) (Ej hr (Ne.symm y7)) aB9 ?_⟩;rw[Pv _ _ y7];refine wP.eqv hm Ma ?_ Hj;obtain⟨h1,h2,h3⟩:=tj C2;obtain⟨k1,k2,k3⟩:=Vh xO;exact(Hr (λd hd=>h2 d hd) (λx hx=>by rw[hy.wr hm]at hx;rw[hyj.wr hm];exact k2 x hx)).symm
omit hm
def U5(P:Ba)(T:List (Nat×bV))(N:Nat)(all:List Oper)(m:Nat)(om:Oper)(em:Ef)(fm:fY)(C:St->Prop):Nat->List Oper->St->List Ef->List fY->Prop
 |_,[],_,[],[]=>True
 |k,o::l,I,e::es,f::Y=>KH P T N all m om em fm C k o I e f/\U5 P T N all m om em fm C (k+1) l (eU o e I) es Y
 |_,_,_,_,_=>False
def cn(md:Region.Mode)(ops:Array Oper)(ft:List fY)(last m:Nat):Nat->Nat->Array Bool->Bool
 |0,_,listed=>(match Region.ready md ops listed with|[i]=>Nat.beq i last|_=>false)&&(Region.ready md ops (listed.setIfInBounds last true)).isEmpty&&listed.getD m true
 |Ma+1,k,listed=>(Region.ready md ops listed).contains k&&B3 md ops ft listed k&&(!Nat.beq k last&&dep md ops k 8 last)&&cn md ops ft last m Ma (k+1) (listed.setIfInBounds k true)
include hm
def gx{last:Nat}:∀(l:List Oper) (k:Nat) (listed:Array Bool) (I:St) (es:List Ef) (Y:List fY),(∀j o,l[j]? =some o->all[k+j]? =some o)->(∀j,Y[j]? =ft[k+j]?)->
  sZ md all listed->cn md all.toArray ft last m l.length k listed=true->U5 P T N all m om em fm C k l I es Y->wP P T N all m om em fm C md ft (rD l I es) last (l.length+1) listed I
 |[],_,listed,_,[],[],_,_,_,hB,_=>by
  simp only[xe,cn,Bool.and_eq_true]at hB;obtain⟨⟨h1,h2⟩,h3⟩:=hB
  cases hr:Region.ready md all.toArray listed with
  |nil=>rw[hr]at h1;cases h1
  |cons i t=>
   rw[hr]at h1
   cases t with
   |cons _ _=>cases h1
   |nil=>
    have hi:=Mb h1;subst hi;show wP P T N all m om em fm C md ft _ i 1 listed _;refine⟨by rw[hr];simp,λj hj=>?_⟩;rw[hr]at hj;obtain rfl:j=i:=by simpa using hj
    exact .inl ⟨rfl,by simpa using h2,h3,Ho _⟩
 |o::l,k,listed,I,e::es,f::Y,hl,hf,vA,hB,⟨h1,h2⟩=>by
  have h0:all[k]? =some o:=hl 0 o rfl;have SO:ft[k]? =some f:=by simpa using(hf 0).symm
  simp only[Rb,cn,Bool.and_eq_true,Qh]at hB;obtain⟨⟨⟨hr,hfr⟩,fJ,hdp⟩,hB'⟩:=hB;have C1:k∈Region.ready md all.toArray listed:=by simpa using hr
  have ND:k≠last:=λe=>by subst e;simp at fJ
  have lC:∀e∈o.after,Region.binds md e=true->listed.getD e.on false=true:=jx
  exact wP.first hm h0 SO ND hdp (l.length+1) listed I (io h0 SO hfr) vA C1 h1
   (gx l (k+1) _ _ es Y (λj o' h=>by have:=hl (j+1) o' h;simpa[De,Wi 1 j]using this) (λj=>by have:=hf (j+1);simpa[De,Wi 1 j]using this) (vA.set h0 lC) hB' h2)
 |[],_,_,_,_::_,_,_,_,_,_,h=>by cases ‹List fY› <;> exact h.elim
 |[],_,_,_,[],_::_,_,_,_,_,h=>h.elim
 |_::_,_,_,_,[],_,_,_,_,_,h=>h.elim
 |_::_,_,_,_,_::_,[],_,_,_,_,h=>h.elim
end
section
variable{P:Ba}{T:List (Nat×bV)}{N:Nat}{all:List Oper}{md:Region.Mode}{ft:List fY}
variable{m:Nat}{om:Oper}{em:Ef}{fm:fY}{C:St->Prop}{R:Cx}{H0 H1:Hid}
def LI:∀{l k:aP} {x:Nat} {y:Da jK},aH (l++k) x=some y->(∃p∈l,p.2=y)\/aH k x=some y
 |[],_,_,_,h=>.inr h
 |(a,b)::r,k,x,y,h=>by
  rw[We,aL]at h;by_cases hx:a=x
  ·rw[La hx]at h;exact .inl ⟨(a,b),Zd ..,sc h⟩
  rw[Ka hx]at h;rcases LI h with⟨p,hp,e⟩|h
  ·exact .inl ⟨p,oc _ hp,e⟩
  exact .inr h
def KV(I:St):Prop:=∀x b,aH I.box x=some (some b)->b.real=true
def KV.app{o:Oper}{e:Ef}{I:St}(h:KV I)(he:VM e):KV (eU o e I):=by
 intro x b hb;have Z7:aH (e.2++I.box) x=some (some b):=by
  have:(eU o e I).box=e.2++I.box:=by unfold eU;simp only[F4]
  rw[this]at hb;exact hb
 rcases LI Z7 with⟨p,hp,e1⟩|h1
 ·exact he p hp b e1
 exact h x b h1
def EY{x:Nat}{y:Da jK}:∀{l:aP},aH l x=some y->x∈l.map (·.1)
 |[],h=>by cases h
 |(k,v)::r,h=>by
  rw[aL]at h;by_cases hk:k=x
  ·subst hk;simp
  rw[Ka hk]at h;simp only[Le,wb];exact .inr (EY h)
def wP.sound(hm:Mid all om em fm C)(hT:cD P T)(J:R.ref=[]){last:Nat}{ol:Oper}(HW:all[last]? =some ol)(hg:ol.guard=none)(hgm:om.guard=none)
  (aCC:∀I,C I->n9 P R N om I H0 λs H'=>s=eU om em I/\H'=H1)
  {ca:St} {K:St->Hid->Prop} (qP:n9 P R N ol ca H1 K) {M0:Mem} {w0:Aa} {Q:Exit->Act->Aa->Prop} (hQ:∀a' w',yB R N M0 w0 K a' w'->Q .normal a' w'):
  ∀(Ma:Nat) {listed:Array Bool} {I:St} {M:Mem} {V:Nm} {a:Act} {w:Aa},
   wP P T N all m om em fm C md ft ca last Ma listed I->Inv R N M V I a w->mH R M V I w (bif listed.getD m true then H1 else H0)->KV I->Grow R.B M0 M->cE R w0 w->
   wpAnyIn (FW R.rd) 0 P md all.toArray Q Ma listed a w:=by
 intro Ma
 induction Ma with
 |zero=>intro listed I M V a w h;exact h.elim
 |succ Ma ih=>
  intro listed I M V a w h i hi kJ g0 k0;refine⟨λh0=>absurd h0 h.1,λk hk=>?_⟩;rcases h.2 k hk with⟨ND,hr,hlm,heq⟩|⟨ND,o,e,f,ho,hf,gF,LD⟩
  ·subst ND;have sO:all.toArray[k]? =some ol:=by simpa using HW
   unfold wpOpIn;rw[sO];simp only;rw[La tn];rw[hlm]at hi;have bC:mH R M V I w H1:=hi;have hi2:mH R M V ca w H1:=⟨bC.holds,bC.low,bC.apart,λx bc b c e1=>bC.names x bc b c (by rw[<-e1];exact heq.box x)⟩;exact MQ qP.1 (Hf (λa' w' hp=>wpAny_done Ma hr (hQ a' w' (hp.trans g0 k0))) (qP.2 M V a w (i.eqv heq.symm) hi2 Q))
  have sO:all.toArray[k]? =some o:=by simpa using ho
  have V9:=(ph.1 hk).1;rcases gF with⟨hkm,gF,WB⟩|⟨hkm,rfl,rfl,rfl,hc⟩
  ·have aPI:(listed.setIfInBounds k true).getD m true=listed.getD m true:=Sl true hkm;let ks:List Nat:=(I.box.map (·.1)).filter λx=>match aH I.box x with|some (some _)=>true|_=>false
   have l7:∀x,x∈ks->∃bc,aH I.box x=some (some bc):=by
    intro x hx;have h2:=(rf.1 hx).2
    cases hb:aH I.box x with
    |none=>rw[hb]at h2;cases h2
    |some y=>cases y with
     |none=>rw[hb]at h2;cases h2
     |some bc=>exact⟨bc,rfl⟩
   have lC:∀x bc,aH I.box x=some (some bc)->x∈ks:=λx bc hx=>rf.2 ⟨EY hx,by rw[hx]⟩
   have fJ:∀x,x∈ks->∃p,V x=some p:=λx hx=>by obtain⟨bc,h1⟩:=l7 x hx;obtain⟨b,c,e⟩:=(i.box x bc h1).Qj (kJ x bc h1);exact⟨_,e⟩
   have hrf:∀x,x∈R.ref->x∈ks:=λx hx=>by rw[J]at hx;cases hx
   have ii:=i.Mk (rd:=R.rd) l7 lC fJ i.defers;have jO:=Zl (R:=Jf w ks V R.rd R.df) (Q:=Q) hT (λf hf=>by cases hf) (gF.pt (λe'=>e'=e) rfl) ii;have next:∀a' w',CT (Jf w ks V R.rd R.df) N M w o I (λe'=>e'=e) a' w'->wpAnyIn (FW R.rd) 0 P md all.toArray Q Ma (listed.setIfInBounds k true) a' w':=by rintro a' w' ⟨e',M',V',rfl,i',g,kp⟩;refine ih LD (ck i l7 hrf i' (Gg i l7 kp) i'.defers i'.tmps i'.env) ?_ (kJ.app WB) (g0.trans (Fk i g)) (k0.trans (Gg i l7 kp));rw[aPI];exact hi.after l7 i' g kp
   exact vq
  subst hkm;have hl0:listed.getD k true=false:=V9;rw[hl0]at hi;have bC:mH R M V I w H0:=hi;have fZ:k<listed.size:=by
   by_cases mL:k<listed.size
   ·exact mL
   simp[mL]at hl0
  have hl1:(listed.setIfInBounds k true).getD k true=true:=by simp[fZ]
  unfold wpOpIn;rw[sO];simp only;rw[La (by simp[Region.wanted,hgm])];have hs:=aCC I hc;refine MQ hs.1 (Hf ?_ (hs.2 M V a w i bC Q));rintro a' w' ⟨I',M',V',H',⟨rfl,rfl⟩,i',hh,g,kp⟩;refine ih LD i' ?_ (kJ.app hm.real) (g0.trans g) (k0.trans kp);rw[hl1];exact hh
def PH(e:Ef):Bool:=e.2.all λp=>match p.2 with|some b=>b.real|none=>true
def Ur{e:Ef}(h:PH e=true):VM e:=by intro p hp b hb;unfold PH at h;rw[Hd]at h;have:=h p hp;rw[hb]at this;exact this
def runM(P:Ba)(T:List (Nat×bV))(N:Nat)(all:List Oper)(m:Nat)(om:Oper)(em:Ef)(fm:fY)(C:St->Prop):Nat->List Oper->St->List fY->(St->List fY->Prop)->Prop
 |_,[],I,Y,K=>K I Y.reverse
 |k,o::rest,I,Y,K=>match Nat.beq k m with
  |true=>o=om/\C I/\runM P T N all m om em fm C (k+1) rest (eU o em I) (fm::Y) K
  |false=>a6 P T N [] all o I λe=>PH e=true/\runM P T N all m om em fm C (k+1) rest (eU o e I) (NN I o e::Y) K
def runM.chain:∀{l:List Oper} {k:Nat} {I:St} {Y:List fY} {K:St->List fY->Prop},runM P T N all m om em fm C k l I Y K->∃es gs,U5 P T N all m om em fm C k l I es gs/\es.length=l.length/\K (rD l I es) (Y.reverse++gs)
 |[],k,I,Y,K,h=>⟨[],[],trivial,rfl,by have h':K I Y.reverse:=h;simpa[rD]using h'⟩
 |o::rest,k,I,Y,K,h=>by
  unfold runM at h
  cases hb:Nat.beq k m with
  |true=>rw[hb]at h;obtain⟨ho,hc,h⟩:=h;obtain⟨es,gs,hch,hl,hK⟩:=runM.chain h;refine⟨em::es,fm::gs,⟨.inr ⟨Mb hb,ho,rfl,rfl,hc⟩,hch⟩,by simp[hl],?_⟩;simpa[rD]using hK
  |false=>rw[hb]at h;obtain⟨e,⟨WB,hk⟩,hp⟩:=a6.pt h;obtain⟨es,gs,hch,hl,hK⟩:=runM.chain hk;refine⟨e::es,NN I o e::gs,⟨.inl ⟨λhkm=>(by subst hkm;rw[Ar]at hb;cases hb),⟨hp,rfl,rfl⟩,Ur WB⟩,hch⟩,by simp[hl],?_⟩;simpa[rD]using hK
def Sr:=@runM.chain
def Po{K:Exit->St->Hid->Prop}{id:Nat}{ops:Array Oper}{I:St}(hm:Mid ops.toList om em fm C)(hT:cD P T)(J:R.ref=[])(hmx:P.follows .mixedOrders=true)(kJ:KV I)(last:Nat){ol:Oper}
  (HW:ops.toList[last]? =some ol) (mL:Nat.beq ops.toList.length (last+1)=true) (hml:m<last) (hg:ol.guard=none) (hgm:om.guard=none)
  (aCC:∀I,C I->n9 P R N om I H0 λs H'=>s=eU om em I/\H'=H1)
  (h:runM P T N ops.toList m om em fm C 0 (ops.toList.take last) I [] λI' Y=>cn .any ops.toList.toArray Y last m (ops.toList.take last).length 0 (Array.replicate ops.toList.length false)=true/\n9 P R N ol I' H1 (K .normal)):
  bS P R N (.region id ops true) I H0 K:=by
 obtain⟨es,gs,hc,_,hl,hK⟩:=Sr h
 intro M V a w i hi
 apply yw hmx
 have T5:=gx (md:=.any) (ft:=gs) hm (ops.toList.take last) 0 (Array.replicate ops.toList.length false) I es gs (λj o h=>by rw[Ec];exact(Ue.1 h).elim λh1 h2=>by rw[By]at h2;rw[pf]at h1;rw[List.getElem?_eq_getElem O];exact Na some h2) sM (λm om _ h=>by simp[Qv]at h;split at h <;> simp_all) hl hc
 have OO:Inv R N M V I a {w with drawn:=w.drawn+1}:=
  ⟨i.defers,i.tmps,⟨i.heap.le,i.heap.tab⟩,i.env,i.mem,i.keys,i.box,i.inj,i.apart,i.low,i.ref⟩
 have hh1:mH R M V I {w with drawn:=w.drawn+1} H0:=⟨H0.loc M M w _ hi.holds (Xe M) λ_ _=>rfl,hi.low,hi.apart,hi.names⟩
 have kd:cE R w {w with drawn:=w.drawn+1}:=⟨rfl,rfl,rfl,mb _,λ_ _ _=>rfl,oO⟩
 have hlen:ops.toList.length=last+1:=Mb mL
 have hm0:(Array.replicate ops.toList.length false).getD m true=false:=by have:m<ops.toList.length:=O;simp only[Array.getD,Array.size_replicate,this,Er];simp
 have:=wP.sound (R:=R) (Q:=λe a' w'=>yB R N M w (K e) a' w') (M0:=M) (w0:={w with drawn:=w.drawn+1}) hm hT J HW hg hgm aCC hK
  (λa2 w2 hp=>hp.trans (fb _ _) kd) _ T5 OO (by rw[hm0];exact hh1) kJ (fb _ _) (lc _ _)
 have aL6:(ops.toList.take last).length+1=ops.toList.length:=by rw[pf];omega
 rw[aL6]at this
 simpa using this
end
end Go.Ax
namespace Go.Pj.Rm
open Go Go.Pj Go.Ax Go.Ch Go.Proofs Go.Proofs.Tryz
abbrev gL:=bJ×List Room×Nat
structure wA(r:mX)(ts:List Room):Prop where
 lo:r.lo=0
 n:r.n=ts.length
 f:∀i j,i<ts.length->j<14->aK (r.f i j) (j9 ts i j)
structure Fh(q:bO)(e:gL):Prop where
 key:q.key=bs e.1
 born:q.born=e.2.2
 ne:e.2.1≠[]
 row:∃r,q.row=some r/\wA r e.2.1
def eH:List bO->List gL->Prop
 |[],[]=>True
 |q::r,e::s=>Fh q e/\eH r s
 |_,_=>False
def eH.append:∀{l m:List bO} {E F:List gL},eH l E->eH m F->eH (l++m) (E++F)
 |[],_,[],_,_,h=>h
 |_::_,_,_::_,_,h,k=>⟨h.1,eH.append h.2 k⟩
 |[],_,_::_,_,h,_=>h.elim
 |_::_,_,[],_,h,_=>h.elim
def Ls:=@eH.append
def eH.modify:∀{l:List bO} {E:List gL} {i:Nat} {g:bO->bO} {g':gL->gL},eH l E->(∀q e,l[i]? =some q->E[i]? =some e->Fh q e->Fh (g q) (g' e))->eH (l.modify i g) (E.modify i g')
 |[],[],_,_,_,_,_=>by simp[eH]
 |q::r,e::s,0,g,g',h,k=>by exact dt
 |q::r,e::s,i+1,g,g',h,k=>by exact zaX
 |[],_::_,_,_,_,h,_=>h.elim
 |_::_,[],_,_,_,h,_=>h.elim
def fE:List gL->bJ->Nat->Da (Nat×gL)
 |[],_,_=>none
 |e::r,k,i=>bif k==e.1 then some (i,e)else fE r k (i+1)
def tV:∀{l:List bO} {E:List gL} {k:bJ} {i:Nat},eH l E->fE E k i=none->dD l (bs k) i=none
 |[],[],_,_,_,_=>rfl
 |q::r,e::s,k,i,h,hf=>by exact zbb
 |[],_::_,_,_,h,_=>h.elim
 |_::_,[],_,_,h,_=>h.elim
def p8:∀{l:List bO} {E:List gL} {k:bJ} {i:Nat} {p:Nat×gL},eH l E->fE E k i=some p->∃q,dD l (bs k) i=some (p.1,q)/\Fh q p.2
 |[],[],_,_,_,_,hf=>by cases hf
 |q::r,e::s,k,i,p,h,hf=>by exact xm
 |[],_::_,_,_,_,h,_=>h.elim
 |_::_,[],_,_,_,h,_=>h.elim
def xU:∀{E:List gL} {k:bJ} {i:Nat} {p:Nat×gL},fE E k i=some p->i<=p.1/\E[p.1-i]? =some p.2/\p.2.1=k
 |[],_,_,_,h=>by cases h
 |e::r,k,i,p,h=>by exact qq
def o6(E:List gL)(k:bJ)(t:Room):List gL:=match fE E k 0 with
 |some (i,_)=>E.modify i λe=>(e.1,e.2.1++ [t],e.2.2)
 |none=>E++ [(k,[t],E.length)]
def yF{h:HM}{E:List gL}{k:bJ}{j:Nat}{q:bO}{v:wa}{r:mX}{ts:List Room}(ha:eH h.l E)(hf:dD h.l (bs k) 0=some (j,q))(hr:wA r ts)(fJ:ts≠[]):
  eH (eR {h with l:=cW h.l j} (bs k) v (some r)).l (E.modify j λe=>(e.1,ts,e.2.2))/\(eR {h with l:=cW h.l j} (bs k) v (some r)).bm=h.bm/\(eR {h with l:=cW h.l j} (bs k) v (some r)).clock=h.clock/\(eR {h with l:=cW h.l j} (bs k) v (some r)).it=h.it:=by
 have h1:=Go.Pj.tU h.l (bs k) j 0
 rw[hf]at h1
 unfold eR
 simp only
 cases hq:dD (cW h.l j) (bs k) 0 with
 |none=>rw[hq]at h1;cases h1
 |some p=>exact jq
def MA{h:HM}{E:List gL}{k:bJ}{v:wa}{r:mX}{ts:List Room}(ha:eH h.l E)(hc:h.clock=E.length)(hf:dD h.l (bs k) 0=none)(hr:wA r ts)(fJ:ts≠[]):
  eH (eR h (bs k) v (some r)).l (E++ [(k,ts,E.length)])/\(eR h (bs k) v (some r)).bm=h.bm/\(eR h (bs k) v (some r)).clock=E.length+1/\(eR h (bs k) v (some r)).it=h.it:=by
 unfold eR
 rw[hf]
 refine⟨?_,rfl,by simp only;omega,rfl⟩
 refine ha.append ⟨⟨rfl,by simp only;exact hc,fJ,r,rfl,hr⟩,oO⟩
end Go.Pj.Rm
--K54
namespace Go.Ax
def n9.dead{P:Ba}{R:Cx}{N:Nat}{o:Oper}{I:St}{H H1:Hid}{s:St}(b:Nat)(h:n9 P R N o I H λs' H'=>s'=s/\H'=H1):n9 P R N o I H λs' H'=>s'=⟨s.env,(b,none)::s.box⟩/\H'=H1:=by
 refine⟨h.1,λM V a w i hi Q=>Hf ?_ (h.2 M V a w i hi Q)⟩;rintro a' w' ⟨I',M',V',H',⟨rfl,rfl⟩,i',bC,g,kp⟩;refine⟨_,M',V',H',⟨rfl,rfl⟩,i'.dead b,⟨bC.holds,bC.low,bC.apart,λx bc bb c e1 e2=>?_⟩,g,kp⟩;have e1:aH ((b,none)::I'.box) x=some (some bc):=e1;rw[aL]at e1;by_cases hx:b=x
 ·rw[La hx]at e1;cases e1
 rw[Ka hx]at e1;exact bC.names x bc bb c e1 e2
end Go.Ax
namespace Go.Pj.Rm
open Go Go.Pj Go.Ax Go.Ch Go.Proofs Go.Proofs.Tryz
def kS(f:Fact):bJ:=f.aN.data.toList
def KM(m:Int)(E:List gL)(f:Fact):List gL:=bif f.month==m then o6 E (kS f) (f,f.aT)else E
def kU(L:List Fact)(m:Int)(i:Nat):List gL:=(L.take i).foldl (KM m) []
def DW{L:List Fact}{m:Int}{i:Nat}(h:i<L.length):kU L m (i+1)=KM m (kU L m i) (L.getD i default):=by unfold kU;exact uy
def AO{E:List gL}{k:bJ}{t:Room}{m:Nat}(h:∀e∈E,e.2.1.length<=m):∀e∈o6 E k t,e.2.1.length<=m+1:=uo
def qX{L:List Fact}{m:Int}:∀{i:Nat} {e:gL},e∈kU L m i->e.2.1.length<=i
 |0,e,he=>by simp[kU]at he
 |i+1,e,he=>by
  by_cases h:i<L.length
  ·rw[DW h]at he;unfold KM at he
   cases hw:((L.getD i default).month==m)with
   |false=>rw[hw]at he;have:=qX (i:=i) he;omega
   |true=>rw[hw]at he;exact AO (λe he=>qX (i:=i) he) e he
  have e1:kU L m (i+1)=kU L m i:=by unfold kU;rw[Hn O,Hn O]
  rw[e1]at he;have:=qX (i:=i) he;omega
def VJ(f:Fact):∀c,c<14->aK (S1 14 [.d (dI f.kind),.d (dI f.seq),.d (dI f.a8),.d (dI f.month),.d (dI f.number),.d (dI f.aT),.d (dI f.over),.d (dI f.Jb),.d (dI f.target),.d (dS f.aN),.d (dS f.dN),.d (dS f.eS),.d (b5 f.levels),.d (dI f.aT)] 0 c) (Kv (f,f.aT) c)
 |0,_|1,_|2,_|3,_|4,_|5,_|6,_|7,_|8,_|9,_|10,_|11,_|12,_|13,_=>Ja _
abbrev P1:Oper:={dst:=some 33,op:=Op.lookup 122 (Operand.tmp 30) (Operand.tmp 32) false,type:=135,pos:= "settle.go:174",after:= #[{on:=3,ground:=Ground.data},{on:=5,ground:=Ground.data}],guard:=none}
def J1(L:List Fact)(m:Int)(s:Nat×HM):Prop:=s.1<=L.length/\eH s.2.l (kU L m s.1)/\s.2.clock=(kU L m s.1).length/\s.2.it=none
def rmK(L:List Fact)(m:Int)(x:DV)(H:Hid):Prop:=∃h:HM,x=.val (.map (some h.bm))/\H=hid 180 14 h/\eH h.l (kU L m L.length)/\h.clock=(kU L m L.length).length/\h.it=none
def aKV(p:Proj)(Y:List Fact)(m:Int)(hp:p.fits)(hv:PV p)(hl:Y.length<=200)(hn:ZR Y m):
  Rt prog 36 [SR p Y,vI m] (rmK (iM p (j8 Y m) (j8 Y m).length).1 m):=by
 have hH:=aI8 p Y m hp hv hl hn
 have hLl:(iM p (j8 Y m) (j8 Y m).length).1.length<=200:=by exact Xb (BY p _ _) zc5
 generalize (iM p (j8 Y m) (j8 Y m).length).1=L at hH hLl
 refine N9 func36 rfl rfl call36 aJ rfl rfl (λR J=>?_)
 refine sA J [] λ_ h'=>?_
 refine pb (Sc (Rc rfl (n9.mk (e:=180) (s:=14) rfl rfl dC λbm=>Kb (rc:=[]) aJ 1 J [2] rfl rfl (mc ?_))))
 refine sA J [2] λ_ h'=>?_
 apply aB hH
 refine Pb (I':=⟨[(1,vI m),(5,dQ bm),(6,cJ L)],[]⟩) (Za (ab [] lb rfl trivial Fa)) ?_
 refine pb (sA J [] λ_ h'=>?_)
 apply od
 refine Hg (S:=Nat×HM) (λs=>⟨[(1,vI m),(5,dQ s.2.bm),(17,cJ L),(18,vI L.length),(19,vI s.1)],[]⟩) (λs=>hid 180 14 s.2) (J1 L m) (λs=>L.length-s.1) (0,⟨bm,[],0,none⟩) ⟨Nat.zero_le _,trivial,rfl,rfl⟩ ?_ ?_
 ·exact Za (ab [] lb rfl trivial Fa)
 ·rintro⟨i,h⟩ ⟨hi,ha,jL,hit⟩;have hi:i<=L.length:=hi;have ha:eH h.l (kU L m i):=ha;have jL:h.clock=(kU L m i).length:=jL;have hit:h.it=none:=hit;refine sA J [] λ_ h'=>pb (Nc ?_)
  refine aI (λg=>gd ?_) (λg=>Oe ?_)
  ·have g:(i:Int)<L.length:=bG g;have bC:i<L.length:=O;have hE:=DW (m:=m) bC;have ew:aW ((i:Int)+1)=((i+1:Nat):Int):=aG O O;generalize hF:L.getD i default=f at hE;refine pb (od ?_);refine sA J [] λ_ h'=>oi Ha ?_
   refine Pb (I':=⟨[(1,vI m),(5,dQ h.bm),(9,.s (.ptr 9 0)),(17,cJ L),(18,vI L.length),(19,vI i)],[(9,some (.cells (xT f)))]⟩) (Za (ab [] lb rfl ⟨⟨rfl,cc (by rw[<-hF];rfl)⟩,oO⟩ Fa)) ?_;refine sA J [9] λ_ h'=>Nc (aI (λg2=>?_) (λg2=>gd ?_))
   ·have g2:(f.month==m)=true:=g2;have T6:kU L m (i+1)=o6 (kU L m i) (kS f) (f,f.aT):=by rw[hE];unfold KM;rw[g2];rfl
    have HV:bs (kS f)=f.aN:=rfl;have aCE:KV ⟨[(1,vI m),(5,dQ h.bm),(9,.s (.ptr 9 0)),(17,cJ L),(18,vI L.length),(19,vI i)],[(9,some (.cells (xT f)))]⟩:=by
     intro x b hb;have hb:aH [(9,some (jK.cells (xT f)))] x=some (some b):=hb;rw[aL]at hb;by_cases hx:9=x
     ·rw[La hx]at hb
      cases hb;rfl
     rw[Ka hx]at hb;cases hb
    refine Pb (I':=⟨[(1,vI m),(5,dQ h.bm),(9,.s (.ptr 9 0)),(17,cJ L),(18,vI L.length),(19,vI i)],[(9,some (.cells (xT f)))]⟩) (Za (ab [] lb rfl Fa Fa)) ?_
    cases uZ:fE (kU L m i) (kS f) 0 with
    |none=>
     have uY:=tV ha uZ;refine Po (m:=6) (om:=P1) (em:=(some (.s (.d eO)),[(33,none)])) (fm:=([],[33])) (C:=λI=>fL I.env 30=dQ h.bm/\fL I.env 32=.s (.d (.val (.string (bs (kS f)))))/\aH I.box 33=none) (H1:=hid 180 14 h) ⟨rfl,(λp hp b hb=>(by obtain rfl:=Ib.1 hp;cases hb)),(λI I' hc ht hw=>⟨(ht 30 dC).trans hc.1,(ht 32 dC).trans hc.2.1,(hw 33 dC).trans hc.2.2⟩)⟩ aJ J mix aCE 13 rfl rfl dC rfl rfl (λI hc=>?_) ?_
     ·have hlk:=Vl (P:=prog) (R:=R) (N:=f36.ntmps) (e:=180) (s:=14) (d:=33) (t:=122) (kt:=9) (et:=135) (h:=h) (I:=I) (K:=λs H'=>s=⟨(33,.s (.d eO))::I.env,I.box⟩/\H'=hid 180 14 h) (o:=P1) (x:=.tmp 30) (y:=.tmp 32) (k:=bs (kS f)) rfl rfl dC hc.2.2 hc.1 hc.2.1 underlying122 underlying9 zeroValue135 (by rw[uY];exact⟨rfl,rfl⟩);exact hlk.dead 33
     refine And.intro rfl (And.intro rfl ?_);refine And.intro rfl (And.intro rfl ?_);refine And.intro rfl (And.intro rfl ?_);refine⟨rfl,⟨rfl,rfl,rfl⟩,?_⟩;refine And.intro rfl (And.intro rfl ?_);refine And.intro rfl (And.intro rfl ?_);refine And.intro rfl (ob dC ?_);refine ob dC (And.intro rfl ?_);refine aD (Xh (b:=39) (k:=bs (kS f)) (n:=1) (n':=1) (lo:=0) J rfl rfl rfl rfl (.inl ⟨rfl,rfl,rfl⟩) rfl dC underlying122 underlying9 (λ_=>hit) (λg cap v=>?_));generalize pD:(⟨g,0+1,cap,0,_⟩:mX)=row;have pE:wA row [(f,f.aT)]:=by
      subst pD;refine⟨rfl,rfl,λa c ha hc=>?_⟩;obtain rfl:a=0:=by have:a<1:=ha;omega
      exact VJ f c hc
     obtain⟨s1,s2,s3,s4⟩:=MA (v:=v) ha jL uY pE sM;have H3:o6 (kU L m i) (kS f) (f,f.aT)=kU L m i++ [(kS f,[(f,f.aT)],(kU L m i).length)]:=by unfold o6;rw[uZ]
     refine Pb (I':=⟨[(1,vI m),(5,dQ h.bm),(17,cJ L),(18,vI L.length),(19,vI i)],[]⟩) (Za (ab [] lb rfl trivial Fa)) (eA J [] λ_ h'=>?_);refine⟨(i+1,eR h (bs (kS f)) v (some row)),⟨by show i+1<=L.length;omega,by rw[T6,H3];exact s1,by rw[T6,H3,ed];exact s3,s4.trans hit⟩,by show L.length-(i+1)<L.length-i;omega,?_⟩;exact Za (ab [] lb rfl trivial ⟨Z,⟨rfl,Wb (by show dQ h.bm=dQ (eR h (bs (kS f)) v (some row)).bm;rw[s2])⟩,Z,Z,⟨rfl,Ra ew⟩,oO⟩)
    |some pr=>
     obtain⟨j,e⟩:=pr;obtain⟨q,uY,hq⟩:=p8 ha uZ;have uY:dD h.l (bs (kS f)) 0=some (j,q):=uY;obtain⟨_,FK,hek⟩:=xU uZ;have FK:(kU L m i)[j]? =some e:=FK;obtain⟨r,YM,pE⟩:=hq.row;have hsm:=qX (L:=L) (m:=m) (i:=i) (Dd FK);obtain⟨g0,n0,aNO,C0,F⟩:=r;obtain rfl:C0=0:=pE.lo;obtain rfl:n0=e.2.1.length:=pE.n;have hFF:∀a c,a<e.2.1.length->c<14->aK (F a c) (j9 e.2.1 a c):=pE.f;refine Po (m:=6) (om:=P1) (em:=(some (.s (.own 33)),[(33,some (.row 180 e.2.1.length 14 F))])) (fm:=([],[33])) (C:=λI=>fL I.env 30=dQ h.bm/\fL I.env 32=.s (.d (.val (.string (bs (kS f)))))/\aH I.box 33=none) (H1:=hid 180 14 {h with l:=cW h.l j}) ⟨rfl,(λp hp b hb=>(by obtain rfl:=Ib.1 hp;cases hb;rfl)),(λI I' hc ht hw=>⟨(ht 30 dC).trans hc.1,(ht 32 dC).trans hc.2.1,(hw 33 dC).trans hc.2.2⟩)⟩ aJ J mix aCE 13 rfl rfl dC rfl rfl (λI hc=>?_) ?_
     ·exact Vl (P:=prog) (R:=R) (N:=f36.ntmps) (e:=180) (s:=14) (d:=33) (t:=122) (kt:=9) (et:=135) (h:=h) (I:=I) (K:=λs H'=>s=eU P1 (some (.s (.own 33)),[(33,some (.row 180 e.2.1.length 14 F))]) I/\H'=hid 180 14 {h with l:=cW h.l j}) (o:=P1) (x:=.tmp 30) (y:=.tmp 32) (k:=bs (kS f)) rfl rfl dC hc.2.2 hc.1 hc.2.1 underlying122 underlying9 zeroValue135 (by
       rw[uY];show match q.row with|some r=>_|none=>_
       rw[YM];exact⟨rfl,rfl⟩)
     refine And.intro rfl (And.intro rfl ?_);refine And.intro rfl (And.intro rfl ?_);refine And.intro rfl (And.intro rfl ?_);refine⟨rfl,⟨rfl,rfl,rfl⟩,?_⟩;refine And.intro rfl (And.intro rfl ?_);refine And.intro rfl (And.intro rfl ?_);refine And.intro rfl (ob (show(e.2.1.length+1)*152<=140737488355328 by omega) ?_);refine ob (nJ λc hc=>by match c,hc with|0,_|1,_|2,_|3,_|4,_|5,_|6,_|7,_|8,_|9,_|10,_|11,_|12,_|13,_=>rfl) (And.intro rfl ?_);refine aD (Xh (b:=39) (k:=bs (kS f)) (n:=e.2.1.length+1) (n':=e.2.1.length+1) (lo:=0) J rfl rfl rfl rfl (.inl ⟨rfl,rfl,rfl⟩) rfl (Nat.succ_pos _) underlying122 underlying9 (λ_=>hit) (λg2 R0 v=>?_));generalize pD:(⟨g2,0+(e.2.1.length+1),R0,0,_⟩:mX)=row;have QS:wA row (e.2.1++ [(f,f.aT)]):=by
      subst pD;refine⟨rfl,sM,λa c hA hc=>?_⟩;by_cases hae:a<e.2.1.length
      ·rw[show j9 (e.2.1++ [(f,f.aT)]) a c=j9 e.2.1 a c by unfold j9;simp only[fc,Jc hae]];exact zcY
      obtain rfl:a=e.2.1.length:=by simp at hA;omega
      rw[show j9 (e.2.1++ [(f,f.aT)]) e.2.1.length c=Kv (f,f.aT) c by unfold j9;simp];show aK (jM e.2.1.length F _ e.2.1.length c) _;rw[WV];exact VJ f c hc
     obtain⟨s1,s2,s3,s4⟩:=yF (v:=v) ha uY QS sM;have H3:o6 (kU L m i) (kS f) (f,f.aT)=(kU L m i).modify j λe'=>(e'.1,e.2.1++ [(f,f.aT)],e'.2.2):=by unfold o6;rw[uZ];show(kU L m i).modify j _=(kU L m i).modify j _;exact zaE
     refine Pb (I':=⟨[(1,vI m),(5,dQ h.bm),(17,cJ L),(18,vI L.length),(19,vI i)],[]⟩) (Za (ab [] lb rfl trivial Fa)) (eA J [] λ_ h'=>?_);refine⟨(i+1,eR {h with l:=cW h.l j} (bs (kS f)) v (some row)),⟨by show i+1<=L.length;omega,by rw[T6,H3];exact s1,by rw[T6,H3,Zq];exact s3.trans jL,s4.trans hit⟩,by show L.length-(i+1)<L.length-i;omega,?_⟩;exact Za (ab [] lb rfl trivial ⟨Z,⟨rfl,Wb (by show dQ h.bm=dQ (eR {h with l:=cW h.l j} (bs (kS f)) v (some row)).bm;rw[s2])⟩,Z,Z,⟨rfl,Ra ew⟩,oO⟩)
   have g2:(f.month==m)=false:=g2;have T6:kU L m (i+1)=kU L m i:=by rw[hE];unfold KM;rw[g2];rfl
   refine eA J [9] λ_ h'=>?_
   refine⟨(i+1,h),⟨by show i+1<=L.length;omega,by rw[T6];exact ha,by rw[T6];exact jL,hit⟩,by show L.length-(i+1)<L.length-i;omega,?_⟩;exact Za (ab [] lb rfl trivial ⟨Z,Z,Z,Z,⟨rfl,Ra ew⟩,oO⟩)
  have g:¬(i:Int)<L.length:=bF g;obtain rfl:i=L.length:=O;exact sA J [] λ_ h'=>Yi ⟨_,rfl,h,rfl,rfl,ha,jL,hit⟩
end Go.Pj.Rm
namespace Go.Pj
open Go Go.Ax Go.Ch Go.Proofs Go.Proofs.Tryz
def WL(pt:Oa)(l:List Room)(n:Nat)(hn:l.length=n)(hn2:n<=1000)(hv:0<=pt.iZ/\pt.iZ<=1000000000000000)
  (hl:∀i,i<n->1<=(l.getD i default).2/\(l.getD i default).2<=1000000000000):
  bW prog 40 [Fl pt,.s (.own 1001)] [(1001,.row 180 n 14 (j9 l))]
   (.t [.s (.d (WR (cH pt 0 l).out)),.s (.j0 1001 14 (cH pt 0 l).lo (n-(cH pt 0 l).lo))]) [(1001,.row 180 n 14 (j9 (cH pt 0 l).cur))]:=by
 generalize aCM:cH pt 0 l=fin
 refine gJ func40 rfl rfl call40 aJ rfl rfl rfl rfl (λR J=>?_)
 refine Tb (Nr (e:=180) (n:=n) (s:=14) (f:=j9 l) 1 1001 rfl rfl) ?_
 apply sX J
 apply sX J
 apply sX J
 refine aD ?_
 apply Sa
 apply Eb
 refine Gb (λx:Nat×DS=>⟨[(1,.s (.j0 1001 14 x.2.lo (n-x.2.lo))),(2,.s (.ptr 2 0)),(6,.s (.mo x.2.out.isEmpty 100)),(7,vI x.2.v),(8,vI x.2.p)],[(1001,some (.row 180 n 14 (j9 x.2.cur))),(2,some (.cells [.d (dI pt.month),.d (dI pt.cell),.d (dS pt.aN),.d (dI pt.iZ),.d (dI pt.gV),.d (dI pt.load),.d (dS pt.dN)])),(100,some (.b8 82 x.2.out.length 7 (eJ x.2.out)))]⟩) (DJ pt n fin) (λx=>x.1) (n-0+1,qE pt 0 l) ⟨by rw[<-aCM];unfold cH;rw[hn],Nat.zero_le _,hn,hv,λ_=>by show n-0<n-0+1;omega,λi _ h=>hl i h,by show 0+(n-0+1)<=_;omega⟩ ?_ ?_
 ·exact za9
 ·exact zev
def F1(pt:Oa)(hv:0<=pt.iZ/\pt.iZ<=1000000000000000):
  aF prog 40 [Fl pt,.s (.d eO)] (.t [.s (.d (WR (cH pt 0 []).out)),.s (.d eO)]):=by
 generalize aCM:cH pt 0 []=fin
 refine eW func40 rfl rfl call40 rfl rfl (λR J=>?_)
 apply sX J
 apply sX J
 apply sX J
 refine aD ?_
 apply Sa
 apply Eb
 refine Gb (λx:Nat×DS=>⟨[(1,.s (.d eO)),(2,.s (.ptr 2 0)),(6,.s (.mo x.2.out.isEmpty 100)),(7,vI x.2.v),(8,vI x.2.p)],[(2,some (.cells [.d (dI pt.month),.d (dI pt.cell),.d (dS pt.aN),.d (dI pt.iZ),.d (dI pt.gV),.d (dI pt.load),.d (dS pt.dN)])),(100,some (.b8 82 x.2.out.length 7 (eJ x.2.out)))]⟩) (λx=>DJ pt 0 fin x/\x.2.cur=[]) (λx=>x.1) (1,qE pt 0 []) ⟨⟨by rw[<-aCM];rfl,Nat.zero_le _,rfl,hv,λ_=>by show 0-0<1;omega,λi _ h=>by omega,by show 0+1<=_;omega⟩,rfl⟩ ?_ ?_
 ·exact Qa J [(100,1000)] rfl ⟨bQ,⟨rfl,rfl⟩,oO⟩ ⟨Z,Z,⟨rfl,fg rfl⟩,Fa⟩
 ·rintro⟨k,s⟩ ⟨hJ,aCO⟩;have T0:=hJ.Hi;have hvb:=hJ.v;simp only at T0 hvb aCO;refine Sa (sX J ?_);refine Cb (aI (λh1=>Qb ?_) (λh1=>Ld ?_))
  ·have h1:s.v>0:=bG h1;obtain⟨k',rfl,hJ2⟩:=hJ.step h1;refine Eb (sX J ?_);refine sX J (Tb (I':=⟨[(1,.s (.d eO)),(2,.s (.ptr 2 0)),(6,.s (.mo s.out.isEmpty 100)),(7,vI s.v),(8,vI s.p),(9,.s (.ptr 9 0))],[(2,some (.cells [.d (dI pt.month),.d (dI pt.cell),.d (dS pt.aN),.d (dI pt.iZ),.d (dI pt.gV),.d (dI pt.load),.d (dS pt.dN)])),(100,some (.b8 82 s.out.length 7 (eJ s.out))),(9,some (.cells [.d (dI pt.month),.d (dI pt.cell),.d (dS pt.aN),.d (dI s.v),.d (dI pt.gV),.d (dI pt.load),.d (dS pt.dN)]))]⟩) (Qa J [] rfl Fa Fa) ?_);have wH:decide (s.lo<s.cur.length)=false:=by rw[aCO];simp
   have YY:xD s=s.v:=by unfold xD;rw[wH];rfl
   have el:I8 pt s=pt.load:=by unfold I8;rw[wH];rfl
   have ep:FG pt s=pt.dN:=by unfold FG;rw[wH];rfl
   have e2:(a6 pt s).cur=[]:=by unfold a6;rw[wH];exact aCO
   refine Uf (I':=⟨[(1,.s (.d eO)),(2,.s (.ptr 2 0)),(6,.s (.mo s.out.isEmpty 100)),(7,vI s.v),(8,vI s.p),(9,.s (.ptr 9 0))],[(2,some (.cells [.d (dI pt.month),.d (dI pt.cell),.d (dS pt.aN),.d (dI pt.iZ),.d (dI pt.gV),.d (dI pt.load),.d (dS pt.dN)])),(100,some (.b8 82 s.out.length 7 (eJ s.out))),(9,some (.cells [.d (dI pt.month),.d (dI pt.cell),.d (dS pt.aN),.d (dI (xD s)),.d (dI pt.gV),.d (dI (I8 pt s)),.d (dS (FG pt s))]))]⟩) ?_ ?_
   ·refine sX J (Cb ?_);refine aI (λh2=>by simp at h2) (λh2=>Qb ?_);exact⟨rfl,Qa J [] rfl ⟨bQ,bQ,⟨rfl,cc (by rw[YY,el,ep];rfl)⟩,oO⟩ Fa⟩
   refine sX J (sX J ?_);refine aD (eX J ?_);apply ob dC;refine ob (by rw[dK];show(s.out.length+1)*72<=_;omega) ?_;refine ob (nJ λc hc=>by match c,hc with|0,_|1,_|2,_|3,_|4,_|5,_|6,_=>rfl) ⟨(k',a6 pt s),⟨hJ2,e2⟩,Kl _,?_⟩;refine Qa J [(100,73)] rfl ⟨bQ,⟨rfl,?_⟩,oO⟩ ⟨Z,Z,⟨rfl,Ye (by rw[lJ];exact cA _ _)⟩,⟨rfl,Ra (L8 pt s).symm⟩,⟨rfl,Ra (L9 pt s).symm⟩,oO⟩;show aY _ (.b8 82 (a6 pt s).out.length 7 (eJ (a6 pt s).out));rw[lJ];refine Nf (el:=Av) (x:=⟨pt.month,pt.cell,pt.aN,xD s,mm false s.p (xD s),I8 pt s,FG pt s⟩) (λc hc=>?_);have hc:c<7:=hc
   match c,hc with|0,_|1,_|2,_|3,_|4,_|5,_|6,_=>rfl
  have h1:¬s.v>0:=bF h1;have hr:=hJ.run;simp only at hr;rw[BD h1]at hr;subst hr;exact eX J (Re ⟨Qe (dK _) λ_ _ _ _=>Ja _,Ja _,oO⟩)
end Go.Pj
namespace Go.Ax
open Go.RowKit
section
variable{P:Ba}{R:Cx}{N:Nat}{I:St}
open Go.ChangeMaps
def oo{e s t kt et:Nat}{x y z:Ca}{k:ta}{o:Oper}{h:HM}{K:St->Hid->Prop}(ho:o.op=.mapUpdate t x y z)(hd:o.dst=none)
  (hx:ev I x=.s (.d (.val (.map (some h.bm))))) (hy:ev I y=.s (.d (.val (.string k)))) (hz:ev I z=.s (.d (.val (.slice none 0 0))))
  (ht:P.underlying t=some (.map kt et)) (hk:P.underlying kt=some .string) (hit:dD h.l k 0=none->h.it=none)
  (hK:K I (hid e s (eR h k (.slice none 0 0) none))):n9 P R N o I (hid e s h) K:=by
 refine⟨λc hc=>Bh,λM V a w i hi Q=>?_⟩
 have ex:a.eval x=.map (some h.bm):=by have:=Yb i x;rw[hx]at this;exact this
 have ey:a.eval y=.string k:=by have:=Yb i y;rw[hy]at this;exact this
 have hv:a.eval z=.slice none 0 0:=by have:=Yb i z;rw[hz]at this;exact this
 have hF:h.F e s M w:=hi.holds
 have hS0:h.S h.bm:=.inl rfl
 have jL:∀b,(Instr.checkKey b 10000 kt (.string k)).run P w=.ok () w:=λb=>jC w hk b k 9999
 have oL:=yH (P:=P) (w:=w) hk k h.l
 obtain⟨h',BW⟩:∃h',eR h k (.slice none 0 0) none=h':=⟨_,rfl⟩
 have FX:h'.bm=h.bm:=by rw[<-BW];unfold eR;split <;> rfl
 have a7:(execOp a.eval o).run P w=.ok .skip (setBlock w h.bm (.map (h'.l.map bO.nK).toArray h'.clock)):=by
  cases hq:dD h.l k 0 with
  |none=>
   rw[hq]at oL;have e1:h'= {h with l:=h.l++ [⟨k,h.clock,.slice none 0 0,none⟩],clock:=h.clock+1}:=by rw[<-BW];unfold eR;rw[hq]
   have e3:(h.l.map bO.nK).toArray.push {key:=.string k,val:=.slice none 0 0,born:=h.clock}=(h'.l.map bO.nK).toArray:=by rw[e1];simp[bO.nK]
   have e4:h'.clock=h.clock+1:=by rw[e1]
   have hm:(Instr.mapUpdate t (.map (some h.bm)) (.string k) (.slice none 0 0)).run P w=.ok () (setBlock w h.bm (.map (h'.l.map bO.nK).toArray h'.clock)):=zbE
   exact lq
  |some p=>
   obtain⟨j,q⟩:=p;rw[hq]at oL;obtain⟨_,BX,tR⟩:=vD hq;simp only[ak]at BX;have tR:q.key=k:=tR;have e1:h'= {h with l:=h.l.modify j λx=>{x with val:=.slice none 0 0,row:=none}}:=by rw[<-BW];unfold eR;rw[hq]
   have e3:=G8 (.slice none 0 0) none BX tR;have e4:h'.clock=h.clock:=by rw[e1]
   have HU:(Instr.keyThatStays (.string k) (.string k)).run P w=.ok (.string k) w:=by simp[Instr.keyThatStays,Instr.sameBits]
   have hm:(Instr.mapUpdate t (.map (some h.bm)) (.string k) (.slice none 0 0)).run P w=.ok () (setBlock w h.bm (.map (h'.l.map bO.nK).toArray h'.clock)):=by
    have e5:h'.l.map bO.nK=(h.l.map bO.nK).modify j (λe=>{e with key:=.string k,val:=.slice none 0 0}):=by rw[e1];exact e3.symm
    exact jw
   exact lq
 unfold Oper.wp
 rw[a7,yj,hd]
 have SI:=gC w h.bm (.map (h'.l.map bO.nK).toArray h'.clock)
 have sO:∀k',k'≠h.bm->(setBlock w h.bm (.map (h'.l.map bO.nK).toArray h'.clock)).heap[k']? =w.heap[k']? :=λk' y5=>fD _ _ _ y5
 have hat:=iS (ob':=.map (h'.l.map bO.nK).toArray h'.clock) hF.map
 generalize hw:setBlock w h.bm (.map (h'.l.map bO.nK).toArray h'.clock)=w' at*
 have i1:=i.A1 hi hS0 SI sO
 have kp:=nk hi hS0 SI sO mi mi mi Mt
 refine⟨_,M,V,_,BW▸hK,i1,?_,fb _ _,kp⟩
 have fQ:∀k',h'.S k'->h.S k':=by
  rintro k' (rfl|⟨x,hx,r,hr,rfl⟩|⟨sn,hs⟩)
  ·exact FX▸.inl rfl
  ·rw[<-BW]at hx;rcases A8 hx with h1|⟨_,h2⟩
   ·exact .inr (.inl ⟨x,h1,r,hr,rfl⟩)
   rw[hr]at h2;cases h2
  refine .inr (.inr ⟨sn,?_⟩);exact zdz
 refine⟨⟨by rw[FX];exact hat,λx hx r hr=>?_,λbi sn hs=>?_,?_⟩,λk' y5=>hi.low k' (fQ k' y5),λk' y5=>hi.apart k' (fQ k' y5),λx bx b' c' e1 e2 hs=>hi.names x bx b' c' e1 e2 (fQ b' hs)⟩
 ·rw[<-BW]at hx;rcases A8 hx with h1|⟨h1,h2⟩
  ·exact zau
  rw[hr]at h2;cases h2
 ·exact jb
 ·intro j1 j2 x1 x2 r1 r2 g1 g2 hr1 YL eg;rw[<-BW]at g1 g2;rcases A9 g1 with q1|⟨q1,p1⟩
  ·rcases A9 g2 with q2|⟨q2,p2⟩
   ·exact zei
   rw[YL]at q2;cases q2
  rw[hr1]at q1;cases q1
end
end Go.Ax
namespace Go.Pj
open Go Go.Ax Go.Ch Go.Proofs Go.Proofs.Tryz
def VI{pt:Oa}{n:Nat}{fin:DS}:∀{k:Nat} {s:DS},DJ pt n fin (k,s)->∃k',DJ pt n fin (k',fin)
 |0,s,h=>⟨0,by have:=h.run;simp only[pB]at this;subst this;exact h⟩
 |k+1,s,h=>by
  by_cases hv:s.v>0
  ·obtain⟨k',hk,h2⟩:=h.step hv;obtain rfl:k=k':=O;exact VI h2
  have hr:=h.run;simp only at hr;rw[BD hv]at hr;subst hr;exact⟨_,h⟩
def XH{pt:Oa}{lo n:Nat}{l:List Room}(hn:l.length=n)(DR:lo<=n)(hn2:n<=1000)(hv:0<=pt.iZ/\pt.iZ<=1000000000000000)(hl:∀i,lo<=i->i<n->1<=(l.getD i default).2/\(l.getD i default).2<=1000000000000):
  DJ pt n (cH pt lo l) (n-lo+1,qE pt lo l):=
 ⟨by unfold cH;rw[hn],DR,hn,hv,λ_=>by show n-lo<n-lo+1;omega,hl,by show 0+(n-lo+1)<=_;omega⟩
def FZ{pt:Oa}{lo n:Nat}{l:List Room}(hn:l.length=n)(DR:lo<=n)(hn2:n<=1000)(hv:0<=pt.iZ/\pt.iZ<=1000000000000000)(hl:∀i,lo<=i->i<n->1<=(l.getD i default).2/\(l.getD i default).2<=1000000000000):
  (cH pt lo l).lo<=n/\(cH pt lo l).cur.length=n/\∀i,(cH pt lo l).lo<=i->i<n->1<=((cH pt lo l).cur.getD i default).2/\((cH pt lo l).cur.getD i default).2<=1000000000000:=by
 obtain⟨k,h⟩:=VI (XH hn DR hn2 hv hl)
 exact⟨h.lo,h.len,h.left⟩
def PE{pt:Oa}:∀(k:Nat) (s:DS),(pB pt k s).out.length<=s.out.length+k
 |0,s=>mb _
 |k+1,s=>by
  rw[pB]
  cases decide (s.v>0)with
  |false=>show s.out.length<=_;omega
  |true=>
   have:=PE (pt:=pt) k (a6 pt s);have e:(a6 pt s).out.length=s.out.length+1:=by rw[lJ];simp
   show(pB pt k (a6 pt s)).out.length<=_;omega
def qY(pt:Oa)(lo:Nat)(l:List Room):(cH pt lo l).out.length<=l.length-lo+1:=by have:=PE (pt:=pt) (l.length-lo+1) (qE pt lo l);have e:(qE pt lo l).out.length=0:=rfl;unfold cH;omega
abbrev mF:=bJ×(Nat×List Room)×Nat
def fP:List mF->bJ->Nat->Da (Nat×mF)
 |[],_,_=>none
 |e::r,k,i=>bif k==e.1 then some (i,e)else fP r k (i+1)
def B1(E:List mF)(k:bJ):Nat×List Room:=match fP E k 0 with
 |some (_,e)=>e.2.1
 |none=>(0,[])
def Tj(E:List mF)(k:bJ)(v:Nat×List Room):List mF:=match fP E k 0 with
 |some (i,_)=>E.modify i λe=>(e.1,v,e.2.2)
 |none=>E++ [(k,v,E.length)]
def dH(p:Proj):Int:=aW (p.aT.side*p.aT.side)
def P2(p:Proj)(i:Nat):Int:=(mM p.chan p.aT p.chan.over).levels.getD i 0
def bN(p:Proj)(m:Int)(i:Nat)(x:Part):Oa:=
 ⟨m,i,x.aN,aW (aW (x.cb-x.bot)*dH p),bif P2 p i !=30000 then aW (mm true 0 (aW (x.cb-mm true x.bot (P2 p i)))*dH p)else 0,0,bs []⟩
abbrev PS:=List mF×List Oa
def oN(p:Proj)(m:Int)(i:Nat)(s:PS)(x:Part):PS:=
 (Tj s.1 (x.aN.data.toList) ((cH (bN p m i x) (B1 s.1 x.aN.data.toList).1 (B1 s.1 x.aN.data.toList).2).lo,(cH (bN p m i x) (B1 s.1 x.aN.data.toList).1 (B1 s.1 x.aN.data.toList).2).cur),
  s.2++(cH (bN p m i x) (B1 s.1 x.aN.data.toList).1 (B1 s.1 x.aN.data.toList).2).out)
def wZ(p:Proj)(Y:List Fact)(M:Nat)(s:PS)(i:Nat):PS:=
 bif iL p Y (M-1) i==30000||decide (iL p Y M i>=iL p Y (M-1) i)then s
 else(vP p.gr (dP p.aT i) (iL p Y (M-1) i) (iL p Y M i)).foldl (oN p M i) s
def qD(E:List Rm.gL):List mF:=E.map λe=>(e.1,(0,e.2.1),e.2.2)
def G3(p:Proj)(Y:List Fact)(M:Nat):List Oa:=
 ((List.range p.aT.levels.length).foldl (wZ p Y M) (qD (Rm.kU (iM p (j8 Y M) (j8 Y M).length).1 M (iM p (j8 Y M) (j8 Y M).length).1.length),[])).2
structure ZU(r:mX)(v:Nat×List Room):Prop where
 lo:r.lo=v.1
 n:r.n=v.2.length
 le:v.1<=v.2.length
 f:∀i j,i<v.2.length->j<14->aK (r.f i j) (j9 v.2 i j)
structure oq(q:bO)(e:mF):Prop where
 key:q.key=bs e.1
 born:q.born=e.2.2
 row:(e.2.1.2≠[]/\∃r,q.row=some r/\ZU r e.2.1)\/(q.row=none/\q.val=.slice none 0 0/\e.2.1=(0,[]))
def mG:List bO->List mF->Prop
 |[],[]=>True
 |q::r,e::s=>oq q e/\mG r s
 |_,_=>False
def mG.of:∀{l:List bO} {E:List Rm.gL},Rm.eH l E->mG l (qD E)
 |[],[],_=>trivial
 |q::r,e::s,h=>by obtain⟨x,hx,ho⟩:=h.1.row;exact⟨⟨h.1.key,h.1.born,.inl ⟨h.1.ne,x,hx,⟨ho.lo,ho.n,Nat.zero_le _,ho.f⟩⟩⟩,mG.of h.2⟩
 |[],_::_,h=>h.elim
 |_::_,[],h=>h.elim
def mG.append:∀{l m:List bO} {E F:List mF},mG l E->mG m F->mG (l++m) (E++F)
 |[],_,[],_,_,h=>h
 |_::_,_,_::_,_,h,k=>⟨h.1,mG.append h.2 k⟩
 |[],_,_::_,_,h,_=>h.elim
 |_::_,_,[],_,h,_=>h.elim
def mG.modify:∀{l:List bO} {E:List mF} {i:Nat} {g:bO->bO} {g':mF->mF},mG l E->(∀q e,l[i]? =some q->E[i]? =some e->oq q e->oq (g q) (g' e))->mG (l.modify i g) (E.modify i g')
 |[],[],_,_,_,_,_=>by simp[mG]
 |q::r,e::s,0,g,g',h,k=>by exact dt
 |q::r,e::s,i+1,g,g',h,k=>by simp only[Jn];exact⟨h.1,mG.modify h.2 λq e hq he=>k q e (by simpa using hq) (by simpa using he)⟩
 |[],_::_,_,_,_,h,_=>h.elim
 |_::_,[],_,_,_,h,_=>h.elim
def AG:∀{l:List bO} {E:List mF} {k:bJ} {i:Nat},mG l E->fP E k i=none->dD l (bs k) i=none
 |[],[],_,_,_,_=>rfl
 |q::r,e::s,k,i,h,hf=>by
  rw[fP]at hf;rw[dD,h.1.key,sB]
  cases hk:k==e.1 with
  |true=>rw[hk]at hf;cases hf
  |false=>rw[hk]at hf;exact AG h.2 hf
 |[],_::_,_,_,h,_=>h.elim
 |_::_,[],_,_,h,_=>h.elim
def AF:∀{l:List bO} {E:List mF} {k:bJ} {i:Nat} {p:Nat×mF},mG l E->fP E k i=some p->∃q,dD l (bs k) i=some (p.1,q)/\oq q p.2
 |[],[],_,_,_,_,hf=>by cases hf
 |q::r,e::s,k,i,p,h,hf=>by
  rw[fP]at hf;rw[dD,h.1.key,sB]
  cases hk:k==e.1 with
  |true=>rw[hk]at hf;obtain rfl:(i,e)=p:=sc hf;exact⟨q,rfl,h.1⟩
  |false=>rw[hk]at hf;exact AF h.2 hf
 |[],_::_,_,_,_,h,_=>h.elim
 |_::_,[],_,_,_,h,_=>h.elim
def uN{h:HM}{E:List mF}{k:bJ}{j:Nat}{q:bO}{v:wa}{r:mX}{x:Nat×List Room}(ha:mG h.l E)(hf:dD h.l (bs k) 0=some (j,q))(hr:ZU r x)(fJ:x.2≠[]):
  mG (eR {h with l:=cW h.l j} (bs k) v (some r)).l (E.modify j λe=>(e.1,x,e.2.2))/\(eR {h with l:=cW h.l j} (bs k) v (some r)).bm=h.bm/\(eR {h with l:=cW h.l j} (bs k) v (some r)).clock=h.clock/\(eR {h with l:=cW h.l j} (bs k) v (some r)).it=h.it:=by
 have h1:=tU h.l (bs k) j 0
 rw[hf]at h1
 unfold eR
 simp only
 cases hq:dD (cW h.l j) (bs k) 0 with
 |none=>rw[hq]at h1;cases h1
 |some p=>
  obtain⟨i,q'⟩:=p;rw[hq]at h1;obtain rfl:i=j:=by simpa using h1
  refine⟨?_,rfl,rfl,rfl⟩;show mG ((cW h.l i).modify i _) _;unfold cW;rw[List.modify_modify_eq];exact ha.modify λq e _ _ ho=>⟨ho.key,ho.born,.inl ⟨fJ,r,rfl,hr⟩⟩
def O9{h:HM}{E:List mF}{k:bJ}{j:Nat}{q:bO}(ha:mG h.l E)(hf:dD h.l (bs k) 0=some (j,q)):
  mG (eR h (bs k) (.slice none 0 0) none).l (E.modify j λe=>(e.1,(0,[]),e.2.2))/\(eR h (bs k) (.slice none 0 0) none).bm=h.bm/\(eR h (bs k) (.slice none 0 0) none).clock=h.clock/\(eR h (bs k) (.slice none 0 0) none).it=h.it:=by
 unfold eR
 rw[hf]
 refine⟨?_,rfl,rfl,rfl⟩
 exact ha.modify λq e _ _ ho=>⟨ho.key,ho.born,.inr ⟨rfl,rfl,rfl⟩⟩
def PA{h:HM}{E:List mF}{k:bJ}(ha:mG h.l E)(hc:h.clock=E.length)(hf:dD h.l (bs k) 0=none):
  mG (eR h (bs k) (.slice none 0 0) none).l (E++ [(k,(0,[]),E.length)])/\(eR h (bs k) (.slice none 0 0) none).bm=h.bm/\(eR h (bs k) (.slice none 0 0) none).clock=E.length+1/\(eR h (bs k) (.slice none 0 0) none).it=h.it:=by
 unfold eR
 rw[hf]
 refine⟨?_,rfl,by simp only;omega,rfl⟩
 refine ha.append ⟨⟨rfl,by simp only;exact hc,.inr ⟨rfl,rfl,rfl⟩⟩,oO⟩
def PV.bB{p:Proj}(h:PV p):∀x∈p.gr.cC,x.bB.length<=1000000:=uu
end Go.Pj
--K60
namespace Go.Ax
open Go.RowKit
variable{P:Ba}{R:Cx}{N:Nat}{I I':St}{H H':Hid}
def bM.sub{all l:List Oper}{K:St->Hid->Prop}(h:HSub R N I H I' H')(k:bM P R N all l I' H' K):bM P R N all l I H K:=by intro M V a w Q i hi hQ;obtain⟨M',V',i',bC,g⟩:=h M V a w i hi;exact k M' V' a w Q i' bC λa' w' hp=>hQ a' w' (hp.trans g (lc _ _))
def Af:=@bM.sub
def bS.cut{x y:Code}{K:Exit->St->Hid->Prop}(h:bS P R N x I H λe s h=>e=.normal/\HSub R N s h I' H')(k:bS P R N y I' H' K):bS P R N (.seq x y) I H K:=
 pb (bS.mono h λ_ _ _ ⟨he,hs⟩=>by subst he;exact Pb hs k)
def th:=@bS.cut
end Go.Ax
namespace Go.Pj
open Go Go.Ax Go.Ch Go.Proofs Go.Proofs.Tryz
def PV.aBZ{p:Proj}(h:PV p):∀x∈p.gr.cC,x.bB.length<=12:=uu
def PD{pt:Oa}:∀(k:Nat) (s:DS),s.out.length<=(pB pt k s).out.length
 |0,s=>mb _
 |k+1,s=>by
  rw[pB]
  cases decide (s.v>0)with
  |false=>exact mb _
  |true=>
   have:=PD (pt:=pt) k (a6 pt s);have e:(a6 pt s).out.length=s.out.length+1:=by rw[lJ];simp
   show _<=(pB pt k (a6 pt s)).out.length;omega
def qA{pt:Oa}{lo:Nat}{l:List Room}(hv:0<pt.iZ):0<(cH pt lo l).out.length:=by
 unfold cH;rw[pB,show decide ((qE pt lo l).v>0)=true from pc hv];have:=PD (pt:=pt) (l.length-lo) (a6 pt (qE pt lo l));have e:(a6 pt (qE pt lo l)).out.length=0+1:=by rw[lJ];simp;rfl
 show 0<(pB pt (l.length-lo) (a6 pt (qE pt lo l))).out.length;omega
structure wB(x:Nat×List Room):Prop where
 le:x.1<=x.2.length
 Hi:x.2.length<=200
 left:∀i,x.1<=i->i<x.2.length->1<=(x.2.getD i default).2/\(x.2.getD i default).2<=1000000000000
def D5(s:PS)(n:Nat):Prop:=(∀e∈s.1,wB e.2.1)/\s.2.length<=n
def D5.more{s:PS}{n m:Nat}(h:D5 s n)(hm:n<=m):D5 s m:=⟨h.1,Xb h.2 hm⟩
def NQ:∀{E:List mF} {k:bJ} {i j:Nat} {e:mF},fP E k i=some (j,e)->i<=j/\E[j-i]? =some e/\e.1=k
 |[],_,_,_,_,h=>by cases h
 |x::r,k,i,j,e,h=>by
  rw[fP]at h
  cases hk:(k==x.1)with
  |true=>rw[hk]at h;obtain⟨rfl,rfl⟩:=Prod.mk.inj (sc h);exact⟨mb _,sM,(eq_of_beq hk).symm⟩
  |false=>rw[hk]at h;obtain⟨h1,h2,h3⟩:=NQ (E:=r) h;refine⟨O,?_,h3⟩;rw[show j-i=(j-(i+1))+1 by omega];simpa using h2
def YS{E:List mF}{k:bJ}(h:∀e∈E,wB e.2.1):wB (B1 E k):=by
 unfold B1;split
 ·rename_i i e he;exact h e (Dd (NQ he).2.1)
 exact⟨mb _,Nat.zero_le _,λi _ hi=>absurd hi (cd _)⟩
def XL{E:List mF}{k:bJ}{v:Nat×List Room}(h:∀e∈E,wB e.2.1)(hv:wB v):∀e∈Tj E k v,wB e.2.1:=by
 intro e he;unfold Tj at he;split at he
 ·rename_i i e' _;obtain⟨j,hj⟩:=dd he;rw[se]at hj
  cases hE:E[j]? with
  |none=>rw[hE]at hj;cases hj
  |some y=>
   rw[hE]at hj;have hj:(if i=j then(y.1,v,y.2.2)else y)=e:=by simpa using hj
   split at hj
   ·subst hj;exact hv
   subst hj;exact h y (Dd hE)
 rcases ic.1 he with he|he
 ·exact h e he
 rw[Ib.1 he];exact hv
def Y3{pt:Oa}{x:Nat×List Room}(h:wB x)(hv:0<=pt.iZ/\pt.iZ<=1000000000000000):wB ((cH pt x.1 x.2).lo,(cH pt x.1 x.2).cur):=by have hf:=h.Hi;obtain⟨h1,h2,h3⟩:=FZ (pt:=pt) (n:=x.2.length) rfl h.le O hv h.left;exact⟨by show _<=(cH pt x.1 x.2).cur.length;omega,by show(cH pt x.1 x.2).cur.length<=_;omega,λi h4 h5=>h3 i h4 (by have h5:i<(cH pt x.1 x.2).cur.length:=h5;omega)⟩
def KN{p:Proj}{m:Int}{i n:Nat}{s:PS}{x:Part}(h:D5 s n)(hv:0<=(bN p m i x).iZ/\(bN p m i x).iZ<=1000000000000000):D5 (oN p m i s x) (n+201):=by have hg:=YS (k:=x.aN.data.toList) h.1;refine⟨XL h.1 (Y3 hg hv),?_⟩;have hf:=qY (bN p m i x) (B1 s.1 x.aN.data.toList).1 (B1 s.1 x.aN.data.toList).2;have:=hg.Hi;have:=h.2;show(s.2++_).length<=_;rw[ed];omega
structure AQ(x:Part):Prop where
 lt:x.bot<x.cb
 lo: -20000<=x.bot
 hi:x.cb<=20000
def ZD{l:List sC}{hi lo:Int}{n:Nat}{x:Part}(h:x∈nL l hi lo n):x.bot<x.cb/\lo<=x.bot/\x.cb<=hi:=by
 unfold nL at h;obtain⟨i,_,hx⟩:=lh.1 h;unfold X8 at hx
 cases hq:decide (C4 l hi i>FM l lo i)with
 |false=>rw[hq]at hx;cases hx
 |true=>
  rw[hq]at hx;obtain rfl:=sc hx;refine⟨Nb hq,?_,?_⟩
  ·show lo<=FM l lo i;unfold FM
   cases decide (((i+1:Nat):Int)<l.length)with
   |true=>show lo<=mm true _ _;unfold mm;simp only;split <;> omega
   |false=>exact Me _
  show C4 l hi i<=hi;unfold C4
  cases decide ((i:Int)>0)with
  |true=>show mm false _ _<=hi;unfold mm;simp only;split <;> omega
  |false=>exact Me _
def D7{g:Ground}{c:Pt}{hi lo:Int}{x:Part}(h:x∈vP g c hi lo):AQ x:=by
 unfold vP at h
 cases he:(FQ g c hi lo !=0)with
 |true=>rw[he]at h;cases h
 |false=>
  rw[he]at h;have h:x∈nL (uD g c).bB hi lo (uD g c).bB.length:=h;obtain⟨h1,h2,h3⟩:=ZD h;have he:FQ g c hi lo=0:=by simpa using he
  unfold FQ at he;obtain⟨ha,_⟩:=dU he;unfold FN at ha;obtain⟨_,ha⟩:=dU ha;obtain⟨ha,_⟩:=dF dC ha;simp only[Ed,Vg,Ew,L2,within,Ph,Bool.and_eq_true,ae]at ha;exact⟨h1,O,O⟩
def Pu{g:Ground}{c:Pt}(h0:0<g.cC.length):uD g c∈g.cC:=bP (MS g.cC c g.cC.length h0)
def I6{p:Proj}{c:Pt}{hi lo:Int}(h:PV p):(vP p.gr c hi lo).length<=12:=by
 unfold vP
 cases FQ p.gr c hi lo !=0 with
 |true=>exact Nat.zero_le _
 |false=>have h1:=RU (uD p.gr c).bB hi lo (uD p.gr c).bB.length;have h2:=h.aBZ _ (Pu (c:=c) (EX h.gr).1);show(nL _ _ _ _).length<=12;omega
def cp{p:Proj}(h:PV p):10000<=dH p/\dH p<=1000000:=by have h1:=h.gv.side;have h2:=h.side;have h3:100*100<=p.aT.side*p.aT.side:=Yj h1.1 h1.1 dC O;have h4:p.aT.side*p.aT.side<=1000*1000:=Yj h2 h2 O dC;unfold dH;rw[aG O O];omega
def BK{p:Proj}{m:Int}{i:Nat}{x:Part}(h:PV p)(hx:AQ x):0<(bN p m i x).iZ/\(bN p m i x).iZ<=1000000000000000:=by obtain⟨a1,a2⟩:=cp h;have h1:=hx.lt;have h2:=hx.lo;have h3:=hx.hi;show 0<aW (aW (x.cb-x.bot)*dH p)/\_;rw[show aW (x.cb-x.bot)=x.cb-x.bot from aG O O];have h4:1*1<=(x.cb-x.bot)*dH p:=Yj O O dC O;have h5:(x.cb-x.bot)*dH p<=40000*1000000:=Yj O a2 O dC;have e:(bN p m i x).iZ=aW (aW (x.cb-x.bot)*dH p):=rfl;rw[e,show aW (x.cb-x.bot)=x.cb-x.bot from aG O O,aG O O];omega
def aJ5{a b:List Oa}{i j:Nat}(_:i<a.length+b.length):jM a.length (eJ a) (eJ b) i j=eJ (a++b) i j:=by
 unfold jM eJ;by_cases h:i<a.length
 ·exact zcq
 rw[Ka h];simp only[fc,Gd (by omega:a.length<=i)]
def aGQ(g:eZ):Bool:=(decide ((g.levels.length:Int)>9)&&decide ((g.levels.length:Int)<=120))||decide ((g.levels.length:Int)>300)
def aMP(g:eZ):aF prog 55 [rK g] (vB (aGQ g)):=by exact eP func55 rfl rfl call55 rfl rfl λR J=>Gm
def An(p:Proj):Bool:=aGQ p.aT||decide ((p.name.size:Int)>40)||decide ((p.chan.aZ.length:Int)>6)||decide ((p.chan.Ya.length:Int)>5)||decide ((p.gr.bK.length:Int)>4)||decide ((p.gr.cC.length:Int)>5)||decide ((p.cO.length:Int)>25)||decide ((p.cU.length:Int)>25)||decide ((p.aQ.length:Int)>10)||decide ((p.bA.length:Int)>10)
def Aq(r:zP):Bool:=decide ((r.lS.length:Int)>8)||decide ((r.name.size:Int)>40)
def pq(b:fS):Bool:=decide ((b.bB.length:Int)>6)
def nn(b:uF):Bool:=decide ((b.aV.length:Int)>12)
def vC(p:Proj):Bool:=An p||p.chan.Ya.any Aq||p.gr.cC.any pq||p.aQ.any nn
def OG{α:Type} [Inhabited α] {l:List α}{f:α->Bool}{i:Nat}(hi:i<l.length)(h:f (l.getD i default)=true):l.any f=true:=
 Ll.2 ⟨_,bP hi,h⟩
def CR{α:Type} [Inhabited α] {l:List α}{f:α->Bool}{i:Nat}(hi:i<l.length)(h0:(l.take i).any f=false)(h:f (l.getD i default)=false):(l.take (i+1)).any f=false:=by rw[Bg,List.getElem?_eq_getElem hi,Pn,h0];rw[aX hi]at h;simp[h]
def F5{α:Type}{l:List α}{f:α->Bool}(h:(l.take l.length).any f=false):l.any f=false:=by rwa [Vd]at h
def aI9(p:Proj):aF prog 29 [oR p] (vB (vC p)):=by
 refine eP func29 rfl rfl call29 rfl rfl λR J=>?_
 refine aB (aMP p.aT) ?_
 repeat refine aR ?_
 apply aI<;>intro h0
 ·have h0:An p=true:=h0
  exact wc (by unfold vC;rw[h0];rfl)
 have h0:An p=false:=h0
 have b0:=h0
 simp only[An,Ed,Qd]at b0
 refine Hb (λi:Nat=>⟨[(1,.s (.ptr 1 0)),(3,vI i)],[(1,some (.cells (qH p)))]⟩) (λi=>i<=p.chan.Ya.length/\(p.chan.Ya.take i).any Aq=false) (λi=>p.chan.Ya.length-i) 0 ⟨Nat.zero_le _,rfl⟩ ?_ ?_
 ·exact Lt
 rintro i ⟨hi,hj⟩
 apply eX J
 apply aI<;>intro h5
 ·have h5:(i:Int)<p.chan.Ya.length:=bG h5
  have hi5:i<p.chan.Ya.length:=O
  apply oi Ha
  repeat refine aR ?_
  refine og (λ_=>Ha) ?_
  repeat refine aR ?_
  apply aI<;>intro h6
  ·have h6:Aq (p.chan.Ya.getD i default)=true:=h6
   exact wc (by unfold vC;rw[OG hi5 h6];simp)
  have h6:Aq (p.chan.Ya.getD i default)=false:=h6
  exact jt
 have h5:¬(i:Int)<p.chan.Ya.length:=bF h5
 obtain rfl:i=p.chan.Ya.length:=O
 have a1:=F5 hj
 clear hj hi h5
 refine Hb (λi:Nat=>⟨[(1,.s (.ptr 1 0)),(4,vI i)],[(1,some (.cells (qH p)))]⟩) (λi=>i<=p.gr.cC.length/\(p.gr.cC.take i).any pq=false) (λi=>p.gr.cC.length-i) 0 ⟨Nat.zero_le _,rfl⟩ ?_ ?_
 ·exact Lt
 rintro i ⟨hi,hj⟩
 apply eX J
 apply aI<;>intro h5
 ·have h5:(i:Int)<p.gr.cC.length:=bG h5
  have hi5:i<p.gr.cC.length:=O
  apply oi Ha
  apply aI<;>intro h6
  ·have h6:pq (p.gr.cC.getD i default)=true:=h6
   exact wc (by unfold vC;rw[OG hi5 h6];simp)
  have h6:pq (p.gr.cC.getD i default)=false:=h6
  exact jt
 have h5:¬(i:Int)<p.gr.cC.length:=bF h5
 obtain rfl:i=p.gr.cC.length:=O
 have a2:=F5 hj
 clear hj hi h5
 refine Hb (λi:Nat=>⟨[(1,.s (.ptr 1 0)),(5,vI i)],[(1,some (.cells (qH p)))]⟩) (λi=>i<=p.aQ.length/\(p.aQ.take i).any nn=false) (λi=>p.aQ.length-i) 0 ⟨Nat.zero_le _,rfl⟩ ?_ ?_
 ·exact Lt
 rintro i ⟨hi,hj⟩
 apply eX J
 apply aI<;>intro h5
 ·have h5:(i:Int)<p.aQ.length:=bG h5
  have hi5:i<p.aQ.length:=O
  apply oi Ha
  apply aI<;>intro h6
  ·have h6:nn (p.aQ.getD i default)=true:=h6
   exact wc (by unfold vC;rw[OG hi5 h6];simp)
  have h6:nn (p.aQ.getD i default)=false:=h6
  exact jt
 have h5:¬(i:Int)<p.aQ.length:=bF h5
 obtain rfl:i=p.aQ.length:=O
 have a3:=F5 hj
 exact wc (by unfold vC;rw[h0,a1,a2,a3];rfl)
def KX(f:Fact):Bool:=decide ((f.levels.length:Int)>120)||decide ((f.aN.size:Int)>40)||decide ((f.dN.size:Int)>40)||decide ((f.eS.size:Int)>40)
def aMX(f:Fact):aF prog 56 [pX f] (vB (KX f)):=by exact eP func56 rfl rfl call56 rfl rfl λR J=>Gm
def HD(l:List Fact)(m:Int):Bool:=decide ((l.length:Int)>m)||l.any KX
def aMW(l:List Fact)(m:Int)(hm:m<=1000000):aF prog 30 [cJ l,vI m] (vB (HD l m)):=by
 refine eP func30 rfl rfl call30 rfl rfl λR J=>aI (λh0=>?_) (λh0=>?_)
 ·have h0:decide ((l.length:Int)>m)=true:=h0;exact wc (by unfold HD;rw[h0];rfl)
 have h0:decide ((l.length:Int)>m)=false:=h0;have b0:¬(l.length:Int)>m:=Wj h0;refine Hb (λi:Nat=>⟨[(0,cJ l),(5,vI i)],[]⟩) (λi=>i<=l.length/\(l.take i).any KX=false) (λi=>l.length-i) 0 ⟨Nat.zero_le _,rfl⟩ ?_ ?_
 ·exact Gt
 rintro i ⟨hi,hj⟩;apply eX J;apply aI<;>intro h5
 ·have h5:(i:Int)<l.length:=bG h5;have hi5:i<l.length:=O;refine oi Ha (aB (aMX (l.getD i default)) ?_);apply aI<;>intro h6
  ·have h6:KX (l.getD i default)=true:=h6;exact wc (by unfold HD;rw[OG hi5 h6];simp)
  have h6:KX (l.getD i default)=false:=h6;refine⟨i+1,⟨O,CR hi5 hj h6⟩,O,?_⟩;exact Zb J trivial ⟨rQ,⟨rfl,Na vI (aG O O)⟩,oO⟩
 have h5:¬(i:Int)<l.length:=bF h5;obtain rfl:i=l.length:=O;have a3:=F5 hj;exact wc (by unfold HD;rw[h0,a3];rfl)
def Cq:List Oa->AV
 |[]=>.s (.d eO)
 |_::_=>.s (.own 100)
def dp:List Oa->aP
 |[]=>[]
 |x::r=>[(100,some (.row 82 (x::r).length 7 (eJ (x::r))))]
abbrev kQ(p:Proj):List SV:=[.d (dI p.aT.x),.d (dI p.aT.y),.d (dI p.aT.side),.d (dI p.aT.dO),.d (dI p.aT.rows),.d (b5 (mM p.chan p.aT p.chan.over).levels)]
def IU(p:Proj)(Y:List Fact)(M LN:Nat)(bm i:Nat)(out:List Oa):St:=
 ⟨(7,Cq out):: [(1,vI M),(2,.s (.d (cZ (dA p Y LN)))),(3,.s (.ptr 3 0)),(8,dQ bm),(9,.s (.ptr 9 0)),(11,vI (dH p)),(51,vI p.aT.levels.length),(52,vI i)],[(3,some (.cells (l0 p Y))),(9,some (.cells (kQ p)))]++dp out⟩
def EE(p:Proj)(Y:List Fact)(M:Nat)(E:List mF)(i:Nat):PS:=(List.range i).foldl (wZ p Y M) (E,[])
def GY(p:Proj)(Y:List Fact)(M:Nat)(E:List mF)(i:Nat):EE p Y M E (i+1)=wZ p Y M (EE p Y M E i) i:=by unfold EE;rw[zw,iw];rfl
def MN(p:Proj)(m:Int)(i:Nat)(s:PS)(xs:List Part)(j:Nat):PS:=(xs.take j).foldl (oN p m i) s
def aBF{p:Proj}{m:Int}{i:Nat}{s:PS}{xs:List Part}{j:Nat}(h:j<xs.length):MN p m i s xs (j+1)=oN p m i (MN p m i s xs j) (xs.getD j default):=by unfold MN;exact uy
def xM(p:Proj)(Y:List Fact)(M LN:Nat)(bm i:Nat)(xs:List Part)(j:Nat)(out:List Oa):St:=
 ⟨(7,Cq out):: [(1,vI M),(2,.s (.d (cZ (dA p Y LN)))),(3,.s (.ptr 3 0)),(8,dQ bm),(9,.s (.ptr 9 0)),(11,vI (dH p)),(12,vI i),(51,vI p.aT.levels.length),(52,vI i),(97,iC xs),(98,vI xs.length),(99,vI j)],[(3,some (.cells (l0 p Y))),(9,some (.cells (kQ p)))]++dp out⟩
def B7(p:Proj)(Y:List Fact)(M LN:Nat)(bm i:Nat)(xs:List Part)(j:Nat)(out zs:List Oa):St:=
 ⟨(7,Cq out):: [(1,vI M),(2,.s (.d (cZ (dA p Y LN)))),(3,.s (.ptr 3 0)),(8,dQ bm),(9,.s (.ptr 9 0)),(11,vI (dH p)),(12,vI i),(23,iD zs),(51,vI p.aT.levels.length),(52,vI i),(97,iC xs),(98,vI xs.length),(99,vI j)],[(3,some (.cells (l0 p Y))),(9,some (.cells (kQ p)))]++dp out⟩
def aLC(p:Proj)(Y:List Fact)(M LN:Nat)(bm i:Nat)(xs:List Part)(j:Nat)(out:List Oa)(x:Part):St:=
 ⟨(7,Cq out):: [(1,vI M),(2,.s (.d (cZ (dA p Y LN)))),(3,.s (.ptr 3 0)),(8,dQ bm),(9,.s (.ptr 9 0)),(11,vI (dH p)),(12,vI i),(20,.s (.ptr 20 0)),(21,.s (.ptr 21 0)),(51,vI p.aT.levels.length),(52,vI i),(97,iC xs),(98,vI xs.length),(99,vI j)],[(3,some (.cells (l0 p Y))),(9,some (.cells (kQ p)))]++dp out++ [(20,some (.cells [.d (dS x.aN),.d (dI x.cb),.d (dI x.bot)])),(21,some (.cells [.d (dI M),.d (dI i),.d (dS x.aN),.d (dI (bN p M i x).iZ),.d (dI (bN p M i x).gV),.d (dI 0),.d (dS (bs []))]))]⟩
def JI(p:Proj)(m:Int)(i:Nat)(s0:PS)(xs:List Part)(s:Nat×HM):Prop:=s.1<=xs.length/\mG s.2.l (MN p m i s0 xs s.1).1/\s.2.clock=(MN p m i s0 xs s.1).1.length/\s.2.it=none/\D5 (MN p m i s0 xs s.1) (i*2412+s.1*201)
def JC(p:Proj)(Y:List Fact)(M:Nat)(E:List mF)(s:Nat×HM):Prop:=s.1<=p.aT.levels.length/\mG s.2.l (EE p Y M E s.1).1/\s.2.clock=(EE p Y M E s.1).1.length/\s.2.it=none/\D5 (EE p Y M E s.1) (s.1*2412)
def aOY:Code->Nat->Code
 |.seq x _,0=>x
 |.seq _ y,1=>y
 |.block _ c,2=>c
 |.loop c,2=>c
 |.scope c,2=>c
 |c,_=>c
def ng(c:Da Code)(l:List Nat):Code:=l.foldl aOY (c.getD .skip)
def xA{p:Proj}{Y:List Fact}{M LN bm i j:Nat}{xs:List Part}{o zs:List Oa}{R:Cx}{H:Hid}{X:St->Hid->Prop}{K:Exit->St->Hid->Prop}(J:R.ref=[])(hz:0<zs.length)(hzl:zs.length<=201)(HW:o.length<=1000000)(hj:j<12)
  (hX:∀I',HSub R f15.ntmps I' H (xM p Y M LN bm i xs (j+1) (o++zs)) H->X I' H):
  bS prog R f15.ntmps (ng f15.body [1,1,1,1,1,0,1,2,2,1,1,0,2,1,1,1,1,1,1,2,2,1,1,0,2,1,1,1,1,1]) (B7 p Y M LN bm i xs j o zs) H (AN 3 (rO (λs H=>bS prog R f15.ntmps (ng f15.body [1,1,1,1,1,0,1,2,2,1,1,0,2,1,1,1,1,1,1,2,2,1,1,1]) s H (rO X K)) (rO X K))):=by
 have ej:aW ((j:Int)+1)=((j+1:Nat):Int):=aG O O
 cases o with
 |nil=>
  show bS prog R _ _ ⟨[(7,.s (.d eO)),(1,vI M),(2,.s (.d (cZ (dA p Y LN)))),(3,.s (.ptr 3 0)),(8,dQ bm),(9,.s (.ptr 9 0)),(11,vI (dH p)),(12,vI i),(23,iD zs),(51,vI p.aT.levels.length),(52,vI i),(97,iC xs),(98,vI xs.length),(99,vI j)],[(3,some (.cells (l0 p Y))),(9,some (.cells (kQ p)))]⟩ H _;refine eA J [3,9] λ_ h'=>ob hz ?_
  refine ob (by show zs.length*72<=_;omega) ?_;refine eA J [3,9,148] λ_ h'=>hX _ ?_
  obtain⟨z0,zr,rfl⟩:∃z0 zr,zs=z0::zr:=by cases zs with|nil=>exact absurd hz (Qn _)|cons a b=>exact⟨a,b,rfl⟩
  show HSub _ _ _ _ ⟨[(7,.s (.own 100)),(1,vI M),(2,.s (.d (cZ (dA p Y LN)))),(3,.s (.ptr 3 0)),(8,dQ bm),(9,.s (.ptr 9 0)),(11,vI (dH p)),(12,vI i),(51,vI p.aT.levels.length),(52,vI i),(97,iC xs),(98,vI xs.length),(99,vI (j+1:Nat))],[(3,some (.cells (l0 p Y))),(9,some (.cells (kQ p))),(100,some (.row 82 (z0::zr).length 7 (eJ (z0::zr))))]⟩ _;exact Za (ab [(100,148)] lb rfl Fa ⟨Z,Z,Z,Z,Z,Z,Z,Z,Z,Z,Z,Z,⟨rfl,Ra ej⟩,oO⟩)
 |cons py po=>
  have HW:(py::po).length<=1000000:=HW;show bS prog R _ _ ⟨[(7,.s (.own 100)),(1,vI M),(2,.s (.d (cZ (dA p Y LN)))),(3,.s (.ptr 3 0)),(8,dQ bm),(9,.s (.ptr 9 0)),(11,vI (dH p)),(12,vI i),(23,iD zs),(51,vI p.aT.levels.length),(52,vI i),(97,iC xs),(98,vI xs.length),(99,vI j)],[(3,some (.cells (l0 p Y))),(9,some (.cells (kQ p))),(100,some (.row 82 (py::po).length 7 (eJ (py::po))))]⟩ H _;refine eA J [3,9,100] λ_ h'=>ob (show((py::po).length+zs.length)*72<=_ by omega) (ob (λa c ha hc=>by match c,hc with|0,_|1,_|2,_|3,_|4,_|5,_|6,_=>rfl) ?_)
  refine Pb (I':=⟨[(7,.s (.own 148)),(1,vI M),(2,.s (.d (cZ (dA p Y LN)))),(3,.s (.ptr 3 0)),(8,dQ bm),(9,.s (.ptr 9 0)),(11,vI (dH p)),(12,vI i),(51,vI p.aT.levels.length),(52,vI i),(97,iC xs),(98,vI xs.length),(99,vI j)],[(3,some (.cells (l0 p Y))),(9,some (.cells (kQ p))),(148,some (.row 82 ((py::po).length+zs.length) 7 (jM (py::po).length (eJ (py::po)) (eJ zs))))]⟩) (Za (ab [] lb rfl Fa Fa)) (eA J [3,9,148] λ_ h'=>?_);refine hX _ ?_;show HSub _ _ _ _ ⟨[(7,.s (.own 100)),(1,vI M),(2,.s (.d (cZ (dA p Y LN)))),(3,.s (.ptr 3 0)),(8,dQ bm),(9,.s (.ptr 9 0)),(11,vI (dH p)),(12,vI i),(51,vI p.aT.levels.length),(52,vI i),(97,iC xs),(98,vI xs.length),(99,vI (j+1:Nat))],[(3,some (.cells (l0 p Y))),(9,some (.cells (kQ p))),(100,some (.row 82 (py::(po++zs)).length 7 (eJ (py::(po++zs)))))]⟩ _;exact Za (ab [(100,148)] lb rfl ⟨bQ,bQ,⟨rfl,Bc re λa c ha hc=>Wa (aJ5 (a:=py::po) ha)⟩,oO⟩ ⟨Z,Z,Z,Z,Z,Z,Z,Z,Z,Z,Z,Z,⟨rfl,Ra ej⟩,oO⟩)
def IH{pt:Oa}(hv:0<=pt.iZ/\pt.iZ<=1000000000000000):((cH pt 0 []).lo,(cH pt 0 []).cur)=(0,[]):=by obtain⟨q1,q2,_⟩:=FZ (pt:=pt) (lo:=0) (n:=0) (l:=[]) rfl (mb _) dC hv (λ_ _ h=>absurd h (cd _));rw[fh q2,Nat.le_zero.1 q1]
def GG{p:Proj}{m:Int}{i:Nat}{E:List mF}{o:List Oa}{x:Part}(h:fP E x.aN.data.toList 0=none)(hv:0<=(bN p m i x).iZ/\(bN p m i x).iZ<=1000000000000000):
  oN p m i (E,o) x=(E++ [(x.aN.data.toList,(0,[]),E.length)],o++(cH (bN p m i x) 0 []).out):=by
 have hg:B1 E x.aN.data.toList=(0,[]):=by unfold B1;rw[h]
 unfold oN
 simp only[hg,IH hv]
 unfold Tj
 rw[h]
def GF{p:Proj}{m:Int}{i je:Nat}{E:List mF}{o:List Oa}{x:Part}{e:mF}(h:fP E x.aN.data.toList 0=some (je,e)):
  oN p m i (E,o) x=(E.modify je λe'=>(e'.1,((cH (bN p m i x) e.2.1.1 e.2.1.2).lo,(cH (bN p m i x) e.2.1.1 e.2.1.2).cur),e'.2.2),o++(cH (bN p m i x) e.2.1.1 e.2.1.2).out):=by
 have hg:B1 E x.aN.data.toList=e.2.1:=by unfold B1;rw[h]
 unfold oN
 simp only[hg]
 unfold Tj
 rw[h]
def VV{p:Proj}{Y:List Fact}{M LN i j:Nat}{xs:List Part}{o:List Oa}{E1:List mF}{x:Part}{k:HM}{R:Cx}{X:St->Hid->Prop}{K:Exit->St->Hid->Prop}(J:R.ref=[])(ha:mG k.l E1)(jL:k.clock=E1.length)(hit:k.it=none)
  (hgE:∀e∈E1,wB e.2.1) (hv:0<(bN p M i x).iZ/\(bN p M i x).iZ<=1000000000000000) (HW:o.length<=1000000) (hj:j<12)
  (hX:∀aa k2,mG k2.l (oN p M i (E1,o) x).1->k2.clock=(oN p M i (E1,o) x).1.length->k2.it=none->HSub R f15.ntmps aa (hid 180 14 k2) (xM p Y M LN k2.bm i xs (j+1) (oN p M i (E1,o) x).2) (hid 180 14 k2)->X aa (hid 180 14 k2)):
  bS prog R f15.ntmps (ng f15.body [1,1,1,1,1,0,1,2,2,1,1,0,2,1,1,1,1,1,1,2,2,1,1,0,2,1,1,1]) (aLC p Y M LN k.bm i xs j o x) (hid 180 14 k) (AN 3 (rO (λs H=>bS prog R f15.ntmps (ng f15.body [1,1,1,1,1,0,1,2,2,1,1,0,2,1,1,1,1,1,1,2,2,1,1,1]) s H (rO X K)) (rO X K))):=by
 have HV:bs x.aN.data.toList=x.aN:=rfl
 have BV:0<=(bN p M i x).iZ/\(bN p M i x).iZ<=1000000000000000:=⟨O,hv.2⟩
 cases o with
 |nil=>
  show bS prog R _ _ ⟨[(7,.s (.d eO)),(1,vI M),(2,.s (.d (cZ (dA p Y LN)))),(3,.s (.ptr 3 0)),(8,dQ k.bm),(9,.s (.ptr 9 0)),(11,vI (dH p)),(12,vI i),(20,.s (.ptr 20 0)),(21,.s (.ptr 21 0)),(51,vI p.aT.levels.length),(52,vI i),(97,iC xs),(98,vI xs.length),(99,vI j)],[(3,some (.cells (l0 p Y))),(9,some (.cells (kQ p))),(20,some (.cells [.d (dS x.aN),.d (dI x.cb),.d (dI x.bot)])),(21,some (.cells [.d (dI M),.d (dI i),.d (dS x.aN),.d (dI (bN p M i x).iZ),.d (dI (bN p M i x).gV),.d (dI 0),.d (dS (bs []))]))]⟩ (hid 180 14 k) _;refine pb (Sc (Kb (rc:=[]) aJ 4 J [3,9,20,21] rfl rfl ?_));refine Rc rfl (Vl (k:=x.aN) (h:=k) rfl rfl dC rfl rfl rfl underlying122 underlying9 zeroValue135 ?_)
  cases uZ:fP E1 x.aN.data.toList 0 with
  |none=>have uY:=AG ha uZ;rw[HV]at uY;rw[uY];obtain⟨s1,s2,s3,s4⟩:=PA ha jL uY;have hS:=GG (p:=p) (m:=M) (i:=i) (o:=[]) uZ BV;refine Kb (rc:=[]) aJ 6 J [3,9,20,21] rfl rfl (aB (F1 (bN p M i x) BV) ?_);refine mc (pb (Sc (Kb (rc:=[]) aJ 4 J [3,9,20,21] rfl rfl ?_)));refine Rc rfl (oo (k:=x.aN) (h:=k) rfl rfl rfl rfl rfl underlying122 underlying9 (λ_=>hit) ?_);refine mc (Pb (I':=B7 p Y M LN k.bm i xs j ([]) (cH (bN p M i x) 0 []).out) zez ?_);exact jk
  |some pr=>
   obtain⟨je,e⟩:=pr;obtain⟨q,uY,hq⟩:=AF ha uZ;rw[HV]at uY;have uY:dD k.l x.aN 0=some (je,q):=uY;rw[uY];have hS:=GF (p:=p) (m:=M) (i:=i) (o:=[]) uZ;have oV:=hgE e (Dd (NQ uZ).2.1);rcases hq.row with⟨fJ,r,YM,hr⟩|⟨YM,hqv,hqe⟩
   ·show match q.row with|some r=>_|none=>_
    rw[YM];obtain⟨ek,⟨elo,el⟩,eb⟩:=e;obtain⟨g0,n0,aNO,C0,F⟩:=r;obtain rfl:C0=elo:=hr.lo;obtain rfl:n0=el.length:=hr.n;have hF:∀a c,a<el.length->c<14->aK (F a c) (j9 el a c):=hr.f;have y1:0<el.length:=Nh.2 fJ;have hgl:C0<=el.length:=oV.le;have hgf:el.length<=200:=oV.Hi;obtain⟨q1,q2,_⟩:=FZ (pt:=bN p M i x) (lo:=C0) (n:=el.length) (l:=el) rfl hgl O BV oV.left;have hdn:=qA (lo:=C0) (l:=el) hv.1;have hdf:=qY (bN p M i x) C0 el
    cases C0 with
    |zero=>refine Af (I':=⟨[(7,.s (.d eO)),(1,vI M),(2,.s (.d (cZ (dA p Y LN)))),(3,.s (.ptr 3 0)),(8,dQ k.bm),(9,.s (.ptr 9 0)),(11,vI (dH p)),(12,vI i),(20,.s (.ptr 20 0)),(21,.s (.ptr 21 0)),(134,.g [.d (dI M),.d (dI i),.d (dS x.aN),.d (dI (bN p M i x).iZ),.d (dI (bN p M i x).gV),.d (dI 0),.d (dS (bs []))]),(138,.s (.own 138)),(51,vI p.aT.levels.length),(52,vI i),(97,iC xs),(98,vI xs.length),(99,vI j)],[(3,some (.cells (l0 p Y))),(9,some (.cells (kQ p))),(20,some (.cells [.d (dS x.aN),.d (dI x.cb),.d (dI x.bot)])),(21,some (.cells [.d (dI M),.d (dI i),.d (dS x.aN),.d (dI (bN p M i x).iZ),.d (dI (bN p M i x).gV),.d (dI 0),.d (dS (bs []))])),(138,some (.row 180 el.length 14 (j9 el)))]⟩) (H':=hid 180 14 {k with l:=cW k.l je}) (Za (ab [] lb rfl ⟨bQ,bQ,bQ,bQ,⟨rfl,Bc rfl hF⟩,oO⟩ Fa)) (Kb (rc:=[40]) aJ 6 J [3,9,20,21,138] rfl rfl ?_);refine⟨[(1001,138)],_,_,_,_,WL (bN p M i x) el el.length rfl O BV (λa ha=>oV.left a (Nat.zero_le _) ha),rfl,⟨rfl,oO⟩,rfl,?_⟩;refine mc (pb (Sc (Kb (rc:=[]) aJ 4 J [3,9,20,21,138] rfl rfl ?_)));refine Rc rfl (Xh (b:=138) (k:=x.aN) (n:=el.length) (n':=el.length-(cH (bN p M i x) (0) el).lo) (lo:=(cH (bN p M i x) (0) el).lo) J rfl rfl rfl rfl (.inr rfl) rfl y1 underlying122 underlying9 (λ_=>hit) (λgg cap v=>?_));apply mc;have pE:ZU ⟨gg,(cH (bN p M i x) (0) el).lo+(el.length-(cH (bN p M i x) (0) el).lo),cap,(cH (bN p M i x) (0) el).lo,j9 (cH (bN p M i x) (0) el).cur⟩ ((cH (bN p M i x) (0) el).lo,(cH (bN p M i x) (0) el).cur):=⟨rfl,by show _+_=(cH (bN p M i x) (0) el).cur.length;omega,by show _<=(cH (bN p M i x) (0) el).cur.length;omega,λa c _ _=>Ja _⟩;obtain⟨s1,s2,s3,s4⟩:=uN (v:=v) ha uY pE (by intro e0;have e0:(cH (bN p M i x) (0) el).cur=[]:=e0;rw[e0]at q2;have q2:0=el.length:=q2;omega);refine Pb (I':=B7 p Y M LN k.bm i xs j ([]) (cH (bN p M i x) (0) el).out) (by show HSub _ _ _ _ ⟨[(7,.s (.d eO)),(1,vI M),(2,.s (.d (cZ (dA p Y LN)))),(3,.s (.ptr 3 0)),(8,dQ k.bm),(9,.s (.ptr 9 0)),(11,vI (dH p)),(12,vI i),(23,iD (cH (bN p M i x) (0) el).out),(51,vI p.aT.levels.length),(52,vI i),(97,iC xs),(98,vI xs.length),(99,vI j)],[(3,some (.cells (l0 p Y))),(9,some (.cells (kQ p)))]⟩ _;exact Za (ab [] lb rfl Fa Fa)) ?_;exact uc
    |succ yY=>refine Af (I':=⟨[(7,.s (.d eO)),(1,vI M),(2,.s (.d (cZ (dA p Y LN)))),(3,.s (.ptr 3 0)),(8,dQ k.bm),(9,.s (.ptr 9 0)),(11,vI (dH p)),(12,vI i),(20,.s (.ptr 20 0)),(21,.s (.ptr 21 0)),(134,.g [.d (dI M),.d (dI i),.d (dS x.aN),.d (dI (bN p M i x).iZ),.d (dI (bN p M i x).gV),.d (dI 0),.d (dS (bs []))]),(138,.s (.j0 138 14 (yY+1) (el.length-(yY+1)))),(51,vI p.aT.levels.length),(52,vI i),(97,iC xs),(98,vI xs.length),(99,vI j)],[(3,some (.cells (l0 p Y))),(9,some (.cells (kQ p))),(20,some (.cells [.d (dS x.aN),.d (dI x.cb),.d (dI x.bot)])),(21,some (.cells [.d (dI M),.d (dI i),.d (dS x.aN),.d (dI (bN p M i x).iZ),.d (dI (bN p M i x).gV),.d (dI 0),.d (dS (bs []))])),(138,some (.row 180 el.length 14 (j9 el)))]⟩) (H':=hid 180 14 {k with l:=cW k.l je}) (Za (ab [] lb rfl ⟨bQ,bQ,bQ,bQ,⟨rfl,Bc rfl hF⟩,oO⟩ Fa)) (Kb (rc:=[40]) aJ 6 J [3,9,20,21,138] rfl rfl ?_);refine⟨[(1001,138)],_,_,_,_,aC5 (bN p M i x) el (yY+1) el.length rfl hgl O BV oV.left,rfl,⟨rfl,oO⟩,rfl,?_⟩;refine mc (pb (Sc (Kb (rc:=[]) aJ 4 J [3,9,20,21,138] rfl rfl ?_)));refine Rc rfl (Xh (b:=138) (k:=x.aN) (n:=el.length) (n':=el.length-(cH (bN p M i x) (yY+1) el).lo) (lo:=(cH (bN p M i x) (yY+1) el).lo) J rfl rfl rfl rfl (.inr rfl) rfl y1 underlying122 underlying9 (λ_=>hit) (λgg cap v=>?_));apply mc;have pE:ZU ⟨gg,(cH (bN p M i x) (yY+1) el).lo+(el.length-(cH (bN p M i x) (yY+1) el).lo),cap,(cH (bN p M i x) (yY+1) el).lo,j9 (cH (bN p M i x) (yY+1) el).cur⟩ ((cH (bN p M i x) (yY+1) el).lo,(cH (bN p M i x) (yY+1) el).cur):=⟨rfl,by show _+_=(cH (bN p M i x) (yY+1) el).cur.length;omega,by show _<=(cH (bN p M i x) (yY+1) el).cur.length;omega,λa c _ _=>Ja _⟩;obtain⟨s1,s2,s3,s4⟩:=uN (v:=v) ha uY pE (by intro e0;have e0:(cH (bN p M i x) (yY+1) el).cur=[]:=e0;rw[e0]at q2;have q2:0=el.length:=q2;omega);refine Pb (I':=B7 p Y M LN k.bm i xs j ([]) (cH (bN p M i x) (yY+1) el).out) (by show HSub _ _ _ _ ⟨[(7,.s (.d eO)),(1,vI M),(2,.s (.d (cZ (dA p Y LN)))),(3,.s (.ptr 3 0)),(8,dQ k.bm),(9,.s (.ptr 9 0)),(11,vI (dH p)),(12,vI i),(23,iD (cH (bN p M i x) (yY+1) el).out),(51,vI p.aT.levels.length),(52,vI i),(97,iC xs),(98,vI xs.length),(99,vI j)],[(3,some (.cells (l0 p Y))),(9,some (.cells (kQ p)))]⟩ _;exact Za (ab [] lb rfl Fa Fa)) ?_;exact uc
   show match q.row with|some r=>_|none=>_
   rw[YM];refine⟨hqv,?_⟩;obtain⟨ek,ex2,eb⟩:=e;obtain rfl:ex2=(0,[]):=hqe;obtain⟨s1,s2,s3,s4⟩:=O9 ha uY;rw[IH BV]at hS;refine Kb (rc:=[]) aJ 6 J [3,9,20,21] rfl rfl (aB (F1 (bN p M i x) BV) ?_);refine mc (pb (Sc (Kb (rc:=[]) aJ 4 J [3,9,20,21] rfl rfl ?_)));refine Rc rfl (oo (k:=x.aN) (h:=k) rfl rfl rfl rfl rfl underlying122 underlying9 (λ_=>hit) ?_);refine mc (Pb (I':=B7 p Y M LN k.bm i xs j ([]) (cH (bN p M i x) 0 []).out) zez ?_);exact jh
 |cons py po=>
  show bS prog R _ _ ⟨[(7,.s (.own 100)),(1,vI M),(2,.s (.d (cZ (dA p Y LN)))),(3,.s (.ptr 3 0)),(8,dQ k.bm),(9,.s (.ptr 9 0)),(11,vI (dH p)),(12,vI i),(20,.s (.ptr 20 0)),(21,.s (.ptr 21 0)),(51,vI p.aT.levels.length),(52,vI i),(97,iC xs),(98,vI xs.length),(99,vI j)],[(3,some (.cells (l0 p Y))),(9,some (.cells (kQ p))),(100,some (.row 82 (py::po).length 7 (eJ (py::po)))),(20,some (.cells [.d (dS x.aN),.d (dI x.cb),.d (dI x.bot)])),(21,some (.cells [.d (dI M),.d (dI i),.d (dS x.aN),.d (dI (bN p M i x).iZ),.d (dI (bN p M i x).gV),.d (dI 0),.d (dS (bs []))]))]⟩ (hid 180 14 k) _;refine pb (Sc (Kb (rc:=[]) aJ 4 J [3,9,100,20,21] rfl rfl ?_));refine Rc rfl (Vl (k:=x.aN) (h:=k) rfl rfl dC rfl rfl rfl underlying122 underlying9 zeroValue135 ?_)
  cases uZ:fP E1 x.aN.data.toList 0 with
  |none=>have uY:=AG ha uZ;rw[HV]at uY;rw[uY];obtain⟨s1,s2,s3,s4⟩:=PA ha jL uY;have hS:=GG (p:=p) (m:=M) (i:=i) (o:=py::po) uZ BV;refine Kb (rc:=[]) aJ 6 J [3,9,100,20,21] rfl rfl (aB (F1 (bN p M i x) BV) ?_);refine mc (pb (Sc (Kb (rc:=[]) aJ 4 J [3,9,100,20,21] rfl rfl ?_)));refine Rc rfl (oo (k:=x.aN) (h:=k) rfl rfl rfl rfl rfl underlying122 underlying9 (λ_=>hit) ?_);refine mc (Pb (I':=B7 p Y M LN k.bm i xs j (py::po) (cH (bN p M i x) 0 []).out) zey ?_);exact jk
  |some pr=>
   obtain⟨je,e⟩:=pr;obtain⟨q,uY,hq⟩:=AF ha uZ;rw[HV]at uY;have uY:dD k.l x.aN 0=some (je,q):=uY;rw[uY];have hS:=GF (p:=p) (m:=M) (i:=i) (o:=py::po) uZ;have oV:=hgE e (Dd (NQ uZ).2.1);rcases hq.row with⟨fJ,r,YM,hr⟩|⟨YM,hqv,hqe⟩
   ·show match q.row with|some r=>_|none=>_
    rw[YM];obtain⟨ek,⟨elo,el⟩,eb⟩:=e;obtain⟨g0,n0,aNO,C0,F⟩:=r;obtain rfl:C0=elo:=hr.lo;obtain rfl:n0=el.length:=hr.n;have hF:∀a c,a<el.length->c<14->aK (F a c) (j9 el a c):=hr.f;have y1:0<el.length:=Nh.2 fJ;have hgl:C0<=el.length:=oV.le;have hgf:el.length<=200:=oV.Hi;obtain⟨q1,q2,_⟩:=FZ (pt:=bN p M i x) (lo:=C0) (n:=el.length) (l:=el) rfl hgl O BV oV.left;have hdn:=qA (lo:=C0) (l:=el) hv.1;have hdf:=qY (bN p M i x) C0 el
    cases C0 with
    |zero=>refine Af (I':=⟨[(7,.s (.own 100)),(1,vI M),(2,.s (.d (cZ (dA p Y LN)))),(3,.s (.ptr 3 0)),(8,dQ k.bm),(9,.s (.ptr 9 0)),(11,vI (dH p)),(12,vI i),(20,.s (.ptr 20 0)),(21,.s (.ptr 21 0)),(134,.g [.d (dI M),.d (dI i),.d (dS x.aN),.d (dI (bN p M i x).iZ),.d (dI (bN p M i x).gV),.d (dI 0),.d (dS (bs []))]),(138,.s (.own 138)),(51,vI p.aT.levels.length),(52,vI i),(97,iC xs),(98,vI xs.length),(99,vI j)],[(3,some (.cells (l0 p Y))),(9,some (.cells (kQ p))),(100,some (.row 82 (py::po).length 7 (eJ (py::po)))),(20,some (.cells [.d (dS x.aN),.d (dI x.cb),.d (dI x.bot)])),(21,some (.cells [.d (dI M),.d (dI i),.d (dS x.aN),.d (dI (bN p M i x).iZ),.d (dI (bN p M i x).gV),.d (dI 0),.d (dS (bs []))])),(138,some (.row 180 el.length 14 (j9 el)))]⟩) (H':=hid 180 14 {k with l:=cW k.l je}) (Za (ab [] lb rfl ⟨bQ,bQ,bQ,bQ,bQ,⟨rfl,Bc rfl hF⟩,oO⟩ Fa)) (Kb (rc:=[40]) aJ 6 J [3,9,100,20,21,138] rfl rfl ?_);refine⟨[(1001,138)],_,_,_,_,WL (bN p M i x) el el.length rfl O BV (λa ha=>oV.left a (Nat.zero_le _) ha),rfl,⟨rfl,oO⟩,rfl,?_⟩;refine mc (pb (Sc (Kb (rc:=[]) aJ 4 J [3,9,100,20,21,138] rfl rfl ?_)));refine Rc rfl (Xh (b:=138) (k:=x.aN) (n:=el.length) (n':=el.length-(cH (bN p M i x) (0) el).lo) (lo:=(cH (bN p M i x) (0) el).lo) J rfl rfl rfl rfl (.inr rfl) rfl y1 underlying122 underlying9 (λ_=>hit) (λgg cap v=>?_));apply mc;have pE:ZU ⟨gg,(cH (bN p M i x) (0) el).lo+(el.length-(cH (bN p M i x) (0) el).lo),cap,(cH (bN p M i x) (0) el).lo,j9 (cH (bN p M i x) (0) el).cur⟩ ((cH (bN p M i x) (0) el).lo,(cH (bN p M i x) (0) el).cur):=⟨rfl,by show _+_=(cH (bN p M i x) (0) el).cur.length;omega,by show _<=(cH (bN p M i x) (0) el).cur.length;omega,λa c _ _=>Ja _⟩;obtain⟨s1,s2,s3,s4⟩:=uN (v:=v) ha uY pE (by intro e0;have e0:(cH (bN p M i x) (0) el).cur=[]:=e0;rw[e0]at q2;have q2:0=el.length:=q2;omega);refine Pb (I':=B7 p Y M LN k.bm i xs j (py::po) (cH (bN p M i x) (0) el).out) (by show HSub _ _ _ _ ⟨[(7,.s (.own 100)),(1,vI M),(2,.s (.d (cZ (dA p Y LN)))),(3,.s (.ptr 3 0)),(8,dQ k.bm),(9,.s (.ptr 9 0)),(11,vI (dH p)),(12,vI i),(23,iD (cH (bN p M i x) (0) el).out),(51,vI p.aT.levels.length),(52,vI i),(97,iC xs),(98,vI xs.length),(99,vI j)],[(3,some (.cells (l0 p Y))),(9,some (.cells (kQ p))),(100,some (.row 82 (py::po).length 7 (eJ (py::po))))]⟩ _;exact Za (ab [] lb rfl Fa Fa)) ?_;exact uc
    |succ yY=>refine Af (I':=⟨[(7,.s (.own 100)),(1,vI M),(2,.s (.d (cZ (dA p Y LN)))),(3,.s (.ptr 3 0)),(8,dQ k.bm),(9,.s (.ptr 9 0)),(11,vI (dH p)),(12,vI i),(20,.s (.ptr 20 0)),(21,.s (.ptr 21 0)),(134,.g [.d (dI M),.d (dI i),.d (dS x.aN),.d (dI (bN p M i x).iZ),.d (dI (bN p M i x).gV),.d (dI 0),.d (dS (bs []))]),(138,.s (.j0 138 14 (yY+1) (el.length-(yY+1)))),(51,vI p.aT.levels.length),(52,vI i),(97,iC xs),(98,vI xs.length),(99,vI j)],[(3,some (.cells (l0 p Y))),(9,some (.cells (kQ p))),(100,some (.row 82 (py::po).length 7 (eJ (py::po)))),(20,some (.cells [.d (dS x.aN),.d (dI x.cb),.d (dI x.bot)])),(21,some (.cells [.d (dI M),.d (dI i),.d (dS x.aN),.d (dI (bN p M i x).iZ),.d (dI (bN p M i x).gV),.d (dI 0),.d (dS (bs []))])),(138,some (.row 180 el.length 14 (j9 el)))]⟩) (H':=hid 180 14 {k with l:=cW k.l je}) (Za (ab [] lb rfl ⟨bQ,bQ,bQ,bQ,bQ,⟨rfl,Bc rfl hF⟩,oO⟩ Fa)) (Kb (rc:=[40]) aJ 6 J [3,9,100,20,21,138] rfl rfl ?_);refine⟨[(1001,138)],_,_,_,_,aC5 (bN p M i x) el (yY+1) el.length rfl hgl O BV oV.left,rfl,⟨rfl,oO⟩,rfl,?_⟩;refine mc (pb (Sc (Kb (rc:=[]) aJ 4 J [3,9,100,20,21,138] rfl rfl ?_)));refine Rc rfl (Xh (b:=138) (k:=x.aN) (n:=el.length) (n':=el.length-(cH (bN p M i x) (yY+1) el).lo) (lo:=(cH (bN p M i x) (yY+1) el).lo) J rfl rfl rfl rfl (.inr rfl) rfl y1 underlying122 underlying9 (λ_=>hit) (λgg cap v=>?_));apply mc;have pE:ZU ⟨gg,(cH (bN p M i x) (yY+1) el).lo+(el.length-(cH (bN p M i x) (yY+1) el).lo),cap,(cH (bN p M i x) (yY+1) el).lo,j9 (cH (bN p M i x) (yY+1) el).cur⟩ ((cH (bN p M i x) (yY+1) el).lo,(cH (bN p M i x) (yY+1) el).cur):=⟨rfl,by show _+_=(cH (bN p M i x) (yY+1) el).cur.length;omega,by show _<=(cH (bN p M i x) (yY+1) el).cur.length;omega,λa c _ _=>Ja _⟩;obtain⟨s1,s2,s3,s4⟩:=uN (v:=v) ha uY pE (by intro e0;have e0:(cH (bN p M i x) (yY+1) el).cur=[]:=e0;rw[e0]at q2;have q2:0=el.length:=q2;omega);refine Pb (I':=B7 p Y M LN k.bm i xs j (py::po) (cH (bN p M i x) (yY+1) el).out) (by show HSub _ _ _ _ ⟨[(7,.s (.own 100)),(1,vI M),(2,.s (.d (cZ (dA p Y LN)))),(3,.s (.ptr 3 0)),(8,dQ k.bm),(9,.s (.ptr 9 0)),(11,vI (dH p)),(12,vI i),(23,iD (cH (bN p M i x) (yY+1) el).out),(51,vI p.aT.levels.length),(52,vI i),(97,iC xs),(98,vI xs.length),(99,vI j)],[(3,some (.cells (l0 p Y))),(9,some (.cells (kQ p))),(100,some (.row 82 (py::po).length 7 (eJ (py::po))))]⟩ _;exact Za (ab [] lb rfl Fa Fa)) ?_;exact uc
   show match q.row with|some r=>_|none=>_
   rw[YM];refine⟨hqv,?_⟩;obtain⟨ek,ex2,eb⟩:=e;obtain rfl:ex2=(0,[]):=hqe;obtain⟨s1,s2,s3,s4⟩:=O9 ha uY;rw[IH BV]at hS;refine Kb (rc:=[]) aJ 6 J [3,9,100,20,21] rfl rfl (aB (F1 (bN p M i x) BV) ?_);refine mc (pb (Sc (Kb (rc:=[]) aJ 4 J [3,9,100,20,21] rfl rfl ?_)));refine Rc rfl (oo (k:=x.aN) (h:=k) rfl rfl rfl rfl rfl underlying122 underlying9 (λ_=>hit) ?_);refine mc (Pb (I':=B7 p Y M LN k.bm i xs j (py::po) (cH (bN p M i x) 0 []).out) zey ?_);exact jh
def aE8{p:Proj}{Y:List Fact}{M LN i j:Nat}{xs:List Part}{o:List Oa}{E1:List mF}{k:HM}{R:Cx}{X:St->Hid->Prop}{K:Exit->St->Hid->Prop}(J:R.ref=[])(hv:PV p)(YI:∀x∈xs,AQ x)(hxl:xs.length<=12)(hi:i<p.aT.levels.length)(hj:j<=xs.length)
  (ha:mG k.l E1) (jL:k.clock=E1.length) (hit:k.it=none) (jA:D5 (E1,o) 1000000)
  (hX:j<xs.length->∀aa k2,mG k2.l (oN p M i (E1,o) (xs.getD j default)).1->k2.clock=(oN p M i (E1,o) (xs.getD j default)).1.length->k2.it=none->HSub R f15.ntmps aa (hid 180 14 k2) (xM p Y M LN k2.bm i xs (j+1) (oN p M i (E1,o) (xs.getD j default)).2) (hid 180 14 k2)->X aa (hid 180 14 k2))
  (hE:j=xs.length->∀v,K (.exit 2) (o9 (xM p Y M LN k.bm i xs j o) 100 v) (hid 180 14 k)):
  bS prog R f15.ntmps (ng f15.body [1,1,1,1,1,0,1,2,2,1,1,0,2,1,1,1,1,1,1,2,2]) (xM p Y M LN k.bm i xs j o) (hid 180 14 k) (rO X K):=by
 have HW:o.length<=1000000:=jA.2
 have kB:=hv.cells
 cases o with
 |nil=>
  show bS prog R _ _ ⟨[(7,.s (.d eO)),(1,vI M),(2,.s (.d (cZ (dA p Y LN)))),(3,.s (.ptr 3 0)),(8,dQ k.bm),(9,.s (.ptr 9 0)),(11,vI (dH p)),(12,vI i),(51,vI p.aT.levels.length),(52,vI i),(97,iC xs),(98,vI xs.length),(99,vI j)],[(3,some (.cells (l0 p Y))),(9,some (.cells (kQ p)))]⟩ (hid 180 14 k) _;refine sA J [3,9] λ_ h'=>pb (Nc ?_)
  refine aI (λg=>gd ?_) (λg=>Oe ?_)
  ·have g:(j:Int)<xs.length:=bG g;have qR:j<xs.length:=O;have hxo:=YI _ (bP qR);have hX:=hX qR;generalize hx0:xs.getD j default=x at hX hxo;have hvo:=BK (m:=M) (i:=i) hv hxo;have hpt:(bN p M i x).iZ=aW (aW (x.cb-x.bot)*dH p):=rfl;refine pb (od ?_);refine sA J [3,9] λ_ h'=>oi (show(0:Int)<=(j:Int)/\(j:Int)<(xs.length:Int) by omega) (sA J [3,9,20] λ_ h'=>?_)
   refine th (I':=⟨[(7,.s (.d eO)),(1,vI M),(2,.s (.d (cZ (dA p Y LN)))),(3,.s (.ptr 3 0)),(8,dQ k.bm),(9,.s (.ptr 9 0)),(11,vI (dH p)),(12,vI i),(20,.s (.ptr 20 0)),(21,.s (.ptr 21 0)),(51,vI p.aT.levels.length),(52,vI i),(97,iC xs),(98,vI xs.length),(99,vI j)],[(3,some (.cells (l0 p Y))),(9,some (.cells (kQ p))),(20,some (.cells [.d (dS x.aN),.d (dI x.cb),.d (dI x.bot)])),(21,some (.cells [.d (dI M),.d (dI i),.d (dS x.aN),.d (dI (bN p M i x).iZ),.d (dI (bN p M i x).gV),.d (dI 0),.d (dS (bs []))]))]⟩) (H':=hid 180 14 k) ?_ ?_
   ·refine sA J [3,9,20,21] λ_ h'=>?_
    refine oi (show(0:Int)<=(i:Int)/\(i:Int)<(((mM p.chan p.aT p.chan.over).levels.length:Nat):Int) by rw[E6];omega) ?_;refine sA J [3,9,20,21] λ_ h'=>Nc (aI (λg2=>?_) (λg2=>gd ?_))
    ·have g2:(P2 p i !=30000)=true:=g2;have hpd:(bN p M i x).gV=aW (mm true 0 (aW (x.cb-mm true x.bot (P2 p i)))*dH p):=by unfold bN;rw[g2];rfl
     exact eA J [3,9,20,21] λ_ h'=>ka
    have g2:(P2 p i !=30000)=false:=g2;have hpd:(bN p M i x).gV=0:=by unfold bN;rw[g2];rfl
    exact ka
   exact VV J ha jL hit jA.1 hvo HW O hX
  exact zdW
 |cons py po=>
  show bS prog R _ _ ⟨[(7,.s (.own 100)),(1,vI M),(2,.s (.d (cZ (dA p Y LN)))),(3,.s (.ptr 3 0)),(8,dQ k.bm),(9,.s (.ptr 9 0)),(11,vI (dH p)),(12,vI i),(51,vI p.aT.levels.length),(52,vI i),(97,iC xs),(98,vI xs.length),(99,vI j)],[(3,some (.cells (l0 p Y))),(9,some (.cells (kQ p))),(100,some (.row 82 (py::po).length 7 (eJ (py::po))))]⟩ (hid 180 14 k) _;refine sA J [3,9,100] λ_ h'=>pb (Nc ?_)
  refine aI (λg=>gd ?_) (λg=>Oe ?_)
  ·have g:(j:Int)<xs.length:=bG g;have qR:j<xs.length:=O;have hxo:=YI _ (bP qR);have hX:=hX qR;generalize hx0:xs.getD j default=x at hX hxo;have hvo:=BK (m:=M) (i:=i) hv hxo;have hpt:(bN p M i x).iZ=aW (aW (x.cb-x.bot)*dH p):=rfl;refine pb (od ?_);refine sA J [3,9,100] λ_ h'=>oi (show(0:Int)<=(j:Int)/\(j:Int)<(xs.length:Int) by omega) (sA J [3,9,100,20] λ_ h'=>?_)
   refine th (I':=⟨[(7,.s (.own 100)),(1,vI M),(2,.s (.d (cZ (dA p Y LN)))),(3,.s (.ptr 3 0)),(8,dQ k.bm),(9,.s (.ptr 9 0)),(11,vI (dH p)),(12,vI i),(20,.s (.ptr 20 0)),(21,.s (.ptr 21 0)),(51,vI p.aT.levels.length),(52,vI i),(97,iC xs),(98,vI xs.length),(99,vI j)],[(3,some (.cells (l0 p Y))),(9,some (.cells (kQ p))),(100,some (.row 82 (py::po).length 7 (eJ (py::po)))),(20,some (.cells [.d (dS x.aN),.d (dI x.cb),.d (dI x.bot)])),(21,some (.cells [.d (dI M),.d (dI i),.d (dS x.aN),.d (dI (bN p M i x).iZ),.d (dI (bN p M i x).gV),.d (dI 0),.d (dS (bs []))]))]⟩) (H':=hid 180 14 k) ?_ ?_
   ·refine sA J [3,9,100,20,21] λ_ h'=>?_
    refine oi (show(0:Int)<=(i:Int)/\(i:Int)<(((mM p.chan p.aT p.chan.over).levels.length:Nat):Int) by rw[E6];omega) ?_;refine sA J [3,9,100,20,21] λ_ h'=>Nc (aI (λg2=>?_) (λg2=>gd ?_))
    ·have g2:(P2 p i !=30000)=true:=g2;have hpd:(bN p M i x).gV=aW (mm true 0 (aW (x.cb-mm true x.bot (P2 p i)))*dH p):=by unfold bN;rw[g2];rfl
     exact eA J [3,9,100,20,21] λ_ h'=>jz
    have g2:(P2 p i !=30000)=false:=g2;have hpd:(bN p M i x).gV=0:=by unfold bN;rw[g2];rfl
    exact jz
   exact VV J ha jL hit jA.1 hvo HW O hX
  exact zdW
def PQ{p:Proj}{Y:List Fact}{M LN i j:Nat}{xs:List Part}{s0:PS}{k:HM}{R:Cx}{X:St->Hid->Prop}{K:Exit->St->Hid->Prop}(J:R.ref=[])(hv:PV p)(YI:∀x∈xs,AQ x)(hxl:xs.length<=12)(hi:i<p.aT.levels.length)(hJ:JI p M i s0 xs (j,k))
  (hXo:∀aa k2,JI p M i s0 xs (xs.length,k2)->HSub R f15.ntmps aa (hid 180 14 k2) (IU p Y M LN k2.bm (i+1) (MN p M i s0 xs xs.length).2) (hid 180 14 k2)->X aa (hid 180 14 k2)):
  bS prog R f15.ntmps (ng f15.body [1,1,1,1,1,0,1,2,2,1,1,0,2,1,1,1,1,1,1,2,2]) (xM p Y M LN k.bm i xs j (MN p M i s0 xs j).2) (hid 180 14 k) (rO (λI' H'=>∃s',JI p M i s0 xs s'/\xs.length-s'.1<xs.length-j/\HSub R f15.ntmps I' H' (xM p Y M LN s'.2.bm i xs s'.1 (MN p M i s0 xs s'.1).2) (hid 180 14 s'.2))
   (AN 2 (AN 1 (rO (λs H=>bS prog R f15.ntmps (ng f15.body [1,1,1,1,1,0,1,2,2,1,1,1]) s H (rO X K)) (rO X K))))):=by
 obtain⟨hj,ha,jL,hit,jA⟩:=hJ
 have hj:j<=xs.length:=hj
 have ha:mG k.l (MN p M i s0 xs j).1:=ha
 have jL:k.clock=(MN p M i s0 xs j).1.length:=jL
 have hit:k.it=none:=hit
 have jA:D5 (MN p M i s0 xs j) (i*2412+j*201):=jA
 have kB:=hv.cells
 have ew:aW ((i:Int)+1)=((i+1:Nat):Int):=aG O O
 have hpI:=@aBF p M i s0 xs j
 generalize hqs:MN p M i s0 xs j=qs at ha jL jA hpI
 obtain⟨E1,o1⟩:=qs
 refine aE8 (E1:=E1) (o:=o1) J hv YI hxl hi hj ha jL hit (jA.more O) (λhj2 aa k2 p1 p2 p3 p4=>?_) (λhjx v=>?_)
 ·have hpI:=hpI hj2;have hvo:=BK (m:=M) (i:=i) hv (YI _ (bP hj2));have aL9:=KN (m:=M) (i:=i) (x:=xs.getD j default) jA ⟨O,hvo.2⟩;rw[<-hpI]at p1 p2 p4 aL9;exact⟨(j+1,k2),⟨hj2,p1,p2,p3,aL9.more (by show i*2412+j*201+201<=i*2412+(j+1)*201;omega)⟩,by show xs.length-(j+1)<xs.length-j;omega,p4⟩
 ·subst hjx
  cases o1 with
  |nil=>
   show bS prog R _ _ (o9 ⟨[(7,.s (.d eO)),(1,vI M),(2,.s (.d (cZ (dA p Y LN)))),(3,.s (.ptr 3 0)),(8,dQ k.bm),(9,.s (.ptr 9 0)),(11,vI (dH p)),(12,vI i),(51,vI p.aT.levels.length),(52,vI i),(97,iC xs),(98,vI xs.length),(99,vI xs.length)],[(3,some (.cells (l0 p Y))),(9,some (.cells (kQ p)))]⟩ 100 v) (hid 180 14 k) _;refine eA J [3,9] λ_ h'=>?_
   refine hXo _ k ⟨mb _,by rw[hqs];exact ha,by rw[hqs];exact jL,hit,by rw[hqs];exact jA⟩ ?_;rw[hqs];show HSub _ _ _ _ ⟨[(7,.s (.d eO)),(1,vI M),(2,.s (.d (cZ (dA p Y LN)))),(3,.s (.ptr 3 0)),(8,dQ k.bm),(9,.s (.ptr 9 0)),(11,vI (dH p)),(51,vI p.aT.levels.length),(52,vI (i+1:Nat))],[(3,some (.cells (l0 p Y))),(9,some (.cells (kQ p)))]⟩ _;exact zbk
  |cons py po=>
   show bS prog R _ _ (o9 ⟨[(7,.s (.own 100)),(1,vI M),(2,.s (.d (cZ (dA p Y LN)))),(3,.s (.ptr 3 0)),(8,dQ k.bm),(9,.s (.ptr 9 0)),(11,vI (dH p)),(12,vI i),(51,vI p.aT.levels.length),(52,vI i),(97,iC xs),(98,vI xs.length),(99,vI xs.length)],[(3,some (.cells (l0 p Y))),(9,some (.cells (kQ p))),(100,some (.row 82 (py::po).length 7 (eJ (py::po))))]⟩ 100 v) (hid 180 14 k) _;refine eA J [3,9,100] λ_ h'=>?_
   refine hXo _ k ⟨mb _,by rw[hqs];exact ha,by rw[hqs];exact jL,hit,by rw[hqs];exact jA⟩ ?_;rw[hqs];show HSub _ _ _ _ ⟨[(7,.s (.own 100)),(1,vI M),(2,.s (.d (cZ (dA p Y LN)))),(3,.s (.ptr 3 0)),(8,dQ k.bm),(9,.s (.ptr 9 0)),(11,vI (dH p)),(51,vI p.aT.levels.length),(52,vI (i+1:Nat))],[(3,some (.cells (l0 p Y))),(9,some (.cells (kQ p))),(100,some (.row 82 (py::po).length 7 (eJ (py::po))))]⟩ _;exact zba
def iz(p:Proj)(Y:List Fact)(M LN:Nat)(hp:p.fits)(hv:PV p)(hS:nj p Y)(hn:ZR Y M)(hM:1<=M/\M<=24)(hL0:M<LN)(jO:∀e∈qD (Rm.kU (iM p (j8 Y M) (j8 Y M).length).1 M (iM p (j8 Y M) (j8 Y M).length).1.length),wB e.2.1):
  aF prog 15 [SR p Y,vI M,.s (.d (cZ (dA p Y LN)))] (iD (G3 p Y M)):=by
 have hR:=Rm.aKV p Y M hp hv hS.len hn
 have hT:=H8 p.chan p.aT hp.chan (wx hv.gv)
 rw[hv.rK p.chan.over]at hT
 generalize hL:(iM p (j8 Y M) (j8 Y M).length).1=L at hR jO
 have hpc:G3 p Y M=(EE p Y M (qD (Rm.kU L M L.length)) p.aT.levels.length).2:=by unfold G3 EE;rw[hL]
 rw[hpc]
 refine eW func15 rfl rfl call15 rfl rfl (λR J=>Gj ?_)
 refine sA J [] λ_ h'=>?_
 refine sA J [3] λ_ h'=>?_
 refine pb (Sc (Kb (rc:=[]) aJ 2 J [3] rfl rfl (Rc rfl (n9.aNQ (ars:=[SR p Y,vI M]) rfl rfl dC rfl rfl hR ?_))))
 rintro x H ⟨h,rfl,rfl,ha,jL,hit⟩
 refine Kb (rc:=[]) aJ 1 J [3] rfl rfl (mc ?_)
 refine sA J [3] λ_ h'=>?_
 apply aB hT
 refine sA J [3,9] λ_ h'=>?_
 refine pb (sA J [3,9] λ_ h'=>?_)
 apply od
 have ha:=mG.of ha
 have jL:h.clock=(qD (Rm.kU L M L.length)).length:=by rw[jL];unfold qD;rw[bg]
 generalize qD (Rm.kU L M L.length)=E at ha jL jO
 refine Hg (S:=Nat×HM) (λs=>IU p Y M LN s.2.bm s.1 (EE p Y M E s.1).2) (λs=>hid 180 14 s.2) (JC p Y M E) (λs=>p.aT.levels.length-s.1) (0,h) ⟨Nat.zero_le _,ha,jL,hit,jO,Nat.zero_le _⟩ ?_ ?_
 ·exact Za (ab [] lb rfl Fa Fa)
 ·rintro⟨i,h⟩ ⟨hi,ha,jL,hit,jA⟩
  have hi:i<=p.aT.levels.length:=hi
  have ha:mG h.l (EE p Y M E i).1:=ha
  have jL:h.clock=(EE p Y M E i).1.length:=jL
  have hit:h.it=none:=hit
  have jA:D5 (EE p Y M E i) (i*2412):=jA
  obtain⟨hM1,hM2⟩:=hM
  have ew:aW ((i:Int)+1)=((i+1:Nat):Int):=by have:=hv.cells;exact aG O O
  have kB:=hv.cells
  have aL7:=hv.bB
  have eM:aW ((M:Int)-1)=((M-1:Nat):Int):=by rw[aG O O];omega
  have eMn:(aW ((M:Int)-1)).toNat=M-1:=by rw[eM];omega
  show bS prog R _ _ (IU p Y M LN h.bm i (EE p Y M E i).2) (hid 180 14 h) _
  generalize hps:EE p Y M E i=ps at ha jL jA
  obtain⟨E0,out⟩:=ps
  cases out with
  |nil=>
   refine sA J [3,9] λ_ h'=>?_
   refine pb (Nc ?_)
   refine aI (λg=>gd ?_) (λg=>Oe ?_)
   ·have g:(i:Int)<p.aT.levels.length:=bG g
    have bC:i<p.aT.levels.length:=O
    refine pb (od ?_)
    refine sA J [3,9] λ_ h'=>?_
    refine sA J [3,9] λ_ h'=>?_
    refine oi (show 0<=aW ((M:Int)-1)/\aW ((M:Int)-1)<((dA p Y LN).length:Int) by rw[eM,mE];omega) ?_
    refine oi (show(0:Int)<=(i:Int)/\(i:Int)<((((dA p Y LN).getD (aW ((M:Int)-1)).toNat default).levels.length:Nat):Int) by rw[eMn,mK O];show(0:Int)<=(i:Int)/\(i:Int)<((lE p Y (M-1)).length:Int);unfold lE;simp;omega) ?_
    refine oi (show(0:Int)<=(M:Int)/\(M:Int)<((dA p Y LN).length:Int) by rw[mE];omega) ?_
    refine oi (show(0:Int)<=(i:Int)/\(i:Int)<((((dA p Y LN).getD (M:Int).toNat default).levels.length:Nat):Int) by rw[show(M:Int).toNat=M from rfl,mK O];show(0:Int)<=(i:Int)/\(i:Int)<((lE p Y M).length:Int);unfold lE;simp;omega) ?_
    refine aD ?_
    have e1:((dA p Y LN).getD (aW ((M:Int)-1)).toNat default).levels.getD i 0=iL p Y (M-1) i:=by
     rw[eMn,mK O];exact uS bC
    have e2:((dA p Y LN).getD (M:Int).toNat default).levels.getD i 0=iL p Y M i:=by
     exact zdU
    generalize hfr:iL p Y (M-1) i=fr at e1
    generalize ER:iL p Y M i=tt at e2
    have jO:EE p Y M E (i+1)=wZ p Y M (E0,[]) i:=by rw[GY,hps]
    refine Pb (I':=⟨[(7,.s (.d eO)),(1,vI M),(2,.s (.d (cZ (dA p Y LN)))),(3,.s (.ptr 3 0)),(8,dQ h.bm),(9,.s (.ptr 9 0)),(11,vI (dH p)),(12,vI i),(13,vI fr),(14,vI tt),(51,vI p.aT.levels.length),(52,vI i)],[(3,some (.cells (l0 p Y))),(9,some (.cells (kQ p)))]⟩) (Za (ab [] lb rfl Fa ⟨Z,Z,Z,Z,Z,Z,Z,Z,⟨rfl,Ra e1⟩,⟨rfl,Ra e2⟩,Fa⟩)) ?_
    refine pb (sA J [3,9] λ_ h'=>?_)
    repeat refine aR ?_
    apply Nc
    refine aI (λh2=>Oe ?_) (λh2=>gd ?_)
    ·have h2:(fr==30000||decide (tt>=fr))=true:=h2
     have z1:EE p Y M E (i+1)=(E0,[]):=by rw[jO];unfold wZ;rw[hfr,ER,h2];rfl
     refine eA J [3,9] λ_ h'=>?_
     refine⟨(i+1,h),⟨by show i+1<=p.aT.levels.length;omega,by rw[z1];exact ha,by rw[z1];exact jL,hit,by rw[z1];exact jA.more (by show i*2412<=(i+1)*2412;omega)⟩,by show p.aT.levels.length-(i+1)<p.aT.levels.length-i;omega,?_⟩
     show HSub _ _ _ _ (IU p Y M LN h.bm (i+1) (EE p Y M E (i+1)).2) _
     rw[z1]
     show HSub _ _ _ _ ⟨[(7,.s (.d eO)),(1,vI M),(2,.s (.d (cZ (dA p Y LN)))),(3,.s (.ptr 3 0)),(8,dQ h.bm),(9,.s (.ptr 9 0)),(11,vI (dH p)),(51,vI p.aT.levels.length),(52,vI (i+1:Nat))],[(3,some (.cells (l0 p Y))),(9,some (.cells (kQ p)))]⟩ _
     exact zbk
    ·have h2:(fr==30000||decide (tt>=fr))=false:=h2
     refine sA J [3,9] λ_ h'=>?_
     refine aB (OD p.aT i hv.aT O O O) ?_
     refine sA J [3,9,15] λ_ h'=>?_
     refine aB (aD9 p.gr (dP p.aT i) fr tt hp.gr aL7) ?_
     have z1:EE p Y M E (i+1)=(vP p.gr (dP p.aT i) fr tt).foldl (oN p M i) (E0,[]):=by rw[jO];unfold wZ;rw[hfr,ER,h2];rfl
     have YI:∀x∈vP p.gr (dP p.aT i) fr tt,AQ x:=λx hx=>D7 hx
     have hxl:=I6 (c:=dP p.aT i) (hi:=fr) (lo:=tt) hv
     generalize vP p.gr (dP p.aT i) fr tt=xs at z1 YI hxl
     refine sA J [3,9,15] λ_ h'=>?_
     apply od
     refine Hg (S:=Nat×HM) (λs=>xM p Y M LN s.2.bm i xs s.1 (MN p M i (E0,[]) xs s.1).2) (λs=>hid 180 14 s.2) (JI p M i (E0,[]) xs) (λs=>xs.length-s.1) (0,h) ⟨Nat.zero_le _,ha,jL,hit,jA⟩ ?_ ?_
     ·show HSub _ _ _ _ ⟨[(7,.s (.d eO)),(1,vI M),(2,.s (.d (cZ (dA p Y LN)))),(3,.s (.ptr 3 0)),(8,dQ h.bm),(9,.s (.ptr 9 0)),(11,vI (dH p)),(12,vI i),(51,vI p.aT.levels.length),(52,vI i),(97,iC xs),(98,vI xs.length),(99,vI (0:Nat))],[(3,some (.cells (l0 p Y))),(9,some (.cells (kQ p)))]⟩ _
      exact Za (ab [] lb rfl Fa Fa)
     ·rintro⟨j,k⟩ ⟨hj,ha',aI6,aI2,l7⟩
      refine PQ (p:=p) (Y:=Y) (M:=M) (j:=j) (k:=k) J hv YI hxl bC ⟨hj,ha',aI6,aI2,l7⟩ (λaa k2 hJ h2=>?_)
      have aIV:MN p M i (E0,[]) xs xs.length=EE p Y M E (i+1):=by rw[z1];unfold MN;rw[Vd]
      exact jl
   ·have g:¬(i:Int)<p.aT.levels.length:=bF g
    obtain rfl:i=p.aT.levels.length:=O
    refine sA J [3,9] λ_ h'=>?_
    apply Yi
    rw[hps]
    exact Fg Nd
  |cons px pr=>
   refine sA J [3,9,100] λ_ h'=>?_
   refine pb (Nc ?_)
   refine aI (λg=>gd ?_) (λg=>Oe ?_)
   ·have g:(i:Int)<p.aT.levels.length:=bG g
    have bC:i<p.aT.levels.length:=O
    refine pb (od ?_)
    refine sA J [3,9,100] λ_ h'=>?_
    refine sA J [3,9,100] λ_ h'=>?_
    refine oi (show 0<=aW ((M:Int)-1)/\aW ((M:Int)-1)<((dA p Y LN).length:Int) by rw[eM,mE];omega) ?_
    refine oi (show(0:Int)<=(i:Int)/\(i:Int)<((((dA p Y LN).getD (aW ((M:Int)-1)).toNat default).levels.length:Nat):Int) by rw[eMn,mK O];show(0:Int)<=(i:Int)/\(i:Int)<((lE p Y (M-1)).length:Int);unfold lE;simp;omega) ?_
    refine oi (show(0:Int)<=(M:Int)/\(M:Int)<((dA p Y LN).length:Int) by rw[mE];omega) ?_
    refine oi (show(0:Int)<=(i:Int)/\(i:Int)<((((dA p Y LN).getD (M:Int).toNat default).levels.length:Nat):Int) by rw[show(M:Int).toNat=M from rfl,mK O];show(0:Int)<=(i:Int)/\(i:Int)<((lE p Y M).length:Int);unfold lE;simp;omega) ?_
    refine aD ?_
    have e1:((dA p Y LN).getD (aW ((M:Int)-1)).toNat default).levels.getD i 0=iL p Y (M-1) i:=by
     rw[eMn,mK O];exact uS bC
    have e2:((dA p Y LN).getD (M:Int).toNat default).levels.getD i 0=iL p Y M i:=by
     exact zdU
    generalize hfr:iL p Y (M-1) i=fr at e1
    generalize ER:iL p Y M i=tt at e2
    have jO:EE p Y M E (i+1)=wZ p Y M (E0,px::pr) i:=by rw[GY,hps]
    refine Pb (I':=⟨[(7,.s (.own 100)),(1,vI M),(2,.s (.d (cZ (dA p Y LN)))),(3,.s (.ptr 3 0)),(8,dQ h.bm),(9,.s (.ptr 9 0)),(11,vI (dH p)),(12,vI i),(13,vI fr),(14,vI tt),(51,vI p.aT.levels.length),(52,vI i)],[(3,some (.cells (l0 p Y))),(9,some (.cells (kQ p))),(100,some (.row 82 (px::pr).length 7 (eJ (px::pr))))]⟩) (Za (ab [] lb rfl Fa ⟨Z,Z,Z,Z,Z,Z,Z,Z,⟨rfl,Ra e1⟩,⟨rfl,Ra e2⟩,Fa⟩)) ?_
    refine pb (sA J [3,9,100] λ_ h'=>?_)
    repeat refine aR ?_
    apply Nc
    refine aI (λh2=>Oe ?_) (λh2=>gd ?_)
    ·have h2:(fr==30000||decide (tt>=fr))=true:=h2
     have z1:EE p Y M E (i+1)=(E0,px::pr):=by rw[jO];unfold wZ;rw[hfr,ER,h2];rfl
     refine eA J [3,9,100] λ_ h'=>?_
     refine⟨(i+1,h),⟨by show i+1<=p.aT.levels.length;omega,by rw[z1];exact ha,by rw[z1];exact jL,hit,by rw[z1];exact jA.more (by show i*2412<=(i+1)*2412;omega)⟩,by show p.aT.levels.length-(i+1)<p.aT.levels.length-i;omega,?_⟩
     show HSub _ _ _ _ (IU p Y M LN h.bm (i+1) (EE p Y M E (i+1)).2) _
     rw[z1]
     show HSub _ _ _ _ ⟨[(7,.s (.own 100)),(1,vI M),(2,.s (.d (cZ (dA p Y LN)))),(3,.s (.ptr 3 0)),(8,dQ h.bm),(9,.s (.ptr 9 0)),(11,vI (dH p)),(51,vI p.aT.levels.length),(52,vI (i+1:Nat))],[(3,some (.cells (l0 p Y))),(9,some (.cells (kQ p))),(100,some (.row 82 (px::pr).length 7 (eJ (px::pr))))]⟩ _
     exact zba
    ·have h2:(fr==30000||decide (tt>=fr))=false:=h2
     refine sA J [3,9,100] λ_ h'=>?_
     refine aB (OD p.aT i hv.aT O O O) ?_
     refine sA J [3,9,100,15] λ_ h'=>?_
     refine aB (aD9 p.gr (dP p.aT i) fr tt hp.gr aL7) ?_
     have z1:EE p Y M E (i+1)=(vP p.gr (dP p.aT i) fr tt).foldl (oN p M i) (E0,px::pr):=by rw[jO];unfold wZ;rw[hfr,ER,h2];rfl
     have YI:∀x∈vP p.gr (dP p.aT i) fr tt,AQ x:=λx hx=>D7 hx
     have hxl:=I6 (c:=dP p.aT i) (hi:=fr) (lo:=tt) hv
     generalize vP p.gr (dP p.aT i) fr tt=xs at z1 YI hxl
     refine sA J [3,9,100,15] λ_ h'=>?_
     apply od
     refine Hg (S:=Nat×HM) (λs=>xM p Y M LN s.2.bm i xs s.1 (MN p M i (E0,px::pr) xs s.1).2) (λs=>hid 180 14 s.2) (JI p M i (E0,px::pr) xs) (λs=>xs.length-s.1) (0,h) ⟨Nat.zero_le _,ha,jL,hit,jA⟩ ?_ ?_
     ·show HSub _ _ _ _ ⟨[(7,.s (.own 100)),(1,vI M),(2,.s (.d (cZ (dA p Y LN)))),(3,.s (.ptr 3 0)),(8,dQ h.bm),(9,.s (.ptr 9 0)),(11,vI (dH p)),(12,vI i),(51,vI p.aT.levels.length),(52,vI i),(97,iC xs),(98,vI xs.length),(99,vI (0:Nat))],[(3,some (.cells (l0 p Y))),(9,some (.cells (kQ p))),(100,some (.row 82 (px::pr).length 7 (eJ (px::pr))))]⟩ _
      exact Za (ab [] lb rfl Fa Fa)
     ·rintro⟨j,k⟩ ⟨hj,ha',aI6,aI2,l7⟩
      refine PQ (p:=p) (Y:=Y) (M:=M) (j:=j) (k:=k) J hv YI hxl bC ⟨hj,ha',aI6,aI2,l7⟩ (λaa k2 hJ h2=>?_)
      have aIV:MN p M i (E0,px::pr) xs xs.length=EE p Y M E (i+1):=by rw[z1];unfold MN;rw[Vd]
      exact jl
   ·have g:¬(i:Int)<p.aT.levels.length:=bF g
    obtain rfl:i=p.aT.levels.length:=O
    refine sA J [3,9,100] λ_ h'=>?_
    apply Yi
    rw[hps]
    exact db _
def HZ{p:Proj}{l:List Fact}:∀{k:Nat},k<=l.length->∀f∈(iM p l k).1,f∈l
 |0,_,f,hf=>by cases hf
 |k+1,hk,f,hf=>by
  rw[iM]at hf
  cases hq:(oS (iM p l k).2 (zC (l.getD k default)) (l.getD k default).dN==0)with
  |true=>
   rw[hq]at hf;rcases ic.1 hf with hf|hf
   ·exact HZ O f hf
   rw[Ib.1 hf];exact bP O
  |false=>rw[hq]at hf;exact HZ O f hf
def Zt{Y:List Fact}{m:Int}{f:Fact}(h:f∈j8 Y m):f∈Y/\f.kind=1/\f.month<=m:=by have h:=(Oi _ _).mem_iff.1 h;unfold tO at h;obtain⟨h1,h2⟩:=rf.1 h;simp only[Bool.and_eq_true,Tf,ae]at h2;exact⟨h1,h2.1,h2.2⟩
def Rm.ZP{E:List Rm.gL}{k:bJ}{t:Room}{Q:Room->Prop}(h:∀e∈E,∀r∈e.2.1,Q r)(ht:Q t):∀e∈Rm.o6 E k t,∀r∈e.2.1,Q r:=by
 intro e he;unfold Rm.o6 at he;split at he
 ·rename_i i p hp;obtain⟨j,hj⟩:=dd he;rw[se]at hj
  cases hE:E[j]? with
  |none=>rw[hE]at hj;cases hj
  |some y=>
   rw[hE]at hj;have hy:=h y (Dd hE);have hj:(if i=j then(y.1,y.2.1++ [t],y.2.2)else y)=e:=by simpa using hj
   split at hj
   ·subst hj;intro r hr;rcases ic.1 hr with hr|hr
    ·exact hy r hr
    rw[Ib.1 hr];exact ht
   subst hj;exact hy
 rcases ic.1 he with he|he
 ·exact h e he
 rw[Ib.1 he];intro r hr;rw[Ib.1 hr];exact ht
def eo{L:List Fact}{m:Int}{Q:Room->Prop}(hQ:∀f∈L,Q (f,f.aT)):∀{i:Nat},i<=L.length->∀e∈Rm.kU L m i,∀r∈e.2.1,Q r
 |0,_,e,he=>by simp[Rm.kU]at he
 |i+1,hi,e,he=>by
  rw[Rm.DW O]at he;unfold Rm.KM at he
  cases hw:((L.getD i default).month==m)with
  |false=>rw[hw]at he;exact eo hQ O e he
  |true=>rw[hw]at he;exact Rm.ZP (λe he=>eo hQ O e he) (hQ _ (bP O)) e he
def O1{L:List Fact}{m:Int}(hb:∀f∈L,1<=f.aT/\f.aT<=1000000000000)(hl:L.length<=200):∀e∈qD (Rm.kU L m L.length),wB e.2.1:=by intro e he;unfold qD at he;obtain⟨e0,h0,rfl⟩:=Lc.1 he;have h1:=Rm.qX h0;have h2:=eo (Q:=λr=>1<=r.2/\r.2<=1000000000000) (m:=m) hb (mb _) e0 h0;refine⟨Nat.zero_le _,by show e0.2.1.length<=200;omega,λi _ hi=>?_⟩;have hi:i<e0.2.1.length:=hi;exact h2 _ (bP hi)
def GH{p:Proj}{m:Int}{i:Nat}(hv:PV p):∀{xs:List Part} {s:PS} {n:Nat},D5 s n->(∀x∈xs,AQ x)->D5 (xs.foldl (oN p m i) s) (n+xs.length*201)
 |[],s,n,h,_=>by simpa using h
 |x::r,s,n,h,hx=>by
  have hx0:=BK (m:=m) (i:=i) hv (hx x (Zd));have h1:=GH (m:=m) (i:=i) hv (xs:=r) (KN (m:=m) (i:=i) (x:=x) h ⟨O,hx0.2⟩) λy hy=>hx y (oc _ hy)
  rw[Ly];rw[show n+(x::r).length*201=n+201+r.length*201 by rw[Rb];omega];exact h1
def VU{p:Proj}{Y:List Fact}{M:Nat}{E:List mF}(hv:PV p)(hE:∀e∈E,wB e.2.1):∀i,D5 (EE p Y M E i) (i*2412)
 |0=>⟨hE,Nat.zero_le _⟩
 |i+1=>by
  have ih:=VU (Y:=Y) (M:=M) hv hE i;rw[GY];unfold wZ
  cases(iL p Y (M-1) i==30000||decide (iL p Y M i>=iL p Y (M-1) i))with
  |true=>exact ih.more O
  |false=>have h1:=I6 (c:=dP p.aT i) (hi:=iL p Y (M-1) i) (lo:=iL p Y M i) hv;exact(GH (m:=M) (i:=i) hv (xs:=vP p.gr (dP p.aT i) (iL p Y (M-1) i) (iL p Y M i)) ih λx hx=>D7 hx).more O
def aNV{l:List Fact}(hv:∀f∈l,fR f=0):∀f∈cntF l,f.kind=1->1<=f.aT/\f.aT<=1000000000000:=by
 intro f hf hk;obtain⟨k,_,_,g,hg,rfl,_⟩:=N4 hv hf;have hk:g.kind=1:=hk;have h1:=mQ (kN (hv g hg)).2 (by rw[hk];rfl);have h2:=within_iff.1 h1.1.2.1;have e:(jE g).aT=g.aT:=by unfold jE;rw[hk];rfl
 rw[e];exact h2
def Wp{p:Proj}{l:List Fact}{M LN:Nat}(hp:p.fits)(hk:Ci p l)(hM:1<=M/\M<=24)(hL0:M<LN)(hs:ZR (cntF l) M):
  aF prog 15 [SR p (cntF l),vI M,.s (.d (cZ (dA p (cntF l) LN)))] (iD (G3 p (cntF l) M))/\(G3 p (cntF l) M).length<=241200:=by
 have hv:=Yh hk.proj
 have hS:=x4 hk
 have hL:(iM p (j8 (cntF l) M) (j8 (cntF l) M).length).1.length<=200:=by refine Xb (BY p _ _) ?_;unfold j8;rw[A5];exact Xb (Mh _ _) hS.len
 have hg:=O1 (m:=M) (λf hf=>by obtain⟨h1,h2,_⟩:=Zt (HZ (mb _) f hf);exact aNV hk.fmt f h1 h2) hL
 refine⟨iz p (cntF l) M LN hp hv hS hs hM hL0 hg,?_⟩
 have h1:=(VU (Y:=cntF l) (M:=M) hv hg p.aT.levels.length).2
 have h2:=hv.cells
 have e:G3 p (cntF l) M=(EE p (cntF l) M (qD (Rm.kU (iM p (j8 (cntF l) M) (j8 (cntF l) M).length).1 M (iM p (j8 (cntF l) M) (j8 (cntF l) M).length).1.length)) p.aT.levels.length).2:=rfl
 rw[e]
 omega
def aE6{p:Proj}{l:List Fact}{M:Nat}(hp:p.fits)(hk:Ci p l)(hM:1<=M/\M<=24)(hs:ZR (cntF l) M):
  aF prog 15 [SR p (cntF l),vI M,.s (.d (cZ (dA p (cntF l) (M+1))))] (iD (G3 p (cntF l) M))/\(G3 p (cntF l) M).length<=241200:=
 Wp hp hk hM (Kl M) hs
def OW(p:Proj)(l:List Fact)(M:Nat):Stmt:=
 aq p M (G3 p (cntF l) M) (gB p (G3 p (cntF l) M) p.gr.bK.length) (M6 p (cntF l) M (sK p (cntF l) M) p.cU.length) (gY p (cntF l) M p.aT.levels.length)
def aGO(p:Proj)(l:List Fact)(M:Nat)(hp:p.fits)(hf:∀f∈l,f.fits)(hl:l.length<=9223372036854775807)(he:j6 p l M 1=0)(hs:ZR (cntF l) M)
  (QV:aF prog 18 [SR p (cntF l),vI M,rK (sK p (cntF l) M)] (U8 (M6 p (cntF l) M (sK p (cntF l) M) p.cU.length))):
  aF prog 7 [oR p,cJ l,vI M] (.t [.g [.d (dI M),.d (dI (OW p l M).over),.d (dI (OW p l M).fG),.d (dI (OW p l M).total),.d (x0 (OW p l M).Y4),.d (xZ (OW p l M).mq),.d (b5 (OW p l M).wq)],.s (.d (dI 0))]):=by
 obtain⟨hk,hw⟩:=tL he
 have hw:=within_iff.1 hw
 obtain⟨h1,h2⟩:=aE6 (M:=M) hp hk Ha hs
 exact ZS p l M (G3 p (cntF l) M) hp hf hl he (x4 hk) O O QV h1
end Go.Pj
--K62
namespace Go.Ax
def Eg{R:Cx}{N:Nat}{I I':St}(h:pI R N I I'):HSub R N I Ud I' Ud:=λM V a w i _=>
 let⟨M',V',i',g⟩:=h M V a w i
 ⟨M',V',i',Xl,g⟩
end Go.Ax
namespace Go.Pj
open Go Go.Ax Go.Ch Go.Proofs Go.Proofs.Tryz
abbrev kZ:ta:=bs [115,97,110,100]
abbrev OS:ta:=bs [119,101,115,116]
def RB:Proj:=
 {name:=bs [66,97,114],aT:=⟨0,0,1000,2,1,[-900, -900]⟩,chan:=⟨bs [77,97,105,110],[⟨0,500,1000, -1000,0⟩,⟨2000,500,1000, -1000,0⟩],50,0,[]⟩
  gr:=⟨[⟨kZ,30,1900,6,5⟩],[⟨bs [66,49],0,0,[⟨0,kZ⟩]⟩]⟩,agree:=10,fG:=300,cO:=[⟨kZ,500⟩],cU:=[]
  aQ:=[⟨OS,10000000, -2000, -1000,[0],100⟩],bA:=[⟨kZ,6,5⟩]}
def YZ:List Fact:=
 [⟨0,1,0,1,0,0,0,0,0,bs [],bs [],bs [],[-1000, -1060]⟩,⟨0,1,1,1,0,0,0,0,0,bs [],bs [],bs [],[-1005, -1065]⟩,
  ⟨1,1,0,1,1,200000000,0,0,0,kZ,OS,bs [],[]⟩]
def Example:aF prog 12 [] (oR RB):=by
 refine eW func12 rfl rfl call12 rfl rfl (λR J=>Gj ?_);refine sA J [] λ_ h'=>pb (Sc ?_)
 refine Kb (rc:=[]) aJ 1 J [0] rfl rfl ?_;refine Af (I':=⟨[(0,.s (.ptr 0 0)),(1,.s (.d (b5 [-900, -900])))],[(0,some (.cells (iB Eh.zero)))]⟩) (H':=Ud) (Eg (Se J [] [1] rfl rfl rfl ⟨⟨rfl,ee⟩,oO⟩ ⟨⟨rfl,qb⟩,⟨rfl,(Ee (Ib.2 rfl) rfl).then (Xc (Yc λi j hi hj=>by have hi:i<2:=hi;have hj:j<1:=hj;match i,j,hi,hj with|0,0,_,_|1,0,_,_=>exact Ja _))⟩,oO⟩)) ?_;refine Kb (rc:=[]) aJ 4 J [0] rfl rfl ?_;refine Af (I':=⟨[(0,.s (.ptr 0 0)),(2,.g [.d (dI 0),.d (dI 0),.d (dI 1000),.d (dI 2),.d (dI 1),.d (b5 [-900, -900])]),(5,.s (.d (x3 [⟨0,500,1000, -1000,0⟩,⟨2000,500,1000, -1000,0⟩])))],[(0,some (.cells (iB Eh.zero)))]⟩) (H':=Ud) (Eg (Se J [] [5] rfl rfl rfl ⟨⟨rfl,ee⟩,oO⟩ ⟨⟨rfl,qb⟩,⟨rfl,qb⟩,⟨rfl,(Ee (Ib.2 rfl) rfl).then (Xc (Yc λi j hi hj=>by have hi:i<2:=hi;have hj:j<5:=hj;match i,j,hi,hj with|0,0,_,_|0,1,_,_|0,2,_,_|0,3,_,_|0,4,_,_|1,0,_,_|1,1,_,_|1,2,_,_|1,3,_,_|1,4,_,_=>exact Ja _))⟩,oO⟩)) ?_;refine Kb (rc:=[]) aJ 4 J [0] rfl rfl ?_;refine Af (I':=⟨[(0,.s (.ptr 0 0)),(2,.g [.d (dI 0),.d (dI 0),.d (dI 1000),.d (dI 2),.d (dI 1),.d (b5 [-900, -900])]),(6,.g [.d (dS (bs [77,97,105,110])),.d (x3 [⟨0,500,1000, -1000,0⟩,⟨2000,500,1000, -1000,0⟩]),.d (dI 50),.d (dI 0),.d eO]),(9,.s (.d (kV [⟨kZ,30,1900,6,5⟩])))],[(0,some (.cells (iB Eh.zero)))]⟩) (H':=Ud) (Eg (Se J [] [9] rfl rfl rfl ⟨⟨rfl,ee⟩,oO⟩ ⟨⟨rfl,qb⟩,⟨rfl,qb⟩,⟨rfl,qb⟩,⟨rfl,(Ee (Ib.2 rfl) rfl).then (Xc (Yc λi j hi hj=>by have hi:i<1:=hi;have hj:j<5:=hj;match i,j,hi,hj with|0,0,_,_|0,1,_,_|0,2,_,_|0,3,_,_|0,4,_,_=>exact Ja _))⟩,oO⟩)) ?_;refine Kb (rc:=[]) aJ 2 J [0] rfl rfl ?_;refine Af (I':=⟨[(0,.s (.ptr 0 0)),(2,.g [.d (dI 0),.d (dI 0),.d (dI 1000),.d (dI 2),.d (dI 1),.d (b5 [-900, -900])]),(6,.g [.d (dS (bs [77,97,105,110])),.d (x3 [⟨0,500,1000, -1000,0⟩,⟨2000,500,1000, -1000,0⟩]),.d (dI 50),.d (dI 0),.d eO]),(9,.s (.d (kV [⟨kZ,30,1900,6,5⟩]))),(11,.s (.d (mN [⟨0,kZ⟩])))],[(0,some (.cells (iB Eh.zero)))]⟩) (H':=Ud) (Eg (Se J [] [11] rfl rfl rfl ⟨⟨rfl,ee⟩,oO⟩ ⟨⟨rfl,qb⟩,⟨rfl,qb⟩,⟨rfl,qb⟩,⟨rfl,qb⟩,⟨rfl,(Ee (Ib.2 rfl) rfl).then (Xc (Yc λi j hi hj=>by have hi:i<1:=hi;have hj:j<2:=hj;match i,j,hi,hj with|0,0,_,_|0,1,_,_=>exact Ja _))⟩,oO⟩)) ?_;refine Kb (rc:=[]) aJ 2 J [0] rfl rfl ?_;refine Af (I':=⟨[(0,.s (.ptr 0 0)),(2,.g [.d (dI 0),.d (dI 0),.d (dI 1000),.d (dI 2),.d (dI 1),.d (b5 [-900, -900])]),(6,.g [.d (dS (bs [77,97,105,110])),.d (x3 [⟨0,500,1000, -1000,0⟩,⟨2000,500,1000, -1000,0⟩]),.d (dI 50),.d (dI 0),.d eO]),(9,.s (.d (kV [⟨kZ,30,1900,6,5⟩]))),(13,.s (.d (pN [⟨bs [66,49],0,0,[⟨0,kZ⟩]⟩])))],[(0,some (.cells (iB Eh.zero)))]⟩) (H':=Ud) (Eg (Se J [] [13] rfl rfl rfl ⟨⟨rfl,ee⟩,oO⟩ ⟨⟨rfl,qb⟩,⟨rfl,qb⟩,⟨rfl,qb⟩,⟨rfl,qb⟩,⟨rfl,(Ee (Ib.2 rfl) rfl).then (Xc (Yc λi j hi hj=>by have hi:i<1:=hi;have hj:j<4:=hj;match i,j,hi,hj with|0,0,_,_|0,1,_,_|0,2,_,_|0,3,_,_=>exact Ja _))⟩,oO⟩)) ?_;refine Kb (rc:=[]) aJ 3 J [0] rfl rfl ?_;refine Af (I':=⟨[(0,.s (.ptr 0 0)),(2,.g [.d (dI 0),.d (dI 0),.d (dI 1000),.d (dI 2),.d (dI 1),.d (b5 [-900, -900])]),(6,.g [.d (dS (bs [77,97,105,110])),.d (x3 [⟨0,500,1000, -1000,0⟩,⟨2000,500,1000, -1000,0⟩]),.d (dI 50),.d (dI 0),.d eO]),(14,.g [.d (kV [⟨kZ,30,1900,6,5⟩]),.d (pN [⟨bs [66,49],0,0,[⟨0,kZ⟩]⟩])]),(16,.s (.d (CG [⟨kZ,500⟩])))],[(0,some (.cells (iB Eh.zero)))]⟩) (H':=Ud) (Eg (Se J [] [16] rfl rfl rfl ⟨⟨rfl,ee⟩,oO⟩ ⟨⟨rfl,qb⟩,⟨rfl,qb⟩,⟨rfl,qb⟩,⟨rfl,qb⟩,⟨rfl,(Ee (Ib.2 rfl) rfl).then (Xc (Yc λi j hi hj=>by have hi:i<1:=hi;have hj:j<2:=hj;match i,j,hi,hj with|0,0,_,_|0,1,_,_=>exact Ja _))⟩,oO⟩)) ?_;refine Kb (rc:=[]) aJ 1 J [0] rfl rfl ?_;refine Af (I':=⟨[(0,.s (.ptr 0 0)),(2,.g [.d (dI 0),.d (dI 0),.d (dI 1000),.d (dI 2),.d (dI 1),.d (b5 [-900, -900])]),(6,.g [.d (dS (bs [77,97,105,110])),.d (x3 [⟨0,500,1000, -1000,0⟩,⟨2000,500,1000, -1000,0⟩]),.d (dI 50),.d (dI 0),.d eO]),(14,.g [.d (kV [⟨kZ,30,1900,6,5⟩]),.d (pN [⟨bs [66,49],0,0,[⟨0,kZ⟩]⟩])]),(16,.s (.d (CG [⟨kZ,500⟩]))),(17,.s (.d (b5 [0])))],[(0,some (.cells (iB Eh.zero)))]⟩) (H':=Ud) (Eg (Se J [] [17] rfl rfl rfl ⟨⟨rfl,ee⟩,oO⟩ ⟨⟨rfl,qb⟩,⟨rfl,qb⟩,⟨rfl,qb⟩,⟨rfl,qb⟩,⟨rfl,qb⟩,⟨rfl,(Ee (Ib.2 rfl) rfl).then (Xc (Yc λi j hi hj=>by have hi:i<1:=hi;have hj:j<1:=hj;match i,j,hi,hj with|0,0,_,_=>exact Ja _))⟩,oO⟩)) ?_;refine Kb (rc:=[]) aJ 2 J [0] rfl rfl ?_;refine Af (I':=⟨[(0,.s (.ptr 0 0)),(2,.g [.d (dI 0),.d (dI 0),.d (dI 1000),.d (dI 2),.d (dI 1),.d (b5 [-900, -900])]),(6,.g [.d (dS (bs [77,97,105,110])),.d (x3 [⟨0,500,1000, -1000,0⟩,⟨2000,500,1000, -1000,0⟩]),.d (dI 50),.d (dI 0),.d eO]),(14,.g [.d (kV [⟨kZ,30,1900,6,5⟩]),.d (pN [⟨bs [66,49],0,0,[⟨0,kZ⟩]⟩])]),(16,.s (.d (CG [⟨kZ,500⟩]))),(19,.s (.d (q7 [⟨OS,10000000, -2000, -1000,[0],100⟩])))],[(0,some (.cells (iB Eh.zero)))]⟩) (H':=Ud) (Eg (Se J [] [19] rfl rfl rfl ⟨⟨rfl,ee⟩,oO⟩ ⟨⟨rfl,qb⟩,⟨rfl,qb⟩,⟨rfl,qb⟩,⟨rfl,qb⟩,⟨rfl,qb⟩,⟨rfl,(Ee (Ib.2 rfl) rfl).then (Xc (Yc λi j hi hj=>by have hi:i<1:=hi;have hj:j<6:=hj;match i,j,hi,hj with|0,0,_,_|0,1,_,_|0,2,_,_|0,3,_,_|0,4,_,_|0,5,_,_=>exact Ja _))⟩,oO⟩)) ?_;refine Kb (rc:=[]) aJ 3 J [0] rfl rfl ?_;refine Af (I':=⟨[(0,.s (.ptr 0 0)),(2,.g [.d (dI 0),.d (dI 0),.d (dI 1000),.d (dI 2),.d (dI 1),.d (b5 [-900, -900])]),(6,.g [.d (dS (bs [77,97,105,110])),.d (x3 [⟨0,500,1000, -1000,0⟩,⟨2000,500,1000, -1000,0⟩]),.d (dI 50),.d (dI 0),.d eO]),(14,.g [.d (kV [⟨kZ,30,1900,6,5⟩]),.d (pN [⟨bs [66,49],0,0,[⟨0,kZ⟩]⟩])]),(16,.s (.d (CG [⟨kZ,500⟩]))),(19,.s (.d (q7 [⟨OS,10000000, -2000, -1000,[0],100⟩]))),(22,.s (.d (oY [⟨kZ,6,5⟩])))],[(0,some (.cells (iB Eh.zero)))]⟩) (H':=Ud) (Eg (Se J [] [22] rfl rfl rfl ⟨⟨rfl,ee⟩,oO⟩ ⟨⟨rfl,qb⟩,⟨rfl,qb⟩,⟨rfl,qb⟩,⟨rfl,qb⟩,⟨rfl,qb⟩,⟨rfl,qb⟩,⟨rfl,(Ee (Ib.2 rfl) rfl).then (Xc (Yc λi j hi hj=>by have hi:i<1:=hi;have hj:j<3:=hj;match i,j,hi,hj with|0,0,_,_|0,1,_,_|0,2,_,_=>exact Ja _))⟩,oO⟩)) ?_;refine Kb (rc:=[]) aJ 2 J [0] rfl rfl (mc ?_);exact Yi (Fg ⟨Ja _,Ja _,Ja _,Ja _,Ja _,Ja _,Ja _,Ja _,Ja _,Ja _,Ja _,Nd,Ja _,Ja _,Ja _,Ja _,Ja _,Nd,Ja _,Ja _,oO⟩)
def YD(x:bJ):List bJ->List bJ
 |[]=>[x]
 |y::r=>bif decide (x<=y)then x::y::r else y::YD x r
def QI:List bJ->List bJ
 |[]=>[]
 |x::r=>YD x (QI r)
def DP(x:bJ):∀l:List bJ,(YD x l).Perm (x::l)
 |[]=>Ry _
 |y::r=>by
  rw[YD]
  cases decide (x<=y)with
  |true=>exact Ry _
  |false=>exact((DP x r).cons y).trans (List.Perm.swap x y r)
def K7:∀l:List bJ,(QI l).Perm l
 |[]=>Ry _
 |x::r=>(DP x (QI r)).trans ((K7 r).cons x)
def EN{x:bJ}:∀{l:List bJ},l.Pairwise (λa b=>a<=b)->(YD x l).Pairwise (λa b=>a<=b)
 |[],_=>List.pairwise_singleton _ _
 |y::r,h=>by
  rw[YD];obtain⟨h1,h2⟩:=gy.1 h
  cases hd:decide (x<=y)with
  |true=>
   have hd:x<=y:=Nb hd;refine gy.2 ⟨λz hz=>?_,h⟩;rcases wb.1 hz with rfl|hz
   ·exact hd
   exact tr hd (h1 z hz)
  |false=>
   have hd:¬x<=y:=Wj hd;refine gy.2 ⟨λz hz=>?_,EN h2⟩;rcases wb.1 ((DP x r).mem_iff.1 hz)with rfl|hz
   ·exact List.le_of_lt (List.not_le.1 hd)
   exact h1 z hz
def EL:∀l:List bJ,(QI l).Pairwise (λa b=>a<=b)
 |[]=>List.Pairwise.nil
 |_::r=>EN (EL r)
def KP(l:List bJ):hV l=QI l:=(rP l (QI l) (K7 l) ((EL l).imp λ{x y} h=>by rw[Kk,Qd];exact Dj.2 h)).symm
def aKN(G:List (ta×Int))(e:gL):Da gL:=bif (fX G e.1 e.2.1).isEmpty then none else some (e.1,rG (QI (fX G e.1 e.2.1)),e.2.2)
def Vo(l:List Fact):List gL:=(fM l l.length).filterMap (aKN (kL l l.length))
def aNH(l:List Fact):List Fact:=(QI ((Vo l).map (·.1))).map λk=>rU (zH (Vo l) k)
def XG(l:List Fact):pT l=Vo l:=by unfold pT Vo NP;exact AE λe _=>by unfold zQ aKN rV;rw[KP]
def ZF(l:List Fact):cntF l=aNH l:=by unfold cntF aNH pS;rw[XG,KP]
abbrev Gi:Fact:=⟨1,1,0,1,1,200000000,0,0,0,kZ,OS,bs [],[]⟩
def Y0:List Fact:=[Gi,⟨0,1,0,1,0,0,0,0,0,bs [],bs [],bs [],[-1000, -1060]⟩,⟨0,1,1,1,0,0,0,0,0,bs [],bs [],bs [],[-1005, -1065]⟩]
def UC:cntF YZ=Y0:=by rw[ZF];kernel_rfl
def Zo(p:Proj)(Y L:List Fact)(M:Nat):List Oa:=
 ((List.range p.aT.levels.length).foldl (wZ p Y M) (qD (Rm.kU (iM p L L.length).1 M (iM p L L.length).1.length),[])).2
def aJB:j8 Y0 1=[Gi]:=by have e:tO Y0 1=[Gi]:=kR;unfold j8 JH;rw[e];exact Gz _
def aM5:G3 RB (cntF YZ) 1=Zo RB Y0 [Gi] 1:=by rw[UC];have:G3 RB Y0 1=Zo RB Y0 (j8 Y0 (1:Nat)) 1:=rfl;rw[this,show((1:Nat):Int)=1 from rfl,aJB]
def IA:Stmt:=aq RB 1 (Zo RB Y0 [Gi] 1) (gB RB (Zo RB Y0 [Gi] 1) 1) (M6 RB Y0 1 (sK RB Y0 1) 0) (gY RB Y0 1 2)
def aCX:OW RB YZ 1=IA:=by unfold OW IA;rw[aM5,UC];rfl
def aFW:IA.total=96400:=by decide+kernel
def aJC:IA.over=12000000:=by decide+kernel
def aJE:IA.Y4.map (·.iZ)=[200000000]:=by decide+kernel
def aJD:j6 RB YZ 1 1=0:=by decide+kernel
def aLO(p:Proj)(Y:List Fact)(m:Int)(low:eZ)(h:p.cU=[]):aF prog 18 [SR p Y,vI m,rK low] (U8 []):=by
 refine eW func18 rfl rfl call18 rfl rfl (λR J=>?_);refine sX J (sX J ?_);refine Sa (sX J ?_);refine Eb (Gb (λ_:Nat=>⟨[(7,.s (.d eO)),(14,vI 0),(15,vI 0)],[]⟩) (λ_=>True) (λ_=>0) 0 trivial ?_ ?_)
 ·exact Qa J [] rfl trivial ⟨Z,⟨rfl,Ra Uk⟩,Fa⟩
 rintro _ _;refine sX J (Sa (Cb ?_));refine aI (λg=>Qb ?_) (λg=>Ld ?_)
 ·exact absurd (show(0:Int)<0 from bG g) dC
 exact eX J (Fg Nd)
def aIS(f:Nat->Nat->DV):bW prog 279 [.s (.own 1001),vI 0,vI 1,.s (.dZ 136 [])] [(1001,.row 67 1 13 f)] (.t []) [(1001,.row 67 1 13 f)]:=by
 refine lH func279 rfl rfl call279 aJ rfl rfl rfl rfl (λR J=>?_);refine sX J (Eb ?_);refine Gb (λ_:Nat=>⟨[(2,vI 1),(8,vI 1)],[(1001,some (.row 67 1 13 f))]⟩) (λ_=>True) (λ_=>0) 0 trivial ?_ ?_
 ·exact Lb [] lb rfl Fa ⟨Z,⟨rfl,Ra rfl⟩,oO⟩
 rintro _ _;refine Sa (sX J ?_);refine Cb (aI (λg=>Qb ?_) (λg=>Ld ?_))
 ·exact absurd (show(1:Int)<1 from bG g) dC
 exact kr
def aIL(f:Nat->Nat->DV)(n:Int):bW prog 200 [.s (.own 1001),vI 0,vI 1,vI n,.s (.dZ 136 [])] [(1001,.row 67 1 13 f)] (.t []) [(1001,.row 67 1 13 f)]:=by
 refine lH func200 rfl rfl call200 aJ rfl rfl rfl rfl (λR J=>?_);refine sX J (sX J ?_);refine Eb (Gb (λ_:Nat=>⟨[(0,.s (.own 1001)),(1,vI 0),(2,vI 1),(4,.s (.dZ 136 []))],[(1001,some (.row 67 1 13 f))]⟩) (λ_=>True) (λ_=>0) 0 trivial ?_ ?_)
 ·exact Lb [] lb rfl Fa Fa
 rintro _ _;refine Eb (sX J ?_);refine Sa (sX J ?_);apply Cb;apply aI<;>intro g
 ·refine Sb (rc:=[279]) aJ mix J _ ⟨[(1001,1001)],_,_,_,_,aIS f,rfl,⟨rfl,oO⟩,rfl,?_⟩;exact kr
 have g:¬aW ((1:Int)-0)<=12:=bF g;exact absurd dC g
def aIR:aF prog 98 [.s (.d (.val (.int .u64 1)))] (vI 1):=by
 refine eP func98 rfl rfl call98 rfl rfl λR J=>aI (λg=>absurd (show(1:Int)>=4294967296 from bG g) dC) (λ_=>?_)
 refine aI (λg=>absurd (show(1:Int)>=65536 from bG g) dC) (λ_=>?_);refine aI (λg=>absurd (show(1:Int)>=256 from bG g) dC) (λ_=>?_);exact oi dC (Ia (by rfl))
def aFI:aF prog 52 [.s (.d (.val (.int .u64 1)))] (vI 1):=by exact eP func52 rfl rfl call52 rfl rfl λR J=>aB aIR (db _)
def aGN(f:Nat->Nat->DV):bW prog 135 [.s (.own 1001),.s (.dZ 136 [])] [(1001,.row 67 1 13 f)] (.t []) [(1001,.row 67 1 13 f)]:=by refine gH (rc:=[200]) (N:=14) func135 rfl rfl call135 aJ mix rfl rfl rfl rfl (λR J=>?_);refine aB aFI ⟨[(1001,1001)],_,_,_,_,aIL f 1,rfl,⟨rfl,oO⟩,rfl,?_⟩;exact kr
def aCZ:RB.fits where
 name:=by decide+kernel
 aT:=by decide+kernel
 chan:=⟨by decide+kernel,by decide+kernel,by
  intro a ha;rcases wb.1 ha with rfl|ha
  ·exact⟨rfl,rfl,rfl,rfl,rfl⟩
  rw[Ib.1 ha];exact⟨rfl,rfl,rfl,rfl,rfl⟩,rfl,rfl,by decide+kernel,λ_ h=>by cases h⟩
 Ya:=by decide+kernel
 gr:=⟨by decide+kernel,by decide+kernel,λx hx=>by rw[Ib.1 hx];decide+kernel,λx hx=>by rw[Ib.1 hx];decide+kernel,λx hx=>by rw[Ib.1 hx];decide+kernel⟩
 cO:=by decide+kernel
 cU:=by decide+kernel
 small:=⟨by decide+kernel,by decide+kernel,by decide+kernel,by decide+kernel,λx hx=>by rw[Ib.1 hx];decide+kernel⟩
 vU:=λx hx=>by rw[Ib.1 hx];decide+kernel
 rB:=λx hx=>by rw[Ib.1 hx];decide+kernel
def RC:∀f∈YZ,f.fits:=by
 intro f hf;rcases wb.1 hf with rfl|hf
 ·exact zcu
 rcases wb.1 hf with rfl|hf
 ·exact zcu
 rw[Ib.1 hf];exact⟨by decide+kernel,by decide+kernel,by decide+kernel,by decide+kernel⟩
def aM7:∃d,IA.Y4=[d]/\d.iZ=200000000:=by
 have h:=aJE
 cases hd:IA.Y4 with
 |nil=>rw[hd]at h;cases h
 |cons d r=>
  rw[hd]at h
  cases r with
  |nil=>exact⟨d,rfl,(List.cons.inj h).1⟩
  |cons e r=>cases(List.cons.inj h).2
def aM4:ZR (cntF YZ) (1:Nat):=by rw[UC];intro _;have e:tO Y0 (1:Nat)=[Gi]:=kR;rw[e,show JH [Gi]=[Gi] from Gz _];exact aGN _
structure Proj.Um(p:Proj):Prop where
 name:p.name.size<=9223372036854775807
 aT:p.aT.levels.length<=9223372036854775807
 chan:p.chan.ok
 gr:p.gr.fits
 cO:p.cO.length<=9223372036854775807
 cU:p.cU.length<=9223372036854775807
 vU:∀x∈p.aQ,x.name.size<=9223372036854775807
 rB:∀x∈p.bA,x.aN.size<=9223372036854775807
def Proj.Um.fits{p:Proj}(h:p.Um)(hg:vC p=false):p.fits:=by simp only[vC,An,Ed,Qd]at hg;obtain⟨⟨⟨g0,_⟩,_⟩,g3⟩:=hg;refine⟨h.name,h.aT,h.chan,h.chan.Ya,h.gr,h.cO,h.cU,⟨by show p.aQ.length<=_;omega,by show p.bA.length<=_;omega,Nat.zero_le _,by show(List.replicate p.bA.length (0:Int)).length<=_;rw[List.length_replicate];omega,λx hx=>?_⟩,h.vU,h.rB⟩;have:=Tg.1 g3 x hx;simp only[nn,ae]at this;omega
end Go.Pj
