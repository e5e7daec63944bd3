/- Part 9: lemmas that the proofs of this seat share; by itself it claims nothing. -/
import Derived.Test.YtmfjekdekmhebaaGreatDoorPt8
set_option maxRecDepth 100000
set_option maxHeartbeats 20000000
set_option linter.defProp false
namespace Go.Pj
open Go Go.Ax Go.Ch Go.Proofs Go.Proofs.Tryz
def Gl{l:List Fact}(hv:∀f∈l,fR f=0):Dh (cntF l):=by
 intro f hf h0 x hx;obtain⟨_,_,_,g,hg,rfl,_⟩:=N4 hv hf;have h0:g.kind=0:=h0;obtain⟨_,h2⟩:=kN (hv g hg);have hb:=(oB h2 (by rw[h0];rfl)).1;have e:(jE g).levels=g.levels:=by unfold jE;simp only[h0,Jp,Na]
 rw[e]at hx;have:=Cg.1 hb x hx;rcases yT (show iQ x=false by simpa using this)with h|h
 ·exact .inl h
 exact .inr h.2
abbrev lim(n:Nat):Prop:=n<=9223372036854775807
def aGY:Rd prog 80 2 (λp:Int×Int=>[.d (dI p.1),.d (dI p.2)]) (λ_=>True):=
 (fI underlying80 rfl kR (aS rfl rI (aS rfl rI jN))).to (λa=>(a.1,a.2.1)) (λ_=>rfl) (λ_ _=>trivial)
def aKZ:Rd prog 82 5 (λs:lI=>[.d (dS s.name),.d (dI s.run),.d (dI s.Rn),.d (dI s.num),.d (dI s.den)]) (λs=>lim s.name.size):=
 (fI underlying82 rfl kR (aS rfl rS (aS rfl rI (aS rfl rI (aS rfl aGY jN))))).to (λa=>⟨a.1,a.2.1,a.2.2.1,a.2.2.2.1.1,a.2.2.2.1.2⟩) (λ_=>rfl) (λ_ h=>h.1)
def aIB:Rd prog 29 1 (λl:List lI=>[.d (kV l)]) (λl=>lim l.length/\∀a∈l,lim a.name.size):=
 kF underlying29 kR aKZ dC aGU (λ_=>rfl) (λa j hj=>by match j,hj with|0,_|1,_|2,_|3,_|4,_=>rfl)
def aIC:Rd prog 114 2 (λs:sC=>[.d (dI s.Ra),.d (dS s.aN)]) (λ_=>True):=
 (fI underlying114 rfl kR (aS rfl rI (aS rfl rS jN))).to (λa=>⟨a.1,a.2.1⟩) (λ_=>rfl) (λ_ _=>trivial)
def aEZ:Rd prog 115 1 (λl:List sC=>[.d (mN l)]) (λl=>lim l.length/\∀a∈l,True):=
 kF underlying115 kR aIC dC aLM (λ_=>rfl) (λa j hj=>by match j,hj with|0,_|1,_=>rfl)
def aOO:Rd prog 117 4 (λs:fS=>[.d (dS s.name),.d (dI s.x),.d (dI s.y),.d (mN s.bB)]) (λs=>lim s.name.size/\lim s.bB.length):=
 (fI underlying117 rfl kR (aS rfl rS (aS rfl rI (aS rfl rI (aS rfl aEZ jN))))).to (λa=>⟨a.1,a.2.1,a.2.2.1,a.2.2.2.1⟩) (λ_=>rfl) (λ_ h=>⟨h.1,h.2.2.2.1.1⟩)
def aK7:Rd prog 30 1 (λl:List fS=>[.d (pN l)]) (λl=>lim l.length/\∀a∈l,lim a.name.size/\lim a.bB.length):=
 kF underlying30 kR aOO dC aNS (λ_=>rfl) (λa j hj=>by match j,hj with|0,_|1,_|2,_|3,_=>rfl)
def aOI:Rd prog 119 2 (λs:pQ=>[.d (dS s.aN),.d (dI s.vY)]) (λ_=>True):=
 (fI underlying119 rfl kR (aS rfl rS (aS rfl rI jN))).to (λa=>⟨a.1,a.2.1⟩) (λ_=>rfl) (λ_ _=>trivial)
def aK2:Rd prog 33 1 (λl:List pQ=>[.d (CG l)]) (λl=>lim l.length/\∀a∈l,True):=
 kF underlying33 kR aOI dC Ws (λ_=>rfl) (λa j hj=>by match j,hj with|0,_|1,_=>rfl)
def aOE:Rd prog 171 3 (λs:zF=>[.d (dS s.name),.d (dI s.due),.d (dI s.cg)]) (λ_=>True):=
 (fI underlying171 rfl kR (aS rfl rS (aS rfl rI (aS rfl rI jN)))).to (λa=>⟨a.1,a.2.1,a.2.2.1⟩) (λ_=>rfl) (λ_ _=>trivial)
def aK0:Rd prog 34 1 (λl:List zF=>[.d (RL l)]) (λl=>lim l.length/\∀a∈l,True):=
 kF underlying34 kR aOE dC Nt (λ_=>rfl) (λa j hj=>by match j,hj with|0,_|1,_|2,_=>rfl)
def aOJ:Rd prog 121 6 (λs:uF=>[.d (dS s.name),.d (dI s.OE),.d (dI s.base),.d (dI s.Ra),.d (b5 s.aV),.d (dI s.GZ)]) (λs=>lim s.name.size):=
 (fI underlying121 rfl kR (aS rfl rS (aS rfl rI (aS rfl rI (aS rfl rI (aS rfl Ch.PL (aS rfl rI jN))))))).to (λa=>⟨a.1,a.2.1,a.2.2.1,a.2.2.2.1,a.2.2.2.2.1,a.2.2.2.2.2.1⟩) (λ_=>rfl) (λ_ h=>h.1)
def aK3:Rd prog 35 1 (λl:List uF=>[.d (q7 l)]) (λl=>lim l.length/\∀a∈l,lim a.name.size):=
 kF underlying35 kR aOJ dC X0 (λ_=>rfl) (λa j hj=>by match j,hj with|0,_|1,_|2,_|3,_|4,_|5,_=>rfl)
def aOP:Rd prog 123 3 (λs:nM=>[.d (dS s.aN),.d (dI s.num),.d (dI s.den)]) (λs=>lim s.aN.size):=
 (fI underlying123 rfl kR (aS rfl rS (aS rfl aGY jN))).to (λa=>⟨a.1,a.2.1.1,a.2.1.2⟩) (λ_=>rfl) (λ_ h=>h.1)
def aK8:Rd prog 36 1 (λl:List nM=>[.d (oY l)]) (λl=>lim l.length/\∀a∈l,lim a.aN.size):=
 kF underlying36 kR aOP dC aNU (λ_=>rfl) (λa j hj=>by match j,hj with|0,_|1,_|2,_=>rfl)
def aOM:Rd prog 32 2 (λg:Ground=>[.d (kV g.bK),.d (pN g.cC)]) Ground.fits:=
 (fI underlying32 rfl kR (aS rfl aIB (aS rfl aK7 jN))).to (λa=>⟨a.1,a.2.1⟩) (λ_=>rfl) (λ_ h=>⟨h.1.1,h.2.1.1,h.1.2,λx hx=>(h.2.1.2 x hx).1,λx hx=>(h.2.1.2 x hx).2⟩)
def aOL:Rd prog 24 6 (λg:eZ=>[.d (dI g.x),.d (dI g.y),.d (dI g.side),.d (dI g.dO),.d (dI g.rows),.d (b5 g.levels)]) (λg=>lim g.levels.length):=
 (fI underlying24 rfl kR (aS rfl rI (aS rfl rI (aS rfl rI (aS rfl rI (aS rfl rI (aS rfl Ch.PL jN))))))).to (λa=>⟨a.1,a.2.1,a.2.2.1,a.2.2.2.1,a.2.2.2.2.1,a.2.2.2.2.2.1⟩) (λ_=>rfl) (λ_ h=>h.2.2.2.2.2.1.1)
def aON:Rd prog 28 5 (λc:kE=>[.d (dS c.name),.d (x3 c.aZ),.d (dI c.over),.d (dI c.buffer),.d (zM c.ab)]) kE.ok:=
 (fI underlying28 rfl kR (aS rfl rS (aS rfl aOQ (aS rfl rI (aS rfl rI (aS rfl aK1 jN)))))).to (λa=>⟨a.1,a.2.1,a.2.2.1,a.2.2.2.1,a.2.2.2.2.1⟩) (λ_=>rfl)
  (λ_ h=>⟨h.1,h.2.1.1,h.2.1.2,h.2.2.1,h.2.2.2.1,h.2.2.2.2.1.1,h.2.2.2.2.1.2⟩)
def aQF:Yt prog 38 oR Proj.Dl:=
 VN (k:=20) underlying38 ((fI underlying38 rfl kR (aS rfl rS (aS rfl aOL (aS rfl aON (aS rfl aOM (aS rfl rI (aS rfl rI (aS rfl aK2 (aS rfl aK0 (aS rfl aK3 (aS rfl aK8 jN))))))))))).to
  (λa=>(⟨a.1,a.2.1,a.2.2.1,a.2.2.2.1,a.2.2.2.2.1,a.2.2.2.2.2.1,a.2.2.2.2.2.2.1,a.2.2.2.2.2.2.2.1,a.2.2.2.2.2.2.2.2.1,a.2.2.2.2.2.2.2.2.2.1⟩:Proj)) (λ_=>rfl)
  (λ_ h=>⟨h.1,h.2.1,h.2.2.1,h.2.2.2.1,h.2.2.2.2.2.2.1.1,h.2.2.2.2.2.2.2.1.1,h.2.2.2.2.2.2.2.2.1.2,h.2.2.2.2.2.2.2.2.2.1.2⟩))
def aK6:Rd prog 65 13 (λf:Fact=>[.d (dI f.kind),.d (dI f.seq),.d (dI f.a8),.d (dI f.month),.d (dI f.number),.d (dI f.aT),.d (dI f.over),.d (dI f.Fb),.d (dI f.target),.d (dS f.aN),.d (dS f.dN),.d (dS f.eS),.d (b5 f.levels)]) Fact.fits:=
 (fI underlying65 rfl kR (aS rfl rI (aS rfl rI (aS rfl rI (aS rfl rI (aS rfl rI (aS rfl rI (aS rfl rI (aS rfl rI (aS rfl rI (aS rfl rS (aS rfl rS (aS rfl rS (aS rfl Ch.PL jN)))))))))))))).to
  (λa=>(⟨a.1,a.2.1,a.2.2.1,a.2.2.2.1,a.2.2.2.2.1,a.2.2.2.2.2.1,a.2.2.2.2.2.2.1,a.2.2.2.2.2.2.2.1,a.2.2.2.2.2.2.2.2.1,a.2.2.2.2.2.2.2.2.2.1,a.2.2.2.2.2.2.2.2.2.2.1,a.2.2.2.2.2.2.2.2.2.2.2.1,a.2.2.2.2.2.2.2.2.2.2.2.2.1⟩:Fact)) (λ_=>rfl)
  (λ_ h=>⟨h.2.2.2.2.2.2.2.2.2.2.2.2.1.1,h.2.2.2.2.2.2.2.2.2.1,h.2.2.2.2.2.2.2.2.2.2.1,h.2.2.2.2.2.2.2.2.2.2.2.1⟩)
def aQH:Rd prog 39 1 (λl:List Fact=>[.d (RN l)]) (λl=>lim l.length/\∀a∈l,a.fits):=
 kF underlying39 kR aK6 dC J0 (λ_=>rfl) (λa j hj=>by match j,hj with|0,_|1,_|2,_|3,_|4,_|5,_|6,_|7,_|8,_|9,_|10,_|11,_|12,_=>rfl)
end Go.Pj
namespace Go.Ax
open Go.RowKit
section mono
variable{M M':Mem}{V V':Nm}(hM:Mem.le M M')(hβ:Nm.le V V')
include hM hβ
end mono
section rules
variable{P:Ca}{R:Cx}{N:Nat}{I:St}{K:Exit->St->Prop}
def AW.sub{c:Code}{I':St}(h:Sub R I I')(k:AW P R N c I' K):AW P R N c I K:=by intro M V a w i;obtain⟨V',i'⟩:=i.sub h;exact k M V' a w i'
end rules
def aK.trans{a b c:DV}(h:aK a b)(k:aK b c):aK a c:=λM u r=>k M u (h M u r)
def aC.trans{a b c:AV}(h:aC a b)(k:aC b c):aC a c:=λM u r=>k M u (h M u r)
def aM.trans{R:Cx}{N:Nat}{a b c:St}(h:aM R N a b)(k:aM R N b c):aM R N a c:=λM V x w i=>let⟨V',i'⟩:=h M V x w i;k M V' x w i'
def aU.le{x y:AV}(h:Zl x y):aU x y:=λ_ _ _ r=>h.rep r
def b7.of{box:aP}{fz:List Nat}{x y:AV}(h:aU x y):b7 box fz x y:=λM V v _ r=>h M V v r
def b7.g{box:aP}{fz:List Nat}{l m:List SV}(h:SC box fz l m):b7 box fz (.g l) (.g m):=λ_ _ _ hf ⟨vs,e,r⟩=>⟨vs,e,h.rep hf r⟩
def hI.of{box:aP}{fz:List Nat}{b b':jK}(h:aY b b'):hI box fz b b':=λM V w x _ r=>h M V w x r
def sh{b:Bool}{q:Prop}(h:q):Q3 (b=true) (some (rL true b))/\q:=⟨λh=>by simpa[rL]using h,h⟩
def ydm{P:Ca}{f:FuncId}{args:List AV}{r:AV}{K:AV->Prop}{b:Bool}{X:Prop}(h:b=true->aF P f args r)(k:K r):(∃r,(b=true->aF P f args r)/\K r)\/X:=.inl ⟨r,h,k⟩
def CZ.of{P:Ca}{I:St}{f:FuncId}{ars:List AV}{r:AV}(ren:List (Nat×Nat)){args:List AV}{bx:eV}(h:bW P f args bx r bx)(he:ars=zG ren args)(hm:nO ren I.box bx)(hk:yt ren args bx=true)(hf:B4 r=true)(hx:((names bx).all λx=>(dV (b9 I) ars).contains (look ren x))=true):CZ P I f ars r:=⟨ren,args,bx,h,he,hm,hk,hf,hx⟩
section
variable{α:Type} [Inhabited α] {s n e:Nat}{f g:Nat->Nat->DV}{el:α->Nat->DV}{l:List α}{x:α}
def iJ.b8(h:iJ s n f el l):aY (.row e n s f) (.b8 e l.length s (λi=>el (l.getD i default))):=
 aY.b8 h.1 λi j hi hj=>Ya (h.2 i j hi hj)
end
end Go.Ax
namespace Go.Ch
open Go Go.Ax Go.Proofs Go.Proofs.Tryz
def ydK(a b n:Int):aF prog 22 [vI a,vI b,vI n] (vI (aW (a-mm true b n))):=by exact eP func22 rfl rfl call22 rfl rfl λR _=>Za _
def ydJ(a b n:Int):aF prog 23 [vI a,vI b,vI n] (vI (aW (mm false a n-b))):=by exact eP func23 rfl rfl call23 rfl rfl λR _=>Za _
def ycv{a b:Pt}(ha:fB a=true)(hb:fB b=true):0<=span a b/\span a b<=3000000:=by have h:=KQ ha hb;obtain⟨h1,h2,h3⟩:=AL ha hb hb;exact⟨h.1,h.le O O⟩
def Fk(l:List F8)(r:Int×Bool):Prop:=(r=(0,false)/\∀x∈l,(TG x).2=false)\/(r.2=true/\(∃x∈l,TG x=r)/\∀x∈l,(TG x).2=true->r.1<=(TG x).1)
def Fk.step{l:List F8}{r:Int×Bool}(h:Fk l r)(x:F8):Fk (l++ [x]) (OX r x):=by
 unfold OX;rcases h with⟨rfl,h⟩|⟨h1,⟨y,hy,hyr⟩,h3⟩
 ·cases hx:(TG x).2 with
  |false=>
   refine .inl ⟨rfl,λz hz=>?_⟩;rcases oc.1 hz with hz|hz
   ·exact h z hz
   simp at hz;subst hz;exact hx
  |true=>
   refine .inr ⟨rfl,⟨x,sM,by simp[Prod.ext_iff,hx]⟩,λz hz hz2=>?_⟩;rcases oc.1 hz with hz|hz
   ·rw[h z hz]at hz2;cases hz2
   simp at hz;subst hz;exact Xd _
 rw[h1]
 cases hx:(TG x).2 with
 |false=>
  refine .inr ⟨h1,⟨y,Mf _ hy,hyr⟩,λz hz hz2=>?_⟩;rcases oc.1 hz with hz|hz
  ·exact h3 z hz hz2
  simp at hz;subst hz;rw[hx]at hz2;cases hz2
 |true=>
  by_cases fZ:(TG x).1<r.1
  ·rw[Vc fZ];refine .inr ⟨rfl,⟨x,sM,by simp[Prod.ext_iff,hx]⟩,λz hz hz2=>?_⟩;simp only[Bool.not_true,Kk,Bool.and_self,Na];rcases oc.1 hz with hz|hz
   ·have:=h3 z hz hz2;omega
   simp at hz;subst hz;exact Xd _
  rw[Dd fZ];refine .inr ⟨h1,⟨y,Mf _ hy,hyr⟩,λz hz hz2=>?_⟩;rcases oc.1 hz with hz|hz
  ·exact h3 z hz hz2
  simp at hz;subst hz;show r.1<=_;omega
def ydd(l:List F8):Fk l (FL l):=by
 have:∀(m:List F8),Fk m (FL m):=by
  intro m;suffices h:∀n,Fk (m.take n) (FL (m.take n)) by simpa using h m.length
  intro n;induction n with
  |zero=>exact .inl ⟨rfl,sM⟩
  |succ n ih=>
   by_cases hn:n<m.length
   ·rw[Jm hn,Y5];exact ih.step _
   rw[Km O]at ih⊢;exact ih
 exact this l
def ou(c:kE)(a b:eZ):mI c [a,b]=bif mU c !=0 then mU c else bif kC a !=0 then kC a else bif kC b !=0 then kC b else bif !alike a b then 10 else 0:=rfl
attribute [local irreducible] kC mU in
def ydp(c:kE)(a b:eZ)(hc:c.ok)(ha:a.ok)(hb:b.ok):aF prog 47 [chan c,rK a,rK b] (vI (mI c [a,b])):=by
 have hw:=OR c a;rw[ou];refine eP func47 rfl rfl call47 rfl rfl λR J=>aB (aNM c a hc ha) (aI (λh1=>?_) (λh1=>?_))
 ·apply Ka;show vI (mI c [a])=_;have h1:(mI c [a] !=0)=true:=h1;rw[hw]at h1⊢
  cases h2:mU c !=0
  ·rw[h2]at h1;have h1:(kC a !=0)=true:=h1;rw[h1];rfl
  rfl
 have h1:(mI c [a] !=0)=false:=h1;rw[hw]at h1;have h2:(mU c !=0)=false:=by
  cases h2:mU c !=0
  ·rfl
  rw[h2]at h1;have h1:(mU c !=0)=false:=h1;rw[h2]at h1;cases h1
 rw[h2]at h1;have h3:(kC a !=0)=false:=h1;refine aB (UW b hb.levels) (aI (λh4=>?_) (λh4=>?_))
 ·exact Ka (by rw[h2,h3,h4];rfl)
 repeat refine aR ?_
 have key:(a.x !=b.x||a.y !=b.y||a.side !=b.side||a.dO !=b.dO||a.rows !=b.rows)= !alike a b:=by unfold alike;simp only[Bool.not_and,bne]
 apply aI<;>intro h5
 ·exact Ka (by rw[h2,h3,h4,<-key];rw[show(a.x !=b.x||a.y !=b.y||a.side !=b.side||a.dO !=b.dO||a.rows !=b.rows)=true from h5];rfl)
 exact Ka (by rw[h2,h3,h4,<-key];rw[show(a.x !=b.x||a.y !=b.y||a.side !=b.side||a.dO !=b.dO||a.rows !=b.rows)=false from h5];rfl)
def Yg(h:Int->Int->Int->Int)(b a:eZ)(over sum:Int)(i:Nat)(level:Int):Int:=
 bif b.levels.getD i 0 !=30000&&a.levels.getD i 0 !=30000 then aW (sum+aW (aW (b.side*b.side)*mm true 0 (h (b.levels.getD i 0) (a.levels.getD i 0) (aW (level-over)))))else sum
abbrev oo(fh:Nat)(c:kE)(b a:eZ)(sum:Int):eV:=[(1001,Gf b),(1002,Gf a),(1003,.cells [.d (dI sum)]),(1004,.cells [.d (.dZ fh 0 λ_=>.bL)]),(1005,IT c)]
def yc6(fh:Nat)(h:Int->Int->Int->Int)(hh:∀x y z,aF prog fh [vI x,vI y,vI z] (vI (h x y z)))(c:kE)(b a:eZ)(sum:Int)(i:Nat)(level:Int)(hb:i<b.levels.length)(ha:i<a.levels.length):
  bW prog 49 [vI i,vI level,.s (.ptr 1001 0),.s (.ptr 1002 0),.s (.ptr 1003 0),.s (.ptr 1004 0),.s (.ptr 1005 0)] (oo fh c b a sum) (.t []) (oo fh c b a (Yg h b a c.over sum i level)):=by
 refine gH (rc:=[]) (N:=48) func49 rfl rfl call49 aJ mix rfl rfl rfl rfl (λR J=>?_)
 apply oi Ia
 repeat refine aR ?_
 refine og (λ_=>Ia) ?_
 repeat refine aR ?_
 apply aI<;>intro h1
 ·have h1:(b.levels.getD i 0 !=30000&&a.levels.getD i 0 !=30000)=true:=h1;refine oi Ia (oi Ia ?_);refine aB (hh _ _ _) (aD ?_);have e:Yg h b a c.over sum i level=aW (sum+aW (aW (b.side*b.side)*mm true 0 (h (b.levels.getD i 0) (a.levels.getD i 0) (aW (level-c.over))))):=by unfold Yg;rw[h1];rfl
  rw[e];exact⟨Za _,rfl,rfl,rfl,rfl,rfl,oO⟩
 ·have h1:(b.levels.getD i 0 !=30000&&a.levels.getD i 0 !=30000)=false:=h1;have e:Yg h b a c.over sum i level=sum:=by unfold Yg;rw[h1];rfl
  rw[e];exact⟨Za _,rfl,rfl,rfl,rfl,rfl,oO⟩
def Ad(h:Int->Int->Int->Int)(c:kE)(b a:eZ):Nat->Int
 |0=>0
 |i+1=>bif (UI c (dP b i)).2 then Yg h b a c.over (Ad h c b a i) i (UI c (dP b i)).1 else Ad h c b a i
def ycc(fh:Nat)(h:Int->Int->Int->Int)(hh:∀x y z,aF prog fh [vI x,vI y,vI z] (vI (h x y z)))(c:kE)(b a:eZ)(hv:Qg c)(eb:kC b=0)(hl:a.levels.length=b.levels.length):
  bW prog 48 [chan c,rK b,.s (.dZ 49 [.ptr 1001 0,.ptr 1002 0,.ptr 1003 0,.ptr 1004 0,.ptr 1005 0])] (oo fh c b a 0) (.t []) (oo fh c b a (Ad h c b a b.levels.length)):=by
 have gb:=Bi eb
 have hn:=gb.n
 refine gH (rc:=[49]) (N:=29) func48 rfl rfl call48 aJ mix rfl rfl rfl rfl (λR J=>?_)
 refine tb (λi:Nat=>⟨[(2,.s (.dZ 49 [.ptr 1001 0,.ptr 1002 0,.ptr 1003 0,.ptr 1004 0,.ptr 1005 0])),(3,.s (.ptr 3 0)),(4,.s (.ptr 4 0)),(11,vI b.levels.length),(12,vI i)],
   [(3,some (IT c)),(4,some (Gf b)),(1001,some (Gf b)),(1002,some (Gf a)),(1003,some (.cells [.d (dI (Ad h c b a i))])),(1004,some (.cells [.d (.dZ fh 0 λ_=>.bL)])),(1005,some (IT c))]⟩)
  (λi=>i<=b.levels.length) (λi=>b.levels.length-i) 0 (Oa _) ?_ ?_
 ·exact Eb [] (by rw[J];rfl) rfl Ga Ga
 ·intro i hi;refine Pb (rc:=[49]) aJ mix J _ (aI (λh1=>?_) (λh1=>?_))
  ·have h1:(i:Int)<b.levels.length:=bG h1;have bC:i<b.levels.length:=O;have hg:=(RY gb bC).1;refine aB (aGE b i eb O O O) (aB (aJJ c (dP b i) hv hg) ?_);refine aD ?_;apply aI<;>intro h2
   ·have h2:(UI c (dP b i)).2=true:=h2;have e:Ad h c b a (i+1)=Yg h b a c.over (Ad h c b a i) i (UI c (dP b i)).1:=by rw[Ad,h2];rfl
    refine⟨[],_,_,_,_,yc6 fh h hh c b a (Ad h c b a i) i (UI c (dP b i)).1 bC O,rfl,⟨rfl,rfl,rfl,rfl,rfl,oO⟩,rfl,?_⟩;refine⟨i+1,O,O,?_⟩;exact Eb [] (by rw[J];rfl) rfl ⟨bQ,bQ,bQ,bQ,⟨rfl,ic (by rw[e])⟩,Ga⟩ Ga
   have h2:(UI c (dP b i)).2=false:=h2;have e:Ad h c b a (i+1)=Ad h c b a i:=by rw[Ad,h2];rfl
   refine⟨i+1,O,O,?_⟩;exact Eb [] (by rw[J];rfl) rfl ⟨bQ,bQ,bQ,bQ,⟨rfl,ic (by rw[e];rfl)⟩,Ga⟩ Ga
  have h1:¬(i:Int)<b.levels.length:=bF h1;have bC:i=b.levels.length:=O;subst bC;exact⟨Za _,rfl,rfl,rfl,rfl,rfl,oO⟩
abbrev Gs(n e:Int):AV:=.t [.s (.d (dI n)),.s (.d (dI e))]
def ycz{a b:eZ}(ha:FO a)(hb:FO b)(h:alike a b=true):b.levels.length=a.levels.length:=by unfold alike at h;simp only[cb,rf]at h;have h1:=ha.len;have h2:=hb.len;rw[h.1.2,h.2]at h1;omega
def ybQ{c:kE}{a b:eZ}(h:mI c [a,b]=0):mU c=0/\kC a=0/\kC b=0/\alike a b=true:=by
 rw[ou]at h
 cases h1:mU c !=0 with
 |true=>rw[h1]at h;simp at h1;exact absurd h h1
 |false=>
  cases h2:kC a !=0 with
  |true=>rw[h1,h2]at h;simp at h2;exact absurd h h2
  |false=>
   cases h3:kC b !=0 with
   |true=>rw[h1,h2,h3]at h;simp at h3;exact absurd h h3
   |false=>
    cases h4:alike a b with
    |false=>rw[h1,h2,h3,h4]at h;cases h
    |true=>simp at h1 h2 h3;exact⟨h1,h2,h3,rfl⟩
def Xh(h:Int->Int->Int->Int)(c:kE)(b a:eZ):Int:=bif mI c [b,a] !=0 then 0 else Ad h c b a b.levels.length
attribute [local irreducible] mI in
def ycl(fh:Nat)(h:Int->Int->Int->Int)(hh:∀x y z,aF prog fh [vI x,vI y,vI z] (vI (h x y z)))(c:kE)(b a:eZ)(hc:c.ok)(hb:b.ok)(ha:a.ok):
  aF prog 21 [chan c,rK b,rK a,.s (.d (.dZ fh 0 λ_=>.bL))] (Gs (Xh h c b a) (mI c [b,a])):=by
 refine gI (rc:=[48]) (N:=24) func21 rfl rfl call21 aJ mix rfl rfl (λR J=>?_)
 refine aB (ydp c b a hc hb ha) ?_
 apply aI<;>intro h1
 ·exact Ka (by unfold Xh;rw[show(mI c [b,a] !=0)=true from h1];rfl)
 have h1:(mI c [b,a] !=0)=false:=h1
 have h0:mI c [b,a]=0:=by simpa using h1
 obtain⟨e1,e2,e3,e4⟩:=ybQ h0
 refine⟨[(1001,5),(1002,6),(1003,11),(1004,7),(1005,4)],_,_,_,_,ycc fh h hh c b a (Zs c e1) e2 (ycz (Bi e2) (Bi e3) e4),rfl,⟨rfl,rfl,rfl,rfl,rfl,oO⟩,rfl,?_⟩
 exact Ka (by unfold Xh;rw[h1,h0];rfl)
def bj(x y z:Int):Int:=aW (x-mm true y z)
def Xi(x y z:Int):Int:=aW (mm false x z-y)
def ydE(c:kE)(b a:eZ)(hc:c.ok)(hb:b.ok)(ha:a.ok):aF prog 9 [chan c,rK b,rK a] (Gs (Xh bj c b a) (mI c [b,a])):=by exact eP func9 rfl rfl call9 rfl rfl λR J=>aB ((ycl 22 bj ydK c b a hc hb ha).conv (args':=_) ⟨⟨Ja _,Ja _,Ja _,Ja _,Ja _,oO⟩,⟨Ja _,Ja _,Ja _,Ja _,Ja _,Ja _,oO⟩,⟨Ja _,Ja _,Ja _,Ja _,Ja _,Ja _,oO⟩,Zd λj hj=>absurd hj (Ac j),oO⟩) (Za _)
def ycX(c:kE)(b a:eZ)(hc:c.ok)(hb:b.ok)(ha:a.ok):aF prog 10 [chan c,rK b,rK a] (Gs (Xh Xi c b a) (mI c [b,a])):=by exact eP func10 rfl rfl call10 rfl rfl λR J=>aB ((ycl 23 Xi ydJ c b a hc hb ha).conv (args':=_) ⟨⟨Ja _,Ja _,Ja _,Ja _,Ja _,oO⟩,⟨Ja _,Ja _,Ja _,Ja _,Ja _,Ja _,oO⟩,⟨Ja _,Ja _,Ja _,Ja _,Ja _,Ja _,oO⟩,Zd λj hj=>absurd hj (Ac j),oO⟩) (Za _)
def yci{u v s d L U:Int}(hs:0<s)(hd:0<=d)(hd2:d<=s)(h1:L<=u)(h2:L<=v)(h3:u<=U)(h4:v<=U):L<=Fi u v s d/\Fi u v s d<=U:=by
 have a1:L*(s-d)<=u*(s-d):=Yh h1 O;have a2:L*d<=v*d:=Yh h2 hd;have a3:u*(s-d)<=U*(s-d):=Yh h3 O;have a4:v*d<=U*d:=Yh h4 hd;have e1:L*(s-d)+L*d=L*s:=by rw[Uk];omega
 have e2:U*(s-d)+U*d=U*s:=by rw[Uk];omega
 unfold Fi;constructor
 ·exact Int.le_ediv_of_mul_le hs O
 exact Int.ediv_le_of_le_mul hs O
structure mw(c:kE)(x:F8):Prop where
 off:0<=x.offset/\x.offset<=8000000000000
 half:1<=x.half/\x.half<=100000
 rA:c.over-20000<=x.rA/\x.rA<=20000
 run:0<=x.run/\x.run<=1000
def ycG{a b:Ap}{p:Pt}{x:F8}(h:dj a b p=some x):0<=nT a.pt b.pt p/\nT a.pt b.pt p<=nT a.pt b.pt b.pt/\x=aLB a b p:=by
 unfold dj at h
 cases hb:(decide (nT a.pt b.pt p<0)||decide (nT a.pt b.pt p>nT a.pt b.pt b.pt))with
 |true=>rw[hb]at h;cases h
 |false=>rw[hb]at h;simp only[Rc,Hd]at hb;simp only[Xa,Vd]at h;exact⟨O,O,h.symm⟩
def ycs{a q b:Ap}{p:Pt}{x:F8}(h:R5 a q b p=some x):x=⟨span q.pt p,q.half,q.level,q.run⟩:=by
 unfold R5 at h
 cases hb:(decide (nT a.pt q.pt p<=nT a.pt q.pt q.pt)||decide (nT q.pt b.pt p>=0))with
 |true=>rw[hb]at h;cases h
 |false=>rw[hb]at h;simp only[Xa,Vd]at h;exact h.symm
def yc3{c:kE}{p:Pt}(hv:Qg c)(hp:fB p=true){x:F8}(hx:x∈G4 c p):mw c x:=by
 have h2:=hv.n2;unfold G4 lF l8 at hx;simp only[oc,Li,rh]at hx;rcases hx with⟨k,hk,h⟩|⟨j,hj,h⟩
 ·obtain⟨d0,d1,rfl⟩:=ycG h;have ha:=hv.w9 k O;have hb:=hv.w9 (k+1) O;have JW:=hv.apart k O;have hs:=Jr JW;have l1:=hv.level k O;have l2:=hv.level (k+1) O;have f1:=hv.half k O;have f2:=hv.half (k+1) O;exact⟨aFC ha hb hp JW,yci hs d0 d1 f1.1 f2.1 f1.2 f2.2,yci hs d0 d1 l1.1 l2.1 l1.2 l2.2,hv.run k O⟩
 have:=ycs h;subst this;have hq:=hv.w9 (j+1) O;have hsp:=ycv hq hp;exact⟨⟨hsp.1,Qm hsp.2 O⟩,hv.half (j+1) O,hv.level (j+1) O,hv.run (j+1) O⟩
def ydt{c:kE}{x:F8}(hx:mw c x)(hv:Qg c)(h:(TG x).2=true):c.over-20000<=(TG x).1/\(TG x).1<=20000:=by
 obtain⟨h1,h2,h3,h4⟩:=hx;have ho:=hv.over;unfold TG lvl at h⊢
 cases c1:decide (x.offset<=x.half)with
 |true=>rw[c1]at h;exact h3
 |false=>
  rw[c1]at h;have c1:=bF c1
  cases c2:(x.run==0)with
  |true=>rw[c2]at h;cases h
  |false=>
   rw[c2]at h;have c2:x.run≠0:=by simpa using c2
   have hq:0<=(x.offset-x.half).tdiv x.run/\(x.offset-x.half).tdiv x.run<=8000000000000:=by rw[Ik O];exact⟨Xp O O,Qm (Mu _ O) O⟩
   have e:aW (x.rA+aW ((aW (x.offset-x.half)).tdiv x.run))=x.rA+(x.offset-x.half).tdiv x.run:=by rw[aG (n:=x.offset-x.half) O O,aG (n:=(x.offset-x.half).tdiv x.run) O O,aG O O]
   simp only[Xa]at h⊢;have h:=bG h;rw[e]at h⊢;omega
def Mr{c:kE}{p:Pt}(hv:Qg c)(hp:fB p=true)(h:(UI c p).2=true):c.over-20000<=(UI c p).1/\(UI c p).1<=20000:=by
 rcases ydd (G4 c p)with⟨h1,_⟩|⟨_,⟨x,hx,e⟩,_⟩
 ·unfold UI at h;rw[h1]at h;cases h
 unfold UI at h⊢;rw[<-e]at h⊢;exact ydt (yc3 hv hp hx) hv h
def Xo(c:kE)(g:eZ)(less:Int){i:Nat}(h:i<g.levels.length):(mM c g less).levels.getD i 0=L0 c g less i:=by simp[mM,h]
def ydG(x:F8):Bool:=decide (x.offset<=x.half)
def FM(c:kE)(p:Pt):Bool:=(G4 c p).any ydG
def lv(g:eZ)(k:Int):Int:=g.levels.getD k.toNat 0
def wZ(g:eZ)(r:Int×Bool)(i:Nat):Int×Bool:=(bif decide (r.1<0)||decide (lv g i>lv g r.1)then(i:Int)else r.1,r.2||lv g i==30000)
def ycd{g:eZ}{l:List Int}(h:kC g=0)(hn:l.length=g.levels.length)(hb:l.any iQ=false):kC {g with levels:=l}=0:=by
 unfold kC at h⊢;rw[show e1 {g with levels:=l}=e1 g from rfl]
 cases h1:e1 g with
 |true=>rw[h1]at h;cases h
 |false=>
  rw[h1]at h;simp only[Xa,hn,hb]at h⊢
  cases h2:decide (aW (g.dO*g.rows)>1024)with
  |true=>rw[h2]at h;cases h
  |false=>
   rw[h2]at h;simp only[Xa]at h⊢
   cases h3:(decide (aW (g.x+aW (g.dO*g.side))>1000000)||decide (aW (g.y+aW (g.rows*g.side))>1000000))with
   |true=>rw[h3]at h;cases h
   |false=>
    rw[h3]at h;simp only[Xa]at h⊢
    cases h4:((g.levels.length:Int) !=aW (g.dO*g.rows))with
    |true=>rw[h4]at h;cases h
    |false=>rfl
def ydl(g:eZ)(i:Nat)(hi:i<g.levels.length)(hl:g.levels.length<=1000000):aF prog 42 [rK g,vI i] (vB (g.levels.getD i 0 !=30000)):=by
 refine eP func42 rfl rfl call42 rfl rfl λR _=>aB ((x7 0 (aW ((g.levels.length:Int)-1)) [(i:Int)] sM).conv (args':=_) ⟨Ja _,Ja _,Ic λi j hi hj=>?_,oO⟩) ?_
 ·obtain rfl:i=0:=by have:i<1:=hi;omega
  obtain rfl:j=0:=by have:j<1:=hj;omega
  exact Ya rfl
 repeat refine aR ?_
 refine og (λ_=>Ia) ?_;repeat refine aR ?_
 apply Ka;show vB ((!JQ 0 (aW ((g.levels.length:Int)-1)) [(i:Int)])&&(g.levels.getD i 0 !=30000))=_;have e:JQ 0 (aW ((g.levels.length:Int)-1)) [(i:Int)]=false:=by rw[aG O O];simp[JQ,within];omega
 rw[e];rfl
def ycA(g:eZ):aF prog 80 [rK g] (.g [.d (dI g.x),.d (dI g.y),.d (dI g.side),.d (dI g.dO),.d (dI g.rows)]):=by exact eP func80 rfl rfl call80 rfl rfl λR _=>Za _
def Eh(a b:eZ):Bool:=a.x==b.x&&(a.y==b.y&&(a.side==b.side&&(a.dO==b.dO&&(a.rows==b.rows&&true))))
def Ah(a b:eZ):Int:=bif kC a !=0 then kC a else bif kC b !=0 then kC b else bif !Eh a b then 10 else 0
attribute [local irreducible] kC in
def ydB(a b:eZ)(ha:a.ok)(hb:b.ok):aF prog 39 [rK a,rK b] (vI (Ah a b)):=by
 refine eP func39 rfl rfl call39 rfl rfl λR J=>?_
 refine tb (λi:Nat=>⟨[(2,.s (.ptr 2 0)),(3,.s (.ptr 3 0)),(10,.s (.own 10)),(11,vI 2),(12,vI i)],
   [(2,some (Gf a)),(3,some (Gf b)),(10,some (.row 24 2 6 (S1 6 [.d (dI a.x),.d (dI a.y),.d (dI a.side),.d (dI a.dO),.d (dI a.rows),.d (b5 a.levels),.d (dI b.x),.d (dI b.y),.d (dI b.side),.d (dI b.dO),.d (dI b.rows),.d (b5 b.levels)])))]⟩)
  (λi=>i<=2/\(0<i->kC a=0)/\(1<i->kC b=0)) (λi=>2-i) 0 ⟨O,O,O⟩ ?_ ?_
 ·exact Qa J [] rfl Ga Ga
 rintro i ⟨hi,ea,eb⟩;apply eX J;apply aI<;>intro h
 ·have h:(i:Int)<2:=bG h
  match i,h,ea with
  |0,_,_=>
   refine oi Ia (oi dC ?_);refine aB (UW a ha.levels) (aI (λh2=>?_) (λh2=>?_))
   ·have h2:(kC a !=0)=true:=h2;exact Ka (by unfold Ah;rw[h2];rfl)
   have h2:(kC a !=0)=false:=h2;exact⟨1,⟨O,λ_=>by simpa using h2,O⟩,O,Qa J [] rfl Ga ⟨Z,Z,Z,Z,⟨rfl,Ua rfl⟩,oO⟩⟩
  |1,_,ea=>
   have ea:=ea O;refine oi Ia (oi dC ?_);refine aB (UW b hb.levels) (aI (λh2=>?_) (λh2=>?_))
   ·have h2:(kC b !=0)=true:=h2;exact Ka (by unfold Ah;rw[ea,h2];rfl)
   have h2:(kC b !=0)=false:=h2;exact⟨2,⟨O,λ_=>ea,λ_=>by simpa using h2⟩,O,Qa J [] rfl Ga ⟨Z,Z,Z,Z,⟨rfl,Ua rfl⟩,oO⟩⟩
 have h:¬(i:Int)<2:=bF h;have ea:=ea O;have eb:=eb O;refine aB (ycA a) (aB (ycA b) ?_);refine aD ?_;have e:Ah a b=bif !Eh a b then 10 else 0:=by unfold Ah;rw[ea,eb];rfl
 apply aI<;>intro h2
 ·have h2:(!Eh a b)=true:=h2;exact Ka (by rw[e,h2];rfl)
 have h2:(!Eh a b)=false:=h2;exact Ka (by rw[e,h2];rfl)
def ycL{a b:eZ}(ga:FO a)(gb:FO b)(h:Eh a b=true):b.levels.length=a.levels.length:=by unfold Eh at h;simp only[cb,rf]at h;have h1:=ga.len;have h2:=gb.len;rw[h.2.2.2.1,h.2.2.2.2.1]at h1;omega
def ycE{a b:eZ}(h:Ah a b=0):kC a=0/\kC b=0/\Eh a b=true:=by
 unfold Ah at h
 cases h1:kC a !=0 with
 |true=>rw[h1]at h;simp at h1;exact absurd h h1
 |false=>
  cases h2:kC b !=0 with
  |true=>rw[h1,h2]at h;simp at h2;exact absurd h h2
  |false=>
   cases h3:Eh a b with
   |false=>rw[h1,h2,h3]at h;cases h
   |true=>simp at h1 h2;exact⟨h1,h2,rfl⟩
end Go.Ch
namespace Go.Pj
open Go Go.Ax Go.Ch
structure mj where
 aN:wa
 iZ:Int
 deriving Inhabited
def Uh(p:mj):Nat->DV
 |0=>dS p.aN
 |1=>dI p.iZ
 |_=>.bL
def Gp(l:List mj):Nat->Nat->DV:=λi=>Uh (l.getD i default)
def nt(l:List mj):DV:=.fU l.length 2 (Gp l)
abbrev ydM(l:List mj):AV:=.s (.d (nt l))
end Go.Pj
namespace Go.Ch
open Go Go.Ax Go.Proofs Go.Proofs.Tryz
open Go.Lib (itoa)
def ij(s:UInt8)(out:List (List UInt8))(b:UInt8):List (List UInt8):=bif b==s then out++ [[]]else out.dropLast++ [out.getLastD []++ [b]]
def He(s:UInt8)(l:List UInt8):List (List UInt8):=l.foldl (ij s) [[]]
def ycb(s:UInt8)(out:List (List UInt8))(b:UInt8)(h:out≠[]):ij s out b≠[]/\out.length<=(ij s out b).length/\(ij s out b).length<=out.length+1:=by
 have hp:=Bg.2 h;unfold ij
 cases b==s
 ·refine⟨sM,?_,?_⟩ <;> simp <;> omega
 refine⟨sM,?_,?_⟩ <;> simp
def ya8(s:UInt8):∀(l:List UInt8) (out:List (List UInt8)),out≠[]->l.foldl (ij s) out≠[]/\(l.foldl (ij s) out).length<=out.length+l.length
 |[],out,h=>⟨h,sM⟩
 |b::l,out,h=>by obtain⟨h1,_,h3⟩:=ycb s out b h;obtain⟨k1,k2⟩:=ya8 s l _ h1;rw[Rk];exact⟨k1,by simp;omega⟩
def yb1(s:UInt8)(l:List UInt8):He s l≠[]/\(He s l).length<=1+l.length:=ya8 s l [[]] sM
end Go.Ch
namespace Go.Ax
open Go.RowKit
section
variable{P:Ca}{T:List (Nat×bV)}
def yX.rep{M:Mem}{V:Nm}{ts:List TV}{vs:List Aa}(h:rF M V ts vs):(yX ts).bI M V (if h:vs.toArray.size=1 then vs.toArray[0]else .tuple vs.toArray):=by
 cases ts with
 |nil=>
  cases vs with
  |nil=>exact⟨[],rfl,trivial⟩
  |cons _ _=>exact h.elim
 |cons t r'=>
  cases vs with
  |nil=>exact h.elim
  |cons v F9=>
   cases r' with
   |nil=>
    cases F9 with
    |cons _ _=>exact h.2.elim
    |nil=>
     have:=h.1;simp only[Sm,cc,Ud,Sc,dite_true,yX]
     cases t with
     |s x=>exact this
     |g cs=>exact this
   |cons t2 r2=>
    cases F9 with
    |nil=>exact h.2.elim
    |cons v2 vs3=>have fJ:¬(v::v2::vs3).toArray.size=1:=sM;rw[dif_neg fJ];exact⟨_,rfl,h⟩
end
section
variable{P:Ca}{R:Cx}{N:Nat}{I:St}{H:Hid}{K:Exit->St->Hid->Prop}
def HSub.refl:HSub R N I H I H:=λM V _ _ i hi=>⟨M,V,i,hi,qb _ _⟩
def HSub.trans{da aa fa:St}{H1 H2 H3:Hid}(h:HSub R N da H1 aa H2)(k:HSub R N aa H2 fa H3):HSub R N da H1 fa H3:=λM V a w i hi=>
 let⟨M1,qa,i1,OO,g1⟩:=h M V a w i hi
 let⟨M2,na,i2,hi2,g2⟩:=k M1 qa a w i1 OO
 ⟨M2,na,i2,hi2,g1.trans g2⟩
end
section
variable{P:Ca}{T:List (Nat×bV)}{N:Nat}{rc:List Nat}{all:List Oper}{md:Region.Mode}{ft:List fY}
variable{R:Cx}{ref:List Nat}
def wQ.sound(hT:cD P T)(YK:∀f,rc.contains (f+2000000)=true->R.ref=[]){rl:List Nat}(J:R.ref=ref){last:Nat}{ol:Oper}(HW:all[last]? =some ol)(hg:ol.guard=none)
  {ca:St} {K:St->Prop} (qP:VW P T N ref rl ol ca K) {Q:Exit->Act->Ba->Prop}:∀(Ta:Nat) {listed:Array Bool} {I:St} {M:Mem} {V:Nm} {a:Act} {w:Ba},
  wQ P T N rc all md ft ca last Ta listed I->Inv R N M V I a w->(∀a' w',KG R N M w K a' w'->Q .normal a' w')->wpAnyIn (FW R.rd) 0 P md all.toArray Q Ta listed a w:=by
 intro Ta
 induction Ta with
 |zero=>intro listed I M V a w h;exact h.elim
 |succ Ta ih=>
  intro listed I M V a w h i hQ;refine⟨λh0=>absurd h0 h.1,λk hk=>?_⟩;rcases h.2 k hk with⟨ND,hr,heq⟩|⟨ND,o,e,f,ho,hf,gF,LD⟩
  ·subst ND;have sO:all.toArray[k]? =some ol:=by simpa using HW
   unfold wpOpIn;rw[sO];simp only;rw[Ma (by simp[Region.wanted,hg])];exact MQ (VW.nd qP) (Zf (λa' w' hp=>wpAny_done Ta hr (hQ a' w' hp)) (Rv hT qP J (i.eqv heq.symm)))
  have jO:=ln (R:=R) (Q:=Q) hT YK (gF.pt (λe'=>e'=e) rfl) i;have sO:all.toArray[k]? =some o:=by simpa using ho
  have next:∀a' w',CT R N M w o I (λe'=>e'=e) a' w'->wpAnyIn (FW R.rd) 0 P md all.toArray Q Ta (listed.setIfInBounds k true) a' w':=by rintro a' w' ⟨e',M',V',rfl,hi,hg,lB⟩;exact ih LD hi λa2 w2 hp=>hQ a2 w2 (hp.trans hg lB)
  unfold wpOpIn;rw[sO];simp only;split
  ·rename_i hw;rw[Ma hw]at jO;exact MQ jO.1 (Zf next jO.2)
  rename_i hw;rw[La hw]at jO;exact⟨λ_ _=>trivial,next _ _ jO⟩
end
def cV.set{M:Mem}{V:Nm}:∀{cs:List SV} {vs:List Aa} {j:Nat} {c c':SV},cV M V cs vs->cs[j]? =some c->(∀v,c.bI M V v->c'.bI M V v)->cV M V (cs.set j c') vs
 |[],_,_,_,_,_,h,_=>by simp at h
 |x::cs,[],_,_,_,h,_,_=>h.elim
 |x::cs,v::vs,0,c,c',h,hj,k=>by simp at hj;subst hj;exact⟨k v h.1,h.2⟩
 |x::cs,v::vs,j+1,c,c',h,hj,k=>⟨h.1,cV.set h.2 (by simpa using hj) k⟩
end Go.Ax
namespace Go.Ch
open Go Go.Ax Go.Proofs Go.Proofs.Tryz
attribute [local irreducible] kC mU in
def yce(c:kE)(g:eZ)(hc:c.ok)(hg:g.ok):aF prog 8 [chan c,rK g] (rk (zK c g 0).1 (zK c g 0).2):=by exact eP func8 rfl rfl call8 rfl rfl λR J=>aB (aM0 c g 0 hc hg) (Za _)
end Go.Ch
namespace Go.Pj
open Go Go.Ax Go.Ch Go.Proofs Go.Proofs.Tryz
def PV.val{p:Proj}(h:PV p):Qg p.chan:=Zs p.chan h.chan
def PV.eS{p:Proj}(h:PV p){i:Nat}(hi:i<p.cU.length):0<=PG p.chan.ab (p.cU.getD i default).name/\(p.cU.getD i default).due<=24:=by have hs:=h.cU;unfold rR at hs;obtain⟨_,hs⟩:=dF dC hs;have hr:=lQ hs i (Oa _) O;unfold qG at hr;obtain⟨h1,hr⟩:=dF dC hr;obtain⟨_,hr⟩:=dF dC hr;obtain⟨h3,hr⟩:=dF dC hr;simp only[Hd]at h1;simp only[Rc,Mi,within,cb,de]at h3;omega
open Go Go.Ax Go.Ch Go.Proofs Go.Proofs.Tryz Go.Sort Go.Shelf
def ycZ(a:Int)(w:Ba):Calls prog 215 #[.int .i64 a] w λe w'=>e=.returned (.bool false)/\w'=w:=by go_enter func215,Tryz.ntmps215;go_wp2;go_ret;exact⟨rfl,rfl⟩
def ydo(a b:Int)(w:Ba):Calls prog 164 #[.int .i64 a,.int .i64 b] w λe w'=>e=.returned (.int .i64 (Ve a b))/\w'=w:=by
 have hc:=λa w'=>ycZ a w'
 go_enter func164,Tryz.ntmps164;go_wp2_with (first|(go_at_fn 215;refine(hc _ _).mono ?_;rintro e w' ⟨rfl,rfl⟩));refine(hc _ _).mono ?_;rintro e w' ⟨rfl,rfl⟩;go_wp2_with (first|(go_at_fn 215;refine(hc _ _).mono ?_;rintro e w' ⟨rfl,rfl⟩));refine(hc _ _).mono ?_;rintro e w' ⟨rfl,rfl⟩;go_wp2;all_goals go_ret
 all_goals (refine⟨?_,rfl⟩;unfold Ve)
 all_goals first
  |(rw[Ma (by assumption)];rfl)
  |(rw[La O,Ma (by assumption)];rfl)
  |(rw[La O,La O];rfl)
def ydH(a b:Int)(g cap:Nat)(w:Ba)(h0:w.cell? ⟨g,0,none⟩=some (.int .i64 a))(h1:w.cell? ⟨g,1,none⟩=some (.int .i64 b)):
  Calls prog 163 #[.slice (some ⟨g,0,none⟩) 2 cap] w λe w'=>e=.returned (.int .i64 (Rj a b))/\w'=w:=by
 go_enter func163,Tryz.ntmps163
 go_wp2_with fail
 go_rounds 3
 all_goals go_ret
 all_goals (refine⟨?_,rfl⟩;unfold Rj)
 ·rename_i hz;rw[hz];rfl
 ·rename_i hz;rw[show(a !=0)=false by assumption,hz];rfl
 ·rw[show(a !=0)=false by assumption,show(b !=0)=false by assumption];rfl
def ydI(a b:Int)(w:Ba)(o1 o2:Obj):
  Calls prog 163 #[.slice (some ⟨w.heap.size+1+1,0,none⟩) 2 2] (((w.alloc o1).alloc o2).alloc (.cells #[.int .i64 a,.int .i64 b] 3)).drew λe w'=>e=.returned (.int .i64 (Rj a b))/\w'=(((w.alloc o1).alloc o2).alloc (.cells #[.int .i64 a,.int .i64 b] 3)).drew:=
 by
 have hs:((w.alloc o1).alloc o2).heap.size=w.heap.size+1+1:=by show(Array.push (Array.push w.heap o1) o2).size=_;rw[Array.size_push,Array.size_push]
 have hh:((((w.alloc o1).alloc o2).alloc (.cells #[.int .i64 a,.int .i64 b] 3)).drew).heap[w.heap.size+1+1]? =some (.cells #[.int .i64 a,.int .i64 b] 3):=by rw[<-hs];exact Ae ((w.alloc o1).alloc o2) _
 exact ydH a b _ _ _ (by simp only[World.cell?,hh];rfl) (by simp only[World.cell?,hh];rfl)
open Go Go.Ax Go.Ch Go.Proofs Go.Proofs.Tryz Go.Sort Go.Shelf
def ydn(m1 n1 m2 n2:Int)(w:Ba)(v0 v1 v2 v5 v6 v7 v8 v9 v10 v11 v12 u0 u1 u2 u5 u6 u7 u8 u9 u10 u11 u12:Aa):
  Calls prog 162 #[.agg #[v0,v1,v2,.int .i64 m1,.int .i64 n1,v5,v6,v7,v8,v9,v10,v11,v12],.agg #[u0,u1,u2,.int .i64 m2,.int .i64 n2,u5,u6,u7,u8,u9,u10,u11,u12]] w λe w'=>
   e=.returned (.int .i64 (Rj (Ve m1 m2) (Ve n1 n2)))/\∃q os',w'=grow (w.drewN q) os':=by
 have hc:=λa b w'=>ydo a b w'
 have ho:=ydI (Ve m1 m2) (Ve n1 n2) w (.cells #[v0,v1,v2,.int .i64 m1,.int .i64 n1,v5,v6,v7,v8,v9,v10,v11,v12] 65) (.cells #[u0,u1,u2,.int .i64 m2,.int .i64 n2,u5,u6,u7,u8,u9,u10,u11,u12] 65)
 go_enter func162,Tryz.ntmps162
 go_wp2_with fail
 go_region_with (first|(go_at_call 164;refine(hc _ _ _).mono ?_;rintro e w' ⟨rfl,rfl⟩)|(go_at_call 163;apply Calls.mono ho;intro e w1 V7;obtain⟨he,V7⟩:=V7;subst he))
 all_goals go_wp2
 all_goals (try go_ret)
 all_goals first
  |exact⟨rfl,1, #[.cells #[v0,v1,v2,.int .i64 m1,.int .i64 n1,v5,v6,v7,v8,v9,v10,v11,v12] 65,.cells #[u0,u1,u2,.int .i64 m2,.int .i64 n2,u5,u6,u7,u8,u9,u10,u11,u12] 65,.cells #[.int .i64 (Ve m1 m2),.int .i64 (Ve n1 n2)] 3],rfl⟩
  |exact⟨by simp[Act.put],1, #[.cells #[v0,v1,v2,.int .i64 m1,.int .i64 n1,v5,v6,v7,v8,v9,v10,v11,v12] 65,.cells #[u0,u1,u2,.int .i64 m2,.int .i64 n2,u5,u6,u7,u8,u9,u10,u11,u12] 65,.cells #[.int .i64 (Ve m1 m2),.int .i64 (Ve n1 n2)] 3],rfl⟩
  |exact⟨rfl,1, #[.cells #[v0,v1,v2,.int .i64 m1,.int .i64 n1,v5,v6,v7,v8,v9,v10,v11,v12] 65,.cells #[u0,u1,u2,.int .i64 m2,.int .i64 n2,u5,u6,u7,u8,u9,u10,u11,u12] 65,.cells #[.int .i64 (Ve m1 m2),.int .i64 (Ve n1 n2)] 3],V7.trans rfl⟩
def gk(x y:Fact):ltOf Jh x y=decide (x.month<y.month\/(x.month=y.month/\x.number<y.number)):=by
 unfold ltOf Jh Rj Ve;apply decide_eq_decide.2;by_cases h1:x.month<y.month
 ·simp[h1]
 by_cases h2:y.month<x.month
 ·have:x.month≠y.month:=O;simp[h1,h2,this]
 have e:x.month=y.month:=O;by_cases h3:x.number<y.number
 ·simp[e,h3]
 by_cases h4:y.number<x.number
 ·simp[e,h3,h4]
 simp[e,h3,h4]
def ydR:SWO (ltOf Jh) where
 irrefl:=λx=>by rw[gk];simp
 trans:=λx y z h1 h2=>by rw[gk,de]at*;omega
 ntrans:=λx y z h1 h2=>by rw[gk,Hd]at*;omega
instance:Inhabited (GV J0 13):=⟨⟨(default,[.int .i64 (default:Fact).kind,.int .i64 (default:Fact).seq,.int .i64 (default:Fact).a8,.int .i64 (default:Fact).month,.int .i64 (default:Fact).number,.int .i64 (default:Fact).aT,.int .i64 (default:Fact).over,.int .i64 (default:Fact).Fb,.int .i64 (default:Fact).target,.string (default:Fact).aN,.string (default:Fact).dN,.string (default:Fact).eS,.slice none 0 0]),by
 refine⟨rfl,λv hv=>?_,λj u hj hu=>?_⟩
 ·simp only[Gb,Wd,Yd]at hv;rcases hv with rfl|rfl|rfl|rfl|rfl|rfl|rfl|rfl|rfl|rfl|rfl|rfl|rfl <;> rfl
 match j,hj,hu with
 |0,_,hu|1,_,hu|2,_,hu|3,_,hu|4,_,hu|5,_,hu|6,_,hu|7,_,hu|8,_,hu|9,_,hu|10,_,hu|11,_,hu=>cases hu;rfl
 |12,_,hu=>cases hu⟩⟩
def ycH(blk off n:Nat)(w:Ba):CmpLays prog 162 #[] (λp:GV J0 13=>p.1.2) 13 (λp q=>Jh p.1.1 q.1.1) blk off n w:=by
 intro m os dk _ x y;generalize sortWorldK _ 13 w blk off m dk os=W;obtain⟨⟨s,vs⟩,hx⟩:=x;obtain⟨⟨t,us⟩,hy⟩:=y;have e1:=hx.len;have e2:=hy.len;have s3:=hx.val 3 (.int .i64 s.month) O rfl;have s4:=hx.val 4 (.int .i64 s.number) O rfl;have t3:=hy.val 3 (.int .i64 t.month) O rfl;have t4:=hy.val 4 (.int .i64 t.number) O rfl
 match vs,e1,us,e2,s3,s4,t3,t4 with
 |[v0,v1,v2,v3,v4,v5,v6,v7,v8,v9,v10,v11,v12],_,[u0,u1,u2,u3,u4,u5,u6,u7,u8,u9,u10,u11,u12],_,s3,s4,t3,t4=>obtain rfl:v3=.int .i64 s.month:=Gc s3;obtain rfl:v4=.int .i64 s.number:=Gc s4;obtain rfl:u3=.int .i64 t.month:=Gc t3;obtain rfl:u4=.int .i64 t.number:=Gc t4;exact ydn s.month s.number t.month t.number W v0 v1 v2 v5 v6 v7 v8 v9 v10 v11 v12 u0 u1 u2 u5 u6 u7 u8 u9 u10 u11 u12
def ycf(l:List Fact)(hn:∀a∈l,∀b∈l,a.number=b.number->a=b)(l':List Fact)(hp:l'.Perm l)(hs:l'.Pairwise (λx y=>ltOf Jh y x=false)):l'=JH l:=by
 refine ny (le:=λx y=>ltOf Jh y x=false) ?_ hs ?_ (hp.trans (Ki _ _).symm)
 ·intro a b ha hb h1 h2;have ha:a∈l:=hp.mem_iff.1 ha;have hb:b∈l:=(Ki _ _).mem_iff.1 hb;rw[gk,Hd]at h1 h2;exact hn a ha b hb O
 have:=yw (le:=λx y:Fact=> !(ltOf Jh y x)) (λa b c h1 h2=>by
  simp only[gk,nj,Hd]at*;omega) (λa b=>by
  simp only[gk,nh,nj,Hd];omega) l
 exact this.imp λ{x y} h=>by simpa using h
def ycy(l:List Fact)(hn:∀a∈l,∀b∈l,a.number=b.number->a=b)(f0:Nat->Nat->DV)(SO:∀i j,i<l.length->j<13->aK (f0 i j) (nE l i j))(hl:l.length<=1000000):
  bW prog 161 [.s (.own 1001),.s (.dZ 162 [])] [(1001,.row 65 l.length 13 f0)] (.t []) [(1001,.row 65 l.length 13 (nE (JH l)))]:=
 aKD (α:=Fact) (k:=13) Tryz.aBY rfl call161 dC Tryz.isAgg65 Tryz.sizeOf65 J0 (λt j h=>aCW t j h) Jh ydR
  (enters_of func162 kR rfl) ycH l (JH l) (ycf l hn) f0 SO hl
def ZR.of{Y:List Fact}{m:Int}(hl:Y.length<=200)(hn:∀a∈tO Y m,∀b∈tO Y m,a.number=b.number->a=b):ZR Y m:=λ_=>
 ycy _ hn _ (λ_ _ _ _=>λ_ _ r=>r) (by have:(tO Y m).length<=Y.length:=ai _ _;omega)
def Kn{g:Fact}(h:g.kind=1)(hv:nZ g=0):bT g=iO [AX,Lib.itoa g.number]:=by unfold bT nH cS;rw[hv,h];rfl
def ycC{l:List Fact}(hv:∀f∈l,fR f=0)(m:Int):∀a∈tO (cntF l) m,∀b∈tO (cntF l) m,a.number=b.number->a=b:=by
 intro a ha b hb hn;unfold tO at ha hb;obtain⟨ha,a1⟩:=nf.1 ha;obtain⟨hb,b1⟩:=nf.1 hb;simp only[cb,rf]at a1 b1;obtain⟨k1,_,e1,g1,hg1,c1,q1⟩:=N4 hv ha;obtain⟨k2,_,e2,g2,hg2,c2,q2⟩:=N4 hv hb;have t1:g1.kind=1:=by have:=a1.1;rw[c1]at this;exact this
 have t2:g2.kind=1:=by have:=b1.1;rw[c2]at this;exact this
 have n1:a.number=g1.number:=by rw[c1];unfold jE fW;simp[t1]
 have n2:b.number=g2.number:=by rw[c2];unfold jE fW;simp[t2]
 have z1:=(kN (hv g1 hg1)).1;have z2:=(kN (hv g2 hg2)).1;have hkk:k1=k2:=by rw[<-q1,<-q2,Kn t1 z1,Kn t2 z2,<-n1,<-n2,hn]
 rw[e1,e2,hkk]
def yv{p:Proj}{l:List Fact}(hk:Cf p l)(M:Int):ZR (cntF l) M:=ZR.of (x4 hk).len (ycC hk.fmt M)
def ydq(p:Proj):aF prog 13 [oR p] (vB (vC p)):=by exact eP func13 rfl rfl call13 rfl rfl λR J=>aB (aI9 p) (Za _)
def ydF(l:List Fact)(m:Int)(hm:m<=1000000):aF prog 14 [cJ l,vI m] (vB (HD l m)):=by exact eP func14 rfl rfl call14 rfl rfl λR J=>aB (aMW l m hm) (Za _)
def ct(p:Proj)(l:List Fact):Bool:=(!vC p&& !HD l 20)&&iI p l==0
def ydL(p:Proj)(l:List Fact)(hp:p.Dl)(hf:∀f∈l,f.fits)(hl:l.length<=9223372036854775807):aF prog 4 [oR p,cJ l] (vB (ct p l)):=by
 refine eP func4 rfl rfl call4 rfl rfl λR J=>aB (ydq p) ?_
 repeat refine aR ?_
 refine bR (ydF l 20 dC) ?_;repeat refine aR ?_
 refine ydm (r:=vI (iI p l)) (λhb=>?_) ?_
 ·have hb:(!vC p&& !HD l 20)=true:=hb;simp only[cb,nj]at hb;exact PM p l (hp.fits hb.1) hf hl
 repeat refine aR ?_
 exact Ka rfl
def ten:aF prog 6 [] (vB true):=by
 have hS:=aGO RB YZ 1 aCZ RC dC aJD aM4 (aLO RB (cntF YZ) (1:Nat) _ rfl);rw[aCX,aJC,aFW]at hS;obtain⟨d,hd,hdv⟩:=aM7;rw[hd]at hS;refine eW func6 rfl rfl call6 rfl rfl (λR J=>?_);refine sX J (Ce (I':=⟨[(1,cJ YZ)],[]⟩) ?_ ?_)
 ·refine Ij (od ?_);refine Vb (rc:=[]) aJ 1 J [] rfl rfl ?_;refine Be (I':=⟨[(4,.s (.d (b5 [-1000, -1060])))],[]⟩) (H':=Hid.none) (Of (oe J [] [4] rfl rfl rfl trivial ⟨⟨rfl,(re (Hb.2 rfl) rfl).then (Mc (Ic λi j hi hj=>by have hi:i<2:=hi;have hj:j<1:=hj;match i,j,hi,hj with|0,0,_,_|1,0,_,_=>exact Ja _))⟩,oO⟩)) ?_;refine Vb (rc:=[]) aJ 2 J [] rfl rfl ?_;refine Be (I':=⟨[(5,.g [.d (dI 0),.d (dI 1),.d (dI 0),.d (dI 1),.d (dI 0),.d (dI 0),.d (dI 0),.d (dI 0),.d (dI 0),.d (dS (bs [])),.d (dS (bs [])),.d (dS (bs [])),.d (b5 [-1000, -1060])]),(6,.s (.d (b5 [-1005, -1065])))],[]⟩) (H':=Hid.none) (Of (oe J [] [6] rfl rfl rfl trivial ⟨⟨rfl,pb⟩,⟨rfl,(re (Hb.2 rfl) rfl).then (Mc (Ic λi j hi hj=>by have hi:i<2:=hi;have hj:j<1:=hj;match i,j,hi,hj with|0,0,_,_|1,0,_,_=>exact Ja _))⟩,oO⟩)) ?_;refine Vb (rc:=[]) aJ 3 J [] rfl rfl (Be (I':=⟨[(9,cJ YZ)],[]⟩) (H':=Hid.none) (Of (oe J [] [9] rfl rfl rfl trivial ⟨⟨rfl,(re (Hb.2 rfl) rfl).then (Mc (Ic λi j hi hj=>?_))⟩,oO⟩)) ?_)
  ·have hi:i<3:=hi;have hj:j<13:=hj
   match i,j,hi,hj with
   |0,0,_,_|0,1,_,_|0,2,_,_|0,3,_,_|0,4,_,_|0,5,_,_|0,6,_,_|0,7,_,_|0,8,_,_|0,9,_,_|0,10,_,_|0,11,_,_|0,12,_,_|1,0,_,_|1,1,_,_|1,2,_,_|1,3,_,_|1,4,_,_|1,5,_,_|1,6,_,_|1,7,_,_|1,8,_,_|1,9,_,_|1,10,_,_|1,11,_,_|1,12,_,_|2,0,_,_|2,1,_,_|2,2,_,_|2,3,_,_|2,4,_,_|2,5,_,_|2,6,_,_|2,7,_,_|2,8,_,_|2,9,_,_|2,10,_,_|2,11,_,_=>exact Ja _
   |2,12,_,_=>exact Md
  exact Vb (rc:=[]) aJ 1 J [] rfl rfl (wc ⟨rfl,Qa J [] rfl trivial Ga⟩)
 refine eX J (aB Example ?_);apply aB hS;repeat refine aR ?_
 exact Ka rfl
def sJ.size{s:RS}(h:sJ s):(bs (dL s).1).size<=9223372036854775807:=by have:=h.head;rw[cF];show(s.1.headD []).length<=_;omega
def We(p:Proj)(Y:List Fact)(m:Int):List Fact×gK:=iM p (j8 Y m) (j8 Y m).length
def ybZ{l:List Fact}(hv:∀f∈l,fR f=0){k:bJ}(hk:k∈pS l):∃g∈l,rU (zH (pT l) k)=jE g/\bT g=k:=by
 obtain⟨j,e,uZ,he⟩:=KO hk;obtain⟨hl1,_⟩:=O0 he;obtain⟨e',DT,y5,_,hp,_⟩:=A4 he;have qP:zH (pT l) k=e.2.1.getD (e.2.1.length-1) []:=by unfold zH;rw[uZ]
 have kK:zH (pT l) k∈e.2.1:=by rw[qP,aX O];exact ze _
 rw[hp]at kK;obtain⟨g,hg,ht,tR⟩:=yP DT _ (XZ kK);refine⟨g,hg,?_,?_⟩
 ·rw[ht];exact LZ (hv g hg)
 rw[tR,<-y5];exact(xU uZ).2.2
def ydc{l:List Fact}(hv:∀f∈l,fR f=0):(cntF l).Pairwise λa b=>a.kind=1->b.kind=1->a.number≠b.number:=by
 unfold cntF;rw[Uw];have hn:(pS l).Nodup:=(Ki _ _).nodup_iff.2 (C9 l);refine Vx ?_ hn;intro k1 k2 h1 h2 fJ a1 a2 hnum;obtain⟨g1,hg1,c1,q1⟩:=ybZ hv h1;obtain⟨g2,hg2,c2,q2⟩:=ybZ hv h2;rw[c1]at a1 hnum;rw[c2]at a2 hnum;have t1:g1.kind=1:=a1;have t2:g2.kind=1:=a2;have n1:(jE g1).number=g1.number:=by unfold jE fW;simp[t1]
 have n2:(jE g2).number=g2.number:=by unfold jE fW;simp[t2]
 apply fJ;rw[<-q1,<-q2,Kn t1 (kN (hv g1 hg1)).1,Kn t2 (kN (hv g2 hg2)).1,<-n1,<-n2,hnum]
def Kc(q:fb->Bool):List fb->Int
 |[]=>0
 |x::r=>(bif q x then x.iZ else 0)+Kc q r
def yc(q:fb->Bool)(b:List fb):∀a,Kc q (a++b)=Kc q a+Kc q b
 |[]=>by show Kc q b=0+_;omega
 |x::r=>by show _+Kc q (r++b)=_+Kc q r+_;rw[yc q b r];omega
def Ek(q:fb->Bool)(a:List fb)(x:fb):Kc q (a++ [x])=Kc q a+bif q x then x.iZ else 0:=by rw[yc];show _+(_+0)=_;omega
abbrev Rf(s:wa):bJ:=s.data.toList
structure cj(L:bJ->List Fact):Prop where
 one:∀k k' j j',j<(L k).length->j'<(L k').length->((L k).getD j default).number=((L k').getD j' default).number->k=k'/\j=j'
 pos:∀k,∀f∈L k,1<=f.number
structure Zj(L:bJ->List Fact)(M:Int)(n:Nat)(x:fb):Prop where
 month:x.month=M
 cell:∃i:Nat,x.cell=i/\i<n
 iZ:0<x.iZ
 gV:0<=x.gV/\x.gV<=x.iZ
 load:(x.load=0/\x.dN=bs [])\/∃f∈L (Rf x.aN),f.number=x.load/\f.dN=x.dN
structure Df(L:bJ->List Fact)(M:Int)(n:Nat)(g:bJ->Nat×List Room)(out:List fb):Prop where
 facts:∀k,(g k).2.map Prod.fst=L k
 left:∀k j,j<(g k).2.length->0<=((g k).2.getD j default).2/\Kc (λx=>x.load==((g k).2.getD j default).1.number) out+((g k).2.getD j default).2=((g k).2.getD j default).1.aT
 lM:∀x∈out,Zj L M n x
def Lc(g:bJ->Nat×List Room)(k:bJ)(v:Nat×List Room):bJ->Nat×List Room:=λk'=>if k'=k then v else g k'
def Vh(g:bJ->Nat×List Room)(k:bJ)(v:Nat×List Room):Lc g k v k=v:=Ma rfl
def yk{g:bJ->Nat×List Room}{k k':bJ}{v:Nat×List Room}(h:k'≠k):Lc g k v k'=g k':=La h
def Ck{l:List Room}{L:List Fact}(h:l.map Prod.fst=L){j:Nat}(hj:j<l.length):j<L.length/\(l.getD j default).1=L.getD j default:=by subst h;refine⟨by rw[yg];exact hj,?_⟩;rw[ac,ac,Kd,Cb hj];rfl
def Df.none{L:bJ->List Fact}{M:Int}{n:Nat}{g:bJ->Nat×List Room}{out:List fb}(h:Df L M n g out)(hU:cj L){x:fb}(hx:Zj L M n x)(h0:x.load=0){k:bJ}{lo lo':Nat}{cur:List Room}(hg:g k=(lo,cur)):Df L M n (Lc g k (lo',cur)) (out++ [x]):=by
 have e:∀k',(Lc g k (lo',cur) k').2=(g k').2:=λk'=>by
  by_cases he:k'=k
  ·subst he;rw[Vh,hg]
  rw[yk he]
 refine⟨λk'=>by rw[e];exact h.facts k',λk' j hj=>?_,λy hy=>?_⟩
 ·rw[e]at hj⊢;obtain⟨h1,h2⟩:=h.left k' j hj;obtain⟨h3,h4⟩:=Ck (h.facts k') hj;have:=hU.pos k' _ (bP h3);rw[<-h4]at this;rw[Ek,h0,show((0:Int)==((g k').2.getD j default).1.number)=false by rw[pf];omega];exact⟨h1,by show _+0+_=_;omega⟩
 rcases oc.1 hy with hy|hy
 ·exact h.lM y hy
 rw[Hb.1 hy];exact hx
def Df.some{L:bJ->List Fact}{M:Int}{n:Nat}{g:bJ->Nat×List Room}{out:List fb}(h:Df L M n g out)(hU:cj L){x:fb}(hx:Zj L M n x){k:bJ}{lo lo':Nat}{cur:List Room}(hg:g k=(lo,cur))(hl:lo<cur.length)
  (h0:x.load=(cur.getD lo default).1.number) (hv:x.iZ<=(cur.getD lo default).2):Df L M n (Lc g k (lo',cur.set lo ((cur.getD lo default).1,(cur.getD lo default).2-x.iZ))) (out++ [x]):=by
 have hf:=h.facts k
 have hL:=h.left k
 rw[hg]at hf hL
 have hf:cur.map Prod.fst=L k:=hf
 obtain⟨a1,a2⟩:=Ck hf hl
 refine⟨λk'=>?_,λk' j hj=>?_,λy hy=>?_⟩
 ·by_cases he:k'=k
  ·subst he;rw[Vh];show(cur.set lo _).map Prod.fst=_;rw[List.map_set,<-hf];apply List.ext_getElem sM;intro i h1 h2;by_cases hi:lo=i
   ·subst hi;simp[hl]
   simp[hi]
  rw[yk he];exact h.facts k'
 ·by_cases he:k'=k
  ·subst he;rw[Vh]at hj⊢;have hjc:j<cur.length:=by simpa using hj
   clear hj;show 0<=((cur.set lo _).getD j default).2/\Kc (λy=>y.load==((cur.set lo _).getD j default).1.number) _+((cur.set lo _).getD j default).2=((cur.set lo _).getD j default).1.aT;have h1:0<=(cur.getD j default).2:=(hL j hjc).1;have h2:Kc (λx=>x.load==(cur.getD j default).1.number) out+(cur.getD j default).2=(cur.getD j default).1.aT:=(hL j hjc).2;by_cases hi:j=lo
   ·subst hi;rw[show(cur.set j ((cur.getD j default).1,(cur.getD j default).2-x.iZ)).getD j default=((cur.getD j default).1,(cur.getD j default).2-x.iZ) by rw[ac,List.getElem?_set_self hjc];rfl];dsimp only;rw[Ek,h0,BEq.rfl];dsimp only [cond_true];omega
   rw[show(cur.set lo ((cur.getD lo default).1,(cur.getD lo default).2-x.iZ)).getD j default=cur.getD j default by rw[ac,List.getElem?_set_ne (Ne.symm hi),ac]];obtain⟨b1,b2⟩:=Ck hf hjc;have fJ:(cur.getD lo default).1.number≠(cur.getD j default).1.number:=λhn=>by rw[a2,b2]at hn;exact hi (hU.one _ _ _ _ a1 b1 hn).2.symm
   rw[Ek,h0,pf.2 fJ];exact⟨h1,by show _+0+_=_;omega⟩
  rw[yk he]at hj⊢;obtain⟨h1,h2⟩:=h.left k' j hj;obtain⟨b1,b2⟩:=Ck (h.facts k') hj;have fJ:(cur.getD lo default).1.number≠((g k').2.getD j default).1.number:=λhn=>by rw[a2,b2]at hn;exact he (hU.one _ _ _ _ a1 b1 hn).1.symm
  rw[Ek,h0,pf.2 fJ];exact⟨h1,by show _+0+_=_;omega⟩
 ·rcases oc.1 hy with hy|hy
  ·exact h.lM y hy
  rw[Hb.1 hy];exact hx
def ycr(g:bJ->Nat×List Room)(k:bJ)(v w:Nat×List Room):Lc (Lc g k v) k w=Lc g k w:=by funext k';unfold Lc;split <;> rfl
def yc7{L:bJ->List Fact}{M:Int}{n:Nat}(hU:cj L){pt:fb}{g:bJ->Nat×List Room}{out0:List fb}{T:Int->Int}(hl:pt.load=0)(hpit:pt.dN=bs [])(cY:∃i:Nat,pt.cell=i/\i<n)(hm:pt.month=M){N:Nat}{fin:DS}:
  ∀Ta s,DJ pt N fin (Ta,s)->Df L M n (Lc g (Rf pt.aN) (s.lo,s.cur)) (out0++s.out)->(0<=s.p/\s.p<=s.v)->(∀c,Kc (λx=>x.cell==c) (out0++s.out)+(if c=pt.cell then s.v else 0)=T c)->
   Df L M n (Lc g (Rf pt.aN) (fin.lo,fin.cur)) (out0++fin.out)/\∀c,Kc (λx=>x.cell==c) (out0++fin.out)=T c:=by
 intro Ta
 induction Ta with
 |zero=>
  intro s h hr hp hT;by_cases hv:s.v>0
  ·obtain⟨k',e,_⟩:=h.step hv;omega
  have aCM:s=fin:=h.run;have h0:s.v=0:=by have:=h.v;dsimp only at this;omega
  subst aCM;refine⟨hr,λc=>?_⟩;rw[<-hT c,h0];split <;> omega
 |succ Ta ih=>
  intro s h hr hp hT;by_cases hv:s.v>0
  ·obtain⟨k',e,h'⟩:=h.step hv;obtain rfl:Ta=k':=O;have hvv:=h.v;have hlen:=h.len;have hleft:=h.left s.lo (mb _);dsimp only at hvv hlen hleft;by_cases DR:s.lo<s.cur.length
   ·obtain⟨l1,l2⟩:=hleft O;have hd:decide (s.lo<s.cur.length)=true:=Vc DR;have m1:=lf s.v (s.cur.getD s.lo default).2;have m2:=lf s.p (mm false s.v (s.cur.getD s.lo default).2);have hx:Zj L M n ⟨pt.month,pt.cell,pt.aN,mm false s.v (s.cur.getD s.lo default).2,mm false s.p (mm false s.v (s.cur.getD s.lo default).2),(s.cur.getD s.lo default).1.number,(s.cur.getD s.lo default).1.dN⟩:=by refine⟨hm,cY,by show 0<mm false _ _;omega,by show 0<=mm false _ _/\mm false _ _<=mm false _ _;omega,.inr ?_⟩;have hf:=hr.facts (Rf pt.aN);rw[Vh]at hf;obtain⟨a1,a2⟩:=Ck hf DR;exact⟨_,bP a1,Sa Fact.number a2.symm,Sa Fact.dN a2.symm⟩
    have e1:aW ((s.cur.getD s.lo default).2-mm false s.v (s.cur.getD s.lo default).2)=(s.cur.getD s.lo default).2-mm false s.v (s.cur.getD s.lo default).2:=aG O O;have e2:aW (s.v-mm false s.v (s.cur.getD s.lo default).2)=s.v-mm false s.v (s.cur.getD s.lo default).2:=aG O O;have e3:aW (s.p-mm false s.p (mm false s.v (s.cur.getD s.lo default).2))=s.p-mm false s.p (mm false s.v (s.cur.getD s.lo default).2):=aG O O;have hs:=hr.some hU hx (lo':=bif aW ((s.cur.getD s.lo default).2-mm false s.v (s.cur.getD s.lo default).2)==0 then s.lo+1 else s.lo) (Vh g _ _) DR rfl (by show mm false _ _<=_;omega);rw[ycr]at hs;refine ih (a6 pt s) h' ?_ ?_ λc=>?_
    ·unfold a6;rw[hd];dsimp only [cond_true];rw[e1]at hs⊢;rw[<-List.append_assoc];exact hs
    ·unfold a6;rw[hd];show 0<=aW _/\aW _<=aW _;rw[e2,e3];omega
    rw[<-hT c];unfold a6;rw[hd];show Kc _ (out0++(s.out++ [_]))+(if c=pt.cell then aW _ else 0)=_;rw[<-List.append_assoc,Ek,e2];by_cases hc:c=pt.cell
    ·rw[Ma hc,Ma hc,hc,BEq.rfl];show _+mm false _ _+_=_;omega
    rw[La hc,La hc,show(pt.cell==c)=false from pf.2 (Ne.symm hc)];show _+(0:Int)+0=_;omega
   have hd:decide (s.lo<s.cur.length)=false:=Dd DR;have m2:=lf s.p s.v;have hx:Zj L M n ⟨pt.month,pt.cell,pt.aN,s.v,mm false s.p s.v,pt.load,pt.dN⟩:=
    ⟨hm,cY,hv,by show 0<=mm false _ _/\mm false _ _<=s.v;omega,.inl ⟨hl,hpit⟩⟩
   have hs:=hr.none hU hx hl (lo':=s.lo) (Vh g _ _);rw[ycr]at hs;refine ih (a6 pt s) h' ?_ ?_ λc=>?_
   ·unfold a6;rw[hd];dsimp only [cond_false];rw[<-List.append_assoc];exact hs
   ·unfold a6;rw[hd];show 0<=aW _/\aW _<=aW _;rw[aG O O,aG O O];omega
   rw[<-hT c];unfold a6;rw[hd];show Kc _ (out0++(s.out++ [_]))+(if c=pt.cell then aW _ else 0)=_;rw[<-List.append_assoc,Ek,aG O O];by_cases hc:c=pt.cell
   ·rw[Ma hc,Ma hc,hc,BEq.rfl];show _+s.v+_=_;omega
   rw[La hc,La hc,show(pt.cell==c)=false from pf.2 (Ne.symm hc)];show _+(0:Int)+0=_;omega
  have aCM:s=fin:=by have:=h.run;rw[<-this];exact(BD hv).symm
  have h0:s.v=0:=by have:=h.v;dsimp only at this;omega
  subst aCM;refine⟨hr,λc=>?_⟩;rw[<-hT c,h0];split <;> omega
def Vg(e:mF)(r:List mF)(k:bJ):B1 (e::r) k=bif k==e.1 then e.2.1 else B1 r k:=by
 have sh:∀(l:List mF) (i:Nat),(fP l k (i+1)).map (·.2)=(fP l k i).map (·.2):=by
  intro l;induction l with
  |nil=>intro i;rfl
  |cons x r ih=>
   intro i;rw[fP,fP]
   cases k==x.1 with
   |true=>rfl
   |false=>exact ih (i+1)
 unfold B1;rw[fP]
 cases k==e.1 with
 |true=>rfl
 |false=>
  have:=sh r 0;show(match fP r k (0+1)with|some (_,e)=>e.2.1|none=>(0,[]))=(match fP r k 0 with|some (_,e)=>e.2.1|none=>(0,[]))
  cases h1:fP r k (0+1) <;> cases h2:fP r k 0 <;> rw[h1,h2]at this <;> simp_all
def yb3{k:bJ}:∀{E:List mF} {i j:Nat} {e:mF},fP E k i=some (j,e)->∃a b,E=a++e::b/\j=i+a.length/\e.1=k/\∀x∈a,(k==x.1)=false
 |[],_,_,_,h=>by cases h
 |x::r,i,j,e,h=>by
  rw[fP]at h
  cases hk:(k==x.1)with
  |true=>rw[hk]at h;obtain⟨rfl,rfl⟩:=sv (Gc h);exact⟨[],r,rfl,rfl,(eq_of_beq hk).symm,λy hy=>by cases hy⟩
  |false=>
   rw[hk]at h;obtain⟨a,b,rfl,hj,he,ha⟩:=yb3 (E:=r) h;refine⟨x::a,b,rfl,by rw[hj,cc];omega,he,λy hy=>?_⟩;rcases Gb.1 hy with rfl|hy
   ·exact hk
   exact ha y hy
def ych{k:bJ}:∀{E:List mF} {i:Nat},fP E k i=none->∀x∈E,(k==x.1)=false
 |[],_,_,x,hx=>by cases hx
 |y::r,i,h,x,hx=>by
  rw[fP]at h
  cases hk:(k==y.1)with
  |true=>rw[hk]at h;cases h
  |false=>
   rw[hk]at h;rcases Gb.1 hx with rfl|hx
   ·exact hk
   exact ych h x hx
def Zt{k:bJ}(b:List mF):∀(a:List mF),(∀x∈a,(k==x.1)=false)->B1 (a++b) k=B1 b k
 |[],_=>rfl
 |x::r,h=>by rw[af,Vg,h x (dd),Xa];exact Zt b r λy hy=>h y (Yb _ hy)
def ybF{k k':bJ}{x y:mF}(b:List mF)(hx:x.1=k)(hy:y.1=k)(hk:k'≠k):∀(a:List mF),B1 (a++x::b) k'=B1 (a++y::b) k'
 |[]=>by have h:(k'==k)=false:=pf.2 hk;rw[oh,oh,Vg,Vg,hx,hy,h];rfl
 |z::r=>by rw[af,af,Vg,Vg,ybF b hx hy hk r]
def yb6(E:List mF)(k:bJ)(v:Nat×List Room):B1 (Pg E k v)=Lc (B1 E) k v:=by
 funext k';unfold Pg
 cases hf:fP E k 0 with
 |none=>
  have hn:=ych hf;by_cases he:k'=k
  ·subst he;rw[Vh];show B1 (E++ [(k',v,E.length)]) k'=v;rw[Zt _ _ hn,Vg,BEq.rfl];rfl
  rw[yk he];show B1 (E++ [(k,v,E.length)]) k'=B1 E k';have:∀a:List mF,B1 (a++ [(k,v,E.length)]) k'=B1 a k':=by
   intro a;induction a with
   |nil=>rw[oh,Vg,show(k'==k)=false from pf.2 he];rfl
   |cons x r ih=>rw[af,Vg,Vg,ih]
  exact this E
 |some p=>
  obtain⟨i,e⟩:=p;obtain⟨a,b,rfl,hi,hek,ha⟩:=yb3 hf;obtain rfl:i=a.length:=O;show B1 ((a++e::b).modify a.length λe=>(e.1,v,e.2.2)) k'=_;have hm:(a++e::b).modify a.length (λe=>(e.1,v,e.2.2))=a++(e.1,v,e.2.2)::b:=by
   clear hf ha hi;induction a with
   |nil=>rfl
   |cons x r ih=>simpa[Ku]using ih
  rw[hm];by_cases he:k'=k
  ·subst he;rw[Vh,Zt _ _ ha,Vg,<-hek,BEq.rfl];rfl
  rw[yk he];exact ybF (x:=(e.1,v,e.2.2)) (y:=e) b hek hek he a
def ydi(g:bJ->Nat×List Room)(k:bJ):Lc g k ((g k).1,(g k).2)=g:=by
 funext k';unfold Lc;split
 ·rename_i h;rw[h]
 rfl
def yd{L:bJ->List Fact}{M:Int}{n:Nat}(hU:cj L){p:Proj}{i:Nat}{x:Part}{s:PS}(hi:i<n)(h:Df L M n (B1 s.1) s.2)(hg:wB (B1 s.1 (Rf x.aN)))
  (hv:0<(bN p M i x).iZ/\(bN p M i x).iZ<=1000000000000000) (hp:0<=(bN p M i x).gV/\(bN p M i x).gV<=(bN p M i x).iZ):
  Df L M n (B1 (oN p M i s x).1) (oN p M i s x).2/\∀c:Int,Kc (λy=>y.cell==c) (oN p M i s x).2=Kc (λy=>y.cell==c) s.2+if c=(i:Int)then(bN p M i x).iZ else 0:=by
 have h1:=XH (pt:=bN p M i x) (n:=(B1 s.1 (Rf x.aN)).2.length) rfl hg.le (by have:=hg.Tg;omega) ⟨O,hv.2⟩ hg.left
 have h2:=yc7 (g:=B1 s.1) (out0:=s.2) (T:=λc=>Kc (λy=>y.cell==c) s.2+if c=(i:Int)then(bN p M i x).iZ else 0) hU (pt:=bN p M i x) rfl rfl ⟨i,rfl,hi⟩ rfl _ _ h1 (by
  show Df L M n (Lc (B1 s.1) (Rf x.aN) ((B1 s.1 (Rf x.aN)).1,(B1 s.1 (Rf x.aN)).2)) (s.2++ []);rw[ydi,ng];exact h) hp (λc=>by
  show Kc _ (s.2++ [])+_=_;rw[ng];rfl)
 refine⟨?_,h2.2⟩
 show Df L M n (B1 (Pg s.1 (Rf x.aN) _)) (s.2++_)
 rw[yb6]
 exact h2.1
def Je:List Part->Int
 |[]=>0
 |x::r=>(x.Ra-x.bot)+Je r
def yco(b:List Part):∀a,Je (a++b)=Je a+Je b
 |[]=>by show Je b=0+_;omega
 |x::r=>by show _+Je (r++b)=_+Je r+_;rw[yco b r];omega
def mg(x y:Int):mm true x y=max x y:=by unfold mm;simp only;split <;> omega
def ycU{l:List sC}{hi lo:Int}(h:lo<=hi)(hd:∀i,i+1<l.length->(l.getD (i+1) default).Ra<(l.getD i default).Ra):
  ∀n,n<l.length->Je (nL l hi lo (n+1))=hi-min hi (FM l lo n):=by
 intro n
 induction n with
 |zero=>
  intro h0;rw[ZC];show Je ([]++(X8 l hi lo 0).toList)=_;unfold X8 C4;show Je ([]++(bif decide (hi>FM l lo 0)then some (⟨(l.getD 0 default).aN,hi,FM l lo 0⟩:Part)else none).toList)=_;by_cases hb:hi>FM l lo 0
  ·rw[Vc hb];show(hi-FM l lo 0)+0=_;omega
  rw[Dd hb];show(0:Int)=_;omega
 |succ n ih=>
  intro hn;rw[ZC,yco,ih O];have ht:C4 l hi (n+1)=min hi (l.getD (n+1) default).Ra:=by unfold C4;rw[Vc O];exact lf _ _
  have hb0:FM l lo n=max lo (l.getD (n+1) default).Ra:=by unfold FM;rw[Vc O];exact mg _ _
  have hb1:FM l lo (n+1)=lo\/∃t,t<(l.getD (n+1) default).Ra/\FM l lo (n+1)=max lo t:=by
   unfold FM;by_cases hc:n+1+1<l.length
   ·rw[Vc O];exact .inr ⟨_,hd (n+1) hc,mg _ _⟩
   rw[Dd O];exact .inl rfl
  unfold X8;rw[ht,hb0];generalize FM l lo (n+1)=b at hb1;generalize (l.getD (n+1) default).Ra=t at hb1;by_cases hc:min hi t>b
  ·rw[Vc hc];show _+((min hi t-b)+0)=_;rcases hb1 with hb1|⟨u,h1,h2⟩ <;> omega
  rw[Dd hc];show _+(0:Int)=_;rcases hb1 with hb1|⟨u,h1,h2⟩ <;> omega
def ycg{s:List lI}{b:fS}(h:vN s b=0):0<b.bB.length/\∀i,i+1<b.bB.length->(b.bB.getD (i+1) default).Ra<(b.bB.getD i default).Ra:=by unfold vN at h;obtain⟨_,h⟩:=dF dC h;obtain⟨h1,h⟩:=dF dC h;obtain⟨_,h⟩:=dF dC h;refine⟨by simp at h1;exact Bg.2 h1,λi hi=>?_⟩;have h2:=lQ h (i+1) (Oa _) O;unfold sL at h2;obtain⟨_,h2⟩:=dF dC h2;obtain⟨h2,_⟩:=dF dC h2;rw[Vc O]at h2;simpa using h2
def ycB{g:Ground}(h:dX g=0){b:fS}(hb:b∈g.cC):vN g.bK b=0:=by unfold dX at h;obtain⟨_,h⟩:=dU h;obtain⟨_,h⟩:=dF dC h;obtain⟨_,h⟩:=dF dC h;obtain⟨i,hi,rfl⟩:=ph hb;have h2:=lQ h i (Oa _) O;unfold uC at h2;obtain⟨_,h2⟩:=dF dC h2;obtain⟨_,h2⟩:=dF dC h2;rw[aX hi]at h2;exact h2
def ybT{p:Proj}(hv:PV p){i:Nat}(hi:i<p.aT.levels.length){a b:Int}(ha: -20000<=a/\a<=20000)(hb: -20000<=b/\b<=20000)(h:b<=a):Je (vP p.gr (dP p.aT i) a b)=a-b:=by
 have hg:=(RY hv.gv hi).1;have he:FQ p.gr (dP p.aT i) a b=0:=by
  have e1:FN p.gr (dP p.aT i) [a,b]=0:=by unfold FN;rw[hv.gr,hg];have w1:=within_iff.2 ha;have w2:=within_iff.2 hb;simp[L2,w1,w2]
  unfold FQ;rw[e1,Dd O];rfl
 unfold vP;rw[he];show Je (nL _ a b _)=_;obtain⟨h1,h2⟩:=ycg (ycB hv.gr (Ps (c:=dP p.aT i) (EX hv.gr).1));generalize (uD p.gr (dP p.aT i)).bB=l at h1 h2;obtain⟨n,hn⟩:∃n,l.length=n+1:=⟨l.length-1,O⟩;rw[hn,ycU h h2 n O];have:FM l b n=b:=by unfold FM;rw[Dd O];rfl
 rw[this];omega
def yo{p:Proj}{m:Int}{i:Nat}{x:Part}(hv:PV p)(hx:AQ x):(bN p m i x).iZ=(x.Ra-x.bot)*dH p:=by obtain⟨a1,a2⟩:=Yj hv;have h1:=hx.lt;have h2:=hx.lo;have h3:=hx.hi;have h4:=Nf (a:=x.Ra-x.bot) (b:=dH p) O O;have h5:(x.Ra-x.bot)*dH p<=40000*1000000:=ni O a2 O dC;show aW (aW (x.Ra-x.bot)*dH p)=_;rw[show aW (x.Ra-x.bot)=x.Ra-x.bot from aG O O,aG O O]
def Gr{p:Proj}(hv:PV p){i:Nat}(hi:i<p.aT.levels.length):P2 p i=30000\/(-20000<=P2 p i/\P2 p i<=20000):=by
 unfold P2;rw[Xo _ _ _ hi];unfold L0
 cases hd:(UI p.chan (dP p.aT i)).2 with
 |false=>exact .inl rfl
 |true=>have h1:=Mr hv.val (RY hv.gv hi).1 hd;have h2:=hv.val.over;refine .inr ?_;show -20000<=aW _/\aW _<=20000;rw[aG O O];omega
def ybJ{p:Proj}{m:Int}{i:Nat}{x:Part}(hv:PV p)(hi:i<p.aT.levels.length)(hx:AQ x):0<=(bN p m i x).gV/\(bN p m i x).gV<=(bN p m i x).iZ:=by
 obtain⟨a1,a2⟩:=Yj hv;have h1:=hx.lt;have h2:=hx.lo;have h3:=hx.hi;rw[yo hv hx];have h4:=Nf (a:=x.Ra-x.bot) (b:=dH p) O O;show 0<=(bif P2 p i !=30000 then aW (mm true 0 (aW (x.Ra-mm true x.bot (P2 p i)))*dH p)else 0)/\(bif P2 p i !=30000 then aW (mm true 0 (aW (x.Ra-mm true x.bot (P2 p i)))*dH p)else 0)<=_
 cases hl:(P2 p i !=30000)with
 |false=>exact⟨Xd _,h4⟩
 |true=>
  have hb:=Gr hv hi;have hl:P2 p i≠30000:=by simpa using hl
  show 0<=aW _/\aW _<=_;rw[mg,mg,aG (n:=x.Ra-max x.bot (P2 p i)) O O];have q1:=Nf (a:=max 0 (x.Ra-max x.bot (P2 p i))) (b:=dH p) O O;have q2:=Yh (a:=max 0 (x.Ra-max x.bot (P2 p i))) (b:=x.Ra-x.bot) (c:=dH p) O O;have q3:(x.Ra-x.bot)*dH p<=40000*1000000:=ni O a2 O dC;rw[aG O O];exact⟨q1,q2⟩
structure km(L:bJ->List Fact)(p:Proj)(M:Int)(s:PS)(n:Nat):Prop where
 ri:Df L M p.aT.levels.length (B1 s.1) s.2
 inv:D5 s n
def yb5{L:bJ->List Fact}{M:Int}(hU:cj L){p:Proj}(hv:PV p){i:Nat}(hi:i<p.aT.levels.length):∀(xs:List Part) (s:PS) (n:Nat),km L p M s n->(∀x∈xs,AQ x)->
  km L p M (xs.foldl (oN p M i) s) (n+xs.length*201)/\∀c:Int,Kc (λy=>y.cell==c) (xs.foldl (oN p M i) s).2=Kc (λy=>y.cell==c) s.2+if c=(i:Int)then Je xs*dH p else 0
 |[],s,n,h,_=>⟨⟨h.ri,h.inv.more (nv _ _)⟩,λc=>by rw[List.foldl_nil];show _=_+if _ then(0:Int)*_ else 0;rw[Ig,ite_self,ef]⟩
 |x::r,s,n,h,hx=>by
  have hx0:=hx x (dd);have h1:=yd (M:=M) (i:=i) hU hi h.ri (YS h.inv.1) (BK (m:=M) (i:=i) hv hx0) (ybJ hv hi hx0);have hpv:=BK (m:=M) (i:=i) hv hx0;have h2:=KN (m:=M) (i:=i) (x:=x) h.inv ⟨O,hpv.2⟩;obtain⟨h3,h4⟩:=yb5 hU hv hi r _ _ ⟨h1.1,h2⟩ λy hy=>hx y (Yb _ hy)
  refine⟨⟨h3.ri,h3.inv.more (by rw[cc];omega)⟩,λc=>?_⟩;rw[Rk,h4 c,h1.2 c,yo hv hx0];show _=_+if _ then(x.Ra-x.bot+Je r)*dH p else 0;rw[Int.add_mul];by_cases hc:c=(i:Int)
  ·rw[Ma hc,Ma hc,Ma hc];omega
  rw[La hc,La hc,La hc];omega
section
variable{l:List Fact}{f:Fact}(h0:f.kind=0)
include h0
end
def Bc(x:Int):Prop:=x=30000\/(-20000<=x/\x<=20000)
def Hm{n:Int}(h: -1000000<=n)(k:n<=1000000):aW n=n:=aG O O
def yck{p:Proj}{Y:List Fact}(hS:Vf p Y)(hv:Dh Y)(m:Int){i:Nat}(hi:i<p.aT.levels.length):Bc (fF p Y m i).1:=by
 have ha:=GD hv 0 m hi hS.shape;have hb:=GD hv 1 m hi hS.shape;have hc:=GD hv 2 m hi hS.shape;unfold fF;generalize lT Y 0 m i=a at ha;generalize lT Y 1 m i=b at hb;generalize lT Y 2 m i=c at hc;dsimp only
 cases h1:(a==30000)with
 |true=>exact hb
 |false=>
  have h1:a≠30000:=by simpa using h1
  cases h2:(b==30000)with
  |true=>exact ha
  |false=>
   have h2:b≠30000:=by simpa using h2
   cases decide (aW (mm true a b-mm false a b)<=p.agree)with
   |true=>show Bc (aW (aW (Int.tdiv (aW (aW (aW (a+b)+40000)+1)) 2)-20000));rw[Hm (n:=a+b) O O,Hm (n:=a+b+40000) O O,Hm (n:=a+b+40000+1) O O,Ik O,Hm (n:=(a+b+40000+1) / 2) O O,Hm O O];exact .inr O
   |false=>
    cases h3:(c==30000)with
    |true=>exact hc
    |false=>
     have h3:c≠30000:=by simpa using h3
     show Bc (X4 a b c);unfold X4;rw[mg,lf,lf,mg];exact .inr O
def mf{p:Proj}{Y:List Fact}(hp:PV p)(hS:Vf p Y)(hv:Dh Y){i:Nat}(hi:i<p.aT.levels.length):∀M,Bc (iL p Y M i)
 |0=>by
  rw[iL]
  cases h:((fF p Y ((0:Nat):Int) i).1==30000)with
  |true=>exact hp.gv.Wq _ (by rw[ac,Cb hi];exact ze _)
  |false=>exact yck hS hv _ hi
 |M+1=>by have h1:=mf hp hS hv hi M;have h2:=yck hS hv ((M+1:Nat):Int) hi;rw[iL,lf];unfold Bc at*;omega
def Gt(p:Proj)(Y:List Fact)(M i:Nat):iL p Y (M+1) i<=iL p Y M i:=by rw[iL,lf];omega
def Rh(p:Proj)(Y:List Fact)(M i:Nat):Int:=bif iL p Y (M-1) i==30000 then 0 else(iL p Y (M-1) i-iL p Y M i)*dH p
def ycK{L:bJ->List Fact}{p:Proj}{Y:List Fact}{M:Nat}(hU:cj L)(hp:PV p)(hS:Vf p Y)(hv:Dh Y)(hM:1<=M){E:List mF}(hE:km L p M (E,[]) 0):∀i,i<=p.aT.levels.length->
  km L p M (EE p Y M E i) (i*2412)/\∀c:Int,Kc (λy=>y.cell==c) (EE p Y M E i).2=if 0<=c/\c<i then Rh p Y M c.toNat else 0
 |0,_=>by refine⟨⟨hE.ri,hE.inv.more (Oa _)⟩,λc=>?_⟩;rw[La O];rfl
 |i+1,hi=>by
  obtain⟨h1,h2⟩:=ycK hU hp hS hv hM hE i O;have b1:=mf hp hS hv (show i<p.aT.levels.length by omega) (M-1);have b2:=mf hp hS hv (show i<p.aT.levels.length by omega) M;have hle:iL p Y M i<=iL p Y (M-1) i:=by have:=Gt p Y (M-1) i;rw[show M-1+1=M by omega]at this;exact this
  rw[GY];unfold wZ;have key:∀c:Int,(if 0<=c/\c<((i+1:Nat):Int)then Rh p Y M c.toNat else 0)=(if 0<=c/\c<(i:Int)then Rh p Y M c.toNat else 0)+if c=(i:Int)then Rh p Y M i else 0:=λc=>by
   by_cases hc:c=(i:Int)
   ·subst hc;rw[Ma O,La O,Ma rfl,gd,Um]
   rw[La hc,ef];by_cases JA:0<=c/\c<(i:Int)
   ·rw[Ma O,Ma JA]
   rw[La O,La JA]
  unfold Rh at key
  cases hg:(iL p Y (M-1) i==30000||decide (iL p Y M i>=iL p Y (M-1) i))with
  |true=>
   refine⟨⟨h1.ri,h1.inv.more O⟩,λc=>?_⟩;show Kc _ (EE p Y M E i).2=_;unfold Rh at h2⊢;rw[key,h2];have:(bif iL p Y (M-1) i==30000 then(0:Int)else(iL p Y (M-1) i-iL p Y M i)*dH p)=0:=by
    cases h3:(iL p Y (M-1) i==30000)with
    |true=>rfl
    |false=>
     rw[h3]at hg;have hg:iL p Y M i>=iL p Y (M-1) i:=by simpa using hg
     rw[show iL p Y (M-1) i-iL p Y M i=0 by omega];show(0:Int)*_=0;exact Ig _
   rw[this,ite_self,ef]
  |false=>
   simp only[Rc,pf,Hd]at hg;unfold Bc at b1 b2;have h3:=ybT hp (show i<p.aT.levels.length by omega) (a:=iL p Y (M-1) i) (b:=iL p Y M i) O O hle;have h4:=I6 (c:=dP p.aT i) (hi:=iL p Y (M-1) i) (lo:=iL p Y M i) hp;obtain⟨h5,h6⟩:=yb5 hU hp (show i<p.aT.levels.length by omega) (vP p.gr (dP p.aT i) (iL p Y (M-1) i) (iL p Y M i)) _ _ h1 λx hx=>D7 hx
   refine⟨⟨h5.ri,h5.inv.more O⟩,λc=>?_⟩;show Kc _ (List.foldl _ (EE p Y M E i) _).2=_;unfold Rh at h2⊢;rw[key,h6 c,h2,h3,pf.2 hg.1];rfl
def yc1{l:List Fact}(hv:∀f∈l,fR f=0):∀f∈cntF l,f.kind=1->1<=f.number/\1<=f.month:=by
 intro f hf hk;obtain⟨k,_,_,g,hg,rfl,_⟩:=N4 hv hf;have hk:g.kind=1:=hk;have hz:=kN (hv g hg);have h1:=within_iff.1 (mQ hz.2 (by rw[hk];rfl)).1.1;have e1:(jE g).month=g.month:=by unfold jE;rw[hk];rfl
 have e2:(jE g).number=g.number:=by unfold jE fW;simp[hk]
 rw[e1,e2];have h2:=hz.1;unfold nZ cK at h2;rw[hk]at h2
 cases hw:within g.number 1 1000000 with
 |true=>exact⟨(within_iff.1 hw).1,h1.1⟩
 |false=>rw[hw]at h2;cases h2
def Us(p:Proj)(S:List Fact):∀k,k<=S.length->((iM p S k).1).Sublist (S.take k)
 |0,_=>List.Sublist.refl _
 |k+1,hk=>by
  have ih:=Us p S k O;have y5:k<S.length:=O;have ht:S.take (k+1)=S.take k++ [S.getD k default]:=by rw[Kf,Cb y5,aX y5];rfl
  rw[iM,ht]
  cases(oS (iM p S k).2 (zC (S.getD k default)) (S.getD k default).dN==0)with
  |true=>exact ih.append (List.Sublist.refl _)
  |false=>exact ih.trans (List.sublist_append_left _ _)
def Di(e:Rm.gL):mF:=(e.1,(0,e.2.1),e.2.2)
def Dm(E:List Rm.gL):qD E=E.map Di:=rfl
def yb4(k:bJ):∀(E:List Rm.gL) (i:Nat),fP (qD E) k i=(Rm.fE E k i).map λx=>(x.1,Di x.2)
 |[],_=>rfl
 |e::r,i=>by
  show(bif k==e.1 then some (i,Di e)else fP (qD r) k (i+1))=_;rw[Rm.fE,yb4 k r (i+1)]
  cases k==e.1 <;> rfl
def ycw(E:List Rm.gL)(k:bJ)(t:Room):qD (Rm.o6 E k t)=Pg (qD E) k (0,(B1 (qD E) k).2++ [t]):=by
 have h:=yb4 k E 0;unfold Rm.o6 Pg B1
 cases hf:Rm.fE E k 0 with
 |none=>rw[hf]at h;have h:fP (qD E) k 0=none:=h;rw[h];show qD (E++ [(k,[t],E.length)])=qD E++ [(k,(0,[]++ [t]),(qD E).length)];rw[Dm,Dm,sj,yg];rfl
 |some x=>
  obtain⟨i,e⟩:=x;rw[hf]at h;have h:fP (qD E) k 0=some (i,Di e):=h;rw[h];obtain⟨_,h2,_⟩:=NQ h;have h2:(qD E)[i]? =some (Di e):=h2;rw[Dm,Kd]at h2;show qD (E.modify i λe=>(e.1,e.2.1++ [t],e.2.2))=(qD E).modify i λy=>(y.1,(0,e.2.1++ [t]),y.2.2)
  rw[Dm,Dm];apply Oi;intro j;rw[Kd,Nd,Nd,Kd];by_cases hj:i=j
  ·subst hj
   cases hE:E[i]? with
   |none=>rw[hE]at h2;cases h2
   |some y=>rw[hE]at h2;have h2:Di y=Di e:=Gc h2;have h3:y.2.1=e.2.1:=Sa (λz:mF=>z.2.1.2) h2;simp[Di,h3]
  simp[hj]
def Xe(H:List Fact)(m:Int)(k:bJ):List Fact:=H.filter λf=>f.month==m&&Rm.kS f==k
def yb8(H:List Fact)(m:Int)(k:bJ):∀i,i<=H.length->B1 (qD (Rm.kU H m i)) k=(0,(Xe (H.take i) m k).map λf=>(f,f.aT))
 |0,_=>rfl
 |i+1,hi=>by
  have ih:=λk'=>yb8 H m k' i O
  have bC:i<H.length:=O;have ht:H.take (i+1)=H.take i++ [H.getD i default]:=by rw[Kf,Cb bC,aX bC];rfl
  rw[Rm.DW bC,ht];unfold Rm.KM Xe;rw[tw,sj];clear ht;generalize H.getD i default=f
  cases hm:(f.month==m)with
  |false=>
   have:([f].filter λx=>x.month==m&&Rm.kS x==k)=[]:=by simp[hm]
   rw[this];show B1 (qD (Rm.kU H m i)) k=_;rw[ih k];exact Sa (Prod.mk 0) (ng _).symm
  |true=>
   show B1 (qD (Rm.o6 _ _ _)) k=_;rw[ycw,yb6];by_cases hk:k=Rm.kS f
   ·subst hk;rw[Vh,ih];have:([f].filter λx=>x.month==m&&Rm.kS x==Rm.kS f)=[f]:=by simp[hm]
    rw[this];rfl
   rw[yk hk,ih k];have:([f].filter λx=>x.month==m&&Rm.kS x==k)=[]:=by have:(Rm.kS f==k)=false:=pf.2 (Ne.symm hk);simp[this]
   rw[this];exact Sa (Prod.mk 0) (ng _).symm
def Pn{H:List Fact}{m:Int}{k:bJ}{f:Fact}(h:f∈Xe H m k):f∈H/\f.month=m/\Rm.kS f=k:=by obtain⟨h1,h2⟩:=nf.1 h;simp only[cb,rf]at h2;exact⟨h1,h2.1,h2.2⟩
def ydu{H:List Fact}(hp:H.Pairwise λa b=>a.number≠b.number){a b:Fact}(ha:a∈H)(hb:b∈H)(h:a.number=b.number):a=b:=by
 obtain⟨i,hi,rfl⟩:=ph ha;obtain⟨j,hj,rfl⟩:=ph hb;have:=Gu.1 hp;rcases Fw i j with e|e|e
 ·exact absurd h (this i j hi hj e)
 ·subst e;rfl
 exact absurd h.symm (this j i hj hi e)
def yds{H:List Fact}{m:Int}(hp:H.Pairwise λa b=>a.number≠b.number)(h1:∀f∈H,1<=f.number):cj (Xe H m) where
 one k k' j j' hj qR h:=by
  have a:=Pn (bP hj);have b:=Pn (bP qR);have e:=ydu hp a.1 b.1 h;have ek:k=k':=by rw[<-a.2.2,<-b.2.2,e]
  subst ek;have hq:(Xe H m k).Pairwise λa b=>a.number≠b.number:=hp.filter _
  have:=Gu.1 hq;rw[aX hj,aX qR]at h;refine⟨rfl,?_⟩;rcases Fw j j' with e|e|e
  ·exact absurd h (this j j' hj qR e)
  ·exact e
  exact absurd h.symm (this j' j qR hj e)
 pos k f hf:=h1 f (Pn hf).1
structure Jx(p:Proj)(Y:List Fact)(M:Nat):Prop where
 lM:∀x∈G3 p Y M,Zj (Xe (We p Y M).1 M) M p.aT.levels.length x
 load:∀k,∀f∈Xe (We p Y M).1 M k,Kc (λx=>x.load==f.number) (G3 p Y M)<=f.aT
 cell:∀c:Nat,c<p.aT.levels.length->Kc (λx=>x.cell==(c:Int)) (G3 p Y M)=Rh p Y M c
def ydv{p:Proj}{l:List Fact}{M:Nat}(hk:Cf p l)(hM:1<=M):Jx p (cntF l) M:=by
 have hp:=sf hk.proj;have hS:=x4 hk;have hv:=Gl hk.fmt;have fQ:=Us p (j8 (cntF l) M) (j8 (cntF l) M).length (mb _);rw[Sd]at fQ;have fQ:(We p (cntF l) M).1.Sublist (j8 (cntF l) M):=fQ;have kK:∀f∈(We p (cntF l) M).1,f∈cntF l/\f.kind=1/\f.month<=M:=λf hf=>Yq (fQ.subset hf)
 have fJ:(We p (cntF l) M).1.Pairwise λa b=>a.number≠b.number:=by refine List.Pairwise.sublist fQ ((Ki _ _).symm.pairwise ?_ λh=>h.symm);unfold tO;refine Vx ?_ ((ydc hk.fmt).filter _);intro a b ha hb h;have ha:=(nf.1 ha).2;have hb:=(nf.1 hb).2;simp only[cb,rf]at ha hb;exact h ha.1 hb.1
 have hU:=yds (m:=M) fJ λf hf=>(yc1 hk.fmt f (kK f hf).1 (kK f hf).2.1).1
 have hbed:∀f∈(We p (cntF l) M).1,1<=f.aT/\f.aT<=1000000000000:=λf hf=>Jt hk.fmt f (kK f hf).1 (kK f hf).2.1
 have hlen:(We p (cntF l) M).1.length<=200:=Rb fQ.length_le (by
  have h2:(j8 (cntF l) M).length<=(cntF l).length:=by unfold j8;rw[A5];exact ai _ _
  have:=hS.len;omega)
 have jO:=λk=>yb8 (We p (cntF l) M).1 M k (We p (cntF l) M).1.length (mb _)
 rw[Sd]at jO;have hpc:G3 p (cntF l) M=(EE p (cntF l) M (qD (Rm.kU (We p (cntF l) M).1 M (We p (cntF l) M).1.length)) p.aT.levels.length).2:=rfl;generalize hH:(We p (cntF l) M).1=H at*;have hE:km (Xe H M) p M (qD (Rm.kU H M H.length),[]) 0:=by
  refine⟨⟨λk=>?_,λk j hj=>?_,λx hx=>by cases hx⟩,O1 hbed hlen,mb _⟩
  ·show(B1 (qD (Rm.kU H M H.length)) k).2.map Prod.fst=_;rw[jO k,Tm];exact List.map_id _
  show 0<=((B1 (qD (Rm.kU H M H.length)) k).2.getD j default).2/\0+((B1 (qD (Rm.kU H M H.length)) k).2.getD j default).2=((B1 (qD (Rm.kU H M H.length)) k).2.getD j default).1.aT;have hj:j<(B1 (qD (Rm.kU H M H.length)) k).2.length:=hj;rw[jO k]at hj⊢;have qR:j<(Xe H M k).length:=by simpa using hj
  have e:((Xe H M k).map λf=>(f,f.aT)).getD j default=((Xe H M k).getD j default,((Xe H M k).getD j default).aT):=by rw[ac,Kd,Cb qR,aX qR];rfl
  show 0<=(((Xe H M k).map λf=>(f,f.aT)).getD j default).2/\0+(((Xe H M k).map λf=>(f,f.aT)).getD j default).2=(((Xe H M k).map λf=>(f,f.aT)).getD j default).1.aT;rw[e];have:=hbed _ (Pn (bP qR)).1;exact⟨by show 0<=Fact.aT _;omega,Um _⟩
 obtain⟨h1,h2⟩:=ycK hU hp hS hv hM hE p.aT.levels.length (mb _);rw[<-hpc]at h2;refine⟨by rw[hpc,hH];exact h1.ri.lM,λk f hf=>?_,λc hc=>?_⟩
 ·rw[hH]at hf;have hfa:=h1.ri.facts k;obtain⟨j,hj,rfl⟩:=ph hf;have hj2:j<((B1 (EE p (cntF l) M (qD (Rm.kU H M H.length)) p.aT.levels.length).1 k).2).length:=by rw[<-hfa,yg]at hj;exact hj
  obtain⟨a1,a2⟩:=h1.ri.left k j hj2;obtain⟨_,b2⟩:=Ck hfa hj2;rw[b2,aX hj]at a2;rw[<-hpc]at a2;omega
 rw[h2 c,Ma O,gd]
def ya(u v:Int->wa->Int):List fb->Int
 |[]=>0
 |x::r=>(u x.cell x.aN*x.iZ+v x.cell x.aN*x.gV)+ya u v r
def Dt(u v:Int->wa->Int)(b:List fb):∀a,ya u v (a++b)=ya u v a+ya u v b
 |[]=>by show ya u v b=0+_;omega
 |x::r=>by show _+ya u v (r++b)=_+ya u v r+_;rw[Dt u v b r];omega
def Rl(u v:Int->wa->Int)(a:List fb)(x:fb):ya u v (a++ [x])=ya u v a+(u x.cell x.aN*x.iZ+v x.cell x.aN*x.gV):=by rw[Dt];show _+(_+0)=_;omega
def yc8{u v:Int->wa->Int}{pt:fb}{N:Nat}{fin:DS}{T:Int}:∀Ta s,DJ pt N fin (Ta,s)->(0<=s.p/\s.p<=s.v)->
  ya u v s.out+(u pt.cell pt.aN*s.v+v pt.cell pt.aN*s.p)=T->ya u v fin.out=T:=by
 intro Ta
 induction Ta with
 |zero=>
  intro s h hp hT;by_cases hv:s.v>0
  ·obtain⟨k',e,_⟩:=h.step hv;omega
  have aCM:s=fin:=h.run;have h0:s.v=0:=by have:=h.v;dsimp only at this;omega
  have h1:s.p=0:=O;rw[h0,h1,th,th]at hT;rw[<-aCM];omega
 |succ Ta ih=>
  intro s h hp hT;by_cases hv:s.v>0
  ·obtain⟨k',e,h'⟩:=h.step hv;obtain rfl:Ta=k':=O;have hvv:=h.v;have hlen:=h.len;have hleft:=h.left s.lo (mb _);dsimp only at hvv hlen hleft;by_cases DR:s.lo<s.cur.length
   ·obtain⟨l1,l2⟩:=hleft O;have hd:decide (s.lo<s.cur.length)=true:=Vc DR;have m1:=lf s.v (s.cur.getD s.lo default).2;have m2:=lf s.p (mm false s.v (s.cur.getD s.lo default).2);have e2:aW (s.v-mm false s.v (s.cur.getD s.lo default).2)=s.v-mm false s.v (s.cur.getD s.lo default).2:=aG O O;have e3:aW (s.p-mm false s.p (mm false s.v (s.cur.getD s.lo default).2))=s.p-mm false s.p (mm false s.v (s.cur.getD s.lo default).2):=aG O O;refine ih (a6 pt s) h' ?_ ?_
    ·unfold a6;rw[hd];show 0<=aW _/\aW _<=aW _;rw[e2,e3];omega
    rw[<-hT];unfold a6;rw[hd];show ya u v (s.out++ [_])+(u pt.cell pt.aN*aW _+v pt.cell pt.aN*aW _)=_;rw[Rl,e2,e3,Uk,Uk];dsimp only;omega
   have hd:decide (s.lo<s.cur.length)=false:=Dd DR;have m2:=lf s.p s.v;have e2:aW (s.v-s.v)=s.v-s.v:=aG O O;have e3:aW (s.p-mm false s.p s.v)=s.p-mm false s.p s.v:=aG O O;refine ih (a6 pt s) h' ?_ ?_
   ·unfold a6;rw[hd];show 0<=aW _/\aW _<=aW _;rw[e2,e3];omega
   rw[<-hT];unfold a6;rw[hd];show ya u v (s.out++ [_])+(u pt.cell pt.aN*aW _+v pt.cell pt.aN*aW _)=_;rw[Rl,e2,e3,Uk,Uk];dsimp only;omega
  have aCM:s=fin:=by have:=h.run;rw[<-this];exact(BD hv).symm
  have h0:s.v=0:=by have:=h.v;dsimp only at this;omega
  have h1:s.p=0:=O;rw[h0,h1,th,th]at hT;rw[<-aCM];omega
def sd(p:Proj)(i:Nat)(u v:Int->wa->Int):List Part->Int
 |[]=>0
 |x::r=>(u i x.aN*(bN p 0 i x).iZ+v i x.aN*(bN p 0 i x).gV)+sd p i u v r
def ycP{u v:Int->wa->Int}{p:Proj}{M:Int}{i:Nat}{x:Part}{s:PS}(hg:wB (B1 s.1 (Rf x.aN)))
  (hv:0<(bN p M i x).iZ/\(bN p M i x).iZ<=1000000000000000) (hp:0<=(bN p M i x).gV/\(bN p M i x).gV<=(bN p M i x).iZ):
  ya u v (oN p M i s x).2=ya u v s.2+(u i x.aN*(bN p 0 i x).iZ+v i x.aN*(bN p 0 i x).gV):=by
 have h1:=XH (pt:=bN p M i x) (n:=(B1 s.1 (Rf x.aN)).2.length) rfl hg.le (by have:=hg.Tg;omega) ⟨O,hv.2⟩ hg.left
 have h2:=yc8 (u:=u) (v:=v) (T:=u i x.aN*(bN p 0 i x).iZ+v i x.aN*(bN p 0 i x).gV) _ _ h1 hp (by show(0:Int)+_=_;rw[Um];rfl)
 show ya u v (s.2++_)=_
 rw[Dt]
 exact Sa _ h2
def ybE{u v:Int->wa->Int}{M:Int}{p:Proj}(hv:PV p){i:Nat}(hi:i<p.aT.levels.length):∀(xs:List Part) (s:PS) (n:Nat),D5 s n->(∀x∈xs,AQ x)->
  D5 (xs.foldl (oN p M i) s) (n+xs.length*201)/\ya u v (xs.foldl (oN p M i) s).2=ya u v s.2+sd p i u v xs
 |[],s,n,h,_=>⟨h.more (nv _ _),(ef _).symm⟩
 |x::r,s,n,h,hx=>by
  have hx0:=hx x (dd);have hpv:=BK (m:=M) (i:=i) hv hx0;have h1:=ycP (u:=u) (v:=v) (M:=M) (i:=i) (YS h.1) hpv (ybJ hv hi hx0);have h2:=KN (m:=M) (i:=i) (x:=x) h ⟨O,hpv.2⟩;obtain⟨h3,h4⟩:=ybE hv hi r _ _ h2 λy hy=>hx y (Yb _ hy)
  refine⟨h3.more (by rw[cc];omega),?_⟩;rw[Rk,h4,h1];show _=_+(_+sd p i u v r);omega
def Og(p:Proj)(Y:List Fact)(M:Nat)(u v:Int->wa->Int)(i:Nat):Int:=
 bif iL p Y (M-1) i==30000||decide (iL p Y M i>=iL p Y (M-1) i)then 0 else sd p i u v (vP p.gr (dP p.aT i) (iL p Y (M-1) i) (iL p Y M i))
def Kb(f:Nat->Int):Nat->Int
 |0=>0
 |n+1=>Kb f n+f n
def ycj{u v:Int->wa->Int}{p:Proj}{Y:List Fact}{M:Nat}(hp:PV p){E:List mF}(hE:D5 (E,[]) 0):∀i,i<=p.aT.levels.length->
  D5 (EE p Y M E i) (i*2412)/\ya u v (EE p Y M E i).2=Kb (Og p Y M u v) i
 |0,_=>⟨hE.more (Oa _),rfl⟩
 |i+1,hi=>by
  obtain⟨h1,h2⟩:=ycj (u:=u) (v:=v) (Y:=Y) (M:=M) hp hE i O;rw[GY];unfold wZ;show _/\_=Kb (Og p Y M u v) i+Og p Y M u v i;unfold Og
  cases hg:(iL p Y (M-1) i==30000||decide (iL p Y M i>=iL p Y (M-1) i))with
  |true=>exact⟨h1.more O,by show ya u v (EE p Y M E i).2=Kb _ _+0;rw[h2];exact(ef _).symm⟩
  |false=>
   have h4:=I6 (c:=dP p.aT i) (hi:=iL p Y (M-1) i) (lo:=iL p Y M i) hp;obtain⟨h5,h6⟩:=ybE (u:=u) (v:=v) (M:=M) hp (show i<p.aT.levels.length by omega) (vP p.gr (dP p.aT i) (iL p Y (M-1) i) (iL p Y M i)) _ _ h1 λx hx=>D7 hx
   refine⟨h5.more O,?_⟩;show ya u v (List.foldl _ (EE p Y M E i) _).2=_;rw[h6,h2];rfl
def yc5{p:Proj}{l:List Fact}{M:Nat}(hk:Cf p l)(u v:Int->wa->Int):ya u v (G3 p (cntF l) M)=Kb (Og p (cntF l) M u v) p.aT.levels.length:=by
 have hS:=x4 hk;have fQ:=Us p (j8 (cntF l) M) (j8 (cntF l) M).length (mb _);rw[Sd]at fQ;have fQ:(We p (cntF l) M).1.Sublist (j8 (cntF l) M):=fQ;have hbed:∀f∈(We p (cntF l) M).1,1<=f.aT/\f.aT<=1000000000000:=λf hf=>by obtain⟨a,b,_⟩:=Yq (fQ.subset hf);exact Jt hk.fmt f a b
 have hlen:(We p (cntF l) M).1.length<=200:=Rb fQ.length_le (by
  have h2:(j8 (cntF l) M).length<=(cntF l).length:=by unfold j8;rw[A5];exact ai _ _
  have:=hS.len;omega)
 exact(ycj (sf hk.proj) ⟨O1 hbed hlen,mb _⟩ p.aT.levels.length (mb _)).2
def Ff(t:Int):List Part->Int
 |[]=>0
 |x::r=>max 0 (x.Ra-max x.bot t)+Ff t r
def ir(t:Int)(b:List Part):∀a,Ff t (a++b)=Ff t a+Ff t b
 |[]=>by show Ff t b=0+_;omega
 |x::r=>by show _+Ff t (r++b)=_+Ff t r+_;rw[ir t b r];omega
def ycp(t:Int)(l:List sC)(hi lo:Int)(n:Nat):Ff t (X8 l hi lo n).toList=if C4 l hi n>FM l lo n then max 0 (C4 l hi n-max (FM l lo n) t)else 0:=by
 unfold X8;by_cases hc:C4 l hi n>FM l lo n
 ·rw[Vc hc,Ma hc];show max 0 (C4 l hi n-max (FM l lo n) t)+(0:Int)=_;omega
 rw[Dd hc,La hc];rfl
def Nl(l:List sC)(hi:Int):C4 l hi 0=hi:=rfl
def Tl(l:List sC)(hi:Int)(n:Nat):C4 l hi (n+1)=min hi (l.getD (n+1) default).Ra:=by unfold C4;rw[Vc O];exact lf _ _
def Bo(l:List sC)(lo:Int){n:Nat}(h:n+1<l.length):FM l lo n=max lo (l.getD (n+1) default).Ra:=by unfold FM;rw[Vc O];exact mg _ _
def To(l:List sC)(lo:Int){n:Nat}(h:¬n+1<l.length):FM l lo n=lo:=by unfold FM;rw[Dd O];rfl
def ycV{l:List sC}{hi lo t:Int}(h:lo<=hi)(hd:∀i,i+1<l.length->(l.getD (i+1) default).Ra<(l.getD i default).Ra):
  ∀n,n<l.length->Ff t (nL l hi lo (n+1))=max 0 (hi-max (min hi (FM l lo n)) t):=by
 intro n
 induction n with
 |zero=>intro h0;rw[ZC,ir,ycp,Nl];show(0:Int)+_=_;split <;> omega
 |succ n ih=>
  intro hn;rw[ZC,ir,ycp,ih O,Tl,Bo l lo (n:=n) O];have hb1:FM l lo (n+1)=lo\/∃s,s<(l.getD (n+1) default).Ra/\FM l lo (n+1)=max lo s:=by
   by_cases hc:n+1+1<l.length
   ·exact .inr ⟨_,hd (n+1) hc,Bo l lo hc⟩
   exact .inl (To l lo hc)
  generalize FM l lo (n+1)=b at hb1;generalize (l.getD (n+1) default).Ra=s at hb1;split <;> rcases hb1 with hb1|⟨u,h1,h2⟩ <;> omega
def Ge(t:wa):List Part->Int
 |[]=>0
 |x::r=>(if x.aN=t then x.Ra-x.bot else 0)+Ge t r
def Xn(t:wa)(b:List Part):∀a,Ge t (a++b)=Ge t a+Ge t b
 |[]=>by show Ge t b=0+_;omega
 |x::r=>by show _+Ge t (r++b)=_+Ge t r+_;rw[Xn t b r];omega
def wu(t:wa)(l:List sC)(hi lo:Int)(n:Nat):Ge t (X8 l hi lo n).toList=if(l.getD n default).aN=t then max 0 (C4 l hi n-FM l lo n)else 0:=by
 unfold X8;by_cases hc:C4 l hi n>FM l lo n
 ·rw[Vc hc];show(if(l.getD n default).aN=t then C4 l hi n-FM l lo n else 0)+(0:Int)=_;split <;> omega
 rw[Dd hc];show(0:Int)=_;split <;> omega
def yb0{l:List sC}{a b c:Int}{t:wa}(h1:b<=a)(h2:c<=b)(hd:∀i,i+1<l.length->(l.getD (i+1) default).Ra<(l.getD i default).Ra):
  ∀n,n<=l.length->Ge t (nL l a c n)=Ge t (nL l a b n)+Ge t (nL l b c n)
 |0,_=>rfl
 |n+1,hn=>by
  have ih:=yb0 (t:=t) h1 h2 hd n O;rw[ZC,ZC,ZC,Xn,Xn,Xn,wu,wu,wu,ih];have key:max 0 (C4 l a n-FM l c n)=max 0 (C4 l a n-FM l b n)+max 0 (C4 l b n-FM l c n):=by
   have hB:∃B:Ea Int,(∀x,FM l x n=match B with|some s=>max x s|none=>x)/\∀s,B=some s->s<(l.getD n default).Ra:=by
    by_cases hc:n+1<l.length
    ·exact⟨some _,λx=>Bo l x hc,λs e=>by cases e;exact hd n hc⟩
    exact⟨none,λx=>To l x hc,λs e=>by cases e⟩
   obtain⟨B,hB1,hB2⟩:=hB;rw[hB1,hB1]
   cases n with
   |zero=>
    rw[Nl,Nl]
    cases B with
    |none=>dsimp only;omega
    |some s=>dsimp only;omega
   |succ n=>
    rw[Tl,Tl];generalize (l.getD (n+1) default).Ra=T at hB2
    cases B with
    |none=>dsimp only;omega
    |some s=>have:=hB2 s rfl;dsimp only;omega
  split <;> omega
def ybC{l:List sC}{a:Int}(hd:∀i,i+1<l.length->(l.getD (i+1) default).Ra<(l.getD i default).Ra):∀n,n<=l.length->nL l a a n=[]
 |0,_=>rfl
 |n+1,hn=>by
  rw[ZC,ybC hd n O];unfold X8;have h:¬C4 l a n>FM l a n:=by
   by_cases hc:n+1<l.length
   ·rw[Bo l a hc];have:=hd n hc
    cases n with
    |zero=>rw[Nl];omega
    |succ n=>rw[Tl];omega
   rw[To l a hc]
   cases n with
   |zero=>rw[Nl];omega
   |succ n=>rw[Tl];omega
  rw[Dd h];rfl
def Qj{p:Proj}(hv:PV p){i:Nat}(hi:i<p.aT.levels.length){a b:Int}(ha: -20000<=a/\a<=20000)(hb: -20000<=b/\b<=20000)(h:b<=a):
  vP p.gr (dP p.aT i) a b=nL (uD p.gr (dP p.aT i)).bB a b (uD p.gr (dP p.aT i)).bB.length:=by
 have hg:=(RY hv.gv hi).1
 have he:FQ p.gr (dP p.aT i) a b=0:=by
  have e1:FN p.gr (dP p.aT i) [a,b]=0:=by unfold FN;rw[hv.gr,hg];have w1:=within_iff.2 ha;have w2:=within_iff.2 hb;simp[L2,w1,w2]
  unfold FQ;rw[e1,Dd O];rfl
 unfold vP
 rw[he]
 rfl
def Xt{p:Proj}(hv:PV p)(i:Nat):0<(uD p.gr (dP p.aT i)).bB.length/\∀k,k+1<(uD p.gr (dP p.aT i)).bB.length->((uD p.gr (dP p.aT i)).bB.getD (k+1) default).Ra<((uD p.gr (dP p.aT i)).bB.getD k default).Ra:=
 ycg (ycB hv.gr (Ps (c:=dP p.aT i) (EX hv.gr).1))
def Ze(p:Proj)(i:Nat)(t:wa)(a b:Int):Int:=Ge t (vP p.gr (dP p.aT i) a b)
def ycW{p:Proj}(hv:PV p){i:Nat}(hi:i<p.aT.levels.length){t:wa}{a b c:Int}(ha:a<=20000)(h1:b<=a)(h2:c<=b)(hc: -20000<=c):Ze p i t a c=Ze p i t a b+Ze p i t b c:=by unfold Ze;rw[Qj hv hi ⟨O,ha⟩ ⟨hc,O⟩ O,Qj hv hi ⟨O,ha⟩ Ia h1,Qj hv hi Ia ⟨hc,O⟩ h2];exact yb0 h1 h2 (Xt hv i).2 _ (mb _)
def ybD{p:Proj}(hv:PV p){i:Nat}(hi:i<p.aT.levels.length){t:wa}{a:Int}(ha: -20000<=a/\a<=20000):Ze p i t a a=0:=by unfold Ze;rw[Qj hv hi ha ha (Xd _),ybC (Xt hv i).2 _ (mb _)];rfl
def ybU{p:Proj}(hv:PV p){i:Nat}(hi:i<p.aT.levels.length){a b t:Int}(ha: -20000<=a/\a<=20000)(hb: -20000<=b/\b<=20000)(h:b<=a):Ff t (vP p.gr (dP p.aT i) a b)=max 0 (a-max b t):=by rw[Qj hv hi ha hb h];obtain⟨h1,h2⟩:=Xt hv i;generalize (uD p.gr (dP p.aT i)).bB=l at h1 h2;obtain⟨n,hn⟩:∃n,l.length=n+1:=⟨l.length-1,O⟩;rw[hn,ycV h h2 n O,To l b O];omega
def Js{p:Proj}(hv:PV p){i:Nat}(hi:i<p.aT.levels.length)(κ:Int):∀xs:List Part,(∀x∈xs,AQ x)->
  sd p i (λ_ _=>0) (λ_ _=>κ) xs=κ*(if P2 p i=30000 then 0 else Ff (P2 p i) xs*dH p)
 |[],_=>by show(0:Int)=κ*_;split <;> simp[Ff]
 |x::r,hx=>by
  have ih:=Js hv hi κ r λy hy=>hx y (Yb _ hy)
  have h0:=hx x (dd);obtain⟨a1,a2⟩:=Yj hv;have h1:=h0.lt;have h2:=h0.lo;have h3:=h0.hi;show((0:Int)*_+κ*(bif P2 p i !=30000 then aW (mm true 0 (aW (x.Ra-mm true x.bot (P2 p i)))*dH p)else 0))+sd p i _ _ r=κ*(if P2 p i=30000 then 0 else(max 0 (x.Ra-max x.bot (P2 p i))+Ff (P2 p i) r)*dH p);rw[ih];by_cases hl:P2 p i=30000
  ·rw[Ma hl,Ma hl,hl];simp
  have hb:=Gr hv hi;rw[La hl,La hl,show(P2 p i !=30000)=true by simpa using hl,mg,mg,aG (n:=x.Ra-max x.bot (P2 p i)) O O];have q1:=Nf (a:=max 0 (x.Ra-max x.bot (P2 p i))) (b:=dH p) O O;have q3:max 0 (x.Ra-max x.bot (P2 p i))*dH p<=40000*1000000:=ni O a2 O dC;rw[Na,aG O O,Int.add_mul,Int.mul_add];omega
def ybL{p:Proj}(hv:PV p)(i:Nat)(κ:Int):∀xs:List Part,(∀x∈xs,AQ x)->sd p i (λ_ _=>κ) (λ_ _=>0) xs=κ*(Je xs*dH p)
 |[],_=>by show(0:Int)=κ*((0:Int)*_);rw[Ig,th]
 |x::r,hx=>by
  have ih:=ybL hv i κ r λy hy=>hx y (Yb _ hy)
  have h0:=hx x (dd);show(κ*(bN p 0 i x).iZ+(0:Int)*_)+sd p i _ _ r=κ*((x.Ra-x.bot+Je r)*dH p);rw[ih,yo hv h0,Int.add_mul,Int.mul_add];omega
def ybq{p:Proj}(hv:PV p)(i:Nat)(t:wa):∀xs:List Part,(∀x∈xs,AQ x)->sd p i (λ_ s=>if s=t then 1 else 0) (λ_ _=>0) xs=Ge t xs*dH p
 |[],_=>by show(0:Int)=(0:Int)*_;rw[Ig]
 |x::r,hx=>by
  have ih:=ybq hv i t r λy hy=>hx y (Yb _ hy)
  have h0:=hx x (dd);show((if x.aN=t then(1:Int)else 0)*(bN p 0 i x).iZ+(0:Int)*_)+sd p i _ _ r=((if x.aN=t then x.Ra-x.bot else 0)+Ge t r)*dH p;rw[ih,yo hv h0,Int.add_mul];split <;> omega
def ycx(p:Proj)(l:List Fact)(M:Nat)(hp:p.fits)(hf:∀f∈l,f.fits)(hl:l.length<=9223372036854775807)(he:j6 p l M 1=0):
  aF prog 12 [oR p,cJ l,vI M] (.t [.s (.d (WR (G3 p (cntF l) M))),.s (.d (dI 0))]):=by
 obtain⟨hk,hw⟩:=tL he
 have hw:=within_iff.1 hw
 have hS:=x4 hk
 have hP:=(xt (M:=M) hp hk Ia (yv hk M)).1
 refine eP func12 rfl rfl call12 rfl rfl λR J=>?_
 refine aB (MP p l M 1 hp hf hl he) ?_
 refine aI (λh=>by cases h) (λ_=>?_)
 refine aB (lowest p (cntF l) M hS O) ?_
 apply aB hP
 refine aD ?_
 exact Za _
def take_one{α:Type} [Inhabited α] {l:List α}{i:Nat}(h:i<l.length):l.take (i+1)=l.take i++ [l.getD i default]:=by rw[Kf,Cb h,aX h];rfl
def lc(p:Proj)(c:List Fact):Nat->Nat->Int
 |0,i=>iL p c 0 i
 |m+1,i=>bif lc p c m i==30000 then iL p c (m+1) i else lc p c m i
def Cm(p:Proj)(c:List Fact):Nat->Nat->Int
 |0,_=>0
 |m+1,i=>Cm p c m i+Rh p c (m+1) i
structure Kx(p:Proj)(c:List Fact)(m i:Nat):Prop where
 lv:Bc (lc p c m i)
 le:iL p c m i<=lc p c m i
 no:iL p c m i=30000->lc p c m i=30000/\Cm p c m i=0
 yes:iL p c m i≠30000->lc p c m i≠30000/\Cm p c m i=dH p*(lc p c m i-iL p c m i)
def Vo{p:Proj}{c:List Fact}(hp:PV p)(hS:Vf p c)(hv:Dh c){i:Nat}(hi:i<p.aT.levels.length):∀m,Kx p c m i
 |0=>by have h:=mf hp hS hv hi 0;exact⟨h,Xd _,λe=>⟨e,rfl⟩,λe=>⟨e,by show(0:Int)=dH p*(iL p c 0 i-iL p c 0 i);rw[Wk,th]⟩⟩
 |m+1=>by
  have ih:=Vo hp hS hv hi m;have h1:=mf hp hS hv hi (m+1);have h2:=mf hp hS hv hi m;have hle:=Gt p c m i;have e1:lc p c (m+1) i=bif lc p c m i==30000 then iL p c (m+1) i else lc p c m i:=rfl;have e2:Cm p c (m+1) i=Cm p c m i+bif iL p c m i==30000 then 0 else(iL p c m i-iL p c (m+1) i)*dH p:=rfl;by_cases h0:iL p c m i=30000
  ·obtain⟨a,b⟩:=ih.no h0;rw[a,show((30000:Int)==30000)=true from rfl,Na]at e1;rw[b,h0,show((30000:Int)==30000)=true from rfl,Na]at e2;exact⟨e1▸h1,by rw[e1];exact Xd _,λe=>⟨e1.trans e,e2⟩,λe=>⟨by rw[e1];exact e,by rw[e1,e2,Wk,th];rfl⟩⟩
  obtain⟨a,b⟩:=ih.yes h0;rw[show(lc p c m i==30000)=false by simpa using a,Xa]at e1;rw[b,show(iL p c m i==30000)=false by simpa using h0,Xa]at e2;have h4:=ih.le;unfold Bc at h1 h2;exact⟨e1▸ih.lv,by rw[e1];omega,λe=>by omega,λ_=>⟨by rw[e1];exact a,by rw[e1,e2,Lp _ (dH p),<-Int.mul_add];congr 1;omega⟩⟩
def yb9(f g:Nat->Int):∀n,Kb (λi=>f i+g i) n=Kb f n+Kb g n
 |0=>rfl
 |n+1=>by show Kb (λi=>f i+g i) n+(f n+g n)=Kb f n+f n+(Kb g n+g n);rw[yb9 f g n];omega
def ybP:∀n,Kb (λ_=>0) n=0
 |0=>rfl
 |n+1=>by show Kb (λ_=>0) n+0=0;rw[ybP n];rfl
def ybO(f:Nat->Nat->Int)(n:Nat):∀m,Kb (λi=>Kb (λk=>f i k) m) n=Kb (λk=>Kb (λi=>f i k) n) m
 |0=>ybP n
 |m+1=>by show Kb (λi=>Kb (λk=>f i k) m+f i m) n=Kb (λk=>Kb (λi=>f i k) n) m+Kb (λi=>f i m) n;rw[yb9,ybO f n m]
def Fm{f g:Nat->Int}:∀{n:Nat},(∀i,i<n->f i=g i)->Kb f n=Kb g n
 |0,_=>rfl
 |n+1,h=>by show Kb f n+f n=Kb g n+g n;rw[Fm λi hi=>h i O,h n O]
structure Sl(F:Int->Int->Int):Prop where
 same:∀a, -20000<=a->a<=20000->F a a=0
 add:∀a b c,a<=20000->b<=a->c<=b-> -20000<=c->F a c=F a b+F b c
def ybY{p:Proj}{c:List Fact}(hp:PV p)(hS:Vf p c)(hv:Dh c){i:Nat}(hi:i<p.aT.levels.length){u v:Int->wa->Int}{F:Int->Int->Int}(hF:Sl F)
  (hc:∀a b, -20000<=b->b<a->a<=20000->sd p i u v (vP p.gr (dP p.aT i) a b)=F a b):
  ∀L,Kb (λk=>Og p c (k+1) u v i) L=if iL p c L i=30000 then 0 else F (lc p c L i) (iL p c L i)
 |0=>by
  have h:=mf hp hS hv hi 0;show(0:Int)=if iL p c 0 i=30000 then 0 else F (iL p c 0 i) (iL p c 0 i);unfold Bc at h;split
  ·rfl
  exact(hF.same _ O O).symm
 |L+1=>by
  have ih:=ybY hp hS hv hi hF hc L;have h1:=Vo hp hS hv hi L;have h2:=mf hp hS hv hi (L+1);have h3:=mf hp hS hv hi L;have hle:=Gt p c L i;have e1:lc p c (L+1) i=bif lc p c L i==30000 then iL p c (L+1) i else lc p c L i:=rfl;show Kb (λk=>Og p c (k+1) u v i) L+Og p c (L+1) u v i=_;rw[ih];unfold Og;rw[show L+1-1=L by omega];have SJ:=h1.lv;have hl2:=h1.le;unfold Bc at h2 h3 SJ;by_cases h0:iL p c L i=30000
  ·obtain⟨a,_⟩:=h1.no h0;rw[a,show((30000:Int)==30000)=true from rfl,Na]at e1;rw[Ma h0,h0,show((30000:Int)==30000)=true from rfl,mq,Na,e1];split
   ·rfl
   exact(hF.same _ O O).symm
  obtain⟨a,_⟩:=h1.yes h0;rw[show(lc p c L i==30000)=false by simpa using a,Xa]at e1;rw[La h0,La O,e1,show(iL p c L i==30000)=false by simpa using h0,Kk,hF.add (lc p c L i) (iL p c L i) (iL p c (L+1) i) O O O O];by_cases FK:iL p c (L+1) i>=iL p c L i
  ·rw[Vc FK,show iL p c (L+1) i=iL p c L i by omega,hF.same _ O O];rfl
  rw[Dd FK,Xa,hc _ _ O O O]
def cr{p:Proj}{l:List Fact}(hk:Cf p l){u v:Int->wa->Int}{F:Nat->Int->Int->Int}(hF:∀i,i<p.aT.levels.length->Sl (F i))
  (hc:∀i,i<p.aT.levels.length->∀a b, -20000<=b->b<a->a<=20000->sd p i u v (vP p.gr (dP p.aT i) a b)=F i a b) (L:Nat):
  Kb (λk=>ya u v (G3 p (cntF l) (k+1))) L=Kb (λi=>if iL p (cntF l) L i=30000 then 0 else F i (lc p (cntF l) L i) (iL p (cntF l) L i)) p.aT.levels.length:=by
 rw[Fm λk _=>yc5 hk (M:=k+1) u v,ybO λk i=>Og p (cntF l) (k+1) u v i]
 exact Fm λi hi=>ybY (sf hk.proj) (x4 hk) (Gl hk.fmt) hi (hF i hi) (hc i hi) L
def Kt{p:Proj}{i:Nat}{u v u' v':Int->wa->Int}(h1:∀s,u i s=u' i s)(h2:∀s,v i s=v' i s):∀xs,sd p i u v xs=sd p i u' v' xs
 |[]=>rfl
 |x::r=>by show u i x.aN*_+v i x.aN*_+sd p i u v r=u' i x.aN*_+v' i x.aN*_+sd p i u' v' r;rw[h1,h2,Kt h1 h2 r]
def ybK{p:Proj}{i:Nat}{u v:Int->wa->Int}:∀xs,sd p i u v xs=sd p i u (λ_ _=>0) xs+sd p i (λ_ _=>0) v xs
 |[]=>rfl
 |x::r=>by show u i x.aN*_+v i x.aN*_+sd p i u v r=(u i x.aN*_+(0:Int)*_+sd p i u _ r)+((0:Int)*_+v i x.aN*_+sd p i _ v r);rw[ybK r];omega
def Gi(p:Proj)(i:Nat)(a b:Int):Int:=if P2 p i=30000 then 0 else max 0 (a-max b (P2 p i))*dH p
def Wh(p:Proj)(i:Nat)(a b:Int):Int:=if P2 p i=30000 then 0 else max 0 (min a (P2 p i)-b)*dH p
def yc4(p:Proj)(i:Nat):Sl (Gi p i) where
 same a h1 h2:=by
  unfold Gi;split
  ·rfl
  rw[show max 0 (a-max a (P2 p i))=0 by omega,Ig]
 add a b c h1 h2 h3 h4:=by
  unfold Gi;split
  ·rfl
  rw[<-Int.add_mul];congr 1;omega
def yc2(p:Proj)(i:Nat):Sl (Wh p i) where
 same a h1 h2:=by
  unfold Wh;split
  ·rfl
  rw[show max 0 (min a (P2 p i)-a)=0 by omega,Ig]
 add a b c h1 h2 h3 h4:=by
  unfold Wh;split
  ·rfl
  rw[<-Int.add_mul];congr 1;omega
def ycD{p:Proj}(hv:PV p){i:Nat}(hi:i<p.aT.levels.length)(t:wa):Sl (λa b=>Ze p i t a b*dH p) where
 same a h1 h2:=by show Ze p i t a a*_=0;rw[ybD hv hi ⟨h1,h2⟩,Ig]
 add a b c h1 h2 h3 h4:=by show Ze p i t a c*_=Ze p i t a b*_+Ze p i t b c*_;rw[ycW hv hi h1 h2 h3 h4,Int.add_mul]
def ycS{p:Proj}{l:List Fact}(hk:Cf p l)(L:Nat):Kb (λk=>ya (λ_ _=>0) (λ_ _=>1) (G3 p (cntF l) (k+1))) L=
  Kb (λi=>if iL p (cntF l) L i=30000 then 0 else Gi p i (lc p (cntF l) L i) (iL p (cntF l) L i)) p.aT.levels.length:=
 cr hk (F:=Gi p) (λi _=>yc4 p i) (λi hi a b h1 h2 h3=>by have hv:=sf hk.proj;rw[Js hv hi 1 _ λx hx=>D7 hx,ybU hv hi ⟨O,h3⟩ ⟨h1,O⟩ O,Int.one_mul];rfl) L
def Jc(p:Proj)(n:Int):Int:=if P2 p n.toNat=30000 then 0 else 1
def ycR{p:Proj}{l:List Fact}(hk:Cf p l)(L:Nat):Kb (λk=>ya (λn _=>Jc p n) (λn _=> -Jc p n) (G3 p (cntF l) (k+1))) L=
  Kb (λi=>if iL p (cntF l) L i=30000 then 0 else Wh p i (lc p (cntF l) L i) (iL p (cntF l) L i)) p.aT.levels.length:=
 cr hk (F:=Wh p) (λi _=>yc2 p i) (λi hi a b h1 h2 h3=>by
  have hv:=sf hk.proj;rw[ybK,Kt (u':=λ_ _=>Jc p i) (v':=λ_ _=>0) (λ_=>rfl) (λ_=>rfl),Kt (u:=λ_ _=>0) (u':=λ_ _=>0) (v':=λ_ _=> -Jc p i) (λ_=>rfl) (λ_=>rfl),
   ybL hv i _ _ λx hx=>D7 hx,Js hv hi _ _ λx hx=>D7 hx,ybU hv hi ⟨O,h3⟩ ⟨h1,O⟩ O,ybT hv hi ⟨O,h3⟩ ⟨h1,O⟩ O]
  unfold Jc Wh;rw[gd];split
  ·simp
  rw[Int.one_mul,Int.neg_mul,Int.one_mul,<-Int.sub_eq_add_neg,<-Int.sub_mul];congr 1;omega) L
def ycT{p:Proj}{l:List Fact}(hk:Cf p l)(t:wa)(L:Nat):Kb (λk=>ya (λ_ s=>if s=t then 1 else 0) (λ_ _=>0) (G3 p (cntF l) (k+1))) L=
  Kb (λi=>if iL p (cntF l) L i=30000 then 0 else Ze p i t (lc p (cntF l) L i) (iL p (cntF l) L i)*dH p) p.aT.levels.length:=
 cr hk (F:=λi a b=>Ze p i t a b*dH p) (λ_ hi=>ycD (sf hk.proj) hi t) (λi _ _ _ _ _ _=>ybq (sf hk.proj) i t _ λ_ hx=>D7 hx) L
def ybG{p:Proj}{i:Nat}(hi:i<p.aT.levels.length)(h:(UI p.chan (dP p.aT i)).2=false):P2 p i=30000:=by unfold P2;rw[Xo _ _ _ hi];unfold L0;rw[h];rfl
def ybH{p:Proj}(hv:PV p){i:Nat}(hi:i<p.aT.levels.length)(h:(UI p.chan (dP p.aT i)).2=true):P2 p i=aW ((UI p.chan (dP p.aT i)).1-p.chan.over)/\P2 p i≠30000:=by
 have e:P2 p i=aW ((UI p.chan (dP p.aT i)).1-p.chan.over):=by unfold P2;rw[Xo _ _ _ hi];unfold L0;rw[h];rfl
 have h1:=Mr hv.val (RY hv.gv hi).1 h;have h2:=hv.val.over;refine⟨e,?_⟩;rw[e,aG O O];omega
structure cp(p:Proj)(fl ll:List Int)(i:Nat):Prop where
 f:Bc (fl.getD i 0)
 l:Bc (ll.getD i 0)
 no:ll.getD i 0=30000->fl.getD i 0=30000
 yes:ll.getD i 0≠30000->fl.getD i 0≠30000
def pu{p:Proj}(hv:PV p){fl ll:List Int}(hF:∀i,i<p.aT.levels.length->cp p fl ll i){h:Int->Int->Int->Int}{C:Nat->Int->Int->Int}
  (h0:∀i a b,P2 p i=30000->C i a b=0) (hh:∀i a b,P2 p i≠30000->Bc a->Bc b->a≠30000->b≠30000->Bc (P2 p i)->C i a b=max 0 (h a b (P2 p i))*dH p/\h a b (P2 p i)<=40000):
  ∀i,i<=p.aT.levels.length->Ad h p.chan {p.aT with levels:=fl} {p.aT with levels:=ll} i=Kb (λi=>if ll.getD i 0=30000 then 0 else C i (fl.getD i 0) (ll.getD i 0)) i/\
   0<=Kb (λi=>if ll.getD i 0=30000 then 0 else C i (fl.getD i 0) (ll.getD i 0)) i/\Kb (λi=>if ll.getD i 0=30000 then 0 else C i (fl.getD i 0) (ll.getD i 0)) i<=(i:Int)*40000000000
 |0,_=>⟨rfl,Xd _,by show(0:Int)<=_;omega⟩
 |i+1,hi=>by
  obtain⟨h1,h2,h3⟩:=pu hv hF h0 hh i O;have bC:i<p.aT.levels.length:=O;have hn:=hv.cells;obtain⟨a1,a2⟩:=Yj hv;obtain⟨f1,f2,f3,f4⟩:=hF i bC;show(bif (UI p.chan (dP p.aT i)).2 then Yg h {p.aT with levels:=fl} {p.aT with levels:=ll} p.chan.over (Ad h p.chan {p.aT with levels:=fl} {p.aT with levels:=ll} i) i (UI p.chan (dP p.aT i)).1 else Ad h p.chan {p.aT with levels:=fl} {p.aT with levels:=ll} i)=Kb _ i+(if ll.getD i 0=30000 then 0 else C i (fl.getD i 0) (ll.getD i 0))/\0<=Kb _ i+(if ll.getD i 0=30000 then 0 else C i (fl.getD i 0) (ll.getD i 0))/\Kb _ i+(if ll.getD i 0=30000 then 0 else C i (fl.getD i 0) (ll.getD i 0))<=((i+1:Nat):Int)*40000000000;rw[h1];generalize Kb _ i=S at h1 h2 h3⊢
  cases hd:(UI p.chan (dP p.aT i)).2 with
  |false=>have hl:=ybG bC hd;rw[h0 i _ _ hl,ite_self,Xa];omega
  |true=>
   obtain⟨e1,e2⟩:=ybH hv bC hd;have hb:=Gr hv bC;rw[Na];unfold Yg;show(bif fl.getD i 0 !=30000&&ll.getD i 0 !=30000 then aW (S+aW (dH p*mm true 0 (h (fl.getD i 0) (ll.getD i 0) (aW ((UI p.chan (dP p.aT i)).1-p.chan.over)))))else S)=_/\_;rw[<-e1];by_cases hk:ll.getD i 0=30000
   ·rw[Ma hk,f3 hk,show((30000:Int) !=30000)=false from rfl,Bool.false_and,Xa];omega
   obtain⟨k1,k2⟩:=hh i _ _ e2 f1 f2 (f4 hk) hk hb;have q1:=Nf (a:=max 0 (h (fl.getD i 0) (ll.getD i 0) (P2 p i))) (b:=dH p) O O;have q3:max 0 (h (fl.getD i 0) (ll.getD i 0) (P2 p i))*dH p<=40000*1000000:=ni O a2 O dC;rw[La hk,k1,show(fl.getD i 0 !=30000)=true by simpa using f4 hk,show(ll.getD i 0 !=30000)=true by simpa using hk,zw,Na,mg,Lp (dH p)];generalize max 0 (h (fl.getD i 0) (ll.getD i 0) (P2 p i))*dH p=W at q1 q3⊢;rw[aG (n:=W) O O,aG O O];omega
def ycJ{p:Proj}(hv:PV p){fl ll:List Int}(hF:∀i,i<p.aT.levels.length->cp p fl ll i):Ad bj p.chan {p.aT with levels:=fl} {p.aT with levels:=ll} p.aT.levels.length=Kb (λi=>if ll.getD i 0=30000 then 0 else Gi p i (fl.getD i 0) (ll.getD i 0)) p.aT.levels.length:=
 (pu hv hF (h:=bj) (C:=Gi p) (λi a b hl=>Ma hl) (λi a b hl h1 h2 h3 h4 h5=>by unfold Bc at h1 h2 h5;unfold Gi bj;rw[La hl,mg,aG O O];exact⟨rfl,O⟩) _ (mb _)).1
def ycI{p:Proj}(hv:PV p){fl ll:List Int}(hF:∀i,i<p.aT.levels.length->cp p fl ll i):Ad Xi p.chan {p.aT with levels:=fl} {p.aT with levels:=ll} p.aT.levels.length=Kb (λi=>if ll.getD i 0=30000 then 0 else Wh p i (fl.getD i 0) (ll.getD i 0)) p.aT.levels.length:=
 (pu hv hF (h:=Xi) (C:=Wh p) (λi a b hl=>Ma hl) (λi a b hl h1 h2 h3 h4 h5=>by unfold Bc at h1 h2 h5;unfold Wh Xi;rw[La hl,lf,aG O O];exact⟨rfl,O⟩) _ (mb _)).1
def ydg(g:eZ)(i:Int)(he:kC g=0)(h0:0<=i)(hi:i<g.levels.length)(hl:g.levels.length<=9223372036854775807):aF prog 26 [rK g,vI i] (pt (dP g i)):=by exact eP func26 rfl rfl call26 rfl rfl λR J=>aB (OD g i he h0 hi hl) (Ka rfl)
def ydx(a b:eZ):aF prog 52 [rK a,rK b] (vB (alike a b)):=by
 refine eP func52 rfl rfl call52 rfl rfl λR J=>?_
 repeat refine aR ?_
 exact Ka rfl
def ycY(g:Ground)(a b:eZ)(hg:g.fits)(e0:dX g=0)(ea:kC a=0)(eb:kC b=0)(JW:alike a b=true)(la:a.levels.length<=9223372036854775807)(lb:b.levels.length<=9223372036854775807):
  aF prog 24 [T7 g,.s (.d (cZ [a,b]))] (vI 0):=by
 have hC:=E8 g hg
 rw[e0]at hC
 have key:∀i,i<2->kC ([a,b].getD i default)=0/\([a,b].getD i default).levels.length<=9223372036854775807:=by
  intro i hi
  match i,hi with
  |0,_=>exact⟨ea,la⟩
  |1,_=>exact⟨eb,lb⟩
 refine eP func24 rfl rfl call24 rfl rfl λR J=>?_
 apply aB hC
 refine aI (λh=>by cases h) (λ_=>?_)
 refine tb (λi:Nat=>⟨[(1,.s (.d (cZ [a,b]))),(14,.s (.d (cZ [a,b]))),(15,vI 2),(16,vI i)],[]⟩) (λi=>i<=2) (λi=>2-i) 0 (Oa _) ?_ ?_
 ·exact Qa J [] rfl trivial Ga
 intro i hi
 apply eX J
 apply aI<;>intro h
 ·have h:(i:Int)<2:=bG h;obtain⟨k1,k2⟩:=key i O;have hB:=UW ([a,b].getD i default) k2;rw[k1]at hB;refine oi (show(0:Int)<=i/\(i:Int)<2 by omega) (aB (hB.conv (args':=_) ⟨⟨Ja _,Ja _,Ja _,Ja _,Ja _,Ja _,oO⟩,oO⟩) ?_);refine aI (λh=>by cases h) (λ_=>?_);exact⟨i+1,O,O,Qa J [] rfl trivial Ga⟩
 ·repeat refine aR ?_
  refine og (λ_=>⟨dC,by show(0:Int)<2;decide⟩) ?_;repeat refine aR ?_
  refine og (λ_=>⟨dC,by show(1:Int)<2;decide⟩) ?_;repeat refine aR ?_
  refine bR ((ydx a b).conv (args':=_) ⟨⟨Ja _,Ja _,Ja _,Ja _,Ja _,Ja _,oO⟩,⟨Ja _,Ja _,Ja _,Ja _,Ja _,Ja _,oO⟩,oO⟩) ?_;repeat refine aR ?_
  refine aD (aI (λh=>?_) (λ_=>Za _));have h:(!alike a b)=true:=h;rw[JW]at h
  cases h
def Qd(bK:List lI)(ar:Int)(f:Nat->Int)(x:Part):Nat->Int:=λk=>if k=(o8 bK x.aN).toNat then aW (f k+aW (ar*aW (x.Ra-x.bot)))else f k
def Rg(b a:eZ)(i:Nat):Bool:=(b.levels.getD i 0==30000||a.levels.getD i 0==30000)||decide (a.levels.getD i 0>=b.levels.getD i 0)
def He(g:Ground)(b a:eZ)(i:Nat):List Part:=nL (uD g (dP b i)).bB (b.levels.getD i 0) (a.levels.getD i 0) (uD g (dP b i)).bB.length
def Nc(g:Ground)(b a:eZ):Nat->Nat->Int
 |0=>λ_=>0
 |i+1=>bif Rg b a i then Nc g b a i else(He g b a i).foldl (Qd g.bK (aW (b.side*b.side))) (Nc g b a i)
def ah(bK:List lI)(F:Nat->Int)(k:Nat):mj:=⟨(bK.getD k default).name,F k⟩
def Tc(bK:List lI)(F:Nat->Int)(n:Nat):List mj:=(List.range n).map (ah bK F)
def Cs(bK:List lI)(F:Nat->Int)(n:Nat):(Tc bK F n).length=n:=by unfold Tc;simp
def ycN(bK:List lI)(F:Nat->Int)(n:Nat):Tc bK F (n+1)=Tc bK F n++ [ah bK F n]:=by unfold Tc;rw[Pp,sj];rfl
def gu{bK:List lI}{F:Nat->Int}{n k:Nat}(h:k<n):(Tc bK F n).getD k default=ah bK F k:=by unfold Tc;simp[lq h]
abbrev Ft(bK:List lI)(F:Nat->Int):Nat->Nat->DV:=λk=>Uh (ah bK F k)
def ydf(bK:List lI)(ar:Int)(F:Nat->Int)(x:Part):∀q c,c<2->
  eT (Ft bK F) (o8 bK x.aN).toNat 1 [.d (dI (aW (F (o8 bK x.aN).toNat+aW (ar*aW (x.Ra-x.bot)))))] q c=Ft bK (Qd bK ar F x) q c:=λq c hc=>by
 by_cases h:q=(o8 bK x.aN).toNat
 ·subst h;unfold eT;rw[Ma rfl]
  match c,hc with
  |0,_=>rfl
  |1,_=>show dI _=dI (Qd bK ar F x (o8 bK x.aN).toNat);unfold Qd;rw[Ma rfl]
 ·unfold eT;rw[La h];have e:Qd bK ar F x q=F q:=La h;show Uh (ah bK F q) c=Uh (ah bK (Qd bK ar F x) q) c;unfold ah;rw[e]
def ycn{g:Ground}(h:dX g=0):0<g.bK.length/\g.bK.length<=8:=by unfold dX at h;obtain⟨h,_⟩:=dU h;unfold mO at h;obtain⟨h1,h⟩:=dF dC h;obtain⟨h2,_⟩:=dF dC h;simp only[pf,Hd]at h1 h2;omega
def yc0{g:Ground}(h:dX g=0){b:fS}(hb:b∈g.cC){k:Nat}(hk:k<b.bB.length):0<=o8 g.bK (b.bB.getD k default).aN:=by unfold dX at h;obtain⟨_,h⟩:=dU h;obtain⟨_,h⟩:=dF dC h;obtain⟨_,h⟩:=dF dC h;obtain⟨i,hi,rfl⟩:=ph hb;have h2:=lQ h i (Oa _) O;unfold uC at h2;obtain⟨_,h2⟩:=dF dC h2;obtain⟨_,h2⟩:=dF dC h2;rw[aX hi]at h2;unfold vN at h2;obtain⟨_,h2⟩:=dF dC h2;obtain⟨_,h2⟩:=dF dC h2;obtain⟨_,h2⟩:=dF dC h2;have h3:=lQ h2 k (Oa _) O;unfold sL at h3;obtain⟨_,h3⟩:=dF dC h3;obtain⟨_,h3⟩:=dF dC h3;obtain⟨h3,_⟩:=dF dC h3;have:=pj h3;omega
def ydr{g:Ground}(h:dX g=0){b:fS}(hb:b∈g.cC):b.bB.length<=12:=by unfold dX at h;obtain⟨_,h⟩:=dU h;obtain⟨_,h⟩:=dF dC h;obtain⟨_,h⟩:=dF dC h;obtain⟨i,hi,rfl⟩:=ph hb;have h2:=lQ h i (Oa _) O;unfold uC at h2;obtain⟨_,h2⟩:=dF dC h2;obtain⟨_,h2⟩:=dF dC h2;rw[aX hi]at h2;unfold vN at h2;obtain⟨_,h2⟩:=dF dC h2;obtain⟨_,h2⟩:=dF dC h2;obtain⟨h2,_⟩:=dF dC h2;have:=pj h2;omega
def ybM{l:List lI}{s:wa}(h:0<=o8 l s):(o8 l s).toNat<l.length/\bE (l.getD (o8 l s).toNat default).name s=true:=by obtain⟨_,h2,h3⟩:=yN (λx:lI=>bE x.name s) l 0 h;exact⟨h2,h3⟩
def yb2{g:Ground}(h:dX g=0){b a:eZ}{i:Nat}{x:Part}(hx:x∈He g b a i):0<=o8 g.bK x.aN:=by
 unfold He nL at hx;obtain⟨k,hk,hx⟩:=Li.1 hx;unfold X8 at hx
 cases hq:decide (C4 (uD g (dP b i)).bB (b.levels.getD i 0) k>FM (uD g (dP b i)).bB (a.levels.getD i 0) k)with
 |false=>rw[hq]at hx;cases hx
 |true=>rw[hq]at hx;obtain rfl:=Gc hx;exact yc0 h (bP (MS g.cC (dP b i) g.cC.length (EX h).1)) (rh.1 hk)
def yb1{g:Ground}(b a:eZ)(i:Nat):(He g b a i).length<=(uD g (dP b i)).bB.length:=RU _ _ _ _
abbrev shS(g:Ground)(b a:eZ)(i:Nat)(F:Nat->Int)(r:List (Nat×AV)):St:=
 ⟨[(3,.s (.ptr 3 0)),(4,.s (.ptr 4 0)),(5,.s (.ptr 5 0)),(9,.s (.own 100)),(40,iR b.levels),(41,vI b.levels.length),(42,vI i)]++r,
  [(3,some (.cells [.d (kV g.bK),.d (pN g.cC)])),(4,some (Gf b)),(5,some (Gf a)),(100,some (.row 59 g.bK.length 2 (Ft g.bK F)))]⟩
def ydk(g:Ground)(b a:eZ)(hg:g.fits)(e0:dX g=0)(eb:kC b=0)(ea:kC a=0)(JW:alike b a=true)(hl:a.levels.length=b.levels.length)(hn:b.levels.length<=1000000):
  aF prog 11 [T7 g,rK b,rK a] (.t [.s (.d (nt (Tc g.bK (Nc g b a b.levels.length) g.bK.length))),.s (.d (dI 0))]):=by
 obtain⟨s1,s2⟩:=ycn e0
 obtain⟨b1,b2⟩:=EX e0
 refine eP func11 rfl rfl call11 rfl rfl λR J=>?_
 refine aB ((ycY g b a hg e0 eb ea JW O O).conv (args':=_) ⟨⟨Ja _,Ja _,oO⟩,Ic λi j hi hj=>Ya ?_,oO⟩) ?_
 ·have hi:i<2:=hi;have hj:j<6:=hj
  match i,j,hi,hj with
  |0,0,_,_|0,1,_,_|0,2,_,_|0,3,_,_|0,4,_,_|0,5,_,_|1,0,_,_|1,1,_,_|1,2,_,_|1,3,_,_|1,4,_,_|1,5,_,_=>rfl
 refine aI (λh=>by cases h) (λ_=>?_)
 refine tb (λi:Nat=>⟨[(3,.s (.ptr 3 0)),(4,.s (.ptr 4 0)),(5,.s (.ptr 5 0)),(9,.s (.mo (Tc g.bK (λ_=>0) i).isEmpty 100)),(26,jQ g.bK),(27,vI g.bK.length),(28,vI i)],
  [(3,some (.cells [.d (kV g.bK),.d (pN g.cC)])),(4,some (Gf b)),(5,some (Gf a)),(100,some (.b8 59 (Tc g.bK (λ_=>0) i).length 2 (Gp (Tc g.bK (λ_=>0) i))))]⟩) (λi=>i<=g.bK.length) (λi=>g.bK.length-i) 0 (Oa _) ?_ ?_
 ·exact Qa J [(100,1000)] rfl ⟨bQ,bQ,bQ,⟨rfl,rfl⟩,oO⟩ ⟨Z,Z,Z,⟨rfl,Pf rfl⟩,Ga⟩
 intro i hi
 have hln:=Cs g.bK (λ_=>0) i
 apply eX J
 apply aI<;>intro h
 ·have h:(i:Int)<g.bK.length:=bG h;have hs:=ycN g.bK (λ_=>0) i;refine oi Ia (ob dC ?_);refine ob (by rw[dK];show((Tc g.bK (λ_=>0) i).length+1)*24<=_;omega) ?_;refine ob (nJ (Sj rfl rfl)) ⟨i+1,O,O,?_⟩;refine Qa J [(100,37)] rfl ⟨bQ,bQ,bQ,⟨rfl,?_⟩,oO⟩ ⟨Z,Z,Z,⟨rfl,Ee (by rw[hs];exact cA _ _)⟩,Ga⟩;show aY _ (.b8 59 (Tc g.bK (λ_=>0) (i+1)).length 2 (Gp (Tc g.bK (λ_=>0) (i+1))));rw[hs];exact Te (el:=Uh) (x:=ah g.bK (λ_=>0) i) (Sj rfl rfl)
 have h:¬(i:Int)<g.bK.length:=bF h
 obtain rfl:i=g.bK.length:=O
 have hz:(Tc g.bK (λ_=>0) g.bK.length).isEmpty=false:=by
  cases hq:Tc g.bK (λ_=>0) g.bK.length with
  |nil=>rw[hq]at hln;simp at hln;omega
  |cons=>rfl
 refine tb (λi:Nat=>shS g b a i (Nc g b a i) []) (λi=>i<=b.levels.length) (λi=>b.levels.length-i) 0 (Oa _) ?_ ?_
 ·refine aM.trans (aM.own (z:=(Tc g.bK (λ_=>0) g.bK.length).isEmpty) (e:=59) (n:=(Tc g.bK (λ_=>0) g.bK.length).length) (s:=2) (f:=Gp (Tc g.bK (λ_=>0) g.bK.length)) 9 100 rfl hz rfl) (Qa J [] rfl ⟨bQ,bQ,bQ,⟨rfl,Zb hln λk c hk hc=>Ya ?_⟩,oO⟩ Ga);show Uh ((Tc g.bK (λ_=>0) g.bK.length).getD k default) c=Uh (ah g.bK (λ_=>0) k) c;rw[gu O]
 intro i hi
 apply eX J
 apply aI<;>intro h
 ·have h:(i:Int)<b.levels.length:=bG h;have bC:i<b.levels.length:=O;have hstep:Nc g b a (i+1)=bif Rg b a i then Nc g b a i else(He g b a i).foldl (Qd g.bK (aW (b.side*b.side))) (Nc g b a i):=rfl;refine oi Ia (oi Ia ?_);repeat refine aR ?_
  apply aI<;>intro h2
  ·have h2:Rg b a i=true:=h2;refine⟨i+1,O,O,?_⟩;exact Qa J [] rfl ⟨bQ,bQ,bQ,⟨rfl,ic (by rw[hstep,h2];rfl)⟩,oO⟩ Ga
  have h2:Rg b a i=false:=h2;rw[h2,Xa]at hstep;have hlen:=yb1 (g:=g) b a i;have aL7:(uD g (dP b i)).bB.length<=12:=ydr e0 (b:=uD g (dP b i)) (bP (MS g.cC (dP b i) g.cC.length b1));refine aB (ydg b i eb O O O) (aB (column g (dP b i) (b.levels.getD i 0) (a.levels.getD i 0) b1 O O) ?_);refine aD ?_;have nR:=λx (hx:x∈He g b a i)=>yb2 e0 hx
  have hL:nL (uD g (dP b i)).bB (b.levels.getD i 0) (a.levels.getD i 0) (uD g (dP b i)).bB.length=He g b a i:=rfl;rw[hL];generalize He g b a i=xs at hstep hlen nR;generalize Nc g b a i=F0 at hstep;refine tb (λj:Nat=>shS g b a i ((xs.take j).foldl (Qd g.bK (aW (b.side*b.side))) F0) [(70,iC xs),(71,vI xs.length),(72,vI j)]) (λj=>j<=xs.length) (λj=>xs.length-j) 0 (Oa _) (Qa J [] rfl Ga Ga) ?_;intro j hj;apply eX J;apply aI<;>intro h3
  ·have h3:(j:Int)<xs.length:=bG h3;have qR:j<xs.length:=O;have hx:=nR _ (bP qR);obtain⟨k1,k2⟩:=ybM hx;have e2:(xs.take (j+1)).foldl (Qd g.bK (aW (b.side*b.side))) F0=Qd g.bK (aW (b.side*b.side)) ((xs.take j).foldl (Qd g.bK (aW (b.side*b.side))) F0) (xs.getD j default):=by rw[Kf,Cb qR,aX qR,Fu];rfl
   generalize (xs.take j).foldl (Qd g.bK (aW (b.side*b.side))) F0=F at e2⊢;refine oi Ia (aB (aHT g.bK (xs.getD j default).aN hg.bK) ?_);generalize hk:(o8 g.bK (xs.getD j default).aN).toNat=k at k1 k2;refine oi (show(0:Int)<=o8 g.bK (xs.getD j default).aN/\o8 g.bK (xs.getD j default).aN<(g.bK.length:Int) by omega) (oi (show(o8 g.bK (xs.getD j default).aN).toNat<g.bK.length by omega) ?_);refine oi (show(0:Int)<=o8 g.bK (xs.getD j default).aN/\o8 g.bK (xs.getD j default).aN<(g.bK.length:Int) by omega) (ob (show(o8 g.bK (xs.getD j default).aN).toNat<g.bK.length by omega) ?_);refine aD ⟨j+1,O,O,?_⟩;refine Qa J [] rfl ⟨bQ,bQ,bQ,⟨rfl,Zb rfl λq c hq hc=>Ya ?_⟩,oO⟩ Ga;rw[e2];exact ydf g.bK (aW (b.side*b.side)) F (xs.getD j default) q c hc
  have h3:¬(j:Int)<xs.length:=bF h3;obtain rfl:j=xs.length:=O;rw[Sd,<-hstep];exact⟨i+1,O,O,Qa J [] rfl Ga Ga⟩
 have h:¬(i:Int)<b.levels.length:=bF h
 obtain rfl:i=b.levels.length:=O
 refine yf ⟨?_,Ja _,oO⟩
 refine Oe (Cs _ _ _).symm λk c hk hc=>Ya ?_
 show Uh (ah g.bK (Nc g b a b.levels.length) k) c=Uh ((Tc g.bK (Nc g b a b.levels.length) g.bK.length).getD k default) c
 rw[gu hk]
end Go.Pj
namespace Go.Ch
open Go Go.Ax Go.Proofs Go.Proofs.Tryz
def Oj(g:eZ)(lv:Nat->Int):eZ:=⟨g.x,g.y,g.side,g.dO,g.rows,(List.range g.levels.length).map lv⟩
def ydA(lv:Nat->Int)(i:Nat):Nat->Nat->DV:=λk _=>if k<i then dI (lv k)else dI 0
def ydC(g:eZ)(f k:Nat)(c:Nat->DV)(lv:Nat->Int)(h0:0<g.levels.length)(hn:g.levels.length<=1024)(hp:∀i,i<g.levels.length->aF prog f (vI i::jF c k 0) (vI (lv i))):
  aF prog 40 [rK g,.s (.d (.dZ f k c))] (rK (Oj g lv)):=by
 refine eP func40 rfl rfl call40 rfl rfl λR J=>?_
 apply ob O
 apply ob O
 refine ob (by show(8:Int)*(g.levels.length:Int)<=281474976710656;omega) ?_
 refine tb (λi:Nat=>⟨[(1,.s (.d (.dZ f k c))),(2,.s (.ptr 2 0)),(4,.s (.ptr 4 0)),(5,.s (.ptr 5 0)),(15,vI g.levels.length),(16,vI i)],
   [(2,some (Gf g)),(4,some (.cells [.d (dI 0),.d (dI 0),.d (dI 0),.d (dI 0),.d (dI 0),.d (.val (.slice none 0 0))])),(5,some (.cells [.d (dI g.x),.d (dI g.y),.d (dI g.side),.d (dI g.dO),.d (dI g.rows),.own 11])),(11,some (.row 3 g.levels.length 1 (ydA lv i)))]⟩)
  (λi=>i<=g.levels.length) (λi=>g.levels.length-i) 0 (Oa _) ?_ ?_
 ·refine Qa J [] rfl ⟨bQ,bQ,bQ,⟨rfl,Zb rfl λi j _ hj=>Ya ?_⟩,oO⟩ Ga;have hj:j<1:=hj;obtain rfl:j=0:=O;rfl
 ·intro i hi;apply eX J;apply aI<;>intro h
  ·have h:(i:Int)<g.levels.length:=bG h;refine aB ((hp i O).conv (args':=_) ⟨Ja _,wh⟩) (oi Ia ?_);refine ob (show(i:Int).toNat<g.levels.length by omega) (aD ?_);refine⟨i+1,O,O,?_⟩;refine Qa J [] rfl ⟨bQ,bQ,bQ,⟨rfl,Zb rfl λk j hk hj=>Ya ?_⟩,oO⟩ Ga;obtain rfl:j=0:=O;by_cases ON:k=i
   ·subst ON;apply oP.trans;unfold ydA;rw[Ma (Ni _)]
   refine(tG ON).trans ?_;unfold ydA;by_cases fZ:k<i
   ·rw[Ma fZ,Ma O]
   rw[La fZ,La O]
  have h:¬(i:Int)<g.levels.length:=bF h;obtain rfl:i=g.levels.length:=O;refine ag ⟨Ja _,Ja _,Ja _,Ja _,Ja _,Oe (by simp[Oj]) λk j hk hj=>Ya ?_,oO⟩;unfold ydA cP;rw[Ma hk];congr 2;simp[Oj,hk]
def FO.pos{g:eZ}(h:FO g):0<g.levels.length:=by have h1:=h.len;have h2:=h.dO;have h3:=h.rows;have:0<g.dO*g.rows:=Int.mul_pos O O;omega
def six{p:Nat->Prop}(h0:p 0)(h1:p 1)(h2:p 2)(h3:p 3)(h4:p 4)(h5:p 5):∀j,j<6->p j:=λj hj=>by
 match j,hj with
 |0,_=>exact h0
 |1,_=>exact h1
 |2,_=>exact h2
 |3,_=>exact h3
 |4,_=>exact h4
 |5,_=>exact h5
def ak(a b:eZ)(i:Nat):Int:=bif b.levels.getD i 0 !=30000 then b.levels.getD i 0 else a.levels.getD i 0
def ydz{a b:eZ}{i:Nat}{f h:Nat->DV}(hf:∀j,j<6->f j=Sh b j)(hh:∀j,j<6->h j=Sh a j):
  sV [vI i,.s (.d (.rp 6 f)),.s (.d (.rp 6 h))] [vI i,.s (.d (.rp 6 (Sh b))),.s (.d (.rp 6 (Sh a)))]:=
 ⟨Ja _,Xc λj hj=>Ya (hf j hj),Xc λj hj=>Ya (hh j hj),oO⟩
def yde(a b:eZ)(i:Nat)(ha:i<a.levels.length)(hb:i<b.levels.length)(hn:b.levels.length<=1024)(f h:Nat->DV)(hf:∀j,j<6->f j=Sh b j)(hh:∀j,j<6->h j=Sh a j):
  aF prog 41 [vI i,.s (.d (.rp 6 f)),.s (.d (.rp 6 h))] (vI (ak a b i)):=by
 refine Re ?_ (ydz hf hh)
 refine eP func41 rfl rfl call41 rfl rfl λR _=>?_
 refine aB (ydl b i hb O) ?_
 apply aI<;>intro h1
 ·have h1:(b.levels.getD i 0 !=30000)=true:=h1;apply oi Ia;exact Ka (by unfold ak;rw[h1];rfl)
 ·have h1:(b.levels.getD i 0 !=30000)=false:=h1;apply oi Ia;exact Ka (by unfold ak;rw[h1];rfl)
def ydj(a b:eZ)(ha:a.ok)(hb:b.ok)(h:Ah a b=0):aF prog 19 [rK a,rK b] (rk (Oj a (ak a b)) 0):=by have hB:=ydB a b ha hb;rw[h]at hB;obtain⟨e1,e2,e3⟩:=ycE h;have ga:=Bi e1;have gb:=Bi e2;have hl:=ycL ga gb e3;refine gI (rc:=[2000040]) (N:=17) func19 rfl rfl call19 aJ mix rfl rfl (λR J=>?_);refine aB hB (aI (λh=>by cases h) (λ_=>?_));refine⟨[2,3],_,ydC a 41 2 _ (ak a b) ga.pos ga.n ?_,Ka rfl⟩;intro i hi;exact yde a b i hi O gb.n _ _ (six rfl rfl rfl rfl rfl rfl) (six rfl rfl rfl rfl rfl rfl)
end Go.Ch
namespace Go.Pj
open Go Go.Ax Go.Ch Go.Proofs Go.Proofs.Tryz
def bg(p:Proj)(c:List Fact):Nat->Nat->Int
 |0,i=>iL p c 0 i
 |m+1,i=>bif bg p c m i !=30000 then bg p c m i else iL p c (m+1) i
def Xb(p:Proj)(c:List Fact)(m:Nat):List Int:=(List.range p.aT.levels.length).map (bg p c m)
def Ys(p:Proj)(c:List Fact)(m:Nat):(Xb p c m).length=p.aT.levels.length:=by unfold Xb;simp
def Ak{p:Proj}{c:List Fact}{m k:Nat}(h:k<p.aT.levels.length):(Xb p c m).getD k 0=bg p c m k:=by unfold Xb;simp[lq h]
def ycF{p:Proj}{Y:List Fact}(hp:PV p)(hS:Vf p Y)(hv:Dh Y){i:Nat}(hi:i<p.aT.levels.length):∀M,Bc (bg p Y M i)
 |0=>mf hp hS hv hi 0
 |M+1=>by
  have h1:=ycF hp hS hv hi M;have h2:=mf hp hS hv hi (M+1);show Bc (bif bg p Y M i !=30000 then bg p Y M i else iL p Y (M+1) i)
  cases bg p Y M i !=30000 with
  |true=>exact h1
  |false=>exact h2
def ydb{x:Int}(h:Bc x):iQ x=false:=by
 unfold Bc at h;unfold iQ;rcases h with h|h
 ·rw[h];rfl
 rw[within_iff.2 h];simp
def nm{p:Proj}(hp:PV p){l:List Int}(hn:l.length=p.aT.levels.length)(hl:∀i,i<p.aT.levels.length->Bc (l.getD i 0)):kC {p.aT with levels:=l}=0:=by apply ycd hp.aT hn;rw[Cg];intro x hx;obtain⟨i,hi,rfl⟩:=ph hx;have h:=hl i O;rw[ac,Cb hi]at h;have h:Bc l[i]:=h;rw[ydb h];simp
def Vj{p:Proj}(hp:PV p){l:List Int}(hn:l.length=p.aT.levels.length)(hl:∀i,i<p.aT.levels.length->Bc (l.getD i 0)):eZ.ok {p.aT with levels:=l}:=
 Lq (Bi (nm hp hn hl))
def yb7{p:Proj}{l:List Fact}(hk:Cf p l)(m:Nat):aF prog 19 [rK {p.aT with levels:=lE p (cntF l) (m+1)},rK {p.aT with levels:=Xb p (cntF l) m}] (rk {p.aT with levels:=Xb p (cntF l) (m+1)} 0):=by
 have hp:=sf hk.proj;have hS:=x4 hk;have hv:=Gl hk.fmt;have l1:=P0 p (cntF l) (m+1);have l2:=Ys p (cntF l) m;have v1:∀i,i<p.aT.levels.length->Bc ((lE p (cntF l) (m+1)).getD i 0):=λi hi=>by rw[uS hi];exact mf hp hS hv hi _
 have v2:∀i,i<p.aT.levels.length->Bc ((Xb p (cntF l) m).getD i 0):=λi hi=>by rw[Ak hi];exact ycF hp hS hv hi _
 have e1:=nm hp l1 v1;have e2:=nm hp l2 v2;have h:=ydj _ _ (Vj hp l1 v1) (Vj hp l2 v2) (by unfold Ah;rw[e1,e2];simp[Eh]);have e:Oj {p.aT with levels:=lE p (cntF l) (m+1)} (ak {p.aT with levels:=lE p (cntF l) (m+1)} {p.aT with levels:=Xb p (cntF l) m})= {p.aT with levels:=Xb p (cntF l) (m+1)}:=by
  unfold Oj;congr 1;show(List.range (lE p (cntF l) (m+1)).length).map _=(List.range p.aT.levels.length).map _;rw[l1];refine Up λi hi=>?_
  have hi:i<p.aT.levels.length:=rh.1 hi;show(bif (Xb p (cntF l) m).getD i 0 !=30000 then(Xb p (cntF l) m).getD i 0 else(lE p (cntF l) (m+1)).getD i 0)=_;rw[Ak hi,uS hi];rfl
 rw[e]at h;exact h
def ybI{p:Proj}{l:List Fact}{m f:Int}(h:iI p l=0)(h1:f<=m)(h2:m<=24):j6 p l m f=0:=by unfold j6;rw[h,show within m f 24=true from within_iff.2 ⟨h1,h2⟩];rfl
abbrev yda:List SV:=[.d (dI 0),.d (dI 0),.d (dI 0),.d (dI 0),.d (dI 0),.d (.val (.slice none 0 0))]
def ends(p:Proj)(l:List Fact)(L:Nat)(hp:p.fits)(hf:∀f∈l,f.fits)(hl:l.length<=9223372036854775807)(h0:iI p l=0)(hL:L<=24):
  aF prog 7 [oR p,cJ l,vI L] (.t [.g (C3 p.aT (.d (b5 (Xb p (cntF l) L)))),.g (C3 p.aT (.d (b5 (lE p (cntF l) L)))),.s (.d (.lit true))]):=by
 have hk:=YW h0
 have DR:∀m:Nat,m<=24->aF prog 18 [oR p,cJ l,vI m] (.t [.g (C3 p.aT (.d (b5 (lE p (cntF l) m)))),.s (.d (dI 0))]):=λm hm=>ZV p l m hp hf hl (ybI h0 O O)
 have hz:=DR 0 O
 refine eP func7 rfl rfl call7 rfl rfl λR J=>?_
 apply aB hz
 refine aI (λh=>by cases h) (λ_=>?_)
 refine tb (λk:Nat=>⟨[(1,cJ l),(2,vI L),(3,.s (.ptr 3 0)),(6,.s (.ptr 6 0)),(7,.s (.ptr 7 0)),(9,.s (.ptr 9 0)),(11,.s (.ptr 11 0)),(12,vI (k+1:Nat))],
  [(3,some (.cells (qH p))),(6,some (.cells yda)),(7,some (.cells yda)),(9,some (.cells (C3 p.aT (.d (b5 (Xb p (cntF l) k)))))),(11,some (.cells (C3 p.aT (.d (b5 (lE p (cntF l) k))))))]⟩) (λk=>k<=L) (λk=>L-k) 0 (Oa _) ?_ ?_
 ·exact Qa J [] rfl Ga Ga
 intro k hkL
 apply eX J
 apply aI<;>intro h1
 ·have h1:((k+1:Nat):Int)<=(L:Int):=ec h1;have hm:=DR (k+1) O;apply aB hm;repeat first|apply oi trivial|apply sk|apply st|apply sg|apply sh|apply su|apply Yr|apply Br
  refine aI (λh2=>?_) (λ_=>?_)
  ·exfalso;have h2:((0:Int) !=0||(((lE p (cntF l) (k+1)).length:Int) !=((Xb p (cntF l) k).length:Int)))=true:=h2;rw[P0,Ys]at h2;simp at h2
  refine aB (yb7 hk k) (aI (λh=>by cases h) (λ_=>?_));exact⟨k+1,O,O,Qa J [] rfl Ga Ga⟩
 have h1:¬((k+1:Nat):Int)<=(L:Int):=pj h1
 obtain rfl:k=L:=O
 refine aD ?_
 exact Za _
def Ut(n:Int):aW n=if n%18446744073709551616>=9223372036854775808 then n%18446744073709551616-18446744073709551616 else n%18446744073709551616:=by unfold aW IntKind.wrap;simp[IntKind.bits,IntKind.signed]
def lj(a b:Int):aW (aW a+b)=aW (a+b):=by rw[Ut a,Ut (a+b),Ut];split <;> split <;> split <;> omega
def Ar(a b:Int):aW (aW a-b)=aW (a-b):=by rw[Int.sub_eq_add_neg,lj,<-Int.sub_eq_add_neg]
def ycQ(a:Int):aW (aW a)=aW a:=by have h:=lj a 0;rw[ef,ef]at h;exact h
def ydh{g:Ground}(h:dX g=0){k:Nat}(hk:k<g.bK.length){s:wa}(hs:bE (g.bK.getD k default).name s=true):(o8 g.bK s).toNat=k:=by
 have e:(g.bK.getD k default).name=s:=eq_of_beq (by rw[<-KU];exact hs);subst e;unfold dX at h;obtain⟨h,_⟩:=dU h;unfold mO at h;obtain⟨_,h⟩:=dF dC h;obtain⟨_,h⟩:=dF dC h;have h2:=lQ h k (Oa _) O;unfold wD at h2;obtain⟨_,h2⟩:=dF dC h2;obtain⟨h2,_⟩:=dF dC h2;have h3:=V4 (λx:lI=>bE x.name (g.bK.getD k default).name) g.bK 0 k hk hs;rw[h2]at h3;have h4:o8 g.bK (g.bK.getD k default).name=((0+k:Nat):Int):=by simpa[bne,o8]using h3
 rw[h4];omega
def Bk(bK:List lI)(k:Nat):List Part->Int
 |[]=>0
 |x::r=>(if k=(o8 bK x.aN).toNat then x.Ra-x.bot else 0)+Bk bK k r
def ybW(bK:List lI){ar:Int}(h0:0<=ar)(h1:ar<=1000000)(k:Nat):∀(xs:List Part) (f:Nat->Int),(∀x∈xs,AQ x)->aW (xs.foldl (Qd bK ar) f k)=aW (f k+ar*Bk bK k xs)
 |[],f,_=>by show aW (f k)=aW (f k+ar*0);rw[th,ef]
 |x::r,f,hx=>by
  have h:=hx x (dd);have p1:=h.lt;have p2:=h.lo;have p3:=h.hi;rw[Rk,ybW bK h0 h1 k r _ λy hy=>hx y (Yb _ hy)];show aW ((if k=(o8 bK x.aN).toNat then aW (f k+aW (ar*aW (x.Ra-x.bot)))else f k)+ar*Bk bK k r)=aW (f k+ar*((if k=(o8 bK x.aN).toNat then x.Ra-x.bot else 0)+Bk bK k r));by_cases hk:k=(o8 bK x.aN).toNat
  ·have q1:=Nf (a:=ar) (b:=x.Ra-x.bot) h0 O;have q2:ar*(x.Ra-x.bot)<=1000000*40000:=ni h1 O O dC;rw[Ma hk,Ma hk,lj,aG (n:=x.Ra-x.bot) O O,aG (n:=ar*(x.Ra-x.bot)) O O,Int.mul_add,Int.add_assoc]
  rw[La hk,La hk,Um]
def ybV(bK:List lI)(ar:Int):∀(xs:List Part) (f:Nat->Int),(∀k,aW (f k)=f k)->∀k,aW (xs.foldl (Qd bK ar) f k)=xs.foldl (Qd bK ar) f k
 |[],_,h=>h
 |x::r,f,h=>by
  rw[Rk];refine ybV bK ar r _ λk=>?_
  unfold Qd;by_cases hk:k=(o8 bK x.aN).toNat
  ·rw[Ma hk];exact ycQ _
  rw[La hk];exact h k
def ycm(g:Ground)(b a:eZ):∀n k,aW (Nc g b a n k)=Nc g b a n k
 |0,_=>rfl
 |n+1,k=>by
  have ih:=ycm g b a n;show aW ((bif Rg b a n then Nc g b a n else(He g b a n).foldl (Qd g.bK (aW (b.side*b.side))) (Nc g b a n)) k)=(bif Rg b a n then Nc g b a n else(He g b a n).foldl (Qd g.bK (aW (b.side*b.side))) (Nc g b a n)) k
  cases Rg b a n with
  |true=>exact ih k
  |false=>exact ybV _ _ _ _ ih k
def ycq{g:Ground}(h:dX g=0){k:Nat}(hk:k<g.bK.length):∀xs:List Part,(∀x∈xs,0<=o8 g.bK x.aN)->Bk g.bK k xs=Ge (g.bK.getD k default).name xs
 |[],_=>rfl
 |x::r,hx=>by
  have ih:=ycq h hk r λy hy=>hx y (Yb _ hy)
  show(if k=(o8 g.bK x.aN).toNat then x.Ra-x.bot else 0)+Bk g.bK k r=(if x.aN=(g.bK.getD k default).name then x.Ra-x.bot else 0)+Ge _ r;rw[ih];congr 1;obtain⟨s1,s2⟩:=ybM (hx x (dd));by_cases hq:k=(o8 g.bK x.aN).toNat
  ·subst hq;have e:(g.bK.getD (o8 g.bK x.aN).toNat default).name=x.aN:=eq_of_beq (by rw[<-KU];exact s2);rw[Ma rfl,Ma e.symm]
  rw[La hq,La];intro e;exact hq (ydh h hk (by rw[<-e];exact SZ _)).symm
def yb(p:Proj)(c:List Fact)(i:Nat):∀m,bg p c m i=lc p c m i
 |0=>rfl
 |m+1=>by
  show(bif bg p c m i !=30000 then bg p c m i else iL p c (m+1) i)=bif lc p c m i==30000 then iL p c (m+1) i else lc p c m i;rw[yb p c i m,bne]
  cases lc p c m i==30000 <;> rfl
def ydD{p:Proj}{c:List Fact}(hp:PV p)(hS:Vf p c)(hv:Dh c)(L:Nat):∀i,i<p.aT.levels.length->cp p (Xb p c L) (lE p c L) i:=λi hi=>by have h:=Vo hp hS hv hi L;have h1:=mf hp hS hv hi L;have e1:(Xb p c L).getD i 0=lc p c L i:=(Ak hi).trans (yb p c i L);have e2:(lE p c L).getD i 0=iL p c L i:=uS hi;exact⟨by rw[e1];exact h.lv,by rw[e2];exact h1,by rw[e1,e2];exactλe=>(h.no e).1,by rw[e1,e2];exactλe=>(h.yes e).1⟩
def ycM{p:Proj}{l:List Fact}(hk:Cf p l)(L:Nat){k:Nat}(hkk:k<p.gr.bK.length):
  Nc p.gr {p.aT with levels:=Xb p (cntF l) L} {p.aT with levels:=lE p (cntF l) L} p.aT.levels.length k=aW (Kb (λm=>ya (λ_ s=>if s=(p.gr.bK.getD k default).name then 1 else 0) (λ_ _=>0) (G3 p (cntF l) (m+1))) L):=by
 have hp:=sf hk.proj
 have hS:=x4 hk
 have hv:=Gl hk.fmt
 obtain⟨a1,a2⟩:=Yj hp
 rw[ycT hk,<-ycm]
 have key:∀n,n<=p.aT.levels.length->aW (Nc p.gr {p.aT with levels:=Xb p (cntF l) L} {p.aT with levels:=lE p (cntF l) L} n k)=
   aW (Kb (λi=>if iL p (cntF l) L i=30000 then 0 else Ze p i (p.gr.bK.getD k default).name (lc p (cntF l) L i) (iL p (cntF l) L i)*dH p) n):=by
  intro n
  induction n with
  |zero=>intro _;rfl
  |succ n ih=>
   intro hn;have ih:=ih O;have hi:n<p.aT.levels.length:=O;have h:=Vo hp hS hv hi L;have h1:=mf hp hS hv hi L;have SJ:=h.lv;have hle:=h.le;have e1:(Xb p (cntF l) L).getD n 0=lc p (cntF l) L n:=(Ak hi).trans (yb p _ n L);have e2:(lE p (cntF l) L).getD n 0=iL p (cntF l) L n:=uS hi;show aW ((bif Rg {p.aT with levels:=Xb p (cntF l) L} {p.aT with levels:=lE p (cntF l) L} n then Nc p.gr {p.aT with levels:=Xb p (cntF l) L} {p.aT with levels:=lE p (cntF l) L} n
    else(He p.gr {p.aT with levels:=Xb p (cntF l) L} {p.aT with levels:=lE p (cntF l) L} n).foldl (Qd p.gr.bK (dH p)) (Nc p.gr {p.aT with levels:=Xb p (cntF l) L} {p.aT with levels:=lE p (cntF l) L} n)) k)=
    aW (Kb _ n+if iL p (cntF l) L n=30000 then 0 else Ze p n (p.gr.bK.getD k default).name (lc p (cntF l) L n) (iL p (cntF l) L n)*dH p)
   have hsk:Rg {p.aT with levels:=Xb p (cntF l) L} {p.aT with levels:=lE p (cntF l) L} n=((lc p (cntF l) L n==30000||iL p (cntF l) L n==30000)||decide (iL p (cntF l) L n>=lc p (cntF l) L n)):=by unfold Rg;show(((Xb p (cntF l) L).getD n 0==30000||(lE p (cntF l) L).getD n 0==30000)||decide ((lE p (cntF l) L).getD n 0>=(Xb p (cntF l) L).getD n 0))=_;rw[e1,e2]
   unfold Bc at h1 SJ;by_cases h0:iL p (cntF l) L n=30000
   ·obtain⟨f1,_⟩:=h.no h0;rw[hsk,f1,Ma h0,show((30000:Int)==30000)=true from rfl,mq,mq,Na,ef];exact ih
   obtain⟨f1,_⟩:=h.yes h0;rw[La h0];by_cases FK:iL p (cntF l) L n>=lc p (cntF l) L n
   ·rw[hsk,Vc FK,Ex,Na,show lc p (cntF l) L n=iL p (cntF l) L n by omega,ybD hp hi O,Ig,ef];exact ih
   rw[hsk,Dd FK,show(lc p (cntF l) L n==30000)=false by simpa using f1,show(iL p (cntF l) L n==30000)=false by simpa using h0,Aj,Aj,Xa];have hc:He p.gr {p.aT with levels:=Xb p (cntF l) L} {p.aT with levels:=lE p (cntF l) L} n=vP p.gr (dP p.aT n) (lc p (cntF l) L n) (iL p (cntF l) L n):=by rw[Qj hp hi O O O,<-e1,<-e2];rfl
   have hso:∀x∈He p.gr {p.aT with levels:=Xb p (cntF l) L} {p.aT with levels:=lE p (cntF l) L} n,0<=o8 p.gr.bK x.aN:=λx hx=>yb2 hp.gr hx
   rw[hc]at hso⊢;rw[ybW p.gr.bK O a2 k _ _ λx hx=>D7 hx,ycq hp.gr hkk _ hso,<-lj (Nc _ _ _ _ _),ih,lj,Lp (dH p)];rfl
 exact key _ (mb _)
def Lb(p:Proj)(k:Nat):wa:=(p.gr.bK.getD k default).name
def Qc(p:Proj)(c:List Fact)(m:Nat):Int:=Kb (λk=>ya (λ_ _=>0) (λ_ _=>1) (G3 p c (k+1))) m
def Oc(p:Proj)(c:List Fact)(m:Nat):Int:=Kb (λk=>ya (λn _=>Jc p n) (λn _=> -Jc p n) (G3 p c (k+1))) m
def Ec(p:Proj)(c:List Fact)(t:wa)(m:Nat):Int:=Kb (λk=>ya (λ_ s=>if s=t then 1 else 0) (λ_ _=>0) (G3 p c (k+1))) m
def yu(h:Int->Int->Int->Int)(c:kE)(b a:eZ):∀i,aW (Ad h c b a i)=Ad h c b a i
 |0=>rfl
 |i+1=>by
  have ih:=yu h c b a i;rw[Ad]
  cases(UI c (dP b i)).2 with
  |false=>exact ih
  |true=>
   rw[Na];unfold Yg
   cases b.levels.getD i 0 !=30000&&a.levels.getD i 0 !=30000 with
   |true=>exact ycQ _
   |false=>exact ih
def ydQ{p:Proj}(hv:PV p){i:Nat}(hi:i<p.aT.levels.length):((mM p.chan p.aT 0).levels.getD i 0 !=30000)= !decide (P2 p i=30000):=by
 rw[Xo _ _ _ hi];unfold L0
 cases h:(UI p.chan (dP p.aT i)).2 with
 |false=>rw[ybG hi h];rfl
 |true=>obtain⟨e1,e2⟩:=ybH hv hi h;have h1:=Mr hv.val (RY hv.gv hi).1 h;have h2:=hv.val.over;rw[Dd e2,Na,aG O O];show((UI p.chan (dP p.aT i)).1-0 !=30000)=true;rw[bne_iff_ne];omega
abbrev Sg(p:Proj)(l:List Fact)(L:Nat)(D:List Int)(sh:List mj)(pa ov:Int)(su:Nat->Int)(r:List (Nat×AV)):St:=
 ⟨[(1,cJ l),(2,vI L),(3,.s (.ptr 3 0)),(10,.s (.ptr 10 0)),(12,vI pa),(14,vI ov),(16,ydM sh),(18,.s (.own 800))]++r,
  [(3,some (.cells (qH p))),(10,some (.cells (C3 p.aT (.d (b5 D))))),(800,some (.row 3 sh.length 1 (λj _=>dI (su j))))]⟩
def TopPaidTwoWays(p:Proj)(l:List Fact)(last:Int)(hp:p.Dl)(hf:∀f∈l,f.fits)(hl:l.length<=9223372036854775807):aF prog 3 [oR p,cJ l,vI last] (vB true):=by
 refine eW func3 rfl rfl call3 rfl rfl (λR J=>?_);refine sX J (Va (sX J ?_));refine aB (ydL p l hp hf hl) ?_;repeat refine aR ?_
 refine bR (cI last 1 4) ?_;repeat refine aR ?_
 refine wb (aI (λ_=>eX J (aB ten (Za _))) (λh=>Jb ?_));have h:(!ct p l|| !within last 1 4)=false:=h;simp only[Rc,Mi]at h;obtain⟨ht,hw⟩:=h;unfold ct at ht;simp only[cb,nj,rf]at ht;obtain⟨⟨hg,hm⟩,he⟩:=ht;have hw:=within_iff.1 hw;have oW:=hp.fits hg;obtain⟨L,rfl⟩:∃k:Nat,last=k:=⟨last.toNat,O⟩;have hk:=YW he;have hS:=x4 hk;have hpv:=sf hk.proj;have hv:=Gl hk.fmt;have hn:=hpv.cells;have hfl:=ydD hpv hS hv L;have l1:=P0 p (cntF l) L;have l2:=Ys p (cntF l) L;have v1:∀i,i<p.aT.levels.length->Bc ((lE p (cntF l) L).getD i 0):=λi hi=>(hfl i hi).l
 have v2:∀i,i<p.aT.levels.length->Bc ((Xb p (cntF l) L).getD i 0):=λi hi=>(hfl i hi).f
 have e1:=nm hpv l1 v1;have e2:=nm hpv l2 v2;have hal:alike {p.aT with levels:=Xb p (cntF l) L} {p.aT with levels:=lE p (cntF l) L}=true:=by simp[alike]
 have hwE:mI p.chan [{p.aT with levels:=Xb p (cntF l) L},{p.aT with levels:=lE p (cntF l) L}]=0:=by rw[ou,hpv.chan,e1,e2,hal];rfl
 have hPa:=ydE p.chan _ _ hp.chan (Vj hpv l2 v2) (Vj hpv l1 v1);have hOv:=ycX p.chan _ _ hp.chan (Vj hpv l2 v2) (Vj hpv l1 v1);have hSh:aF prog 11 [T7 p.gr,rK {p.aT with levels:=Xb p (cntF l) L},rK {p.aT with levels:=lE p (cntF l) L}] (.t [.s (.d (nt (Tc p.gr.bK (Nc p.gr {p.aT with levels:=Xb p (cntF l) L} {p.aT with levels:=lE p (cntF l) L} (Xb p (cntF l) L).length) p.gr.bK.length))),.s (.d (dI 0))]):=
  ydk p.gr _ _ hp.gr hpv.gr e2 e1 hal (by show(lE p (cntF l) L).length=(Xb p (cntF l) L).length;omega) (by show(Xb p (cntF l) L).length<=_;omega)
 rw[l2]at hSh;have hDe:=yce p.chan p.aT hp.chan (Lq hpv.gv);have eD:zK p.chan p.aT 0=(mM p.chan p.aT 0,0):=by unfold zK;rw[hpv.with];rfl
 rw[eD]at hDe;have rP:Xh bj p.chan {p.aT with levels:=Xb p (cntF l) L} {p.aT with levels:=lE p (cntF l) L}=aW (Qc p (cntF l) L-Qc p (cntF l) 0):=by unfold Xh;rw[hwE];show Ad bj p.chan _ _ (Xb p (cntF l) L).length=aW (Qc p (cntF l) L-0);rw[Int.sub_zero,l2,<-yu,ycJ hpv hfl];apply Sa aW;unfold Qc;rw[ycS hk];exact Fm λi hi=>by rw[uS hi,(Ak hi).trans (yb p _ i L)]
 have rO:Xh Xi p.chan {p.aT with levels:=Xb p (cntF l) L} {p.aT with levels:=lE p (cntF l) L}=aW (Oc p (cntF l) L-Oc p (cntF l) 0):=by unfold Xh;rw[hwE];show Ad Xi p.chan _ _ (Xb p (cntF l) L).length=aW (Oc p (cntF l) L-0);rw[Int.sub_zero,l2,<-yu,ycI hpv hfl];apply Sa aW;unfold Oc;rw[ycR hk];exact Fm λi hi=>by rw[uS hi,(Ak hi).trans (yb p _ i L)]
 rw[rP,hwE]at hPa;rw[rO,hwE]at hOv;have hsl:=Cs p.gr.bK (Nc p.gr {p.aT with levels:=Xb p (cntF l) L} {p.aT with levels:=lE p (cntF l) L} p.aT.levels.length) p.gr.bK.length;have hsn:∀j,j<p.gr.bK.length->((Tc p.gr.bK (Nc p.gr {p.aT with levels:=Xb p (cntF l) L} {p.aT with levels:=lE p (cntF l) L} p.aT.levels.length) p.gr.bK.length).getD j default).aN=Lb p j/\
   ((Tc p.gr.bK (Nc p.gr {p.aT with levels:=Xb p (cntF l) L} {p.aT with levels:=lE p (cntF l) L} p.aT.levels.length) p.gr.bK.length).getD j default).iZ=aW (Ec p (cntF l) (Lb p j) L):=λj hj=>by
  rw[gu hj]
  exact⟨rfl,ycM hk L hj⟩
 obtain⟨s1,s2⟩:=ycn hpv.gr;generalize Tc p.gr.bK (Nc p.gr {p.aT with levels:=Xb p (cntF l) L} {p.aT with levels:=lE p (cntF l) L} p.aT.levels.length) p.gr.bK.length=sh at hsl hsn hSh;rw[<-hsl]at hsn;have hDl:(mM p.chan p.aT 0).levels.length=p.aT.levels.length:=E6 _ _ _;have hDk:=λi (hi:i<p.aT.levels.length)=>ydQ hpv hi
 refine sX J (aB (ends p l L oW hf hl he O) ?_);refine sX J (aB hDe ?_);refine sX J (aB hPa ?_);refine sX J (aB hOv ?_);refine sX J (aB hSh ?_);refine Va (sX J ?_);repeat first|apply oi trivial|apply sk|apply st|apply sg|apply sh|apply su|apply Yr|apply Br
 refine wb (aI (λh2=>?_) (λ_=>Jb ?_))
 ·exfalso;have h2:(((mM p.chan p.aT 0).levels.length:Int) !=(p.aT.levels.length:Int))=true:=h2;rw[hDl]at h2;simp at h2
 generalize (mM p.chan p.aT 0).levels=D at hDl hDk;generalize pV:cntF l=c at*;refine sX J (ob (show(0:Int)<=(sh.length:Int) by omega) ?_);refine ob (Xd _) (ob (show(8:Int)*(sh.length:Int)<=281474976710656 by omega) ?_);refine Tb (I':=Sg p l L D sh (aW (Qc p c L-Qc p c 0)) (aW (Oc p c L-Oc p c 0)) (λq=>aW (Ec p c (Lb p q) 0)) []) (Qa J [(800,99)] rfl ⟨bQ,bQ,⟨rfl,Zb (gd _) λa d ha hd=>Ya ?_⟩,oO⟩ Ga) ?_
 ·obtain rfl:d=0:=by have hd:d<1:=hd;omega
  rfl
 refine Ce (I':=Sg p l L D sh (aW (Qc p c L-Qc p c L)) (aW (Oc p c L-Oc p c L)) (λq=>aW (Ec p c (Lb p q) L)) []) ?_ ?_
 ·refine sX J (Ab ?_);refine tb (λm:Nat=>Sg p l L D sh (aW (Qc p c L-Qc p c m)) (aW (Oc p c L-Oc p c m)) (λq=>aW (Ec p c (Lb p q) m)) [(19,vI (m+1:Nat))]) (λm=>m<=L) (λm=>L-m) 0 (Oa _) (Qa J [] rfl Ga Ga) ?_;intro m hmL;refine Va (sX J ?_);refine wb (aI (λh1=>Jb ?_) (λh1=>Zc ?_))
  ·have h1:((m+1:Nat):Int)<=(L:Int):=ec h1;have hP:=ycx p l (m+1) oW hf hl (ybI he O O);have hOK:=ydv (l:=l) (M:=m+1) hk O;rw[pV]at hP hOK;have hxl:(G3 p c (m+1)).length<=241200:=by have h:=(xt (M:=m+1) oW hk Ia (yv hk _)).2;rw[pV]at h;exact h
   have hpcs:=hOK.lM;have ea:Qc p c (m+1)=Qc p c m+ya (λ_ _=>0) (λ_ _=>1) (G3 p c (m+1)):=rfl;have eo:Oc p c (m+1)=Oc p c m+ya (λn _=>Jc p n) (λn _=> -Jc p n) (G3 p c (m+1)):=rfl;have es:∀q,Ec p c (Lb p q) (m+1)=Ec p c (Lb p q) m+ya (λ_ s=>if s=Lb p q then 1 else 0) (λ_ _=>0) (G3 p c (m+1)):=λ_=>rfl
   generalize G3 p c (m+1)=xs at hP hxl hpcs ea eo es;refine Ce (I':=Sg p l L D sh (aW (Qc p c L-Qc p c (m+1))) (aW (Oc p c L-Oc p c (m+1))) (λq=>aW (Ec p c (Lb p q) (m+1))) [(19,vI (m+1:Nat))]) ?_ ?_
   ·refine Ab (sX J ?_);refine aB hP (Va (sX J ?_));refine wb (aI (λh2=>by cases h2) (λ_=>Jb ?_));refine sX J (Ab ?_);refine tb (λi:Nat=>Sg p l L D sh (aW (Qc p c L-(Qc p c m+ya (λ_ _=>0) (λ_ _=>1) (xs.take i)))) (aW (Oc p c L-(Oc p c m+ya (λn _=>Jc p n) (λn _=> -Jc p n) (xs.take i)))) (λq=>aW (Ec p c (Lb p q) m+ya (λ_ s=>if s=Lb p q then 1 else 0) (λ_ _=>0) (xs.take i))) [(19,vI (m+1:Nat)),(20,iD xs),(22,vI i)]) (λi=>i<=xs.length) (λi=>xs.length-i) 0 (Oa _) ?_ ?_
    ·exact Qa J [] rfl ⟨bQ,bQ,⟨rfl,Zb rfl λa d _ _=>Ya (Sa dI (by show aW _=aW (_+0);rw[ef]))⟩,oO⟩ ⟨Z,Z,Z,Z,⟨rfl,Ua (by show aW _=aW (_-(_+0));rw[ef])⟩,⟨rfl,Ua (by show aW _=aW (_-(_+0));rw[ef])⟩,Ga⟩
    intro i hi;refine Va (sX J ?_);refine wb (aI (λh2=>Jb ?_) (λh2=>Zc ?_))
    ·have h2:(i:Int)<xs.length:=bG h2;have bC:i<xs.length:=O;obtain⟨ci,hci,hcn⟩:=(hpcs (xs.getD i default) (bP bC)).cell;have hcb:0<=(xs.getD i default).cell/\(xs.getD i default).cell<(D.length:Int):=Ia;have tp:ya (λ_ _=>0) (λ_ _=>1) (xs.take (i+1))=ya (λ_ _=>0) (λ_ _=>1) (xs.take i)+(xs.getD i default).gV:=by rw[take_one bC,Rl,Ig,Um,Int.one_mul]
     have tov:ya (λn _=>Jc p n) (λn _=> -Jc p n) (xs.take (i+1))=ya (λn _=>Jc p n) (λn _=> -Jc p n) (xs.take i)+(Jc p (xs.getD i default).cell*(xs.getD i default).iZ+ -Jc p (xs.getD i default).cell*(xs.getD i default).gV):=by rw[take_one bC,Rl]
     have ts:∀q,ya (λ_ s=>if s=Lb p q then 1 else 0) (λ_ _=>0) (xs.take (i+1))=ya (λ_ s=>if s=Lb p q then 1 else 0) (λ_ _=>0) (xs.take i)+if(xs.getD i default).aN=Lb p q then(xs.getD i default).iZ else 0:=λq=>by
      rw[take_one bC,Rl,Ig,ef];split
      ·rw[Int.one_mul]
      rw[Ig]
     refine Va (Ab (Va (sX J ?_)));apply oi Ia;repeat refine aR ?_
     refine og (λ_=>Ia) ?_;repeat refine aR ?_
     refine aD (wb ?_);refine aI (λh3=>?_) (λ_=>Jb ?_)
     ·exfalso;have h3:(decide ((xs.getD i default).cell<0)||decide ((xs.getD i default).cell>=(D.length:Int)))=true:=h3;simp only[nh,de]at h3;omega
     refine sX J (oi Ia ?_);refine Ce (I':=Sg p l L D sh (aW (Qc p c L-(Qc p c m+ya (λ_ _=>0) (λ_ _=>1) (xs.take (i+1))))) (aW (Oc p c L-(Oc p c m+ya (λn _=>Jc p n) (λn _=> -Jc p n) (xs.take (i+1))))) (λq=>aW (Ec p c (Lb p q) m+ya (λ_ s=>if s=Lb p q then 1 else 0) (λ_ _=>0) (xs.take i))) [(19,vI (m+1:Nat)),(20,iD xs),(22,vI i)]) ?_ ?_
     ·refine sX J (oi Ia ?_);refine oi hcb (aD ?_);have hdk:=hDk ci hcn;refine wb (aI (λh3=>?_) (λh3=>Jb ?_))
      ·have h3:(D.getD (xs.getD i default).cell.toNat 0 !=30000)=true:=h3;rw[hci,gd,hdk]at h3;have hd1:Jc p (xs.getD i default).cell=1:=by unfold Jc;rw[hci,gd,La (by simpa using h3)]
       rw[hd1]at tov;refine eX J (oi Ia ?_);refine oi Ia (aD ?_);refine⟨rfl,Qa J [] rfl Ga ⟨Z,Z,Z,Z,⟨rfl,Ua ?_⟩,⟨rfl,Ua ?_⟩,Ga⟩⟩
       ·rw[tp];refine(Ar _ _).trans (Sa aW ?_);simp only[gd];omega
       rw[tov];refine(Sa (λz=>aW (z+_)) (Ar _ _)).trans ((lj _ _).trans (Sa aW ?_));simp only[gd];omega
      have h3:(D.getD (xs.getD i default).cell.toNat 0 !=30000)=false:=h3;rw[hci,gd,hdk]at h3;have hd1:Jc p (xs.getD i default).cell=0:=by unfold Jc;rw[hci,gd,Ma (by simpa using h3)]
      rw[hd1]at tov;refine⟨rfl,Qa J [] rfl Ga ⟨Z,Z,Z,Z,⟨rfl,Ua ?_⟩,⟨rfl,Ua ?_⟩,Ga⟩⟩
      ·rw[tp];refine(Ar _ _).trans (Sa aW ?_);simp only[gd];omega
      rw[tov];apply Sa aW;omega
     refine sX J (Ab ?_);refine tb (λj:Nat=>Sg p l L D sh (aW (Qc p c L-(Qc p c m+ya (λ_ _=>0) (λ_ _=>1) (xs.take (i+1))))) (aW (Oc p c L-(Oc p c m+ya (λn _=>Jc p n) (λn _=> -Jc p n) (xs.take (i+1))))) (λq=>if q<j then aW (Ec p c (Lb p q) m+ya (λ_ s=>if s=Lb p q then 1 else 0) (λ_ _=>0) (xs.take (i+1)))else aW (Ec p c (Lb p q) m+ya (λ_ s=>if s=Lb p q then 1 else 0) (λ_ _=>0) (xs.take i))) [(19,vI (m+1:Nat)),(20,iD xs),(22,vI i),(23,vI j)]) (λj=>j<=sh.length) (λj=>sh.length-j) 0 (Oa _) (Qa J [] rfl ⟨bQ,bQ,⟨rfl,Zb rfl λa d _ _=>Ya (Sa dI (La (Ac a)).symm)⟩,oO⟩ Ga) ?_;intro j hj;refine Va (sX J ?_);refine wb (aI (λh4=>Jb ?_) (λh4=>Zc ?_))
     ·have h4:(j:Int)<sh.length:=bG h4;have qR:j<sh.length:=O;refine Ce (I':=Sg p l L D sh (aW (Qc p c L-(Qc p c m+ya (λ_ _=>0) (λ_ _=>1) (xs.take (i+1))))) (aW (Oc p c L-(Oc p c m+ya (λn _=>Jc p n) (λn _=> -Jc p n) (xs.take (i+1))))) (λq=>if q<j+1 then aW (Ec p c (Lb p q) m+ya (λ_ s=>if s=Lb p q then 1 else 0) (λ_ _=>0) (xs.take (i+1)))else aW (Ec p c (Lb p q) m+ya (λ_ s=>if s=Lb p q then 1 else 0) (λ_ _=>0) (xs.take i))) [(19,vI (m+1:Nat)),(20,iD xs),(22,vI i),(23,vI j)]) ?_ ?_
      ·refine Ab (sX J ?_);refine oi Ia (oi Ia ?_);refine aD (wb ?_);refine aI (λh5=>?_) (λh5=>Jb ?_)
       ·have h5:bE (sh.getD j default).aN (xs.getD i default).aN=true:=h5;rw[(hsn j qR).1,KU]at h5;have h5:Lb p j=(xs.getD i default).aN:=eq_of_beq h5;refine eX J (oi Ia ?_);refine oi (show j<sh.length by omega) (oi Ia ?_);refine oi Ia (ob (show((j:Nat):Int).toNat<sh.length by omega) ?_);refine aD ⟨rfl,Qa J [] rfl ⟨bQ,bQ,⟨rfl,Zb rfl λa d ha hd=>Ya ?_⟩,oO⟩ Ga⟩;obtain rfl:d=0:=by have hd:d<1:=hd;omega
        have tj:=ts j;rw[Ma h5.symm]at tj;show eT (λq _=>dI (if q<j then aW (Ec p c (Lb p q) m+ya (λ_ s=>if s=Lb p q then 1 else 0) (λ_ _=>0) (xs.take (i+1)))else aW (Ec p c (Lb p q) m+ya (λ_ s=>if s=Lb p q then 1 else 0) (λ_ _=>0) (xs.take i)))) j 0 [.d (dI (aW ((if j<j then aW (Ec p c (Lb p j) m+ya (λ_ s=>if s=Lb p j then 1 else 0) (λ_ _=>0) (xs.take (i+1)))else aW (Ec p c (Lb p j) m+ya (λ_ s=>if s=Lb p j then 1 else 0) (λ_ _=>0) (xs.take i)))+(xs.getD i default).iZ)))] a 0=dI (if a<j+1 then aW (Ec p c (Lb p a) m+ya (λ_ s=>if s=Lb p a then 1 else 0) (λ_ _=>0) (xs.take (i+1)))else aW (Ec p c (Lb p a) m+ya (λ_ s=>if s=Lb p a then 1 else 0) (λ_ _=>0) (xs.take i)));by_cases h6:a=j
        ·subst h6;rw[oP,La (wj a),Ma (Ni a),tj,lj,<-Int.add_assoc]
        rw[tG h6];by_cases h7:a<j
        ·rw[Ma h7,Ma O]
        rw[La h7,La O]
       have h5:bE (sh.getD j default).aN (xs.getD i default).aN=false:=h5;rw[(hsn j qR).1,KU]at h5;have h5:Lb p j≠(xs.getD i default).aN:=ne_of_beq_false h5;refine⟨rfl,Qa J [] rfl ⟨bQ,bQ,⟨rfl,Zb rfl λa d ha hd=>Ya (Sa dI ?_)⟩,oO⟩ Ga⟩;have tj:=ts j;rw[La (λe=>h5 e.symm),ef]at tj;show(if a<j then aW (Ec p c (Lb p a) m+ya (λ_ s=>if s=Lb p a then 1 else 0) (λ_ _=>0) (xs.take (i+1)))else aW (Ec p c (Lb p a) m+ya (λ_ s=>if s=Lb p a then 1 else 0) (λ_ _=>0) (xs.take i)))=(if a<j+1 then aW (Ec p c (Lb p a) m+ya (λ_ s=>if s=Lb p a then 1 else 0) (λ_ _=>0) (xs.take (i+1)))else aW (Ec p c (Lb p a) m+ya (λ_ s=>if s=Lb p a then 1 else 0) (λ_ _=>0) (xs.take i)));by_cases h6:a=j
       ·subst h6;rw[La (wj a),Ma (Ni a),tj]
       by_cases h7:a<j
       ·rw[Ma h7,Ma O]
       rw[La h7,La O]
      exact eX J ⟨j+1,O,O,Qa J [] rfl Ga Ga⟩
     have h4:¬(j:Int)<sh.length:=bF h4;obtain rfl:j=sh.length:=O;exact eX J ⟨i+1,O,O,Qa J [] rfl ⟨bQ,bQ,⟨rfl,Zb rfl λa d ha hd=>Ya (Sa dI (Ma ha))⟩,oO⟩ Ga⟩
    have h2:¬(i:Int)<xs.length:=bF h2;obtain rfl:i=xs.length:=O;refine⟨rfl,Qa J [] rfl ⟨bQ,bQ,⟨rfl,Zb rfl λa d ha hd=>Ya (Sa dI ?_)⟩,oO⟩ ⟨Z,Z,Z,Z,⟨rfl,Ua ?_⟩,⟨rfl,Ua ?_⟩,Ga⟩⟩
    ·show aW (Ec p c (Lb p a) m+_)=aW (Ec p c (Lb p a) (m+1));rw[Sd,es]
    ·rw[Sd,ea]
    rw[Sd,eo]
   exact eX J ⟨m+1,O,O,Qa J [] rfl Ga Ga⟩
  have h1:¬((m+1:Nat):Int)<=(L:Int):=pj h1;obtain rfl:m=L:=O;exact⟨rfl,Qa J [] rfl Ga Ga⟩
 refine Ce (I':=Sg p l L D sh (aW (Qc p c L-Qc p c L)) (aW (Oc p c L-Oc p c L)) (λq=>aW (Ec p c (Lb p q) L)) []) ?_ ?_
 ·refine sX J (Ab ?_);refine tb (λj:Nat=>Sg p l L D sh (aW (Qc p c L-Qc p c L)) (aW (Oc p c L-Oc p c L)) (λq=>aW (Ec p c (Lb p q) L)) [(24,vI j)]) (λj=>j<=sh.length) (λj=>sh.length-j) 0 (Oa _) (Qa J [] rfl Ga Ga) ?_;intro j hj;refine Va (sX J ?_);refine wb (aI (λh4=>Jb ?_) (λh4=>Zc ?_))
  ·have h4:(j:Int)<sh.length:=bG h4;have qR:j<sh.length:=O;refine Va (Ab (sX J ?_));refine oi Ia (oi Ia ?_);refine oi (show j<sh.length by omega) (aD ?_);refine wb (aI (λh5=>?_) (λ_=>Jb ?_))
   ·exfalso;have h5:((sh.getD j default).iZ !=aW (Ec p c (Lb p j) L))=true:=h5;rw[(hsn j qR).2]at h5;simp at h5
   exact eX J ⟨j+1,O,O,Qa J [] rfl Ga Ga⟩
  have h4:¬(j:Int)<sh.length:=bF h4;obtain rfl:j=sh.length:=O;exact⟨rfl,Qa J [] rfl Ga Ga⟩
 apply eX J;repeat refine aR ?_
 apply bR ten;repeat refine aR ?_
 refine Ka (Sa (λb=>vB b) ?_);rw[Wk,Wk];rfl
end Go.Pj
