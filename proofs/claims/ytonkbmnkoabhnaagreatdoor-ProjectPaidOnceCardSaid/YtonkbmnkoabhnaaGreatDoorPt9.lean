/- Part 9: lemmas that the proofs of this seat share; by itself it claims nothing. -/
import Derived.Test.YtonkbmnkoabhnaaGreatDoorPt8
set_option maxRecDepth 100000
set_option maxHeartbeats 20000000
set_option linter.defProp false
namespace Go.Pj
open Go Go.Ax Go.Ch Go.Proofs Go.Proofs.Tryz
def aGB{l:List Fact}(hv:∀f∈l,fR f=0):wi (cntF l):=by
 intro f hf h0 x hx;obtain⟨_,_,_,g,hg,rfl,_⟩:=N4 hv hf;have h0:g.kind=0:=h0;obtain⟨_,h2⟩:=kN (hv g hg);have hb:=(oB h2 (by rw[h0];rfl)).1;have e:(jE g).levels=g.levels:=by unfold jE;simp only[h0,Gf,Ja]
 rw[e]at hx;have:=Af.1 hb x hx;rcases yT (show iQ x=false by simpa using this)with h|h
 ·exact .inl h
 exact .inr h.2
def aBR{l:List Fact}(h:HD l 25=false):l.length<=25/\∀f∈l,f.levels.length<=1000000:=by unfold HD at h;rw[tc]at h;have h1:=Ai h.1;refine⟨O,λf hf=>?_⟩;have:=Af.1 h.2 f hf;simp only[KX,Cf,fc,not_or]at this;omega
abbrev lim(n:Nat):Prop:=n<=9223372036854775807
def aGY:Rd prog 119 2 (λp:Int×Int=>[.d (dI p.1),.d (dI p.2)]) (λ_=>True):=
 (fI underlying119 rfl kR (aS rfl rI (aS rfl rI jN))).to (λa=>(a.1,a.2.1)) (λ_=>rfl) (λ_ _=>trivial)
def aKZ:Rd prog 121 5 (λs:lI=>[.d (dS s.name),.d (dI s.run),.d (dI s.Jm),.d (dI s.num),.d (dI s.den)]) (λs=>lim s.name.size):=
 (fI underlying121 rfl kR (aS rfl rS (aS rfl rI (aS rfl rI (aS rfl aGY jN))))).to (λa=>⟨a.1,a.2.1,a.2.2.1,a.2.2.2.1.1,a.2.2.2.1.2⟩) (λ_=>rfl) (λ_ h=>h.1)
def aIB:Rd prog 29 1 (λl:List lI=>[.d (kV l)]) (λl=>lim l.length/\∀a∈l,lim a.name.size):=
 kF underlying29 kR aKZ dC aGU (λ_=>rfl) (λa j hj=>by match j,hj with|0,_|1,_|2,_|3,_|4,_=>rfl)
def aIC:Rd prog 123 2 (λs:sC=>[.d (dI s.Ua),.d (dS s.aN)]) (λ_=>True):=
 (fI underlying123 rfl kR (aS rfl rI (aS rfl rS jN))).to (λa=>⟨a.1,a.2.1⟩) (λ_=>rfl) (λ_ _=>trivial)
def aEZ:Rd prog 65 1 (λl:List sC=>[.d (mN l)]) (λl=>lim l.length/\∀a∈l,True):=
 kF underlying65 kR aIC dC aLM (λ_=>rfl) (λa j hj=>by match j,hj with|0,_|1,_=>rfl)
def aOO:Rd prog 67 4 (λs:fS=>[.d (dS s.name),.d (dI s.x),.d (dI s.y),.d (mN s.bB)]) (λs=>lim s.name.size/\lim s.bB.length):=
 (fI underlying67 rfl kR (aS rfl rS (aS rfl rI (aS rfl rI (aS rfl aEZ jN))))).to (λa=>⟨a.1,a.2.1,a.2.2.1,a.2.2.2.1⟩) (λ_=>rfl) (λ_ h=>⟨h.1,h.2.2.2.1.1⟩)
def aK7:Rd prog 30 1 (λl:List fS=>[.d (pN l)]) (λl=>lim l.length/\∀a∈l,lim a.name.size/\lim a.bB.length):=
 kF underlying30 kR aOO dC aNS (λ_=>rfl) (λa j hj=>by match j,hj with|0,_|1,_|2,_|3,_=>rfl)
def aOI:Rd prog 125 2 (λs:pQ=>[.d (dS s.aN),.d (dI s.vY)]) (λ_=>True):=
 (fI underlying125 rfl kR (aS rfl rS (aS rfl rI jN))).to (λa=>⟨a.1,a.2.1⟩) (λ_=>rfl) (λ_ _=>trivial)
def aK2:Rd prog 33 1 (λl:List pQ=>[.d (CG l)]) (λl=>lim l.length/\∀a∈l,True):=
 kF underlying33 kR aOI dC fq (λ_=>rfl) (λa j hj=>by match j,hj with|0,_|1,_=>rfl)
def aOE:Rd prog 171 3 (λs:zF=>[.d (dS s.name),.d (dI s.due),.d (dI s.Of)]) (λ_=>True):=
 (fI underlying171 rfl kR (aS rfl rS (aS rfl rI (aS rfl rI jN)))).to (λa=>⟨a.1,a.2.1,a.2.2.1⟩) (λ_=>rfl) (λ_ _=>trivial)
def aK0:Rd prog 34 1 (λl:List zF=>[.d (RL l)]) (λl=>lim l.length/\∀a∈l,True):=
 kF underlying34 kR aOE dC nr (λ_=>rfl) (λa j hj=>by match j,hj with|0,_|1,_|2,_=>rfl)
def aOJ:Rd prog 69 6 (λs:uF=>[.d (dS s.name),.d (dI s.OE),.d (dI s.base),.d (dI s.Ua),.d (b5 s.aV),.d (dI s.GZ)]) (λs=>lim s.name.size):=
 (fI underlying69 rfl kR (aS rfl rS (aS rfl rI (aS rfl rI (aS rfl rI (aS rfl Ch.PL (aS rfl rI jN))))))).to (λa=>⟨a.1,a.2.1,a.2.2.1,a.2.2.2.1,a.2.2.2.2.1,a.2.2.2.2.2.1⟩) (λ_=>rfl) (λ_ h=>h.1)
def aK3:Rd prog 35 1 (λl:List uF=>[.d (q7 l)]) (λl=>lim l.length/\∀a∈l,lim a.name.size):=
 kF underlying35 kR aOJ dC X0 (λ_=>rfl) (λa j hj=>by match j,hj with|0,_|1,_|2,_|3,_|4,_|5,_=>rfl)
def aOP:Rd prog 127 3 (λs:nM=>[.d (dS s.aN),.d (dI s.num),.d (dI s.den)]) (λs=>lim s.aN.size):=
 (fI underlying127 rfl kR (aS rfl rS (aS rfl aGY jN))).to (λa=>⟨a.1,a.2.1.1,a.2.1.2⟩) (λ_=>rfl) (λ_ h=>h.1)
def aK8:Rd prog 36 1 (λl:List nM=>[.d (oY l)]) (λl=>lim l.length/\∀a∈l,lim a.aN.size):=
 kF underlying36 kR aOP dC aNU (λ_=>rfl) (λa j hj=>by match j,hj with|0,_|1,_|2,_=>rfl)
def aOM:Rd prog 32 2 (λg:Ground=>[.d (kV g.bK),.d (pN g.cC)]) Ground.fits:=
 (fI underlying32 rfl kR (aS rfl aIB (aS rfl aK7 jN))).to (λa=>⟨a.1,a.2.1⟩) (λ_=>rfl) (λ_ h=>⟨h.1.1,h.2.1.1,h.1.2,λx hx=>(h.2.1.2 x hx).1,λx hx=>(h.2.1.2 x hx).2⟩)
def aOL:Rd prog 24 6 (λg:eZ=>[.d (dI g.x),.d (dI g.y),.d (dI g.side),.d (dI g.dO),.d (dI g.rows),.d (b5 g.levels)]) (λg=>lim g.levels.length):=
 (fI underlying24 rfl kR (aS rfl rI (aS rfl rI (aS rfl rI (aS rfl rI (aS rfl rI (aS rfl Ch.PL jN))))))).to (λa=>⟨a.1,a.2.1,a.2.2.1,a.2.2.2.1,a.2.2.2.2.1,a.2.2.2.2.2.1⟩) (λ_=>rfl) (λ_ h=>h.2.2.2.2.2.1.1)
def aON:Rd prog 28 5 (λc:kE=>[.d (dS c.name),.d (x3 c.aZ),.d (dI c.over),.d (dI c.buffer),.d (zM c.Wa)]) kE.ok:=
 (fI underlying28 rfl kR (aS rfl rS (aS rfl aOQ (aS rfl rI (aS rfl rI (aS rfl aK1 jN)))))).to (λa=>⟨a.1,a.2.1,a.2.2.1,a.2.2.2.1,a.2.2.2.2.1⟩) (λ_=>rfl)
  (λ_ h=>⟨h.1,h.2.1.1,h.2.1.2,h.2.2.1,h.2.2.2.1,h.2.2.2.2.1.1,h.2.2.2.2.1.2⟩)
def aQF:Fq prog 38 oR Proj.Cm:=
 VN (k:=20) underlying38 ((fI underlying38 rfl kR (aS rfl rS (aS rfl aOL (aS rfl aON (aS rfl aOM (aS rfl rI (aS rfl rI (aS rfl aK2 (aS rfl aK0 (aS rfl aK3 (aS rfl aK8 jN))))))))))).to
  (λa=>(⟨a.1,a.2.1,a.2.2.1,a.2.2.2.1,a.2.2.2.2.1,a.2.2.2.2.2.1,a.2.2.2.2.2.2.1,a.2.2.2.2.2.2.2.1,a.2.2.2.2.2.2.2.2.1,a.2.2.2.2.2.2.2.2.2.1⟩:Proj)) (λ_=>rfl)
  (λ_ h=>⟨h.1,h.2.1,h.2.2.1,h.2.2.2.1,h.2.2.2.2.2.2.1.1,h.2.2.2.2.2.2.2.1.1,h.2.2.2.2.2.2.2.2.1.2,h.2.2.2.2.2.2.2.2.2.1.2⟩))
def aK6:Rd prog 72 13 (λf:Fact=>[.d (dI f.kind),.d (dI f.seq),.d (dI f.a8),.d (dI f.month),.d (dI f.number),.d (dI f.aT),.d (dI f.over),.d (dI f.qb),.d (dI f.target),.d (dS f.aN),.d (dS f.dN),.d (dS f.eS),.d (b5 f.levels)]) Fact.fits:=
 (fI underlying72 rfl kR (aS rfl rI (aS rfl rI (aS rfl rI (aS rfl rI (aS rfl rI (aS rfl rI (aS rfl rI (aS rfl rI (aS rfl rI (aS rfl rS (aS rfl rS (aS rfl rS (aS rfl Ch.PL jN)))))))))))))).to
  (λa=>(⟨a.1,a.2.1,a.2.2.1,a.2.2.2.1,a.2.2.2.2.1,a.2.2.2.2.2.1,a.2.2.2.2.2.2.1,a.2.2.2.2.2.2.2.1,a.2.2.2.2.2.2.2.2.1,a.2.2.2.2.2.2.2.2.2.1,a.2.2.2.2.2.2.2.2.2.2.1,a.2.2.2.2.2.2.2.2.2.2.2.1,a.2.2.2.2.2.2.2.2.2.2.2.2.1⟩:Fact)) (λ_=>rfl)
  (λ_ h=>⟨h.2.2.2.2.2.2.2.2.2.2.2.2.1.1,h.2.2.2.2.2.2.2.2.2.1,h.2.2.2.2.2.2.2.2.2.2.1,h.2.2.2.2.2.2.2.2.2.2.2.1⟩)
def aQH:Rd prog 39 1 (λl:List Fact=>[.d (RN l)]) (λl=>lim l.length/\∀a∈l,a.fits):=
 kF underlying39 kR aK6 dC J0 (λ_=>rfl) (λa j hj=>by match j,hj with|0,_|1,_|2,_|3,_|4,_|5,_|6,_|7,_|8,_|9,_|10,_|11,_|12,_=>rfl)
end Go.Pj
namespace Go.Ax
open Go.RowKit
def aM.trans{R:Cx}{N:Nat}{a b c:St}(h:aM R N a b)(k:aM R N b c):aM R N a c:=λM V x w i=>let⟨V',i'⟩:=h M V x w i;k M V' x w i'
def sh{b:Bool}{q:Prop}(h:q):Q3 (b=true) (some (rL true b))/\q:=⟨λh=>by simpa[rL]using h,h⟩
def ybx{P:ta}{f:FuncId}{args:List AV}{r:AV}{K:AV->Prop}{b:Bool}{X:Prop}(h:b=true->aF P f args r)(k:K r):(∃r,(b=true->aF P f args r)/\K r)\/X:=.inl ⟨r,h,k⟩
section
variable{α:Type} [Inhabited α] {s n e:Nat}{f g:Nat->Nat->DV}{el:α->Nat->DV}{l:List α}{x:α}
def iJ.b8(h:iJ s n f el l):aY (.row e n s f) (.b8 e l.length s (λi=>el (l.getD i default))):=
 aY.b8 h.1 λi j hi hj=>Ta (h.2 i j hi hj)
end
end Go.Ax
namespace Go.Ch
open Go Go.Ax Go.Proofs Go.Proofs.Tryz
def yaZ{a b:Pt}(ha:fB a=true)(hb:fB b=true):0<=span a b/\span a b<=3000000:=by have h:=KQ ha hb;obtain⟨h1,h2,h3⟩:=AL ha hb hb;exact⟨h.1,h.le O O⟩
def Bj(l:List F8)(r:Int×Bool):Prop:=(r=(0,false)/\∀x∈l,(TG x).2=false)\/(r.2=true/\(∃x∈l,TG x=r)/\∀x∈l,(TG x).2=true->r.1<=(TG x).1)
def Bj.step{l:List F8}{r:Int×Bool}(h:Bj l r)(x:F8):Bj (l++ [x]) (OX r x):=by
 unfold OX;rcases h with⟨rfl,h⟩|⟨h1,⟨y,hy,hyr⟩,h3⟩
 ·cases hx:(TG x).2 with
  |false=>
   refine .inl ⟨rfl,λz hz=>?_⟩;rcases Yb.1 hz with hz|hz
   ·exact h z hz
   simp at hz;subst hz;exact hx
  |true=>
   refine .inr ⟨rfl,⟨x,sM,by simp[Prod.ext_iff,hx]⟩,λz hz hz2=>?_⟩;rcases Yb.1 hz with hz|hz
   ·rw[h z hz]at hz2;cases hz2
   simp at hz;subst hz;exact Nc _
 rw[h1]
 cases hx:(TG x).2 with
 |false=>
  refine .inr ⟨h1,⟨y,Ve _ hy,hyr⟩,λz hz hz2=>?_⟩;rcases Yb.1 hz with hz|hz
  ·exact h3 z hz hz2
  simp at hz;subst hz;rw[hx]at hz2;cases hz2
 |true=>
  by_cases fZ:(TG x).1<r.1
  ·rw[Oc fZ];refine .inr ⟨rfl,⟨x,sM,by simp[Prod.ext_iff,hx]⟩,λz hz hz2=>?_⟩;simp only[Bool.not_true,Ei,Bool.and_self,Ja];rcases Yb.1 hz with hz|hz
   ·have:=h3 z hz hz2;omega
   simp at hz;subst hz;exact Nc _
  rw[Ke fZ];refine .inr ⟨h1,⟨y,Ve _ hy,hyr⟩,λz hz hz2=>?_⟩;rcases Yb.1 hz with hz|hz
  ·exact h3 z hz hz2
  simp at hz;subst hz;show r.1<=_;omega
def ybs(l:List F8):Bj l (FL l):=by
 have:∀(m:List F8),Bj m (FL m):=by
  intro m;suffices h:∀n,Bj (m.take n) (FL (m.take n)) by simpa using h m.length
  intro n;induction n with
  |zero=>exact .inl ⟨rfl,sM⟩
  |succ n ih=>
   by_cases hn:n<m.length
   ·rw[yl hn,Y5];exact ih.step _
   rw[Al O]at ih⊢;exact ih
 exact this l
def yaR{u v s d L U:Int}(hs:0<s)(hd:0<=d)(hd2:d<=s)(h1:L<=u)(h2:L<=v)(h3:u<=U)(h4:v<=U):L<=Jh u v s d/\Jh u v s d<=U:=by
 have a1:L*(s-d)<=u*(s-d):=nh h1 O;have a2:L*d<=v*d:=nh h2 hd;have a3:u*(s-d)<=U*(s-d):=nh h3 O;have a4:v*d<=U*d:=nh h4 hd;have e1:L*(s-d)+L*d=L*s:=by rw[Nu];omega
 have e2:U*(s-d)+U*d=U*s:=by rw[Nu];omega
 unfold Jh;constructor
 ·exact Int.le_ediv_of_mul_le hs O
 exact Int.ediv_le_of_le_mul hs O
structure Ju(c:kE)(x:F8):Prop where
 off:0<=x.offset/\x.offset<=8000000000000
 half:1<=x.half/\x.half<=100000
 rA:c.over-20000<=x.rA/\x.rA<=20000
 run:0<=x.run/\x.run<=1000
def ya6{a b:Ap}{p:Pt}{x:F8}(h:gi a b p=some x):0<=nT a.pt b.pt p/\nT a.pt b.pt p<=nT a.pt b.pt b.pt/\x=aLB a b p:=by
 unfold gi at h
 cases hb:(decide (nT a.pt b.pt p<0)||decide (nT a.pt b.pt p>nT a.pt b.pt b.pt))with
 |true=>rw[hb]at h;cases h
 |false=>rw[hb]at h;simp only[tc,Wc]at hb;simp only[Sa,Bd]at h;exact⟨O,O,h.symm⟩
def yaW{a q b:Ap}{p:Pt}{x:F8}(h:R5 a q b p=some x):x=⟨span q.pt p,q.half,q.level,q.run⟩:=by
 unfold R5 at h
 cases hb:(decide (nT a.pt q.pt p<=nT a.pt q.pt q.pt)||decide (nT q.pt b.pt p>=0))with
 |true=>rw[hb]at h;cases h
 |false=>rw[hb]at h;simp only[Sa,Bd]at h;exact h.symm
def ybl{c:kE}{p:Pt}(hv:Vg c)(hp:fB p=true){x:F8}(hx:x∈G4 c p):Ju c x:=by
 have h2:=hv.n2;unfold G4 lF l8 at hx;simp only[Yb,Nh,Oh]at hx;rcases hx with⟨k,hk,h⟩|⟨j,hj,h⟩
 ·obtain⟨d0,d1,rfl⟩:=ya6 h;have ha:=hv.w9 k O;have hb:=hv.w9 (k+1) O;have JW:=hv.apart k O;have hs:=Zp JW;have l1:=hv.level k O;have l2:=hv.level (k+1) O;have f1:=hv.half k O;have f2:=hv.half (k+1) O;exact⟨aFC ha hb hp JW,yaR hs d0 d1 f1.1 f2.1 f1.2 f2.2,yaR hs d0 d1 l1.1 l2.1 l1.2 l2.2,hv.run k O⟩
 have:=yaW h;subst this;have hq:=hv.w9 (j+1) O;have hsp:=yaZ hq hp;exact⟨⟨hsp.1,Rj hsp.2 O⟩,hv.half (j+1) O,hv.level (j+1) O,hv.run (j+1) O⟩
def ybD{c:kE}{x:F8}(hx:Ju c x)(hv:Vg c)(h:(TG x).2=true):c.over-20000<=(TG x).1/\(TG x).1<=20000:=by
 obtain⟨h1,h2,h3,h4⟩:=hx;have ho:=hv.over;unfold TG lvl at h⊢
 cases c1:decide (x.offset<=x.half)with
 |true=>rw[c1]at h;exact h3
 |false=>
  rw[c1]at h;have c1:=bF c1
  cases c2:(x.run==0)with
  |true=>rw[c2]at h;cases h
  |false=>
   rw[c2]at h;have c2:x.run≠0:=by simpa using c2
   have hq:0<=(x.offset-x.half).tdiv x.run/\(x.offset-x.half).tdiv x.run<=8000000000000:=by rw[Ej O];exact⟨ao O O,Rj (Ns _ O) O⟩
   have e:aW (x.rA+aW ((aW (x.offset-x.half)).tdiv x.run))=x.rA+(x.offset-x.half).tdiv x.run:=by rw[aG (n:=x.offset-x.half) O O,aG (n:=(x.offset-x.half).tdiv x.run) O O,aG O O]
   simp only[Sa]at h⊢;have h:=bG h;rw[e]at h⊢;omega
def ybr{c:kE}{p:Pt}(hv:Vg c)(hp:fB p=true)(h:(UI c p).2=true):c.over-20000<=(UI c p).1/\(UI c p).1<=20000:=by
 rcases ybs (G4 c p)with⟨h1,_⟩|⟨_,⟨x,hx,e⟩,_⟩
 ·unfold UI at h;rw[h1]at h;cases h
 unfold UI at h⊢;rw[<-e]at h⊢;exact ybD (ybl hv hp hx) hv h
def yaX(c:kE)(g:eZ)(less:Int){i:Nat}(h:i<g.levels.length):(mM c g less).levels.getD i 0=L0 c g less i:=by simp[mM,h]
def ybH(x:F8):Bool:=decide (x.offset<=x.half)
def FM(c:kE)(p:Pt):Bool:=(G4 c p).any ybH
def lv(g:eZ)(k:Int):Int:=g.levels.getD k.toNat 0
def wZ(g:eZ)(r:Int×Bool)(i:Nat):Int×Bool:=(bif decide (r.1<0)||decide (lv g i>lv g r.1)then(i:Int)else r.1,r.2||lv g i==30000)
end Go.Ch
namespace Go.Ax
open Go.RowKit
section
variable{P:ta}{T:List (Nat×bV)}
def yX.rep{M:Mem}{V:Nm}{ts:List TV}{vs:List qa}(h:rF M V ts vs):(yX ts).bI M V (if h:vs.toArray.size=1 then vs.toArray[0]else .tuple vs.toArray):=by
 cases ts with
 |nil=>
  cases vs with
  |nil=>exact⟨[],rfl,trivial⟩
  |cons _ _=>exact h.elim
 |cons t r'=>
  cases vs with
  |nil=>exact h.elim
  |cons v F9=>
   cases r' with
   |nil=>
    cases F9 with
    |cons _ _=>exact h.2.elim
    |nil=>
     have:=h.1;simp only[Il,Gb,Dc,Jc,dite_true,yX]
     cases t with
     |s x=>exact this
     |g cs=>exact this
   |cons t2 r2=>
    cases F9 with
    |nil=>exact h.2.elim
    |cons v2 vs3=>have fJ:¬(v::v2::vs3).toArray.size=1:=sM;rw[dif_neg fJ];exact⟨_,rfl,h⟩
end
def Ot{M:Mem}{V:Nm}:∀{cs:List SV} {vs:List qa},cs.length=vs.length->(∀(k:Nat) (c:SV) (v:qa),cs[k]? =some c->vs[k]? =some v->c.bI M V v)->cV M V cs vs
 |[],[],_,_=>trivial
 |c::cs,v::vs,h,k=>⟨k 0 c v rfl rfl,Ot (by simpa using h) λi c v h1 h2=>k (i+1) c v (by simpa using h1) (by simpa using h2)⟩
 |[],_::_,h,_=>by simp at h
 |_::_,[],h,_=>by simp at h
def cV.set{M:Mem}{V:Nm}:∀{cs:List SV} {vs:List qa} {j:Nat} {c c':SV},cV M V cs vs->cs[j]? =some c->(∀v,c.bI M V v->c'.bI M V v)->cV M V (cs.set j c') vs
 |[],_,_,_,_,_,h,_=>by simp at h
 |x::cs,[],_,_,_,h,_,_=>h.elim
 |x::cs,v::vs,0,c,c',h,hj,k=>by simp at hj;subst hj;exact⟨k v h.1,h.2⟩
 |x::cs,v::vs,j+1,c,c',h,hj,k=>⟨h.1,cV.set h.2 (by simpa using hj) k⟩
end Go.Ax
namespace Go.Pj
open Go Go.Ax Go.Ch Go.Proofs Go.Proofs.Tryz Go.Sort Go.Shelf
def ybg(a:Int)(w:sa):Calls prog 111 #[.int .i64 a] w λe w'=>e=.returned (.bool false)/\w'=w:=by go_enter func111,Tryz.ntmps111;go_wp2;go_ret;exact⟨rfl,rfl⟩
def ybz(a b:Int)(w:sa):Calls prog 64 #[.int .i64 a,.int .i64 b] w λe w'=>e=.returned (.int .i64 (Pd a b))/\w'=w:=by
 have hc:=λa w'=>ybg a w'
 go_enter func64,Tryz.ntmps64;go_wp2_with (first|(go_at_fn 111;refine(hc _ _).mono ?_;rintro e w' ⟨rfl,rfl⟩));refine(hc _ _).mono ?_;rintro e w' ⟨rfl,rfl⟩;go_wp2_with (first|(go_at_fn 111;refine(hc _ _).mono ?_;rintro e w' ⟨rfl,rfl⟩));refine(hc _ _).mono ?_;rintro e w' ⟨rfl,rfl⟩;go_wp2;all_goals go_ret
 all_goals (refine⟨?_,rfl⟩;unfold Pd)
 all_goals first
  |(rw[Ia (by assumption)];rfl)
  |(rw[Ha O,Ia (by assumption)];rfl)
  |(rw[Ha O,Ha O];rfl)
def ybJ(a b:Int)(g cap:Nat)(w:sa)(h0:w.cell? ⟨g,0,none⟩=some (.int .i64 a))(h1:w.cell? ⟨g,1,none⟩=some (.int .i64 b)):
  Calls prog 63 #[.slice (some ⟨g,0,none⟩) 2 cap] w λe w'=>e=.returned (.int .i64 (rj a b))/\w'=w:=by
 go_enter func63,Tryz.ntmps63
 go_wp2_with fail
 go_rounds 3
 all_goals go_ret
 all_goals (refine⟨?_,rfl⟩;unfold rj)
 ·rename_i hz;rw[hz];rfl
 ·rename_i hz;rw[show(a !=0)=false by assumption,hz];rfl
 ·rw[show(a !=0)=false by assumption,show(b !=0)=false by assumption];rfl
def ybK(a b:Int)(w:sa)(o1 o2:Obj):
  Calls prog 63 #[.slice (some ⟨w.heap.size+1+1,0,none⟩) 2 2] (((w.alloc o1).alloc o2).alloc (.cells #[.int .i64 a,.int .i64 b] 3)).drew λe w'=>e=.returned (.int .i64 (rj a b))/\w'=(((w.alloc o1).alloc o2).alloc (.cells #[.int .i64 a,.int .i64 b] 3)).drew:=
 by
 have hs:((w.alloc o1).alloc o2).heap.size=w.heap.size+1+1:=by show(Array.push (Array.push w.heap o1) o2).size=_;rw[Array.size_push,Array.size_push]
 have hh:((((w.alloc o1).alloc o2).alloc (.cells #[.int .i64 a,.int .i64 b] 3)).drew).heap[w.heap.size+1+1]? =some (.cells #[.int .i64 a,.int .i64 b] 3):=by rw[<-hs];exact Yd ((w.alloc o1).alloc o2) _
 exact ybJ a b _ _ _ (by simp only[World.cell?,hh];rfl) (by simp only[World.cell?,hh];rfl)
def yby(m1 n1 m2 n2:Int)(w:sa)(v0 v1 v2 v5 v6 v7 v8 v9 v10 v11 v12 u0 u1 u2 u5 u6 u7 u8 u9 u10 u11 u12:qa):
  Calls prog 62 #[.agg #[v0,v1,v2,.int .i64 m1,.int .i64 n1,v5,v6,v7,v8,v9,v10,v11,v12],.agg #[u0,u1,u2,.int .i64 m2,.int .i64 n2,u5,u6,u7,u8,u9,u10,u11,u12]] w λe w'=>
   e=.returned (.int .i64 (rj (Pd m1 m2) (Pd n1 n2)))/\∃q os',w'=grow (w.drewN q) os':=by
 have hc:=λa b w'=>ybz a b w'
 have ho:=ybK (Pd m1 m2) (Pd n1 n2) w (.cells #[v0,v1,v2,.int .i64 m1,.int .i64 n1,v5,v6,v7,v8,v9,v10,v11,v12] 72) (.cells #[u0,u1,u2,.int .i64 m2,.int .i64 n2,u5,u6,u7,u8,u9,u10,u11,u12] 72)
 go_enter func62,Tryz.ntmps62
 go_wp2_with fail
 go_region_with (first|(go_at_call 64;refine(hc _ _ _).mono ?_;rintro e w' ⟨rfl,rfl⟩)|(go_at_call 63;apply Calls.mono ho;intro e w1 V7;obtain⟨he,V7⟩:=V7;subst he))
 all_goals go_wp2
 all_goals (try go_ret)
 all_goals first
  |exact⟨rfl,1, #[.cells #[v0,v1,v2,.int .i64 m1,.int .i64 n1,v5,v6,v7,v8,v9,v10,v11,v12] 72,.cells #[u0,u1,u2,.int .i64 m2,.int .i64 n2,u5,u6,u7,u8,u9,u10,u11,u12] 72,.cells #[.int .i64 (Pd m1 m2),.int .i64 (Pd n1 n2)] 3],rfl⟩
  |exact⟨by simp[Act.put],1, #[.cells #[v0,v1,v2,.int .i64 m1,.int .i64 n1,v5,v6,v7,v8,v9,v10,v11,v12] 72,.cells #[u0,u1,u2,.int .i64 m2,.int .i64 n2,u5,u6,u7,u8,u9,u10,u11,u12] 72,.cells #[.int .i64 (Pd m1 m2),.int .i64 (Pd n1 n2)] 3],rfl⟩
  |exact⟨rfl,1, #[.cells #[v0,v1,v2,.int .i64 m1,.int .i64 n1,v5,v6,v7,v8,v9,v10,v11,v12] 72,.cells #[u0,u1,u2,.int .i64 m2,.int .i64 n2,u5,u6,u7,u8,u9,u10,u11,u12] 72,.cells #[.int .i64 (Pd m1 m2),.int .i64 (Pd n1 n2)] 3],V7.trans rfl⟩
open Go Go.Ax Go.Ch Go.Proofs Go.Proofs.Tryz
def PV.val{p:Proj}(h:PV p):Vg p.chan:=aHP p.chan h.chan
open Go Go.Ax Go.Ch Go.Proofs Go.Proofs.Tryz Go.Sort Go.Shelf
def mj(x y:Fact):ltOf Sg x y=decide (x.month<y.month\/(x.month=y.month/\x.number<y.number)):=by
 unfold ltOf Sg rj Pd;apply Dv.2;by_cases h1:x.month<y.month
 ·simp[h1]
 by_cases h2:y.month<x.month
 ·have:x.month≠y.month:=O;simp[h1,h2,this]
 have e:x.month=y.month:=O;by_cases h3:x.number<y.number
 ·simp[e,h3]
 by_cases h4:y.number<x.number
 ·simp[e,h3,h4]
 simp[e,h3,h4]
def ybM:SWO (ltOf Sg) where
 irrefl:=λx=>by rw[mj];simp
 trans:=λx y z h1 h2=>by rw[mj,fc]at*;omega
 ntrans:=λx y z h1 h2=>by rw[mj,Wc]at*;omega
instance:Inhabited (GV J0 13):=⟨⟨(default,[.int .i64 (default:Fact).kind,.int .i64 (default:Fact).seq,.int .i64 (default:Fact).a8,.int .i64 (default:Fact).month,.int .i64 (default:Fact).number,.int .i64 (default:Fact).aT,.int .i64 (default:Fact).over,.int .i64 (default:Fact).qb,.int .i64 (default:Fact).target,.string (default:Fact).aN,.string (default:Fact).dN,.string (default:Fact).eS,.slice none 0 0]),by
 refine⟨rfl,λv hv=>?_,λj u hj hu=>?_⟩
 ·simp only[pb,Dd,Ed]at hv;rcases hv with rfl|rfl|rfl|rfl|rfl|rfl|rfl|rfl|rfl|rfl|rfl|rfl|rfl <;> rfl
 match j,hj,hu with
 |0,_,hu|1,_,hu|2,_,hu|3,_,hu|4,_,hu|5,_,hu|6,_,hu|7,_,hu|8,_,hu|9,_,hu|10,_,hu|11,_,hu=>cases hu;rfl
 |12,_,hu=>cases hu⟩⟩
def ya7(blk off n:Nat)(w:sa):CmpLays prog 62 #[] (λp:GV J0 13=>p.1.2) 13 (λp q=>Sg p.1.1 q.1.1) blk off n w:=by
 intro m os dk _ x y;generalize sortWorldK _ 13 w blk off m dk os=W;obtain⟨⟨s,vs⟩,hx⟩:=x;obtain⟨⟨t,us⟩,hy⟩:=y;have e1:=hx.len;have e2:=hy.len;have s3:=hx.val 3 (.int .i64 s.month) O rfl;have s4:=hx.val 4 (.int .i64 s.number) O rfl;have t3:=hy.val 3 (.int .i64 t.month) O rfl;have t4:=hy.val 4 (.int .i64 t.number) O rfl
 match vs,e1,us,e2,s3,s4,t3,t4 with
 |[v0,v1,v2,v3,v4,v5,v6,v7,v8,v9,v10,v11,v12],_,[u0,u1,u2,u3,u4,u5,u6,u7,u8,u9,u10,u11,u12],_,s3,s4,t3,t4=>obtain rfl:v3=.int .i64 s.month:=Ec s3;obtain rfl:v4=.int .i64 s.number:=Ec s4;obtain rfl:u3=.int .i64 t.month:=Ec t3;obtain rfl:u4=.int .i64 t.number:=Ec t4;exact yby s.month s.number t.month t.number W v0 v1 v2 v5 v6 v7 v8 v9 v10 v11 v12 u0 u1 u2 u5 u6 u7 u8 u9 u10 u11 u12
def yaN(l:List Fact)(hn:∀a∈l,∀b∈l,a.number=b.number->a=b)(l':List Fact)(hp:l'.Perm l)(hs:l'.Pairwise (λx y=>ltOf Sg y x=false)):l'=JH l:=by
 refine Kw (le:=λx y=>ltOf Sg y x=false) ?_ hs ?_ (hp.trans (oh _ _).symm)
 ·intro a b ha hb h1 h2;have ha:a∈l:=hp.mem_iff.1 ha;have hb:b∈l:=(oh _ _).mem_iff.1 hb;rw[mj,Wc]at h1 h2;exact hn a ha b hb O
 have:=Mu (le:=λx y:Fact=> !(ltOf Sg y x)) (λa b c h1 h2=>by
  simp only[mj,ph,Wc]at*;omega) (λa b=>by
  simp only[mj,Cf,ph,Wc];omega) l
 exact this.imp λ{x y} h=>by simpa using h
def ya3(l:List Fact)(hn:∀a∈l,∀b∈l,a.number=b.number->a=b)(f0:Nat->Nat->DV)(SO:∀i j,i<l.length->j<13->aK (f0 i j) (nE l i j))(hl:l.length<=1000000):
  bW prog 61 [.s (.own 1001),.s (.dZ 62 [])] [(1001,.row 72 l.length 13 f0)] (.t []) [(1001,.row 72 l.length 13 (nE (JH l)))]:=
 aKD (α:=Fact) (k:=13) Tryz.aBY rfl call61 dC Tryz.isAgg72 Tryz.sizeOf72 J0 (λt j h=>aCW t j h) Sg ybM
  (enters_of func62 kR rfl) ya7 l (JH l) (yaN l hn) f0 SO hl
open Go Go.Ax Go.Ch Go.Proofs Go.Proofs.Tryz
def ZR.of{Y:List Fact}{m:Int}(hl:Y.length<=200)(hn:∀a∈tO Y m,∀b∈tO Y m,a.number=b.number->a=b):ZR Y m:=λ_=>
 ya3 _ hn _ (λ_ _ _ _=>λ_ _ r=>r) (by have:(tO Y m).length<=Y.length:=Eg _ _;omega)
def Dm{g:Fact}(h:g.kind=1)(hv:nZ g=0):bT g=iO [AX,Lib.itoa g.number]:=by unfold bT nH cS;rw[hv,h];rfl
def ya4{l:List Fact}(hv:∀f∈l,fR f=0)(m:Int):∀a∈tO (cntF l) m,∀b∈tO (cntF l) m,a.number=b.number->a=b:=by
 intro a ha b hb hn;unfold tO at ha hb;obtain⟨ha,a1⟩:=Jd.1 ha;obtain⟨hb,b1⟩:=Jd.1 hb;simp only[Va,Zd]at a1 b1;obtain⟨k1,_,e1,g1,hg1,c1,q1⟩:=N4 hv ha;obtain⟨k2,_,e2,g2,hg2,c2,q2⟩:=N4 hv hb;have t1:g1.kind=1:=by have:=a1.1;rw[c1]at this;exact this
 have t2:g2.kind=1:=by have:=b1.1;rw[c2]at this;exact this
 have n1:a.number=g1.number:=by rw[c1];unfold jE fW;simp[t1]
 have n2:b.number=g2.number:=by rw[c2];unfold jE fW;simp[t2]
 have z1:=(kN (hv g1 hg1)).1;have z2:=(kN (hv g2 hg2)).1;have hkk:k1=k2:=by rw[<-q1,<-q2,Dm t1 z1,Dm t2 z2,<-n1,<-n2,hn]
 rw[e1,e2,hkk]
def Yo{p:Proj}{l:List Fact}(hk:Eh p l)(M:Int):ZR (cntF l) M:=ZR.of (x4 hk).len (ya4 hk.fmt M)
def Vc(p:Proj)(Y:List Fact)(m:Int):List Fact×gK:=iM p (j8 Y m) (j8 Y m).length
def Je(l:List Fact)(i:Nat):List Int:=(l.take i).map Fact.number
def ya8{l:List Fact}{i:Nat}(h:i<l.length):Je l (i+1)=Je l i++ [(l.getD i default).number]:=by unfold Je;rw[Ad,wb h,th,aX h];rfl
def ybk(l:List Fact)(i:Nat):(Je l i).length<=i:=by unfold Je;rw[Ue];simp;omega
def ybj(l:List Fact):Je l l.length=l.map Fact.number:=by unfold Je;rw[wc]
abbrev Cr(H:List Fact)(y:gK)(d:List Int)(i:Nat):St:=⟨[(7,.s (.ptr 7 0)),(12,.s (.ptr 12 0)),(13,.s (.mo d.isEmpty 100)),(33,cJ H),(34,vI H.length),(35,vI i)],[(7,some (.cells (iB Cd.zero))),(12,some (.cells (uH y))),(100,some (.b8 3 d.length 1 (cP d)))]⟩
def ya1(p:Proj)(l:List Fact)(m:Int)(hp:p.fits)(hf:∀f∈l,f.fits)(hl:l.length<=9223372036854775807)(he:j6 p l m 0=0):
  aF prog 13 [oR p,cJ l,vI m] (.t [.s (.d (b5 ((Vc p (cntF l) m).1.map Fact.number))),.g (uH (Vc p (cntF l) m).2),.s (.d (dI 0))]):=by
 have hk:=(tL he).1
 have hS:=x4 hk
 have hH:=aI8 p (cntF l) m hp (Ti hk.proj) hS.len (Yo hk m)
 have hHl:(Vc p (cntF l) m).1.length<=200:=by
  have h1:=BY p (j8 (cntF l) m) (j8 (cntF l) m).length;have h2:(j8 (cntF l) m).length<=(cntF l).length:=by unfold j8;rw[A5];exact Eg _ _
  have:=hS.len;exact Mb h1 O
 have hH:aF prog 29 [SR p (cntF l),vI m] (.t [.s (.d (RN (Vc p (cntF l) m).1)),.g (uH (Vc p (cntF l) m).2)]):=hH
 generalize (Vc p (cntF l) m)=r at hH hHl
 obtain⟨H,y⟩:=r
 have hHl:H.length<=200:=hHl
 refine eW func13 rfl rfl call13 rfl rfl (λR J=>?_)
 apply sX J
 apply sX J
 refine aB (MP p l m 0 hp hf hl he) ?_
 refine Ma (sX J ?_)
 apply Ya
 refine aI (λh=>by cases h) (λ_=>mb ?_)
 apply sX J
 apply aB hH
 apply sX J
 refine Kc (I':=Cr H y (Je H H.length) H.length) ?_ ?_
 ·refine sX J (Xa ?_);refine fb (λi:Nat=>Cr H y (Je H i) i) (λi=>i<=H.length) (λi=>H.length-i) 0 (La _) (Ka J [(100,1000)] rfl ⟨bQ,bQ,⟨rfl,rfl⟩,oO⟩ ⟨Z,Z,⟨rfl,Ae rfl⟩,Ca⟩) ?_;intro i hi;have hnl:=ybk H i;refine sX J (Ma (Ya ?_));refine aI (λh1=>mb ?_) (λh1=>nc ?_)
  ·have h1:(i:Int)<H.length:=bG h1;have bC:i<H.length:=O;have ew:aW ((i:Int)+1)=((i+1:Nat):Int):=aG O O;have hs:=ya8 bC;refine Ma (Xa (sX J ?_));refine oi Ea (eX J ?_);apply ob dC;refine ob (by rw[dK];show((Je H i).length+1)*8<=_;omega) ?_;refine ob (nJ (AS rfl)) (eX J ?_);refine⟨i+1,O,O,?_⟩;show aM _ _ _ (Cr H y (Je H (i+1)) (i+1));rw[hs];exact Ka J [(100,43)] rfl ⟨bQ,bQ,⟨rfl,Od (el:=λn _=>dI n) (x:=(H.getD i default).number) (AS rfl)⟩,oO⟩ ⟨Z,Z,⟨rfl,Kd (cA _ _)⟩,Z,Z,⟨rfl,Qa ew⟩,oO⟩
  have h1:¬(i:Int)<H.length:=bF h1;obtain rfl:i=H.length:=O;exact⟨rfl,Ka J [] rfl Ca Ca⟩
 apply eX J
 rw[<-ybj]
 refine aD ?_
 exact Ye ⟨Ta (show DV.fU (bif (Je H H.length).isEmpty then 0 else(Je H H.length).length) 1 (cP (Je H H.length))=b5 (Je H H.length) by rw[dK];rfl),⟨Ga _,Ga _,Ga _,Ga _,oO⟩,Ga _,oO⟩
open Go Go.Ax Go.Ch Go.Proofs Go.Proofs.Tryz
def yaF{l:List Fact}(hv:∀f∈l,fR f=0){k:bJ}(hk:k∈pS l):∃g∈l,rU (zH (pT l) k)=jE g/\bT g=k:=by
 obtain⟨j,e,uZ,he⟩:=KO hk;obtain⟨hl1,_⟩:=O0 he;obtain⟨e',DT,y5,_,hp,_⟩:=A4 he;have qP:zH (pT l) k=e.2.1.getD (e.2.1.length-1) []:=by unfold zH;rw[uZ]
 have kK:zH (pT l) k∈e.2.1:=by rw[qP,aX O];exact Ld _
 rw[hp]at kK;obtain⟨g,hg,ht,tR⟩:=yP DT _ (XZ kK);refine⟨g,hg,?_,?_⟩
 ·rw[ht];exact LZ (hv g hg)
 rw[tR,<-y5];exact(xU uZ).2.2
def ybq{l:List Fact}(hv:∀f∈l,fR f=0):(cntF l).Pairwise λa b=>a.kind=1->b.kind=1->a.number≠b.number:=by
 unfold cntF;rw[Bv];have hn:(pS l).Nodup:=(oh _ _).nodup_iff.2 (C9 l);refine Aw ?_ hn;intro k1 k2 h1 h2 fJ a1 a2 hnum;obtain⟨g1,hg1,c1,q1⟩:=yaF hv h1;obtain⟨g2,hg2,c2,q2⟩:=yaF hv h2;rw[c1]at a1 hnum;rw[c2]at a2 hnum;have t1:g1.kind=1:=a1;have t2:g2.kind=1:=a2;have n1:(jE g1).number=g1.number:=by unfold jE fW;simp[t1]
 have n2:(jE g2).number=g2.number:=by unfold jE fW;simp[t2]
 apply fJ;rw[<-q1,<-q2,Dm t1 (kN (hv g1 hg1)).1,Dm t2 (kN (hv g2 hg2)).1,<-n1,<-n2,hnum]
def ya(q:db->Bool):List db->Int
 |[]=>0
 |x::r=>(bif q x then x.iZ else 0)+ya q r
def Vp(q:db->Bool)(b:List db):∀a,ya q (a++b)=ya q a+ya q b
 |[]=>by show ya q b=0+_;omega
 |x::r=>by show _+ya q (r++b)=_+ya q r+_;rw[Vp q b r];omega
def Gh(q:db->Bool)(a:List db)(x:db):ya q (a++ [x])=ya q a+bif q x then x.iZ else 0:=by rw[Vp];show _+(_+0)=_;omega
abbrev sf(s:oa):bJ:=s.data.toList
structure Zh(L:bJ->List Fact):Prop where
 one:∀k k' j j',j<(L k).length->j'<(L k').length->((L k).getD j default).number=((L k').getD j' default).number->k=k'/\j=j'
 pos:∀k,∀f∈L k,1<=f.number
structure pj(L:bJ->List Fact)(M:Int)(n:Nat)(x:db):Prop where
 month:x.month=M
 cell:∃i:Nat,x.cell=i/\i<n
 iZ:0<x.iZ
 gV:0<=x.gV/\x.gV<=x.iZ
 load:(x.load=0/\x.dN=bs [])\/∃f∈L (sf x.aN),f.number=x.load/\f.dN=x.dN
structure ff(L:bJ->List Fact)(M:Int)(n:Nat)(g:bJ->Nat×List Room)(out:List db):Prop where
 facts:∀k,(g k).2.map Prod.fst=L k
 left:∀k j,j<(g k).2.length->0<=((g k).2.getD j default).2/\ya (λx=>x.load==((g k).2.getD j default).1.number) out+((g k).2.getD j default).2=((g k).2.getD j default).1.aT
 lM:∀x∈out,pj L M n x
def Ic(g:bJ->Nat×List Room)(k:bJ)(v:Nat×List Room):bJ->Nat×List Room:=λk'=>if k'=k then v else g k'
def Yg(g:bJ->Nat×List Room)(k:bJ)(v:Nat×List Room):Ic g k v k=v:=Ia rfl
def kj{g:bJ->Nat×List Room}{k k':bJ}{v:Nat×List Room}(h:k'≠k):Ic g k v k'=g k':=Ha h
def dj{l:List Room}{L:List Fact}(h:l.map Prod.fst=L){j:Nat}(hj:j<l.length):j<L.length/\(l.getD j default).1=L.getD j default:=by subst h;refine⟨by rw[Ue];exact hj,?_⟩;rw[Ub,Ub,Yc,wb hj];rfl
def ff.none{L:bJ->List Fact}{M:Int}{n:Nat}{g:bJ->Nat×List Room}{out:List db}(h:ff L M n g out)(hU:Zh L){x:db}(hx:pj L M n x)(h0:x.load=0){k:bJ}{lo lo':Nat}{cur:List Room}(hg:g k=(lo,cur)):ff L M n (Ic g k (lo',cur)) (out++ [x]):=by
 have e:∀k',(Ic g k (lo',cur) k').2=(g k').2:=λk'=>by
  by_cases he:k'=k
  ·subst he;rw[Yg,hg]
  rw[kj he]
 refine⟨λk'=>by rw[e];exact h.facts k',λk' j hj=>?_,λy hy=>?_⟩
 ·rw[e]at hj⊢;obtain⟨h1,h2⟩:=h.left k' j hj;obtain⟨h3,h4⟩:=dj (h.facts k') hj;have:=hU.pos k' _ (bP h3);rw[<-h4]at this;rw[Gh,h0,show((0:Int)==((g k').2.getD j default).1.number)=false by rw[xe];omega];exact⟨h1,by show _+0+_=_;omega⟩
 rcases Yb.1 hy with hy|hy
 ·exact h.lM y hy
 rw[Ab.1 hy];exact hx
def ff.some{L:bJ->List Fact}{M:Int}{n:Nat}{g:bJ->Nat×List Room}{out:List db}(h:ff L M n g out)(hU:Zh L){x:db}(hx:pj L M n x){k:bJ}{lo lo':Nat}{cur:List Room}(hg:g k=(lo,cur))(hl:lo<cur.length)
  (h0:x.load=(cur.getD lo default).1.number) (hv:x.iZ<=(cur.getD lo default).2):ff L M n (Ic g k (lo',cur.set lo ((cur.getD lo default).1,(cur.getD lo default).2-x.iZ))) (out++ [x]):=by
 have hf:=h.facts k
 have hL:=h.left k
 rw[hg]at hf hL
 have hf:cur.map Prod.fst=L k:=hf
 obtain⟨a1,a2⟩:=dj hf hl
 refine⟨λk'=>?_,λk' j hj=>?_,λy hy=>?_⟩
 ·by_cases he:k'=k
  ·subst he;rw[Yg];show(cur.set lo _).map Prod.fst=_;rw[List.map_set,<-hf];apply List.ext_getElem sM;intro i h1 h2;by_cases hi:lo=i
   ·subst hi;simp[hl]
   simp[hi]
  rw[kj he];exact h.facts k'
 ·by_cases he:k'=k
  ·subst he;rw[Yg]at hj⊢;have hjc:j<cur.length:=by simpa using hj
   clear hj;show 0<=((cur.set lo _).getD j default).2/\ya (λy=>y.load==((cur.set lo _).getD j default).1.number) _+((cur.set lo _).getD j default).2=((cur.set lo _).getD j default).1.aT;have h1:0<=(cur.getD j default).2:=(hL j hjc).1;have h2:ya (λx=>x.load==(cur.getD j default).1.number) out+(cur.getD j default).2=(cur.getD j default).1.aT:=(hL j hjc).2;by_cases hi:j=lo
   ·subst hi;rw[show(cur.set j ((cur.getD j default).1,(cur.getD j default).2-x.iZ)).getD j default=((cur.getD j default).1,(cur.getD j default).2-x.iZ) by rw[Ub,List.getElem?_set_self hjc];rfl];dsimp only;rw[Gh,h0,BEq.rfl];dsimp only [cond_true];omega
   rw[show(cur.set lo ((cur.getD lo default).1,(cur.getD lo default).2-x.iZ)).getD j default=cur.getD j default by rw[Ub,List.getElem?_set_ne (Ne.symm hi),Ub]];obtain⟨b1,b2⟩:=dj hf hjc;have fJ:(cur.getD lo default).1.number≠(cur.getD j default).1.number:=λhn=>by rw[a2,b2]at hn;exact hi (hU.one _ _ _ _ a1 b1 hn).2.symm
   rw[Gh,h0,xe.2 fJ];exact⟨h1,by show _+0+_=_;omega⟩
  rw[kj he]at hj⊢;obtain⟨h1,h2⟩:=h.left k' j hj;obtain⟨b1,b2⟩:=dj (h.facts k') hj;have fJ:(cur.getD lo default).1.number≠((g k').2.getD j default).1.number:=λhn=>by rw[a2,b2]at hn;exact he (hU.one _ _ _ _ a1 b1 hn).1.symm
  rw[Gh,h0,xe.2 fJ];exact⟨h1,by show _+0+_=_;omega⟩
 ·rcases Yb.1 hy with hy|hy
  ·exact h.lM y hy
  rw[Ab.1 hy];exact hx
def yaV(g:bJ->Nat×List Room)(k:bJ)(v w:Nat×List Room):Ic (Ic g k v) k w=Ic g k w:=by funext k';unfold Ic;split <;> rfl
def ybm{L:bJ->List Fact}{M:Int}{n:Nat}(hU:Zh L){pt:db}{g:bJ->Nat×List Room}{out0:List db}{T:Int->Int}(hl:pt.load=0)(hpit:pt.dN=bs [])(cY:∃i:Nat,pt.cell=i/\i<n)(hm:pt.month=M){N:Nat}{fin:DS}:
  ∀Ra s,DJ pt N fin (Ra,s)->ff L M n (Ic g (sf pt.aN) (s.lo,s.cur)) (out0++s.out)->(0<=s.p/\s.p<=s.v)->(∀c,ya (λx=>x.cell==c) (out0++s.out)+(if c=pt.cell then s.v else 0)=T c)->
   ff L M n (Ic g (sf pt.aN) (fin.lo,fin.cur)) (out0++fin.out)/\∀c,ya (λx=>x.cell==c) (out0++fin.out)=T c:=by
 intro Ra
 induction Ra with
 |zero=>
  intro s h hr hp hT;by_cases hv:s.v>0
  ·obtain⟨k',e,_⟩:=h.step hv;omega
  have aCM:s=fin:=h.run;have h0:s.v=0:=by have:=h.v;dsimp only at this;omega
  subst aCM;refine⟨hr,λc=>?_⟩;rw[<-hT c,h0];split <;> omega
 |succ Ra ih=>
  intro s h hr hp hT;by_cases hv:s.v>0
  ·obtain⟨k',e,h'⟩:=h.step hv;obtain rfl:Ra=k':=O;have hvv:=h.v;have hlen:=h.len;have hleft:=h.left s.lo (ab _);dsimp only at hvv hlen hleft;by_cases DR:s.lo<s.cur.length
   ·obtain⟨l1,l2⟩:=hleft O;have hd:decide (s.lo<s.cur.length)=true:=Oc DR;have m1:=Tg s.v (s.cur.getD s.lo default).2;have m2:=Tg s.p (mm false s.v (s.cur.getD s.lo default).2);have hx:pj L M n ⟨pt.month,pt.cell,pt.aN,mm false s.v (s.cur.getD s.lo default).2,mm false s.p (mm false s.v (s.cur.getD s.lo default).2),(s.cur.getD s.lo default).1.number,(s.cur.getD s.lo default).1.dN⟩:=by refine⟨hm,cY,by show 0<mm false _ _;omega,by show 0<=mm false _ _/\mm false _ _<=mm false _ _;omega,.inr ?_⟩;have hf:=hr.facts (sf pt.aN);rw[Yg]at hf;obtain⟨a1,a2⟩:=dj hf DR;exact⟨_,bP a1,Na Fact.number a2.symm,Na Fact.dN a2.symm⟩
    have e1:aW ((s.cur.getD s.lo default).2-mm false s.v (s.cur.getD s.lo default).2)=(s.cur.getD s.lo default).2-mm false s.v (s.cur.getD s.lo default).2:=aG O O;have e2:aW (s.v-mm false s.v (s.cur.getD s.lo default).2)=s.v-mm false s.v (s.cur.getD s.lo default).2:=aG O O;have e3:aW (s.p-mm false s.p (mm false s.v (s.cur.getD s.lo default).2))=s.p-mm false s.p (mm false s.v (s.cur.getD s.lo default).2):=aG O O;have hs:=hr.some hU hx (lo':=bif aW ((s.cur.getD s.lo default).2-mm false s.v (s.cur.getD s.lo default).2)==0 then s.lo+1 else s.lo) (Yg g _ _) DR rfl (by show mm false _ _<=_;omega);rw[yaV]at hs;refine ih (a6 pt s) h' ?_ ?_ λc=>?_
    ·unfold a6;rw[hd];dsimp only [cond_true];rw[e1]at hs⊢;rw[<-List.append_assoc];exact hs
    ·unfold a6;rw[hd];show 0<=aW _/\aW _<=aW _;rw[e2,e3];omega
    rw[<-hT c];unfold a6;rw[hd];show ya _ (out0++(s.out++ [_]))+(if c=pt.cell then aW _ else 0)=_;rw[<-List.append_assoc,Gh,e2];by_cases hc:c=pt.cell
    ·rw[Ia hc,Ia hc,hc,BEq.rfl];show _+mm false _ _+_=_;omega
    rw[Ha hc,Ha hc,show(pt.cell==c)=false from xe.2 (Ne.symm hc)];show _+(0:Int)+0=_;omega
   have hd:decide (s.lo<s.cur.length)=false:=Ke DR;have m2:=Tg s.p s.v;have hx:pj L M n ⟨pt.month,pt.cell,pt.aN,s.v,mm false s.p s.v,pt.load,pt.dN⟩:=
    ⟨hm,cY,hv,by show 0<=mm false _ _/\mm false _ _<=s.v;omega,.inl ⟨hl,hpit⟩⟩
   have hs:=hr.none hU hx hl (lo':=s.lo) (Yg g _ _);rw[yaV]at hs;refine ih (a6 pt s) h' ?_ ?_ λc=>?_
   ·unfold a6;rw[hd];dsimp only [cond_false];rw[<-List.append_assoc];exact hs
   ·unfold a6;rw[hd];show 0<=aW _/\aW _<=aW _;rw[aG O O,aG O O];omega
   rw[<-hT c];unfold a6;rw[hd];show ya _ (out0++(s.out++ [_]))+(if c=pt.cell then aW _ else 0)=_;rw[<-List.append_assoc,Gh,aG O O];by_cases hc:c=pt.cell
   ·rw[Ia hc,Ia hc,hc,BEq.rfl];show _+s.v+_=_;omega
   rw[Ha hc,Ha hc,show(pt.cell==c)=false from xe.2 (Ne.symm hc)];show _+(0:Int)+0=_;omega
  have aCM:s=fin:=by have:=h.run;rw[<-this];exact(BD hv).symm
  have h0:s.v=0:=by have:=h.v;dsimp only at this;omega
  subst aCM;refine⟨hr,λc=>?_⟩;rw[<-hT c,h0];split <;> omega
def pg(e:mF)(r:List mF)(k:bJ):B1 (e::r) k=bif k==e.1 then e.2.1 else B1 r k:=by
 have sh:∀(l:List mF) (i:Nat),(fP l k (i+1)).map (·.2)=(fP l k i).map (·.2):=by
  intro l;induction l with
  |nil=>intro i;rfl
  |cons x r ih=>
   intro i;rw[fP,fP]
   cases k==x.1 with
   |true=>rfl
   |false=>exact ih (i+1)
 unfold B1;rw[fP]
 cases k==e.1 with
 |true=>rfl
 |false=>
  have:=sh r 0;show(match fP r k (0+1)with|some (_,e)=>e.2.1|none=>(0,[]))=(match fP r k 0 with|some (_,e)=>e.2.1|none=>(0,[]))
  cases h1:fP r k (0+1) <;> cases h2:fP r k 0 <;> rw[h1,h2]at this <;> simp_all
def yaG{k:bJ}:∀{E:List mF} {i j:Nat} {e:mF},fP E k i=some (j,e)->∃a b,E=a++e::b/\j=i+a.length/\e.1=k/\∀x∈a,(k==x.1)=false
 |[],_,_,_,h=>by cases h
 |x::r,i,j,e,h=>by
  rw[fP]at h
  cases hk:(k==x.1)with
  |true=>rw[hk]at h;obtain⟨rfl,rfl⟩:=Ft (Ec h);exact⟨[],r,rfl,rfl,(eq_of_beq hk).symm,λy hy=>by cases hy⟩
  |false=>
   rw[hk]at h;obtain⟨a,b,rfl,hj,he,ha⟩:=yaG (E:=r) h;refine⟨x::a,b,rfl,by rw[hj,Gb];omega,he,λy hy=>?_⟩;rcases pb.1 hy with rfl|hy
   ·exact hk
   exact ha y hy
def yaO{k:bJ}:∀{E:List mF} {i:Nat},fP E k i=none->∀x∈E,(k==x.1)=false
 |[],_,_,x,hx=>by cases hx
 |y::r,i,h,x,hx=>by
  rw[fP]at h
  cases hk:(k==y.1)with
  |true=>rw[hk]at h;cases h
  |false=>
   rw[hk]at h;rcases pb.1 hx with rfl|hx
   ·exact hk
   exact yaO h x hx
def pq{k:bJ}(b:List mF):∀(a:List mF),(∀x∈a,(k==x.1)=false)->B1 (a++b) k=B1 b k
 |[],_=>rfl
 |x::r,h=>by rw[Md,pg,h x (Bc),Sa];exact pq b r λy hy=>h y (Sb _ hy)
def yaC{k k':bJ}{x y:mF}(b:List mF)(hx:x.1=k)(hy:y.1=k)(hk:k'≠k):∀(a:List mF),B1 (a++x::b) k'=B1 (a++y::b) k'
 |[]=>by have h:(k'==k)=false:=xe.2 hk;rw[Gg,Gg,pg,pg,hx,hy,h];rfl
 |z::r=>by rw[Md,Md,pg,pg,yaC b hx hy hk r]
def yaJ(E:List mF)(k:bJ)(v:Nat×List Room):B1 (cg E k v)=Ic (B1 E) k v:=by
 funext k';unfold cg
 cases hf:fP E k 0 with
 |none=>
  have hn:=yaO hf;by_cases he:k'=k
  ·subst he;rw[Yg];show B1 (E++ [(k',v,E.length)]) k'=v;rw[pq _ _ hn,pg,BEq.rfl];rfl
  rw[kj he];show B1 (E++ [(k,v,E.length)]) k'=B1 E k';have:∀a:List mF,B1 (a++ [(k,v,E.length)]) k'=B1 a k':=by
   intro a;induction a with
   |nil=>rw[Gg,pg,show(k'==k)=false from xe.2 he];rfl
   |cons x r ih=>rw[Md,pg,pg,ih]
  exact this E
 |some p=>
  obtain⟨i,e⟩:=p;obtain⟨a,b,rfl,hi,hek,ha⟩:=yaG hf;obtain rfl:i=a.length:=O;show B1 ((a++e::b).modify a.length λe=>(e.1,v,e.2.2)) k'=_;have hm:(a++e::b).modify a.length (λe=>(e.1,v,e.2.2))=a++(e.1,v,e.2.2)::b:=by
   clear hf ha hi;induction a with
   |nil=>rfl
   |cons x r ih=>simpa[Ms]using ih
  rw[hm];by_cases he:k'=k
  ·subst he;rw[Yg,pq _ _ ha,pg,<-hek,BEq.rfl];rfl
  rw[kj he];exact yaC (x:=(e.1,v,e.2.2)) (y:=e) b hek hek he a
def ybv(g:bJ->Nat×List Room)(k:bJ):Ic g k ((g k).1,(g k).2)=g:=by
 funext k';unfold Ic;split
 ·rename_i h;rw[h]
 rfl
def ybn{L:bJ->List Fact}{M:Int}{n:Nat}(hU:Zh L){p:Proj}{i:Nat}{x:Part}{s:PS}(hi:i<n)(h:ff L M n (B1 s.1) s.2)(hg:wB (B1 s.1 (sf x.aN)))
  (hv:0<(bN p M i x).iZ/\(bN p M i x).iZ<=1000000000000000) (hp:0<=(bN p M i x).gV/\(bN p M i x).gV<=(bN p M i x).iZ):
  ff L M n (B1 (oN p M i s x).1) (oN p M i s x).2/\∀c:Int,ya (λy=>y.cell==c) (oN p M i s x).2=ya (λy=>y.cell==c) s.2+if c=(i:Int)then(bN p M i x).iZ else 0:=by
 have h1:=XH (pt:=bN p M i x) (n:=(B1 s.1 (sf x.aN)).2.length) rfl hg.le (by have:=hg.fh;omega) ⟨O,hv.2⟩ hg.left
 have h2:=ybm (g:=B1 s.1) (out0:=s.2) (T:=λc=>ya (λy=>y.cell==c) s.2+if c=(i:Int)then(bN p M i x).iZ else 0) hU (pt:=bN p M i x) rfl rfl ⟨i,rfl,hi⟩ rfl _ _ h1 (by
  show ff L M n (Ic (B1 s.1) (sf x.aN) ((B1 s.1 (sf x.aN)).1,(B1 s.1 (sf x.aN)).2)) (s.2++ []);rw[ybv,Te];exact h) hp (λc=>by
  show ya _ (s.2++ [])+_=_;rw[Te];rfl)
 refine⟨?_,h2.2⟩
 show ff L M n (B1 (cg s.1 (sf x.aN) _)) (s.2++_)
 rw[yaJ]
 exact h2.1
def Qe:List Part->Int
 |[]=>0
 |x::r=>(x.Ua-x.bot)+Qe r
def yaU(b:List Part):∀a,Qe (a++b)=Qe a+Qe b
 |[]=>by show Qe b=0+_;omega
 |x::r=>by show _+Qe (r++b)=_+Qe r+_;rw[yaU b r];omega
def bj(x y:Int):mm true x y=max x y:=by unfold mm;simp only;split <;> omega
def ybe{l:List sC}{hi lo:Int}(h:lo<=hi)(hd:∀i,i+1<l.length->(l.getD (i+1) default).Ua<(l.getD i default).Ua):
  ∀n,n<l.length->Qe (nL l hi lo (n+1))=hi-min hi (FM l lo n):=by
 intro n
 induction n with
 |zero=>
  intro h0;rw[ZC];show Qe ([]++(X8 l hi lo 0).toList)=_;unfold X8 C4;show Qe ([]++(bif decide (hi>FM l lo 0)then some (⟨(l.getD 0 default).aN,hi,FM l lo 0⟩:Part)else none).toList)=_;by_cases hb:hi>FM l lo 0
  ·rw[Oc hb];show(hi-FM l lo 0)+0=_;omega
  rw[Ke hb];show(0:Int)=_;omega
 |succ n ih=>
  intro hn;rw[ZC,yaU,ih O];have ht:C4 l hi (n+1)=min hi (l.getD (n+1) default).Ua:=by unfold C4;rw[Oc O];exact Tg _ _
  have hb0:FM l lo n=max lo (l.getD (n+1) default).Ua:=by unfold FM;rw[Oc O];exact bj _ _
  have hb1:FM l lo (n+1)=lo\/∃t,t<(l.getD (n+1) default).Ua/\FM l lo (n+1)=max lo t:=by
   unfold FM;by_cases hc:n+1+1<l.length
   ·rw[Oc O];exact .inr ⟨_,hd (n+1) hc,bj _ _⟩
   rw[Ke O];exact .inl rfl
  unfold X8;rw[ht,hb0];generalize FM l lo (n+1)=b at hb1;generalize (l.getD (n+1) default).Ua=t at hb1;by_cases hc:min hi t>b
  ·rw[Oc hc];show _+((min hi t-b)+0)=_;rcases hb1 with hb1|⟨u,h1,h2⟩ <;> omega
  rw[Ke hc];show _+(0:Int)=_;rcases hb1 with hb1|⟨u,h1,h2⟩ <;> omega
def ybp{s:List lI}{b:fS}(h:vN s b=0):0<b.bB.length/\∀i,i+1<b.bB.length->(b.bB.getD (i+1) default).Ua<(b.bB.getD i default).Ua:=by unfold vN at h;obtain⟨_,h⟩:=dF dC h;obtain⟨h1,h⟩:=dF dC h;obtain⟨_,h⟩:=dF dC h;refine⟨by simp at h1;exact gf.2 h1,λi hi=>?_⟩;have h2:=lQ h (i+1) (La _) O;unfold sL at h2;obtain⟨_,h2⟩:=dF dC h2;obtain⟨h2,_⟩:=dF dC h2;rw[Oc O]at h2;simpa using h2
def ybw{g:Ground}(h:dX g=0){b:fS}(hb:b∈g.cC):vN g.bK b=0:=by unfold dX at h;obtain⟨_,h⟩:=dU h;obtain⟨_,h⟩:=dF dC h;obtain⟨_,h⟩:=dF dC h;obtain⟨i,hi,rfl⟩:=Ci hb;have h2:=lQ h i (La _) O;unfold uC at h2;obtain⟨_,h2⟩:=dF dC h2;obtain⟨_,h2⟩:=dF dC h2;rw[aX hi]at h2;exact h2
def ybd{p:Proj}(hv:PV p){i:Nat}(hi:i<p.aT.levels.length){a b:Int}(ha: -20000<=a/\a<=20000)(hb: -20000<=b/\b<=20000)(h:b<=a):Qe (vP p.gr (dP p.aT i) a b)=a-b:=by
 have hg:=(RY hv.gv hi).1;have he:FQ p.gr (dP p.aT i) a b=0:=by
  have e1:FN p.gr (dP p.aT i) [a,b]=0:=by unfold FN;rw[hv.gr,hg];have w1:=within_iff.2 ha;have w2:=within_iff.2 hb;simp[L2,w1,w2]
  unfold FQ;rw[e1,Ke O];rfl
 unfold vP;rw[he];show Qe (nL _ a b _)=_;obtain⟨h1,h2⟩:=ybp (ybw hv.gr (aIO (c:=dP p.aT i) (EX hv.gr).1));generalize (uD p.gr (dP p.aT i)).bB=l at h1 h2;obtain⟨n,hn⟩:∃n,l.length=n+1:=⟨l.length-1,O⟩;rw[hn,ybe h h2 n O];have:FM l b n=b:=by unfold FM;rw[Ke O];rfl
 rw[this];omega
def yaS{p:Proj}{m:Int}{i:Nat}{x:Part}(hv:PV p)(hx:AQ x):(bN p m i x).iZ=(x.Ua-x.bot)*dH p:=by obtain⟨a1,a2⟩:=Zk hv;have h1:=hx.lt;have h2:=hx.lo;have h3:=hx.hi;have h4:=Qf (a:=x.Ua-x.bot) (b:=dH p) O O;have h5:(x.Ua-x.bot)*dH p<=40000*1000000:=Fi O a2 O dC;show aW (aW (x.Ua-x.bot)*dH p)=_;rw[show aW (x.Ua-x.bot)=x.Ua-x.bot from aG O O,aG O O]
def ybh{p:Proj}(hv:PV p){i:Nat}(hi:i<p.aT.levels.length):P2 p i=30000\/(-20000<=P2 p i/\P2 p i<=20000):=by
 unfold P2;rw[yaX _ _ _ hi];unfold L0
 cases hd:(UI p.chan (dP p.aT i)).2 with
 |false=>exact .inl rfl
 |true=>have h1:=ybr hv.val (RY hv.gv hi).1 hd;have h2:=hv.val.over;refine .inr ?_;show -20000<=aW _/\aW _<=20000;rw[aG O O];omega
def yb{p:Proj}{m:Int}{i:Nat}{x:Part}(hv:PV p)(hi:i<p.aT.levels.length)(hx:AQ x):0<=(bN p m i x).gV/\(bN p m i x).gV<=(bN p m i x).iZ:=by
 obtain⟨a1,a2⟩:=Zk hv;have h1:=hx.lt;have h2:=hx.lo;have h3:=hx.hi;rw[yaS hv hx];have h4:=Qf (a:=x.Ua-x.bot) (b:=dH p) O O;show 0<=(bif P2 p i !=30000 then aW (mm true 0 (aW (x.Ua-mm true x.bot (P2 p i)))*dH p)else 0)/\(bif P2 p i !=30000 then aW (mm true 0 (aW (x.Ua-mm true x.bot (P2 p i)))*dH p)else 0)<=_
 cases hl:(P2 p i !=30000)with
 |false=>exact⟨Nc _,h4⟩
 |true=>
  have hb:=ybh hv hi;have hl:P2 p i≠30000:=by simpa using hl
  show 0<=aW _/\aW _<=_;rw[bj,bj,aG (n:=x.Ua-max x.bot (P2 p i)) O O];have q1:=Qf (a:=max 0 (x.Ua-max x.bot (P2 p i))) (b:=dH p) O O;have q2:=nh (a:=max 0 (x.Ua-max x.bot (P2 p i))) (b:=x.Ua-x.bot) (c:=dH p) O O;have q3:(x.Ua-x.bot)*dH p<=40000*1000000:=Fi O a2 O dC;rw[aG O O];exact⟨q1,q2⟩
structure Pk(L:bJ->List Fact)(p:Proj)(M:Int)(s:PS)(n:Nat):Prop where
 ri:ff L M p.aT.levels.length (B1 s.1) s.2
 inv:D5 s n
def yaI{L:bJ->List Fact}{M:Int}(hU:Zh L){p:Proj}(hv:PV p){i:Nat}(hi:i<p.aT.levels.length):∀(xs:List Part) (s:PS) (n:Nat),Pk L p M s n->(∀x∈xs,AQ x)->
  Pk L p M (xs.foldl (oN p M i) s) (n+xs.length*201)/\∀c:Int,ya (λy=>y.cell==c) (xs.foldl (oN p M i) s).2=ya (λy=>y.cell==c) s.2+if c=(i:Int)then Qe xs*dH p else 0
 |[],s,n,h,_=>⟨⟨h.ri,h.inv.more (Gv _ _)⟩,λc=>by rw[List.foldl_nil];show _=_+if _ then(0:Int)*_ else 0;rw[Wv,ite_self,Tj]⟩
 |x::r,s,n,h,hx=>by
  have hx0:=hx x (Bc);have h1:=ybn (M:=M) (i:=i) hU hi h.ri (YS h.inv.1) (BK (m:=M) (i:=i) hv hx0) (yb hv hi hx0);have hpv:=BK (m:=M) (i:=i) hv hx0;have h2:=KN (m:=M) (i:=i) (x:=x) h.inv ⟨O,hpv.2⟩;obtain⟨h3,h4⟩:=yaI hU hv hi r _ _ ⟨h1.1,h2⟩ λy hy=>hx y (Sb _ hy)
  refine⟨⟨h3.ri,h3.inv.more (by rw[Gb];omega)⟩,λc=>?_⟩;rw[Hl,h4 c,h1.2 c,yaS hv hx0];show _=_+if _ then(x.Ua-x.bot+Qe r)*dH p else 0;rw[Int.add_mul];by_cases hc:c=(i:Int)
  ·rw[Ia hc,Ia hc,Ia hc];omega
  rw[Ha hc,Ha hc,Ha hc];omega
section
variable{l:List Fact}{f:Fact}(h0:f.kind=0)
include h0
end
def ag(x:Int):Prop:=x=30000\/(-20000<=x/\x<=20000)
def Fk{n:Int}(h: -1000000<=n)(k:n<=1000000):aW n=n:=aG O O
def yaT{p:Proj}{Y:List Fact}(hS:Nf p Y)(hv:wi Y)(m:Int){i:Nat}(hi:i<p.aT.levels.length):ag (fF p Y m i).1:=by
 have ha:=GD hv 0 m hi hS.shape;have hb:=GD hv 1 m hi hS.shape;have hc:=GD hv 2 m hi hS.shape;unfold fF;generalize lT Y 0 m i=a at ha;generalize lT Y 1 m i=b at hb;generalize lT Y 2 m i=c at hc;dsimp only
 cases h1:(a==30000)with
 |true=>exact hb
 |false=>
  have h1:a≠30000:=by simpa using h1
  cases h2:(b==30000)with
  |true=>exact ha
  |false=>
   have h2:b≠30000:=by simpa using h2
   cases decide (aW (mm true a b-mm false a b)<=p.agree)with
   |true=>show ag (aW (aW (Int.tdiv (aW (aW (aW (a+b)+40000)+1)) 2)-20000));rw[Fk (n:=a+b) O O,Fk (n:=a+b+40000) O O,Fk (n:=a+b+40000+1) O O,Ej O,Fk (n:=(a+b+40000+1) / 2) O O,Fk O O];exact .inr O
   |false=>
    cases h3:(c==30000)with
    |true=>exact hc
    |false=>
     have h3:c≠30000:=by simpa using h3
     show ag (X4 a b c);unfold X4;rw[bj,Tg,Tg,bj];exact .inr O
def Hh{p:Proj}{Y:List Fact}(hp:PV p)(hS:Nf p Y)(hv:wi Y){i:Nat}(hi:i<p.aT.levels.length):∀M,ag (iL p Y M i)
 |0=>by
  rw[iL]
  cases h:((fF p Y ((0:Nat):Int) i).1==30000)with
  |true=>exact hp.gv.As _ (by rw[Ub,wb hi];exact Ld _)
  |false=>exact yaT hS hv _ hi
 |M+1=>by have h1:=Hh hp hS hv hi M;have h2:=yaT hS hv ((M+1:Nat):Int) hi;rw[iL,Tg];unfold ag at*;omega
def yaQ(p:Proj)(Y:List Fact)(M i:Nat):iL p Y (M+1) i<=iL p Y M i:=by rw[iL,Tg];omega
def mg(p:Proj)(Y:List Fact)(M i:Nat):Int:=bif iL p Y (M-1) i==30000 then 0 else(iL p Y (M-1) i-iL p Y M i)*dH p
def yba{L:bJ->List Fact}{p:Proj}{Y:List Fact}{M:Nat}(hU:Zh L)(hp:PV p)(hS:Nf p Y)(hv:wi Y)(hM:1<=M){E:List mF}(hE:Pk L p M (E,[]) 0):∀i,i<=p.aT.levels.length->
  Pk L p M (EE p Y M E i) (i*2412)/\∀c:Int,ya (λy=>y.cell==c) (EE p Y M E i).2=if 0<=c/\c<i then mg p Y M c.toNat else 0
 |0,_=>by refine⟨⟨hE.ri,hE.inv.more (La _)⟩,λc=>?_⟩;rw[Ha O];rfl
 |i+1,hi=>by
  obtain⟨h1,h2⟩:=yba hU hp hS hv hM hE i O;have b1:=Hh hp hS hv (show i<p.aT.levels.length by omega) (M-1);have b2:=Hh hp hS hv (show i<p.aT.levels.length by omega) M;have hle:iL p Y M i<=iL p Y (M-1) i:=by have:=yaQ p Y (M-1) i;rw[show M-1+1=M by omega]at this;exact this
  rw[GY];unfold wZ;have key:∀c:Int,(if 0<=c/\c<((i+1:Nat):Int)then mg p Y M c.toNat else 0)=(if 0<=c/\c<(i:Int)then mg p Y M c.toNat else 0)+if c=(i:Int)then mg p Y M i else 0:=λc=>by
   by_cases hc:c=(i:Int)
   ·subst hc;rw[Ia O,Ha O,Ia rfl,Vd,Ou]
   rw[Ha hc,Tj];by_cases JA:0<=c/\c<(i:Int)
   ·rw[Ia O,Ia JA]
   rw[Ha O,Ha JA]
  unfold mg at key
  cases hg:(iL p Y (M-1) i==30000||decide (iL p Y M i>=iL p Y (M-1) i))with
  |true=>
   refine⟨⟨h1.ri,h1.inv.more O⟩,λc=>?_⟩;show ya _ (EE p Y M E i).2=_;unfold mg at h2⊢;rw[key,h2];have:(bif iL p Y (M-1) i==30000 then(0:Int)else(iL p Y (M-1) i-iL p Y M i)*dH p)=0:=by
    cases h3:(iL p Y (M-1) i==30000)with
    |true=>rfl
    |false=>
     rw[h3]at hg;have hg:iL p Y M i>=iL p Y (M-1) i:=by simpa using hg
     rw[show iL p Y (M-1) i-iL p Y M i=0 by omega];show(0:Int)*_=0;exact Wv _
   rw[this,ite_self,Tj]
  |false=>
   simp only[tc,xe,Wc]at hg;unfold ag at b1 b2;have h3:=ybd hp (show i<p.aT.levels.length by omega) (a:=iL p Y (M-1) i) (b:=iL p Y M i) O O hle;have h4:=I6 (c:=dP p.aT i) (hi:=iL p Y (M-1) i) (lo:=iL p Y M i) hp;obtain⟨h5,h6⟩:=yaI hU hp (show i<p.aT.levels.length by omega) (vP p.gr (dP p.aT i) (iL p Y (M-1) i) (iL p Y M i)) _ _ h1 λx hx=>D7 hx
   refine⟨⟨h5.ri,h5.inv.more O⟩,λc=>?_⟩;show ya _ (List.foldl _ (EE p Y M E i) _).2=_;unfold mg at h2⊢;rw[key,h6 c,h2,h3,xe.2 hg.1];rfl
def ybi{l:List Fact}(hv:∀f∈l,fR f=0):∀f∈cntF l,f.kind=1->1<=f.number/\1<=f.month:=by
 intro f hf hk;obtain⟨k,_,_,g,hg,rfl,_⟩:=N4 hv hf;have hk:g.kind=1:=hk;have hz:=kN (hv g hg);have h1:=within_iff.1 (mQ hz.2 (by rw[hk];rfl)).1.1;have e1:(jE g).month=g.month:=by unfold jE;rw[hk];rfl
 have e2:(jE g).number=g.number:=by unfold jE fW;simp[hk]
 rw[e1,e2];have h2:=hz.1;unfold nZ cK at h2;rw[hk]at h2
 cases hw:within g.number 1 1000000 with
 |true=>exact⟨(within_iff.1 hw).1,h1.1⟩
 |false=>rw[hw]at h2;cases h2
def Pr(p:Proj)(S:List Fact):∀k,k<=S.length->((iM p S k).1).Sublist (S.take k)
 |0,_=>List.Sublist.refl _
 |k+1,hk=>by
  have ih:=Pr p S k O;have y5:k<S.length:=O;have ht:S.take (k+1)=S.take k++ [S.getD k default]:=by rw[Ad,wb y5,aX y5];rfl
  rw[iM,ht]
  cases(oS (iM p S k).2 (zC (S.getD k default)) (S.getD k default).dN==0)with
  |true=>exact ih.append (List.Sublist.refl _)
  |false=>exact ih.trans (List.sublist_append_left _ _)
open Go Go.Ax Go.Ch Go.Proofs Go.Proofs.Tryz
def Kh(e:Rm.gL):mF:=(e.1,(0,e.2.1),e.2.2)
def Xk(E:List Rm.gL):qD E=E.map Kh:=rfl
def yaH(k:bJ):∀(E:List Rm.gL) (i:Nat),fP (qD E) k i=(Rm.fE E k i).map λx=>(x.1,Kh x.2)
 |[],_=>rfl
 |e::r,i=>by
  show(bif k==e.1 then some (i,Kh e)else fP (qD r) k (i+1))=_;rw[Rm.fE,yaH k r (i+1)]
  cases k==e.1 <;> rfl
def ya0(E:List Rm.gL)(k:bJ)(t:Room):qD (Rm.o6 E k t)=cg (qD E) k (0,(B1 (qD E) k).2++ [t]):=by
 have h:=yaH k E 0;unfold Rm.o6 cg B1
 cases hf:Rm.fE E k 0 with
 |none=>rw[hf]at h;have h:fP (qD E) k 0=none:=h;rw[h];show qD (E++ [(k,[t],E.length)])=qD E++ [(k,(0,[]++ [t]),(qD E).length)];rw[Xk,Xk,th,Ue];rfl
 |some x=>
  obtain⟨i,e⟩:=x;rw[hf]at h;have h:fP (qD E) k 0=some (i,Kh e):=h;rw[h];obtain⟨_,h2,_⟩:=NQ h;have h2:(qD E)[i]? =some (Kh e):=h2;rw[Xk,Yc]at h2;show qD (E.modify i λe=>(e.1,e.2.1++ [t],e.2.2))=(qD E).modify i λy=>(y.1,(0,e.2.1++ [t]),y.2.2)
  rw[Xk,Xk];apply rh;intro j;rw[Yc,gd,gd,Yc];by_cases hj:i=j
  ·subst hj
   cases hE:E[i]? with
   |none=>rw[hE]at h2;cases h2
   |some y=>rw[hE]at h2;have h2:Kh y=Kh e:=Ec h2;have h3:y.2.1=e.2.1:=Na (λz:mF=>z.2.1.2) h2;simp[Kh,h3]
  simp[hj]
def Ge(H:List Fact)(m:Int)(k:bJ):List Fact:=H.filter λf=>f.month==m&&Rm.kS f==k
def yaL(H:List Fact)(m:Int)(k:bJ):∀i,i<=H.length->B1 (qD (Rm.kU H m i)) k=(0,(Ge (H.take i) m k).map λf=>(f,f.aT))
 |0,_=>rfl
 |i+1,hi=>by
  have ih:=λk'=>yaL H m k' i O
  have bC:i<H.length:=O;have ht:H.take (i+1)=H.take i++ [H.getD i default]:=by rw[Ad,wb bC,aX bC];rfl
  rw[Rm.DW bC,ht];unfold Rm.KM Ge;rw[Dl,th];clear ht;generalize H.getD i default=f
  cases hm:(f.month==m)with
  |false=>
   have:([f].filter λx=>x.month==m&&Rm.kS x==k)=[]:=by simp[hm]
   rw[this];show B1 (qD (Rm.kU H m i)) k=_;rw[ih k];exact Na (Prod.mk 0) (Te _).symm
  |true=>
   show B1 (qD (Rm.o6 _ _ _)) k=_;rw[ya0,yaJ];by_cases hk:k=Rm.kS f
   ·subst hk;rw[Yg,ih];have:([f].filter λx=>x.month==m&&Rm.kS x==Rm.kS f)=[f]:=by simp[hm]
    rw[this];rfl
   rw[kj hk,ih k];have:([f].filter λx=>x.month==m&&Rm.kS x==k)=[]:=by have:(Rm.kS f==k)=false:=xe.2 (Ne.symm hk);simp[this]
   rw[this];exact Na (Prod.mk 0) (Te _).symm
def aj{H:List Fact}{m:Int}{k:bJ}{f:Fact}(h:f∈Ge H m k):f∈H/\f.month=m/\Rm.kS f=k:=by obtain⟨h1,h2⟩:=Jd.1 h;simp only[Va,Zd]at h2;exact⟨h1,h2.1,h2.2⟩
def ybE{H:List Fact}(hp:H.Pairwise λa b=>a.number≠b.number){a b:Fact}(ha:a∈H)(hb:b∈H)(h:a.number=b.number):a=b:=by
 obtain⟨i,hi,rfl⟩:=Ci ha;obtain⟨j,hj,rfl⟩:=Ci hb;have:=Cl.1 hp;rcases bt i j with e|e|e
 ·exact absurd h (this i j hi hj e)
 ·subst e;rfl
 exact absurd h.symm (this j i hj hi e)
def ybB{H:List Fact}{m:Int}(hp:H.Pairwise λa b=>a.number≠b.number)(h1:∀f∈H,1<=f.number):Zh (Ge H m) where
 one k k' j j' hj qR h:=by
  have a:=aj (bP hj);have b:=aj (bP qR);have e:=ybE hp a.1 b.1 h;have ek:k=k':=by rw[<-a.2.2,<-b.2.2,e]
  subst ek;have hq:(Ge H m k).Pairwise λa b=>a.number≠b.number:=hp.filter _
  have:=Cl.1 hq;rw[aX hj,aX qR]at h;refine⟨rfl,?_⟩;rcases bt j j' with e|e|e
  ·exact absurd h (this j j' hj qR e)
  ·exact e
  exact absurd h.symm (this j' j qR hj e)
 pos k f hf:=h1 f (aj hf).1
structure pw(p:Proj)(Y:List Fact)(M:Nat):Prop where
 lM:∀x∈G3 p Y M,pj (Ge (Vc p Y M).1 M) M p.aT.levels.length x
 load:∀k,∀f∈Ge (Vc p Y M).1 M k,ya (λx=>x.load==f.number) (G3 p Y M)<=f.aT
 cell:∀c:Nat,c<p.aT.levels.length->ya (λx=>x.cell==(c:Int)) (G3 p Y M)=mg p Y M c
def Ar{p:Proj}{l:List Fact}{M:Nat}(hk:Eh p l)(hM:1<=M):pw p (cntF l) M:=by
 have hp:=Ti hk.proj;have hS:=x4 hk;have hv:=aGB hk.fmt;have fQ:=Pr p (j8 (cntF l) M) (j8 (cntF l) M).length (ab _);rw[wc]at fQ;have fQ:(Vc p (cntF l) M).1.Sublist (j8 (cntF l) M):=fQ;have kK:∀f∈(Vc p (cntF l) M).1,f∈cntF l/\f.kind=1/\f.month<=M:=λf hf=>Qr (fQ.subset hf)
 have fJ:(Vc p (cntF l) M).1.Pairwise λa b=>a.number≠b.number:=by refine List.Pairwise.sublist fQ ((oh _ _).symm.pairwise ?_ λh=>h.symm);unfold tO;refine Aw ?_ ((ybq hk.fmt).filter _);intro a b ha hb h;have ha:=(Jd.1 ha).2;have hb:=(Jd.1 hb).2;simp only[Va,Zd]at ha hb;exact h ha.1 hb.1
 have hU:=ybB (m:=M) fJ λf hf=>(ybi hk.fmt f (kK f hf).1 (kK f hf).2.1).1
 have hbed:∀f∈(Vc p (cntF l) M).1,1<=f.aT/\f.aT<=1000000000000:=λf hf=>Jr hk.fmt f (kK f hf).1 (kK f hf).2.1
 have hlen:(Vc p (cntF l) M).1.length<=200:=Mb fQ.length_le (by
  have h2:(j8 (cntF l) M).length<=(cntF l).length:=by unfold j8;rw[A5];exact Eg _ _
  have:=hS.len;omega)
 have jO:=λk=>yaL (Vc p (cntF l) M).1 M k (Vc p (cntF l) M).1.length (ab _)
 rw[wc]at jO;have hpc:G3 p (cntF l) M=(EE p (cntF l) M (qD (Rm.kU (Vc p (cntF l) M).1 M (Vc p (cntF l) M).1.length)) p.aT.levels.length).2:=rfl;generalize hH:(Vc p (cntF l) M).1=H at*;have hE:Pk (Ge H M) p M (qD (Rm.kU H M H.length),[]) 0:=by
  refine⟨⟨λk=>?_,λk j hj=>?_,λx hx=>by cases hx⟩,O1 hbed hlen,ab _⟩
  ·show(B1 (qD (Rm.kU H M H.length)) k).2.map Prod.fst=_;rw[jO k,Kl];exact List.map_id _
  show 0<=((B1 (qD (Rm.kU H M H.length)) k).2.getD j default).2/\0+((B1 (qD (Rm.kU H M H.length)) k).2.getD j default).2=((B1 (qD (Rm.kU H M H.length)) k).2.getD j default).1.aT;have hj:j<(B1 (qD (Rm.kU H M H.length)) k).2.length:=hj;rw[jO k]at hj⊢;have qR:j<(Ge H M k).length:=by simpa using hj
  have e:((Ge H M k).map λf=>(f,f.aT)).getD j default=((Ge H M k).getD j default,((Ge H M k).getD j default).aT):=by rw[Ub,Yc,wb qR,aX qR];rfl
  show 0<=(((Ge H M k).map λf=>(f,f.aT)).getD j default).2/\0+(((Ge H M k).map λf=>(f,f.aT)).getD j default).2=(((Ge H M k).map λf=>(f,f.aT)).getD j default).1.aT;rw[e];have:=hbed _ (aj (bP qR)).1;exact⟨by show 0<=Fact.aT _;omega,Ou _⟩
 obtain⟨h1,h2⟩:=yba hU hp hS hv hM hE p.aT.levels.length (ab _);rw[<-hpc]at h2;refine⟨by rw[hpc,hH];exact h1.ri.lM,λk f hf=>?_,λc hc=>?_⟩
 ·rw[hH]at hf;have hfa:=h1.ri.facts k;obtain⟨j,hj,rfl⟩:=Ci hf;have hj2:j<((B1 (EE p (cntF l) M (qD (Rm.kU H M H.length)) p.aT.levels.length).1 k).2).length:=by rw[<-hfa,Ue]at hj;exact hj
  obtain⟨a1,a2⟩:=h1.ri.left k j hj2;obtain⟨_,b2⟩:=dj hfa hj2;rw[b2,aX hj]at a2;rw[<-hpc]at a2;omega
 rw[h2 c,Ia O,Vd]
def ya2(p:Proj)(l:List Fact)(M:Nat)(hp:p.fits)(hf:∀f∈l,f.fits)(hl:l.length<=9223372036854775807)(he:j6 p l M 1=0):
  aF prog 11 [oR p,cJ l,vI M] (.t [.s (.d (WR (G3 p (cntF l) M))),.s (.d (dI 0))]):=by
 obtain⟨hk,hw⟩:=tL he
 have hw:=within_iff.1 hw
 have hS:=x4 hk
 have hP:=(Rp (M:=M) hp hk Ea (Yo hk M)).1
 refine eP func11 rfl rfl call11 rfl rfl λR J=>?_
 refine aB (MP p l M 1 hp hf hl he) ?_
 refine aI (λh=>by cases h) (λ_=>?_)
 refine aB (lowest p (cntF l) M hS O) ?_
 apply aB hP
 refine aD ?_
 exact cb _
def gj(m:Int)(x:db)(sum:Int)(f:Fact):Bool:=f.kind==1&&f.number==x.load&&f.month==m&&bE f.aN x.aN&&bE f.dN x.dN&&decide (sum<=f.aT)
structure LdH(c:List Fact)(m:Int)(xs:List db):Prop where
 iZ:∀x∈xs,0<x.iZ
 told:∀x∈xs,x.load≠0->ya (λy=>y.load==x.load) xs<=1000000000000/\c.any (gj m x (ya (λy=>y.load==x.load) xs))=true
def yaE{q:db->Bool}{xs:List db}(hv:∀x∈xs,0<x.iZ):∀k,k<=xs.length->0<=ya q (xs.take k)/\ya q (xs.take k)<=ya q xs:=by
 have nn:∀l:List db,(∀x∈l,0<x.iZ)->0<=ya q l:=by
  intro l;induction l with
  |nil=>intro _;exact Nc _
  |cons x r ih=>
   intro h;have h1:=h x (Bc);have h2:=ih λy hy=>h y (Sb _ hy)
   show 0<=(bif q x then x.iZ else 0)+ya q r
   cases q x with
   |true=>show 0<=x.iZ+_;omega
   |false=>show 0<=(0:Int)+_;omega
 intro k _;have h1:=nn (xs.take k) λx hx=>hv x (Ps hx)
 have h2:=nn (xs.drop k) λx hx=>hv x (Qs hx)
 have h3:=Vp q (xs.drop k) (xs.take k);rw[El]at h3;omega
def take_one{α:Type} [Inhabited α] {l:List α}{i:Nat}(h:i<l.length):l.take (i+1)=l.take i++ [l.getD i default]:=by rw[Ad,wb h,aX h];rfl
abbrev Yk(c:List Fact)(xs:List db)(m:Int)(i:Nat)(r:List (Nat×AV)):St:=⟨[(0,cJ c),(1,iD xs),(2,vI m),(7,vI i)]++r,[]⟩
def ybC(c:List Fact)(xs:List db)(m:Int)(hc:c.length<=1000000)(hx:xs.length<=1000000)(h:LdH c m xs):aF prog 12 [cJ c,iD xs,vI m] (vB true):=by
 refine eW func12 rfl rfl call12 rfl rfl (λR J=>?_);refine sX J (Ma (sX J ?_));refine Xa (fb (λi:Nat=>Yk c xs m i []) (λi=>i<=xs.length) (λi=>xs.length-i) 0 (La _) (Ka J [] rfl trivial Ca) ?_);intro i hi;apply sX J;apply aI<;>intro h1
 ·have h1:(i:Int)<xs.length:=bG h1;have bC:i<xs.length:=O;have ew:aW ((i:Int)+1)=((i+1:Nat):Int):=aG O O;have hxi:=h.told _ (bP bC);refine Ma (Xa (sX J ?_));refine oi Ea (aI (λh2=>eX J ⟨i+1,O,O,Ka J [] rfl trivial ⟨Z,Z,Z,⟨rfl,Qa ew⟩,oO⟩⟩) (λh2=>?_));have h2:((xs.getD i default).load==0)=false:=h2;obtain⟨hsum,T5⟩:=hxi (by simpa using h2);have hsm:=λk hk=>yaE (q:=λy=>y.load==(xs.getD i default).load) h.iZ k hk
  refine sX J (Kc (I':=Yk c xs m i [(8,vI (ya (λy=>y.load==(xs.getD i default).load) xs))]) ?_ ?_)
  ·refine sX J (Xa ?_);refine fb (λk:Nat=>Yk c xs m i [(8,vI (ya (λy=>y.load==(xs.getD i default).load) (xs.take k))),(9,vI k)]) (λk=>k<=xs.length) (λk=>xs.length-k) 0 (La _) (Ka J [] rfl trivial Ca) ?_;intro k hk;apply sX J;apply aI<;>intro h3
   ·have h3:(k:Int)<xs.length:=bG h3;have y5:k<xs.length:=O;have ek:aW ((k:Int)+1)=((k+1:Nat):Int):=aG O O;have LC:=hsm k hk;have SH:=hsm (k+1) O;have jO:ya (λy=>y.load==(xs.getD i default).load) (xs.take (k+1))=ya (λy=>y.load==(xs.getD i default).load) (xs.take k)+bif (xs.getD k default).load==(xs.getD i default).load then(xs.getD k default).iZ else 0:=by rw[take_one y5,Gh]
    refine Ma (Xa (eX J ?_));refine oi Ea (oi Ea ?_);refine aD ?_;apply aI<;>intro h4
    ·have h4:((xs.getD k default).load==(xs.getD i default).load)=true:=h4;rw[h4,Ja]at jO;have e5:aW (ya (λy=>y.load==(xs.getD i default).load) (xs.take k)+(xs.getD k default).iZ)=ya (λy=>y.load==(xs.getD i default).load) (xs.take (k+1)):=by rw[jO];exact aG O O
     refine oi Ea (eX J ?_);exact⟨k+1,O,O,Ka J [] rfl trivial ⟨Z,Z,Z,Z,⟨rfl,Qa e5⟩,⟨rfl,Qa ek⟩,oO⟩⟩
    have h4:((xs.getD k default).load==(xs.getD i default).load)=false:=h4;rw[h4,Sa]at jO;exact eX J ⟨k+1,O,O,Ka J [] rfl trivial ⟨Z,Z,Z,Z,⟨rfl,Qa (jO.trans (Tj _)).symm⟩,⟨rfl,Qa ek⟩,oO⟩⟩
   have h3:¬(k:Int)<xs.length:=bF h3;obtain rfl:k=xs.length:=O;rw[wc];exact⟨rfl,Ka J [] rfl trivial Ca⟩
  apply sX J;generalize hS:ya (λy=>y.load==(xs.getD i default).load) xs=S at T5 hsum;refine Kc (I':=Yk c xs m i [(10,vB true)]) ?_ ?_
  ·refine sX J (Xa ?_);refine fb (λk:Nat=>Yk c xs m i [(8,vI S),(10,vB ((c.take k).any (gj m (xs.getD i default) S))),(11,vI k)]) (λk=>k<=c.length) (λk=>c.length-k) 0 (La _) (Ka J [] rfl trivial ⟨Z,Z,Z,Z,Z,⟨rfl,Gc λ_ _ r=>r⟩,Ca⟩) ?_;intro k hk;apply sX J;apply aI<;>intro h3
   ·have h3:(k:Int)<c.length:=bG h3;have y5:k<c.length:=O;have ek:aW ((k:Int)+1)=((k+1:Nat):Int):=aG O O;have jO:(c.take (k+1)).any (gj m (xs.getD i default) S)=((c.take k).any (gj m (xs.getD i default) S)||gj m (xs.getD i default) S (c.getD k default)):=by rw[take_one y5,Ii];simp
    refine Ma (Xa (sX J ?_));refine oi Ea (eX J ?_);repeat refine aR ?_
    refine og (λ_=>Ea) ?_;repeat refine aR ?_
    refine og (λ_=>Ea) ?_;repeat refine aR ?_
    refine og (λ_=>Ea) ?_;repeat refine aR ?_
    refine aD (eX J ?_);refine⟨k+1,O,O,?_⟩;exact Ka J [] rfl trivial ⟨Z,Z,Z,Z,Z,⟨rfl,Rb (by rw[jO];rfl)⟩,⟨rfl,Qa ek⟩,oO⟩
   have h3:¬(k:Int)<c.length:=bF h3;obtain rfl:k=c.length:=O;rw[wc,T5];exact⟨rfl,Ka J [] rfl trivial Ca⟩
  refine eX J (aI (λh3=>by cases h3) (λ_=>?_));exact eX J ⟨i+1,O,O,Ka J [] rfl trivial ⟨Z,Z,Z,⟨rfl,Qa ew⟩,oO⟩⟩
 exact eX J (cb _)
def Nb(p:Proj)(c:List Fact):Nat->Nat->Int
 |0,i=>iL p c 0 i
 |m+1,i=>bif Nb p c m i==30000 then iL p c (m+1) i else Nb p c m i
def ec(p:Proj)(c:List Fact):Nat->Nat->Int
 |0,_=>0
 |m+1,i=>ec p c m i+mg p c (m+1) i
structure sw(p:Proj)(c:List Fact)(m i:Nat):Prop where
 lv:ag (Nb p c m i)
 le:iL p c m i<=Nb p c m i
 no:iL p c m i=30000->Nb p c m i=30000/\ec p c m i=0
 yes:iL p c m i≠30000->Nb p c m i≠30000/\ec p c m i=dH p*(Nb p c m i-iL p c m i)
def Cq{p:Proj}{c:List Fact}(hp:PV p)(hS:Nf p c)(hv:wi c){i:Nat}(hi:i<p.aT.levels.length):∀m,sw p c m i
 |0=>by have h:=Hh hp hS hv hi 0;exact⟨h,Nc _,λe=>⟨e,rfl⟩,λe=>⟨e,by show(0:Int)=dH p*(iL p c 0 i-iL p c 0 i);rw[Mo,No]⟩⟩
 |m+1=>by
  have ih:=Cq hp hS hv hi m;have h1:=Hh hp hS hv hi (m+1);have h2:=Hh hp hS hv hi m;have hle:=yaQ p c m i;have e1:Nb p c (m+1) i=bif Nb p c m i==30000 then iL p c (m+1) i else Nb p c m i:=rfl;have e2:ec p c (m+1) i=ec p c m i+bif iL p c m i==30000 then 0 else(iL p c m i-iL p c (m+1) i)*dH p:=rfl;by_cases h0:iL p c m i=30000
  ·obtain⟨a,b⟩:=ih.no h0;rw[a,show((30000:Int)==30000)=true from rfl,Ja]at e1;rw[b,h0,show((30000:Int)==30000)=true from rfl,Ja]at e2;exact⟨e1▸h1,by rw[e1];exact Nc _,λe=>⟨e1.trans e,e2⟩,λe=>⟨by rw[e1];exact e,by rw[e1,e2,Mo,No];rfl⟩⟩
  obtain⟨a,b⟩:=ih.yes h0;rw[show(Nb p c m i==30000)=false by simpa using a,Sa]at e1;rw[b,show(iL p c m i==30000)=false by simpa using h0,Sa]at e2;have h4:=ih.le;unfold ag at h1 h2;exact⟨e1▸ih.lv,by rw[e1];omega,λe=>by omega,λ_=>⟨by rw[e1];exact a,by rw[e1,e2,Lu _ (dH p),<-Int.mul_add];congr 1;omega⟩⟩
def ybc{p:Proj}{c:List Fact}(hp:PV p)(hS:Nf p c)(hv:wi c){i:Nat}(hi:i<p.aT.levels.length)(m:Nat):0<=ec p c m i/\ec p c m i<=40000000000:=by
 have h:=Cq hp hS hv hi m;have ha:=Zk hp;have h1:=Hh hp hS hv hi m;have h2:=h.lv;have h3:=h.le;unfold ag at h1 h2;by_cases h0:iL p c m i=30000
 ·rw[(h.no h0).2];exact⟨dC,dC⟩
 obtain⟨a,b⟩:=h.yes h0;rw[b];have k1:0<=Nb p c m i-iL p c m i:=O;have k2:Nb p c m i-iL p c m i<=40000:=O;exact⟨Qf O k1,by have:=Fi ha.2 k2 k1 (by decide:(0:Int)<=1000000);omega⟩
def ybt{a b:oa}(h:sf a=sf b):a=b:=by have h:a.data.toList=b.data.toList:=h;exact Ht (Array.toList_inj.1 h)
def ybG{p:Proj}{l:List Fact}{M:Nat}(hk:Eh p l)(hM:1<=M):LdH (cntF l) M (G3 p (cntF l) M):=by
 have hP:=Ar hk hM;have hS:=x4 hk;refine⟨λx hx=>(hP.lM x hx).iZ,λx hx h0=>?_⟩;rcases(hP.lM x hx).load with h|⟨f,hf,h1,h2⟩
 ·exact absurd h.1 h0
 have hl:=hP.load _ f hf;obtain⟨g1,g2,g3⟩:=aj hf;have fQ:=Pr p (j8 (cntF l) M) (j8 (cntF l) M).length (ab _);rw[wc]at fQ;obtain⟨g4,g5,_⟩:=Qr (fQ.subset g1);have hb:=Jr hk.fmt f g4 g5;rw[<-h1];refine⟨O,Rh.2 ⟨f,g4,?_⟩⟩;have hs:f.aN=x.aN:=ybt g3;unfold gj;rw[h1]at hl;simp only[g5,g2,h1,hs,h2,bE,Gf,Ff,Co,fc];exact hl
def ybf{p:Proj}{l:List Fact}{M:Nat}(hk:Eh p l)(hM:1<=M){x:db}(hx:x∈G3 p (cntF l) M):((x.load==0&&x.dN.toList==(bs []).toList)||((Vc p (cntF l) M).1.map Fact.number).any λn=>n==x.load)=true:=by
 rcases((Ar hk hM).lM x hx).load with h|⟨f,hf,h1,h2⟩
 ·rw[h.1,h.2];simp
 have h3:((Vc p (cntF l) M).1.map Fact.number).any (λn=>n==x.load)=true:=Rh.2 ⟨_,ic.2 ⟨f,(aj hf).1,h1⟩,Gf _⟩;rw[h3,Xv]
end Go.Pj
namespace Go.Ax
open Go.RowKit
abbrev rl(b:Nat)(c:Nat×Nat):qa:=.slice (some ⟨b,0,none⟩) c.2 c.1
def AW.pin{P:ta}{R:Cx}{N:Nat}{I:St}{c:Code}{K:Exit->St->Prop}{e n s:Nat}{f:Nat->Nat->DV}(x:Nat)(hx:aH I.box x=some (some (.row e n s f)))(J:R.ref=[])
  (h:∀(NY:Cx) b d,NY.ref=[x]->NY.ia x=some (b,d)->d.2<=d.1->AW P NY N c I λq s=>∃s',aM NY N s s'/\K q s'):AW P R N c I K:=by
 intro M V a w i
 obtain⟨b,d,cur,h0,h1,h2,h3,h4,h5,h6⟩:=i.box x _ hx
 have nomw:∀k,¬R.xC k:=λk ⟨y,z,hy,_⟩=>by rw[J]at hy;cases hy
 have hB:R.B<=b:=(i.low x _ b d hx h0).resolve_right (nomw b)
 let NY:Cx:={R with ref:=[x],ia:=λy=>if y=x then some (b,d)else none}
 have hβ0:NY.ia x=some (b,d):=Ia rfl
 have mw:∀k,NY.xC k->k=b:=by
  rintro k ⟨y,z,hy,hz⟩;obtain rfl:y=x:=Ab.1 hy;rw[hβ0]at hz
  cases hz
  rfl
 have hp:Hp NY w:=⟨i.heap.le,by obtain⟨bs,q1,q2⟩:=i.heap.tab;exact⟨bs,q1,λg t m=>⟨(q2 g t m).1,λhm=>by have:=mw g hm;have h9:g<R.B:=(q2 g t m).1;omega⟩⟩⟩
 have i':Inv NY N M V I a w:=⟨i.defers,i.tmps,hp,i.env,i.mem,i.keys,i.box,i.inj,i.apart,λy bc b1 c1 g1 g2=>.inl ((i.low y bc b1 c1 g1 g2).resolve_right (nomw b1)),λy hy=>by obtain rfl:y=x:=Ab.1 hy;exact⟨h0.trans hβ0.symm,_,h0⟩⟩
 refine Jf (h NY b d rfl hβ0 (h2▸h4) M V a w i') ?_
 rintro q a' w' ⟨I',M',V',⟨s',hs,hk⟩,i2,hg,lB⟩
 obtain⟨ga,i3⟩:=hs M' V' a' w' i2
 refine⟨s',M',ga,hk,⟨i3.defers,i3.tmps,⟨i3.heap.le,by obtain⟨bs,q1,q2⟩:=i3.heap.tab;exact⟨bs,q1,λg t m=>⟨(q2 g t m).1,nomw g⟩⟩⟩,i3.env,i3.mem,i3.keys,i3.box,i3.inj,i3.apart,λy bc b1 c1 g1 g2=>?_,λy hy=>by rw[J]at hy;cases hy⟩,hg,⟨lB.os,lB.tape,lB.output,lB.size,λk hk1 TX=>lB.block k hk1 λhm=>?_,lB.drawn⟩⟩
 ·rcases i3.low y bc b1 c1 g1 g2 with h|h
  ·exact .inl h
  exact .inl (by rw[mw b1 h];exact hB)
 ·have:=mw k hm;have h9:k<R.B:=hk1;omega
def Inv.ybF{R:Cx}{N:Nat}{M:Mem}{V:Nm}{I:St}{a:Act}{w:sa}{x b:Nat}{d:Nat×Nat}(i:Inv R N M V I a w)(hm:R.ref=[x])(h0:R.ia x=some (b,d)):V x=some (b,d):=
 ((i.ref x (by rw[hm];exact Ab.2 rfl)).1).trans h0
def Inv.ybb{R:Cx}{N:Nat}{M:Mem}{V:Nm}{I:St}{a:Act}{w:sa}(i:Inv R N M V I a w){y:Nat}{bx bx':jK}(hy:aH I.box y=some (some bx))(hr:cN M V w y bx'){E:List (Nat×AV)}(hE:∀t,(fL E t).bI M V (a.tmps.getD t undef)):
  Inv R N M V ⟨E,(y,some bx')::I.box⟩ a w:=by
 have live:∀z bc,aH ((y,some bx')::I.box) z=some (some bc)->∃bc,aH I.box z=some (some bc):=by
  intro z bc h;rw[aL]at h;by_cases hz:y=z
  ·subst hz;exact⟨_,hy⟩
  rw[Ha hz]at h;exact⟨_,h⟩
 refine⟨i.defers,i.tmps,i.heap,hE,i.mem,?_,?_,?_,?_,?_,i.ref⟩
 ·intro z p h;obtain⟨q,hq⟩:=i.keys z p h;show ∃y',aH ((y,_)::I.box) z=some y';rw[aL];by_cases hz:y=z
  ·rw[Ia hz];exact⟨_,rfl⟩
  rw[Ha hz];exact⟨q,hq⟩
 ·intro z bc h;have h:aH ((y,some bx')::I.box) z=some (some bc):=h;rw[aL]at h;by_cases hz:y=z
  ·subst hz;rw[Ia rfl]at h
   cases h
   exact hr
  rw[Ha hz]at h;exact i.box z bc h
 ·intro z z' bx bx' b1 c1 c2 e1 e2 k1 k2;obtain⟨_,e1⟩:=live _ _ e1;obtain⟨_,e2⟩:=live _ _ e2;exact i.inj z z' _ _ b1 c1 c2 e1 e2 k1 k2
 ·intro z bx b1 c1 e1 k1;obtain⟨_,e1⟩:=live _ _ e1;exact i.apart z _ b1 c1 e1 k1
 ·intro z bx b1 c1 e1 k1;obtain⟨_,e1⟩:=live _ _ e1;exact i.low z _ b1 c1 e1 k1
def aM.ybL{R:Cx}{N:Nat}{I:St}{cs:List SV}{x b:Nat}{d:Nat×Nat}(hm:R.ref=[x])(h0:R.ia x=some (b,d))(y0 j:Nat)(hy0:aH I.box y0=some (some (.cells cs)))(hj:cs[j]? =some (.own x)):
  aM R N I ⟨I.env,(y0,some (.cells (cs.set j (.d (.val (rl b d))))))::I.box⟩:=by
 intro M V a w i
 have ht:=i.ybF hm h0
 obtain⟨b0,c0,vs0,T0,us0,g0,g1,g2⟩:=i.box y0 _ hy0
 refine⟨V,i.ybb (bx':=.cells (cs.set j (.d (.val (rl b d))))) hy0 ⟨b0,c0,vs0,T0,us0,g0,g1,g2.set hj ?_⟩ i.env⟩
 rintro v ⟨b1,c1,q1,rfl,q2⟩
 rw[ht]at q1
 cases q1
 rfl
def cellsOf(n s:Nat)(f:Nat->Nat->DV):List SV:=(List.range (n*s)).map λk=>.d (f (k / s) (k%s))
def aM.ybI{R:Cx}{N:Nat}{I:St}{e s:Nat}{g:Nat->Nat->DV}{x b:Nat}{d:Nat×Nat}(hm:R.ref=[x])(h0:R.ia x=some (b,d))(hd:d.2<=d.1)(t y j:Nat)(ht:fL I.env t=.s (.own y))(hb:aH I.box y=some (some (.row e 1 s g)))(hj:j<s)(hg:g 0 j=.val (rl b d)):
  aM R N I ⟨(t,.s (.j0 y s 0 1))::I.env,(y,some (.cells ((cellsOf 1 s g).set j (.own x))))::I.box⟩:=by
 intro M V a w i
 have htie:=i.ybF hm h0
 obtain⟨b1,c1,cur,k0,k1,k2,k3,k4,k5,k6⟩:=i.box y _ hb
 have hs:0<s:=O
 have hle:1*s<=cur.size:=by rw[k3];exact qc _ k4
 have hlen:(cellsOf 1 s g).length=1*s:=by unfold cellsOf;rw[Ue,Su]
 refine⟨V,i.ybb (bx':=.cells ((cellsOf 1 s g).set j (.own x))) hb ⟨b1,c1,cur.toList.take (1*s),e,cur.toList.drop (1*s),k0,?_,?_⟩ λu=>?_⟩
 ·rw[El];exact k1
 ·refine cV.set (c:=.d (g 0 j)) (Ot ?_ λk c' v hk hv=>?_) ?_ ?_
  ·rw[hlen,Xd,Ig];omega
  ·unfold cellsOf at hk;rw[Yc]at hk;have fZ:k<1*s:=by have:=(sd.1 hv).1;rw[Xd]at this;omega
   rw[Lo fZ]at hk;simp only[Nj,Bd]at hk;subst hk;rw[Dg fZ]at hv;obtain⟨u,hu,hr⟩:=k6 (k / s) (k%s) (Eo (by rw[Lg];exact fZ)) (Hf _ hs);rw[Lg,Gt]at hu;rw[wo]at hv;rw[hu]at hv
   cases hv
   exact hr
  ·unfold cellsOf;rw[Yc,Lo O];simp[Io hj,Hg hj]
  intro v hv;have hv:(g 0 j).bI M v:=hv;rw[hg]at hv;have hv:v=rl b d:=hv;exact⟨b,d,htie,hv,hd⟩
 ·show(fL ((t,_)::I.env) u).bI M V _;rw[gP];by_cases hu:t=u
  ·rw[Ia hu];subst hu;have:=i.env t;rw[ht]at this;obtain⟨b2,c2,q1,q2,q3⟩:=this;rw[k0]at q1
   cases q1
   exact⟨b1,c1,0,k0,by rw[q2,k2];rfl,λ_=>by simp,O,O⟩
  rw[Ha hu];exact i.env u
end Go.Ax
namespace Go.Pj
open Go Go.Ax Go.Ch Go.Proofs Go.Proofs.Tryz
def lwZ(p:Proj)(Y:List Fact):Nat->St
 |0=>⟨[(2,.s (.ptr 2 0)),(5,.s (.d eO)),(12,vI (0+1:Nat)),(13,vI (0:Nat))],[(2,some (.cells (l0 p Y)))]⟩
 |_=>⟨[(2,.s (.ptr 2 0)),(5,.s (.j0 100 6 0 1)),(12,vI (0+1:Nat)),(13,vI (1:Nat))],[(2,some (.cells (l0 p Y))),(100,some (.cells (C3 p.aT (.own 700)))),(700,some (.row 3 p.aT.levels.length 1 (cP (lE p Y 0))))]⟩
def ybu(p:Proj)(Y:List Fact)(h:Nf p Y):bW prog 23 [SR p Y,vI (0:Nat)] [] (.s (.j0 100 6 0 1)) [(100,.cells (C3 p.aT (.own 700))),(700,.row 3 p.aT.levels.length 1 (cP (lE p Y 0)))]:=by
 obtain⟨hn0,hn1⟩:=h.n;have hlen:(lE p Y 0).length=p.aT.levels.length:=by unfold lE;simp
 refine gJ func23 rfl rfl call23 aJ rfl rfl rfl rfl (λR J=>?_);have J:R.ref=[]:=J;refine sX J (sX J ?_);refine Ma (sX J ?_);refine Xa (fb (λk:Nat=>lwZ p Y k) (λk=>k<=1) (λk=>1-k) 0 (La _) (Ka J [] rfl Ca Ca) ?_);intro k hk
 cases k with
 |zero=>
  refine sX J (Ma (Ya ?_));refine aI (λh1=>mb ?_) (λh1=>by simp at h1);refine Ma (Xa (sX J ?_));refine Ma (Kb (rc:=[38]) aJ mix J _ ?_);refine⟨[(9,700)],_,_,_,_,OH p Y (0:Nat) h,rfl,trivial,rfl,?_⟩;refine Fb (I':=⟨[(2,.s (.ptr 2 0)),(5,.s (.d eO)),(6,vI (0:Nat)),(7,.s (.ptr 7 0)),(12,vI (0+1:Nat)),(13,vI (0:Nat))],[(2,some (.cells (l0 p Y))),(7,some (.cells (C3 p.aT (.own 700)))),(700,some (.row 3 p.aT.levels.length 1 (cP (fK p Y (0:Nat) p.aT.levels.length))))]⟩) (Ka J [] rfl Ca Ca) (Ma (sX J ?_));apply Xa;refine fb (λi:Nat=>⟨[(2,.s (.ptr 2 0)),(5,.s (.d eO)),(6,vI (0:Nat)),(7,.s (.ptr 7 0)),(12,vI (0+1:Nat)),(13,vI (0:Nat)),(23,.s (.own 700)),(24,vI p.aT.levels.length),(25,vI i)],[(2,some (.cells (l0 p Y))),(7,some (.cells (C3 p.aT (.own 700)))),(700,some (.row 3 p.aT.levels.length 1 (cP (nG p Y 0 i))))]⟩)
   (λi=>i<=p.aT.levels.length) (λi=>p.aT.levels.length-i) 0 (La _) ?_ ?_
  ·exact Ka J [] rfl ⟨bQ,bQ,⟨rfl,Tb rfl λa c ha hc=>Ta (by show dI ((fK p Y (0:Nat) p.aT.levels.length).getD a 0)=dI ((nG p Y 0 0).getD a 0);rw[FT ha,lN ha,Ha (yc _)])⟩,oO⟩ Ca
  intro i hi;refine sX J (Ma (Ya ?_));refine aI (λh2=>mb ?_) (λh2=>nc ?_)
  ·have h2:(i:Int)<p.aT.levels.length:=bG h2;have bC:i<p.aT.levels.length:=O;refine Ma (Xa (sX J ?_));refine oi Ea (oi (show i<p.aT.levels.length by omega) ?_);refine Xa (sX J ?_);repeat refine aR ?_
   apply Ya;apply aI<;>intro h3
   ·have h3:((0:Int)==0&&(nG p Y 0 i).getD i 0==30000)=true:=h3;rw[lN bC,Ha (Kg i)]at h3;have y2:iL p Y 0 i=p.aT.levels.getD i 0:=by unfold iL;rw[show((fF p Y ((0:Nat):Int) i).1==30000)=true by simpa using h3];rfl
    refine eX J (oi Ea ?_);refine oi Ea (ob (show((i:Nat):Int).toNat<p.aT.levels.length by omega) ?_);refine aD (eX J ?_);refine⟨i+1,O,O,?_⟩;refine Ka J [] rfl ⟨bQ,bQ,⟨rfl,Tb rfl λa c ha hc=>Ta ?_⟩,oO⟩ Ca;show eT (cP (nG p Y 0 i)) i 0 [.d (dI (p.aT.levels.getD i 0))] a c=dI ((nG p Y 0 (i+1)).getD a 0);exact MW ha hc y2.symm
   have h3:((0:Int)==0&&(nG p Y 0 i).getD i 0==30000)=false:=h3;rw[lN bC,Ha (Kg i)]at h3;have y2:iL p Y 0 i=(fF p Y (0:Nat) i).1:=by unfold iL;rw[show((fF p Y ((0:Nat):Int) i).1==30000)=false by simpa using h3];rfl
   refine sX J (Ya ?_);refine aI (λh4=>by simp at h4) (λh4=>mb ?_);refine eX J ⟨i+1,O,O,?_⟩;refine Ka J [] rfl ⟨bQ,bQ,⟨rfl,Tb rfl λa c ha hc=>Ta ?_⟩,oO⟩ Ca;show dI ((nG p Y 0 i).getD a 0)=dI ((nG p Y 0 (i+1)).getD a 0);exact Na dI (PX ha y2.symm)
  have h2:¬(i:Int)<p.aT.levels.length:=bF h2;obtain rfl:i=p.aT.levels.length:=O;rw[HB];refine Fb (I':=⟨[(2,.s (.ptr 2 0)),(5,.s (.d eO)),(7,.s (.ptr 7 0)),(12,vI (0+1:Nat)),(13,vI (0:Nat))],[(2,some (.cells (l0 p Y))),(7,some (.cells (C3 p.aT (.own 700)))),(700,some (.row 3 p.aT.levels.length 1 (cP (lE p Y 0))))]⟩) (Ka J [] rfl Ca Ca) (AW.pin 700 rfl J λNY b d href' h0 hd=>?_);refine Fb (aM.ybL href' h0 7 5 rfl rfl) (Kb (rc:=[]) aJ mix href' _ ?_);refine ob dC (ob dC ?_);refine⟨_,aM.trans (Eb (I':=⟨[(2,.s (.ptr 2 0)),(5,.s (.own 100)),(12,vI (0+1:Nat)),(13,vI (0:Nat))],[(2,some (.cells (l0 p Y))),(100,some (.row 24 1 6 (λ_ c=>match c with|0=>dI p.aT.x|1=>dI p.aT.y|2=>dI p.aT.side|3=>dI p.aT.dO|4=>dI p.aT.rows|_=>.val (rl b d)))),(700,some (.row 3 p.aT.levels.length 1 (cP (lE p Y 0))))]⟩) [(100,70)] (by rw[href'];rfl) rfl ⟨bQ,⟨rfl,Tb rfl λa c ha hc=>Ta (by
   obtain rfl:a=0:=by have ha:a<1:=ha;omega
   match c,hc with|0,_|1,_|2,_|3,_|4,_|5,_=>rfl)⟩,Ca⟩ Ca) (aM.ybI href' h0 hd 5 100 5 rfl rfl dC rfl),?_⟩
  exact eX J ⟨1,O,O,Ka J [] rfl Ca Ca⟩
 |succ k=>obtain rfl:k=0:=O;refine sX J (Ma (Ya ?_));refine aI (λh1=>by simp at h1) (λh1=>nc ?_);exact eX J ⟨Oa,rfl,rfl,oO⟩
def ybo(p:Proj)(l:List Fact)(hp:p.fits)(hf:∀f∈l,f.fits)(hl:l.length<=9223372036854775807)(he:j6 p l 0 0=0):
  bW prog 9 [oR p,cJ l,vI 0] [] (.t [.g (C3 p.aT (.own 700)),.s (.d (dI 0))]) [(700,.row 3 p.aT.levels.length 1 (cP (lE p (cntF l) 0)))]:=by
 obtain⟨hk,hw⟩:=tL he
 have hS:=x4 hk
 refine eG (rc:=[23]) (N:=27) func9 rfl rfl call9 aJ mix rfl rfl rfl rfl (λR J=>?_)
 refine aB (MP p l 0 0 hp hf hl he) ?_
 refine aI (λh=>by cases h) (λ_=>?_)
 refine⟨[(100,701),(700,700)],_,_,_,_,ybu p (cntF l) hS,rfl,trivial,rfl,?_⟩
 refine oi ⟨dC,dC⟩ ?_
 repeat refine aR ?_
 exact⟨Oa,rfl,oO⟩
def ll{p:Proj}{l:List Fact}{m f:Int}(h:iI p l=0)(h1:f<=m)(h2:m<=24):j6 p l m f=0:=by unfold j6;rw[h,show within m f 24=true from within_iff.2 ⟨h1,h2⟩];rfl
abbrev He(p:Proj)(l c:List Fact)(L:Nat)(fi su:Nat->Int)(r:List (Nat×AV))(b:aP):St:=⟨[(1,cJ l),(2,vI L),(3,.s (.ptr 3 0)),(7,.s (.ptr 7 0)),(9,.s (.ptr 9 0)),(11,cJ c),(12,.s (.own 800))]++r,[(3,some (.cells (qH p))),(7,some (.cells (C3 p.aT (.own 700)))),(9,some (.cells (C3 p.aT (.d (b5 (lE p c L)))))),(700,some (.row 3 p.aT.levels.length 1 (λi _=>dI (fi i)))),(800,some (.row 3 p.aT.levels.length 1 (λi _=>dI (su i))))]++b⟩
def ProjectPaidOnce(p:Proj)(l:List Fact)(last:Int)(hp:p.Cm)(hf:∀f∈l,f.fits)(hl:l.length<=9223372036854775807):aF prog 3 [oR p,cJ l,vI last] (vB true):=by
 refine eW func3 rfl rfl call3 rfl rfl (λR J=>?_);refine sX J (Ma (sX J ?_));refine aB (aI9 p) ?_;repeat refine aR ?_
 refine bR (aMW l 25 dC) ?_;repeat refine aR ?_
 refine bR (cI last 1 5) ?_;repeat refine aR ?_
 refine ybx (r:=vI (iI p l)) (λhb=>?_) ?_
 ·have hb:(!((vC p||HD l 25)|| !within last 1 5))=true:=hb;simp only[ph,tc]at hb;exact PM p l (hp.fits hb.1.1) hf hl
 repeat refine aR ?_
 refine Ya (aI (λ_=>eX J (aB aDP (cb _))) (λh=>mb ?_));have h:(((vC p||HD l 25)|| !within last 1 5)||(iI p l !=0))=false:=h;simp only[tc]at h;obtain⟨⟨⟨hg,hm⟩,hw⟩,he⟩:=h;have he:iI p l=0:=by simpa using he
 have hw:=within_iff.1 (show within last 1 5=true by simpa using hw);have oW:=hp.fits hg;obtain⟨hlen,aPJ⟩:=aBR hm;obtain⟨L,rfl⟩:∃k:Nat,last=k:=⟨last.toNat,O⟩;have hk:=YW he;have hS:=x4 hk;have hpv:=Ti hk.proj;have hv:=aGB hk.fmt;have hC:=aBC l hf aPJ O;rw[aJO hk.fmt]at hC;obtain⟨hn0,hn1⟩:=hS.n;have hln:∀m,(lE p (cntF l) m).length=p.aT.levels.length:=λm=>by unfold lE;simp
 refine Ma (Kb (rc:=[9]) aJ mix J _ ?_);refine⟨[(700,700)],_,_,_,_,ybo p l oW hf hl (ll he dC dC),rfl,trivial,rfl,?_⟩;refine sX J (aB (ZV p l L oW hf hl (ll he O O)) ?_);refine sX J (aB hC ?_);refine Ma (sX J ?_);repeat first|apply oi trivial|apply sk|apply st|apply sg|apply sh|apply su|apply Nq|apply mr
 refine Ya (aI (λh2=>?_) (λ_=>mb ?_))
 ·exfalso;have h2:((((0:Int) !=0||(0:Int) !=0)||((p.aT.levels.length:Int) !=(p.aT.levels.length:Int)))||(((lE p (cntF l) L).length:Int) !=(p.aT.levels.length:Int)))=true:=h2;rw[hln]at h2;simp at h2
 refine sX J (ob (show(0:Int)<=(p.aT.levels.length:Int) by omega) ?_);refine ob (Nc _) (ob (show(8:Int)*(p.aT.levels.length:Int)<=281474976710656 by omega) ?_);refine Fb (I':=He p l (cntF l) L (Nb p (cntF l) 0) (ec p (cntF l) 0) [] []) (Ka J [(800,89)] rfl ⟨bQ,bQ,bQ,⟨rfl,Tb rfl λa c ha hc=>Ta (Na dI (uS ha))⟩,⟨rfl,Tb (Vd _) λa c ha hc=>Ta ?_⟩,oO⟩ Ca) ?_
 ·obtain rfl:c=0:=by have hc:c<1:=hc;omega
  rfl
 generalize pV:cntF l=c at*;refine Kc (I':=He p l c L (Nb p c L) (ec p c L) [] []) ?_ ?_
 ·refine sX J (Xa ?_);refine fb (λk:Nat=>He p l c L (Nb p c k) (ec p c k) [(13,vI (k+1:Nat))] []) (λk=>k<=L) (λk=>L-k) 0 (La _) (Ka J [] rfl Ca Ca) ?_;intro k hkL;refine Ma (sX J ?_);refine Ya (aI (λh1=>mb ?_) (λh1=>nc ?_))
  ·have h1:((k+1:Nat):Int)<=(L:Int):=Wb h1;have hP:=ya2 p l (k+1) oW hf hl (ll he O O);have hLo:=ZV p l (k+1) oW hf hl (ll he O O);have hH:=ya1 p l ((k+1:Nat):Int) oW hf hl (ll he O O);have hOK:=Ar (l:=l) (M:=k+1) hk O;have hLd:=ybG (l:=l) (M:=k+1) hk O;have hFo:=λx hx=>ybf (l:=l) (M:=k+1) hk O (x:=x) hx
   rw[pV]at hP hLo hH hOK hLd hFo;have hxl:(G3 p c (k+1)).length<=241200:=by have h:=(Rp (M:=k+1) oW hk Ea (Yo hk _)).2;rw[pV]at h;exact h
   have vA:c.length<=200:=pV▸hS.len;have hbnd:=λi (hi:i<p.aT.levels.length) m=>ybc hpv hS hv hi m
   have hpcs:=hOK.lM;have hcel:=hOK.cell;generalize G3 p c (k+1)=xs at hP hLd hFo hxl hpcs hcel;have hnl:((Vc p c ((k+1:Nat):Int)).1.map Fact.number).length<=200:=by
    have h1:=BY p (j8 c ((k+1:Nat):Int)) (j8 c ((k+1:Nat):Int)).length;have h2:(j8 c ((k+1:Nat):Int)).length<=c.length:=by unfold j8;rw[A5];exact Eg _ _
    rw[Ue];exact Mb h1 O
   generalize ((Vc p c ((k+1:Nat):Int)).1.map Fact.number)=nums at hH hFo hnl;generalize (Vc p c ((k+1:Nat):Int)).2=yd at hH;refine Kc (I':=He p l c L (Nb p c (k+1)) (ec p c (k+1)) [(13,vI (k+1:Nat))] []) ?_ ?_
   ·refine Xa (sX J ?_);refine aB hP (Ma (sX J ?_));repeat refine aR ?_
    refine bR (ybC c xs ((k+1:Nat):Int) O O hLd) ?_;repeat refine aR ?_
    refine Ya (aI (λh2=>by cases h2) (λ_=>mb ?_));refine sX J (aB hLo ?_);refine Ma (sX J ?_);repeat first|apply oi trivial|apply sk|apply st|apply sg|apply sh|apply su|apply Nq|apply mr
    refine Ya (aI (λh2=>?_) (λ_=>mb ?_))
    ·exfalso;have h2:((0:Int) !=0||(((lE p c (k+1)).length:Int) !=(p.aT.levels.length:Int)))=true:=h2;rw[show(lE p c (k+1)).length=p.aT.levels.length by unfold lE;simp]at h2;simp at h2
    refine Kc (I':=He p l c L (Nb p c (k+1)) (ec p c k) [(13,vI (k+1:Nat)),(14,iD xs)] []) ?_ ?_
    ·refine sX J (Xa ?_);refine fb (λi:Nat=>He p l c L (λa=>if a<i then Nb p c (k+1) a else Nb p c k a) (ec p c k) [(13,vI (k+1:Nat)),(14,iD xs),(16,.s (.ptr 16 0)),(18,vI i)] [(16,some (.cells (C3 p.aT (.d (b5 (lE p c (k+1)))))))]) (λi=>i<=p.aT.levels.length) (λi=>p.aT.levels.length-i) 0 (La _) (Ka J [] rfl Ca Ca) ?_;intro i hi;have Z6:Nb p c (k+1) i=bif Nb p c k i==30000 then iL p c (k+1) i else Nb p c k i:=rfl;refine Ma (sX J ?_);refine Ya (aI (λh2=>mb ?_) (λh2=>nc ?_))
     ·have h2:(i:Int)<p.aT.levels.length:=bG h2;have bC:i<p.aT.levels.length:=O;refine Ma (Xa (sX J ?_));refine oi Ea (oi (show i<p.aT.levels.length by omega) ?_);refine Ya (aI (λh3=>?_) (λh3=>mb ?_))
      ·have h3:((if i<i then Nb p c (k+1) i else Nb p c k i)==30000)=true:=h3;rw[Ha (Kg i)]at h3;rw[h3,Ja]at Z6;apply eX J;refine oi (show(0:Int)<=(i:Int)/\(i:Int)<((lE p c (k+1)).length:Int) by rw[show(lE p c (k+1)).length=p.aT.levels.length by unfold lE;simp];omega) ?_;refine oi Ea (ob (show((i:Nat):Int).toNat<p.aT.levels.length by omega) ?_);refine aD (eX J ?_);refine⟨i+1,O,O,?_⟩;refine Ka J [] rfl ⟨bQ,bQ,bQ,⟨rfl,Tb rfl λa d ha hd=>Ta ?_⟩,Ca⟩ Ca;obtain rfl:d=0:=by have hd:d<1:=hd;omega
       show eT (λa _=>dI (if a<i then Nb p c (k+1) a else Nb p c k a)) i 0 [.d (dI ((lE p c (k+1)).getD i 0))] a 0=dI (if a<i+1 then Nb p c (k+1) a else Nb p c k a);by_cases h4:a=i
       ·subst h4;rw[oP,uS bC,Ia (Di a),Z6]
       rw[tG h4];by_cases h5:a<i
       ·rw[Ia h5,Ia O]
       rw[Ha h5,Ha O]
      have h3:((if i<i then Nb p c (k+1) i else Nb p c k i)==30000)=false:=h3;rw[Ha (Kg i)]at h3;rw[h3,Sa]at Z6;refine eX J ⟨i+1,O,O,?_⟩;refine Ka J [] rfl ⟨bQ,bQ,bQ,⟨rfl,Tb rfl λa d ha hd=>Ta ?_⟩,Ca⟩ Ca;apply Na dI;show(if a<i then Nb p c (k+1) a else Nb p c k a)=(if a<i+1 then Nb p c (k+1) a else Nb p c k a);by_cases h4:a=i
      ·subst h4;rw[Ha (Kg a),Ia (Di a),Z6]
      by_cases h5:a<i
      ·rw[Ia h5,Ia O]
      rw[Ha h5,Ha O]
     have h2:¬(i:Int)<p.aT.levels.length:=bF h2;obtain rfl:i=p.aT.levels.length:=O;exact⟨rfl,Ka J [] rfl ⟨bQ,bQ,bQ,⟨rfl,Tb rfl λa d ha hd=>Ta (Na dI (Ia ha))⟩,Ca⟩ Ca⟩
    refine sX J (aB hH ?_);refine Fb (I':=He p l c L (Nb p c (k+1)) (ec p c k) [(13,vI (k+1:Nat)),(14,iD xs),(19,iR nums),(21,vI 0)] []) (Ka J [] rfl Ca Ca) (sX J ?_);refine Xa (fb (λj:Nat=>He p l c L (Nb p c (k+1)) (λa=>ec p c k a+ya (λx=>x.cell==(a:Int)) (xs.take j)) [(13,vI (k+1:Nat)),(14,iD xs),(19,iR nums),(21,vI 0),(22,vI j)] []) (λj=>j<=xs.length) (λj=>xs.length-j) 0 (La _) (Ka J [] rfl ⟨bQ,bQ,bQ,bQ,⟨rfl,Tb rfl λa d ha hd=>Ta (Na dI (Tj _).symm)⟩,oO⟩ Ca) ?_);intro j hj;refine Ma (sX J ?_);refine Ya (aI (λh2=>mb ?_) (λh2=>nc ?_))
    ·have h2:(j:Int)<xs.length:=bG h2;have qR:j<xs.length:=O;have hx:=hpcs (xs.getD j default) (bP qR);obtain⟨ci,hci,hcn⟩:=hx.cell;have hvol:=hx.iZ;have hpd:=hx.gV;have hfx:=hFo (xs.getD j default) (bP qR);refine Ma (Xa (Ma (sX J ?_)));apply oi Ea;repeat refine aR ?_
     refine og (λ_=>Ea) ?_;repeat refine aR ?_
     refine og (λ_=>Ea) ?_;repeat refine aR ?_
     refine og (λ_=>Ea) ?_;repeat refine aR ?_
     refine og (λ_=>Ea) ?_;repeat refine aR ?_
     refine og (λ_=>Ea) ?_;repeat refine aR ?_
     refine aD (Ya ?_);refine aI (λh3=>?_) (λ_=>mb ?_)
     ·exfalso;have h3:((((decide ((xs.getD j default).cell<0)||decide ((xs.getD j default).cell>=(p.aT.levels.length:Int)))||decide ((xs.getD j default).iZ<=0))||decide ((xs.getD j default).gV<0))||decide ((xs.getD j default).gV>(xs.getD j default).iZ))=true:=h3;simp only[Cf,fc]at h3;omega
     apply sX J;have hcb:0<=(xs.getD j default).cell/\(xs.getD j default).cell<(p.aT.levels.length:Int):=Ea;have jO:∀a:Nat,ya (λx=>x.cell==(a:Int)) (xs.take (j+1))=ya (λx=>x.cell==(a:Int)) (xs.take j)+bif (xs.getD j default).cell==(a:Int)then(xs.getD j default).iZ else 0:=λa=>by rw[take_one qR,Gh]
     have y1:=λa (q:Nat) (hq:q<=xs.length)=>yaE (q:=λx=>x.cell==((a:Nat):Int)) (λx hx=>(hpcs x hx).iZ) q hq
     have hb0:=hbnd ci hcn k;have hb1:=hbnd ci hcn (k+1);have hb2:ec p c (k+1) ci=ec p c k ci+mg p c (k+1) ci:=rfl;have hb3:=hcel ci hcn;have hb4:=y1 ci (j+1) qR;have hb5:=jO ci;have hb6:=y1 ci j hj;rw[hci,Gf,Ja]at hb5;refine oi Ea (oi Ea ?_);refine oi hcb (oi (show(xs.getD j default).cell.toNat<p.aT.levels.length by omega) ?_);refine oi Ea (oi hcb ?_);refine ob (show(xs.getD j default).cell.toNat<p.aT.levels.length by omega) (aD ?_);refine Fb (I':=He p l c L (Nb p c (k+1)) (λa=>ec p c k a+ya (λx=>x.cell==(a:Int)) (xs.take (j+1))) [(13,vI (k+1:Nat)),(14,iD xs),(19,iR nums),(21,vI 0),(22,vI j)] []) (Ka J [] rfl ⟨bQ,bQ,bQ,bQ,⟨rfl,Tb rfl λa d ha hd=>Ta ?_⟩,oO⟩ Ca) ?_
     ·obtain rfl:d=0:=by have hd:d<1:=hd;omega
      show eT (λa _=>dI (ec p c k a+ya (λx=>x.cell==(a:Int)) (xs.take j))) (xs.getD j default).cell.toNat 0 [.d (dI (aW ((ec p c k (xs.getD j default).cell.toNat+ya (λx=>x.cell==((xs.getD j default).cell.toNat:Int)) (xs.take j))+(xs.getD j default).iZ)))] a 0=dI (ec p c k a+ya (λx=>x.cell==(a:Int)) (xs.take (j+1)));rw[jO a,hci,Vd];by_cases h4:a=ci
      ·subst h4;rw[oP,Gf,Ja,<-Int.add_assoc];exact Na dI (aG O O)
      rw[tG h4,show(((ci:Nat):Int)==(a:Int))=false by simp only[xe];omega,Sa,Tj]
     generalize hF0:((xs.getD j default).load==0&&(xs.getD j default).dN.toList==(bs []).toList)=f0 at hfx;refine sX J (oi Ea ?_);repeat refine aR ?_
     refine og (λ_=>Ea) ?_;repeat refine aR ?_
     refine Fb (I':=He p l c L (Nb p c (k+1)) (λa=>ec p c k a+ya (λx=>x.cell==(a:Int)) (xs.take (j+1))) [(13,vI (k+1:Nat)),(14,iD xs),(19,iR nums),(21,vI 0),(22,vI j),(23,vB f0)] []) (Ka J [] rfl Ca ⟨Z,Z,Z,Z,Z,Z,Z,Z,Z,Z,Z,Z,⟨rfl,Zj hF0⟩,oO⟩) (Kc (I':=He p l c L (Nb p c (k+1)) (λa=>ec p c k a+ya (λx=>x.cell==(a:Int)) (xs.take (j+1))) [(13,vI (k+1:Nat)),(14,iD xs),(19,iR nums),(21,vI 0),(22,vI j),(23,vB true)] []) ?_ ?_)
     ·refine sX J (Xa ?_);refine fb (λq:Nat=>He p l c L (Nb p c (k+1)) (λa=>ec p c k a+ya (λx=>x.cell==(a:Int)) (xs.take (j+1))) [(13,vI (k+1:Nat)),(14,iD xs),(19,iR nums),(21,vI 0),(22,vI j),(23,vB (f0||(nums.take q).any λn=>n==(xs.getD j default).load)),(24,vI q)] []) (λq=>q<=nums.length) (λq=>nums.length-q) 0 (La _) (Ka J [] rfl Ca ⟨Z,Z,Z,Z,Z,Z,Z,Z,Z,Z,Z,Z,⟨rfl,Zj (Hi f0).symm⟩,Ca⟩) ?_;intro q hq;refine Ma (sX J ?_);refine Ya (aI (λh4=>mb ?_) (λh4=>nc ?_))
      ·have h4:(q:Int)<nums.length:=bG h4;have hq':q<nums.length:=O;refine Ma (Xa (eX J ?_));repeat refine aR ?_
       refine og (λ_=>Ea) ?_;repeat refine aR ?_
       refine og (λ_=>Ea) ?_;repeat refine aR ?_
       refine aD (eX J ?_);refine⟨q+1,O,O,?_⟩;refine Ka J [] rfl Ca ⟨Z,Z,Z,Z,Z,Z,Z,Z,Z,Z,Z,Z,⟨rfl,Zj ?_⟩,Ca⟩;show((f0||(nums.take q).any λn=>n==(xs.getD j default).load)||(nums.getD q 0==(xs.getD j default).load))=(f0||(nums.take (q+1)).any λn=>n==(xs.getD j default).load);rw[take_one hq',Ii,<-Bool.or_assoc];show _=((f0||(nums.take q).any λn=>n==(xs.getD j default).load)||((nums.getD q 0==(xs.getD j default).load)||false));rw[Hi]
      have h4:¬(q:Int)<nums.length:=bF h4;obtain rfl:q=nums.length:=O;refine⟨rfl,Ka J [] rfl Ca ⟨Z,Z,Z,Z,Z,Z,Z,Z,Z,Z,Z,Z,⟨rfl,Zj ?_⟩,oO⟩⟩;rw[wc];exact hfx
     apply sX J;repeat refine aR ?_
     refine Ya (aI (λh4=>by cases h4) (λ_=>mb ?_));exact eX J ⟨j+1,O,O,Ka J [] rfl Ca Ca⟩
    have h2:¬(j:Int)<xs.length:=bF h2;obtain rfl:j=xs.length:=O;refine⟨rfl,Ka J [] rfl ⟨bQ,bQ,bQ,bQ,⟨rfl,Tb rfl λa d ha hd=>Ta (Na dI ?_)⟩,oO⟩ Ca⟩;show ec p c k a+ya (λx=>x.cell==(a:Int)) (xs.take xs.length)=_;rw[wc,hcel a ha];rfl
   exact eX J ⟨k+1,O,O,Ka J [] rfl Ca Ca⟩
  have h1:¬((k+1:Nat):Int)<=(L:Int):=Ai h1;obtain rfl:k=L:=O;exact⟨rfl,Ka J [] rfl Ca Ca⟩
 have hbnd:=λi (hi:i<p.aT.levels.length)=>ybc hpv hS hv hi L
 have hsm:=λi (hi:i<p.aT.levels.length)=>Cq hpv hS hv hi L
 refine sX J (Kc (I':=He p l c L (Nb p c L) (ec p c L) [] []) ?_ ?_)
 ·refine sX J (Xa ?_);refine fb (λi:Nat=>He p l c L (Nb p c L) (ec p c L) [(25,vI (dH p)),(26,vI i)] []) (λi=>i<=p.aT.levels.length) (λi=>p.aT.levels.length-i) 0 (La _) (Ka J [] rfl Ca Ca) ?_;intro i hi;refine Ma (sX J ?_);refine Ya (aI (λh2=>mb ?_) (λh2=>nc ?_))
  ·have h2:(i:Int)<p.aT.levels.length:=bG h2;have bC:i<p.aT.levels.length:=O;have hb:=hbnd i bC;have ho:=hsm i bC;have SJ:=Hh hpv hS hv bC L;have hfv:=ho.lv;have hle:=ho.le;have hat:(lE p c L).getD i 0=iL p c L i:=uS bC;have har:=Zk hpv;refine Ma (Xa (sX J ?_));refine Kc (I':=He p l c L (Nb p c L) (ec p c L) [(25,vI (dH p)),(26,vI i),(27,vI (ec p c L i))] []) ?_ ?_
   ·refine sX J (oi Ea ?_);refine oi (show i<p.aT.levels.length by omega) ?_;repeat refine aR ?_
    refine og (λ_=>⟨O,by rw[hln];omega⟩) ?_;repeat refine aR ?_
    refine Ya (aI (λh3=>?_) (λh3=>mb ?_))
    ·have h3:((Nb p c L i !=30000)&&((lE p c L).getD i 0 !=30000))=true:=h3;rw[hat]at h3;simp only[Va,bne_iff_ne,ne_eq]at h3;have hy:=(ho.yes h3.2).2;unfold ag at SJ hfv;refine eX J (oi Ea ?_);refine oi (show i<p.aT.levels.length by omega) ?_;refine oi (show(0:Int)<=(i:Int)/\(i:Int)<((lE p c L).length:Int) by rw[hln];omega) ?_;refine aD ⟨rfl,Ka J [] rfl Ca ⟨Z,Z,Z,Z,Z,Z,Z,Z,Z,⟨rfl,Qa ?_⟩,oO⟩⟩;show aW (dH p*aW (Nb p c L i-(lE p c L).getD i 0))=ec p c L i;rw[hat,aG (n:=Nb p c L i-iL p c L i) O O,<-hy];exact aG O O
    have h3:((Nb p c L i !=30000)&&((lE p c L).getD i 0 !=30000))=false:=h3;rw[hat]at h3;have hz:ec p c L i=0:=by
     by_cases h5:iL p c L i=30000
     ·exact(ho.no h5).2
     have h6:=(ho.yes h5).1;rw[Bool.and_eq_false_iff]at h3;rcases h3 with h3|h3
     ·exact absurd (by simpa using h3) h6
     exact absurd (by simpa using h3) h5
    exact⟨rfl,Ka J [] rfl Ca ⟨Z,Z,Z,Z,Z,Z,Z,Z,Z,⟨rfl,Qa hz.symm⟩,oO⟩⟩
   refine sX J (oi Ea ?_);refine oi (show i<p.aT.levels.length by omega) (Ya ?_);refine aI (λh3=>?_) (λ_=>mb ?_)
   ·exfalso;have h3:(ec p c L i !=ec p c L i)=true:=h3;simp at h3
   exact eX J ⟨i+1,O,O,Ka J [] rfl Ca Ca⟩
  have h2:¬(i:Int)<p.aT.levels.length:=bF h2;exact⟨rfl,Ka J [] rfl Ca Ca⟩
 exact eX J (aB aDP (cb _))
end Go.Pj
