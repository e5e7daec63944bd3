/- Part 9: lemmas that the proofs of this seat share; by itself it claims nothing. -/
import Derived.Test.YtbcgdnpgfinohaaGreatDoorPt8
set_option maxRecDepth 100000
set_option maxHeartbeats 20000000
set_option linter.defProp false
namespace Go.Pj
open Go Go.Ax Go.Ch Go.Proofs Go.Proofs.Tryz
def cv{l:List Fact}(hv:∀f∈l,fR f=0):Ug (cntF l):=by
 intro f hf h0 x hx;obtain⟨_,_,_,g,hg,rfl,_⟩:=N4 hv hf;have h0:g.kind=0:=h0;obtain⟨_,h2⟩:=kN (hv g hg);have hb:=(oB h2 (by rw[h0];rfl)).1;have e:(jE g).levels=g.levels:=by unfold jE;simp only[h0,Ij,Na]
 rw[e]at hx;have:=Zf.1 hb x hx;rcases yT (show iQ x=false by simpa using this)with h|h
 ·exact .inl h
 exact .inr h.2
def aBR{l:List Fact}(h:HD l 25=false):l.length<=25/\∀f∈l,f.levels.length<=1000000:=by unfold HD at h;rw[wc]at h;have h1:=Hh h.1;refine⟨O,λf hf=>?_⟩;have:=Zf.1 h.2 f hf;simp only[KX,ag,mc,not_or]at this;omega
abbrev lim(n:Nat):Prop:=n<=9223372036854775807
def aGY:Rd prog 95 2 (λp:Int×Int=>[.d (dI p.1),.d (dI p.2)]) (λ_=>True):=
 (fI underlying95 rfl kR (aS rfl rI (aS rfl rI jN))).to (λa=>(a.1,a.2.1)) (λ_=>rfl) (λ_ _=>trivial)
def aKZ:Rd prog 97 5 (λs:lI=>[.d (dS s.name),.d (dI s.run),.d (dI s.Aq),.d (dI s.num),.d (dI s.den)]) (λs=>lim s.name.size):=
 (fI underlying97 rfl kR (aS rfl rS (aS rfl rI (aS rfl rI (aS rfl aGY jN))))).to (λa=>⟨a.1,a.2.1,a.2.2.1,a.2.2.2.1.1,a.2.2.2.1.2⟩) (λ_=>rfl) (λ_ h=>h.1)
def aIB:Rd prog 29 1 (λl:List lI=>[.d (kV l)]) (λl=>lim l.length/\∀a∈l,lim a.name.size):=
 kF underlying29 kR aKZ dC aGU (λ_=>rfl) (λa j hj=>by match j,hj with|0,_|1,_|2,_|3,_|4,_=>rfl)
def aIC:Rd prog 113 2 (λs:sC=>[.d (dI s.cb),.d (dS s.aN)]) (λ_=>True):=
 (fI underlying113 rfl kR (aS rfl rI (aS rfl rS jN))).to (λa=>⟨a.1,a.2.1⟩) (λ_=>rfl) (λ_ _=>trivial)
def aEZ:Rd prog 59 1 (λl:List sC=>[.d (mN l)]) (λl=>lim l.length/\∀a∈l,True):=
 kF underlying59 kR aIC dC aLM (λ_=>rfl) (λa j hj=>by match j,hj with|0,_|1,_=>rfl)
def aOO:Rd prog 61 4 (λs:fS=>[.d (dS s.name),.d (dI s.x),.d (dI s.y),.d (mN s.bB)]) (λs=>lim s.name.size/\lim s.bB.length):=
 (fI underlying61 rfl kR (aS rfl rS (aS rfl rI (aS rfl rI (aS rfl aEZ jN))))).to (λa=>⟨a.1,a.2.1,a.2.2.1,a.2.2.2.1⟩) (λ_=>rfl) (λ_ h=>⟨h.1,h.2.2.2.1.1⟩)
def aK7:Rd prog 30 1 (λl:List fS=>[.d (pN l)]) (λl=>lim l.length/\∀a∈l,lim a.name.size/\lim a.bB.length):=
 kF underlying30 kR aOO dC aNS (λ_=>rfl) (λa j hj=>by match j,hj with|0,_|1,_|2,_|3,_=>rfl)
def aOI:Rd prog 115 2 (λs:pQ=>[.d (dS s.aN),.d (dI s.vY)]) (λ_=>True):=
 (fI underlying115 rfl kR (aS rfl rS (aS rfl rI jN))).to (λa=>⟨a.1,a.2.1⟩) (λ_=>rfl) (λ_ _=>trivial)
def aK2:Rd prog 33 1 (λl:List pQ=>[.d (CG l)]) (λl=>lim l.length/\∀a∈l,True):=
 kF underlying33 kR aOI dC Cw (λ_=>rfl) (λa j hj=>by match j,hj with|0,_|1,_=>rfl)
def aOE:Rd prog 100 3 (λs:zF=>[.d (dS s.name),.d (dI s.due),.d (dI s.De)]) (λ_=>True):=
 (fI underlying100 rfl kR (aS rfl rS (aS rfl rI (aS rfl rI jN)))).to (λa=>⟨a.1,a.2.1,a.2.2.1⟩) (λ_=>rfl) (λ_ _=>trivial)
def aK0:Rd prog 34 1 (λl:List zF=>[.d (RL l)]) (λl=>lim l.length/\∀a∈l,True):=
 kF underlying34 kR aOE dC Kw (λ_=>rfl) (λa j hj=>by match j,hj with|0,_|1,_|2,_=>rfl)
def aOJ:Rd prog 63 6 (λs:uF=>[.d (dS s.name),.d (dI s.OE),.d (dI s.base),.d (dI s.cb),.d (b5 s.aV),.d (dI s.GZ)]) (λs=>lim s.name.size):=
 (fI underlying63 rfl kR (aS rfl rS (aS rfl rI (aS rfl rI (aS rfl rI (aS rfl Ch.PL (aS rfl rI jN))))))).to (λa=>⟨a.1,a.2.1,a.2.2.1,a.2.2.2.1,a.2.2.2.2.1,a.2.2.2.2.2.1⟩) (λ_=>rfl) (λ_ h=>h.1)
def aK3:Rd prog 35 1 (λl:List uF=>[.d (q7 l)]) (λl=>lim l.length/\∀a∈l,lim a.name.size):=
 kF underlying35 kR aOJ dC X0 (λ_=>rfl) (λa j hj=>by match j,hj with|0,_|1,_|2,_|3,_|4,_|5,_=>rfl)
def aOP:Rd prog 117 3 (λs:nM=>[.d (dS s.aN),.d (dI s.num),.d (dI s.den)]) (λs=>lim s.aN.size):=
 (fI underlying117 rfl kR (aS rfl rS (aS rfl aGY jN))).to (λa=>⟨a.1,a.2.1.1,a.2.1.2⟩) (λ_=>rfl) (λ_ h=>h.1)
def aK8:Rd prog 36 1 (λl:List nM=>[.d (oY l)]) (λl=>lim l.length/\∀a∈l,lim a.aN.size):=
 kF underlying36 kR aOP dC aNU (λ_=>rfl) (λa j hj=>by match j,hj with|0,_|1,_|2,_=>rfl)
def aOM:Rd prog 32 2 (λg:Ground=>[.d (kV g.bK),.d (pN g.cC)]) Ground.fits:=
 (fI underlying32 rfl kR (aS rfl aIB (aS rfl aK7 jN))).to (λa=>⟨a.1,a.2.1⟩) (λ_=>rfl) (λ_ h=>⟨h.1.1,h.2.1.1,h.1.2,λx hx=>(h.2.1.2 x hx).1,λx hx=>(h.2.1.2 x hx).2⟩)
def aOL:Rd prog 24 6 (λg:eZ=>[.d (dI g.x),.d (dI g.y),.d (dI g.side),.d (dI g.dO),.d (dI g.rows),.d (b5 g.levels)]) (λg=>lim g.levels.length):=
 (fI underlying24 rfl kR (aS rfl rI (aS rfl rI (aS rfl rI (aS rfl rI (aS rfl rI (aS rfl Ch.PL jN))))))).to (λa=>⟨a.1,a.2.1,a.2.2.1,a.2.2.2.1,a.2.2.2.2.1,a.2.2.2.2.2.1⟩) (λ_=>rfl) (λ_ h=>h.2.2.2.2.2.1.1)
def aON:Rd prog 28 5 (λc:kE=>[.d (dS c.name),.d (x3 c.aZ),.d (dI c.over),.d (dI c.buffer),.d (zM c.Ya)]) kE.ok:=
 (fI underlying28 rfl kR (aS rfl rS (aS rfl aOQ (aS rfl rI (aS rfl rI (aS rfl aK1 jN)))))).to (λa=>⟨a.1,a.2.1,a.2.2.1,a.2.2.2.1,a.2.2.2.2.1⟩) (λ_=>rfl)
  (λ_ h=>⟨h.1,h.2.1.1,h.2.1.2,h.2.2.1,h.2.2.2.1,h.2.2.2.2.1.1,h.2.2.2.2.1.2⟩)
def aQF:Jt prog 38 oR Proj.Zq:=
 VN (k:=20) underlying38 ((fI underlying38 rfl kR (aS rfl rS (aS rfl aOL (aS rfl aON (aS rfl aOM (aS rfl rI (aS rfl rI (aS rfl aK2 (aS rfl aK0 (aS rfl aK3 (aS rfl aK8 jN))))))))))).to
  (λa=>(⟨a.1,a.2.1,a.2.2.1,a.2.2.2.1,a.2.2.2.2.1,a.2.2.2.2.2.1,a.2.2.2.2.2.2.1,a.2.2.2.2.2.2.2.1,a.2.2.2.2.2.2.2.2.1,a.2.2.2.2.2.2.2.2.2.1⟩:Proj)) (λ_=>rfl)
  (λ_ h=>⟨h.1,h.2.1,h.2.2.1,h.2.2.2.1,h.2.2.2.2.2.2.1.1,h.2.2.2.2.2.2.2.1.1,h.2.2.2.2.2.2.2.2.1.2,h.2.2.2.2.2.2.2.2.2.1.2⟩))
def aK6:Rd prog 66 13 (λf:Fact=>[.d (dI f.kind),.d (dI f.seq),.d (dI f.a8),.d (dI f.month),.d (dI f.number),.d (dI f.aT),.d (dI f.over),.d (dI f.Ab),.d (dI f.target),.d (dS f.aN),.d (dS f.dN),.d (dS f.eS),.d (b5 f.levels)]) Fact.fits:=
 (fI underlying66 rfl kR (aS rfl rI (aS rfl rI (aS rfl rI (aS rfl rI (aS rfl rI (aS rfl rI (aS rfl rI (aS rfl rI (aS rfl rI (aS rfl rS (aS rfl rS (aS rfl rS (aS rfl Ch.PL jN)))))))))))))).to
  (λa=>(⟨a.1,a.2.1,a.2.2.1,a.2.2.2.1,a.2.2.2.2.1,a.2.2.2.2.2.1,a.2.2.2.2.2.2.1,a.2.2.2.2.2.2.2.1,a.2.2.2.2.2.2.2.2.1,a.2.2.2.2.2.2.2.2.2.1,a.2.2.2.2.2.2.2.2.2.2.1,a.2.2.2.2.2.2.2.2.2.2.2.1,a.2.2.2.2.2.2.2.2.2.2.2.2.1⟩:Fact)) (λ_=>rfl)
  (λ_ h=>⟨h.2.2.2.2.2.2.2.2.2.2.2.2.1.1,h.2.2.2.2.2.2.2.2.2.1,h.2.2.2.2.2.2.2.2.2.2.1,h.2.2.2.2.2.2.2.2.2.2.2.1⟩)
def aQH:Rd prog 39 1 (λl:List Fact=>[.d (RN l)]) (λl=>lim l.length/\∀a∈l,a.fits):=
 kF underlying39 kR aK6 dC J0 (λ_=>rfl) (λa j hj=>by match j,hj with|0,_|1,_|2,_|3,_|4,_|5,_|6,_|7,_|8,_|9,_|10,_|11,_|12,_=>rfl)
end Go.Pj
namespace Go.Ax
open Go.RowKit
def sh{b:Bool}{q:Prop}(h:q):Q3 (b=true) (some (rL true b))/\q:=⟨λh=>by simpa[rL]using h,h⟩
def yd5{P:Ca}{f:FuncId}{args:List AV}{r:AV}{K:AV->Prop}{b:Bool}{X:Prop}(h:b=true->aF P f args r)(k:K r):(∃r,(b=true->aF P f args r)/\K r)\/X:=.inl ⟨r,h,k⟩
section
variable{α:Type} [Inhabited α] {s n e:Nat}{f g:Nat->Nat->DV}{el:α->Nat->DV}{l:List α}{x:α}
def Cs:iJ s (bif l.isEmpty then 0 else l.length) (λi=>el (l.getD i default)) el l:=⟨dK l,λ_ _ _ _=>rfl⟩
def iJ.b8(h:iJ s n f el l):aY (.row e n s f) (.b8 e l.length s (λi=>el (l.getD i default))):=
 aY.b8 h.1 λi j hi hj=>Za (h.2 i j hi hj)
def Om:=@iJ.b8
end
end Go.Ax
namespace Go.Ch
open Go Go.Ax Go.Proofs Go.Proofs.Tryz
def ycF{a b:Pt}(ha:fB a=true)(hb:fB b=true):0<=span a b/\span a b<=3000000:=by have h:=KQ ha hb;obtain⟨h1,h2,h3⟩:=AL ha hb hb;exact⟨h.1,h.le O O⟩
def yc9{a b:Int}(hb:0<b)(hb2:b<=100000000000000000)(h: -9000000000000000000<=a)(k:a<=9000000000000000000):
  aW (Int.tdiv (aW (a-(if a.tmod b<0 then aW (a.tmod b+b)else a.tmod b))) b)=a / b:=by
 have h1:=tdm a b
 have h2:=aEE (a:=a) hb
 have hm:=Yr a (show b≠0 by omega)
 have hl:=Wr a hb
 have hd:=Int.mul_ediv_add_emod a b
 have e:(if a.tmod b<0 then aW (a.tmod b+b)else a.tmod b)=a%b:=by
  split
  ·rw[aG O O];have hx:=pq (a:=a) (r:=a.tmod b+b) (q:=a.tdiv b-1) hb (by rw[Ko];omega) O O;rw[hx]at hd;rw[Km,Ii b]at hd;omega
  have hx:=pq (a:=a) (r:=a.tmod b) (q:=a.tdiv b) hb O O O;rw[hx]at hd;rw[Ii b]at hd;omega
 rw[e,aG (n:=a-a%b) O O]
 have e2:a-a%b=a / b*b:=by rw[Ii];omega
 rw[e2,Int.mul_tdiv_cancel _ O]
 have hq: -9000000000000000000<=a / b/\a / b<=9000000000000000000:=by
  constructor
  ·rcases Im 0 a with h0|h0
   ·have:=Fm h0 (show 0<=b by omega);omega
   have:a<=a / b:=by
    have h3:a / b*b<=a:=O;rcases Im 0 (a / b)with h4|h4
    ·omega
    have h5:a / b*b<=a / b:=by have:0<=(-(a / b))*(b-1):=Ze O O;rw[Km,Int.neg_mul,Int.mul_one]at this;omega
    rcases Fo (a / b) a with h6|h6
    ·exfalso;have h7:a<(a / b+1)*b:=by rw[Int.add_mul];omega
     have h8:(a / b+1)*b<=a / b+1:=by have:0<=(-(a / b+1))*(b-1):=Ze O O;rw[Km,Int.neg_mul,Int.mul_one]at this;omega
     omega
    exact h6
   omega
  rcases Im 0 a with h0|h0
  ·have:=Rr b h0;omega
  have:a / b<=0:=by
   rcases Fo 0 (a / b)with h6|h6
   ·have:b<=a / b*b:=by have:0<=(a / b-1)*b:=Ze O O;rw[Ko]at this;omega
    omega
   exact h6
  omega
 exact aG O O
def ybF{u v s d U:Int}(hs:0<s)(SH:s<=8000000000000)(hd:0<=d)(hd2:d<=s)(hU:0<=U)(hU2:U<=100000)(hu: -U<=u)(hu2:u<=U)(hv: -U<=v)(Z3:v<=U):
  aW (Int.tdiv (aW (aW (aW (u*aW (s-d))+aW (v*d))-(if(aW (aW (u*aW (s-d))+aW (v*d))).tmod s<0 then aW ((aW (aW (u*aW (s-d))+aW (v*d))).tmod s+s)else(aW (aW (u*aW (s-d))+aW (v*d))).tmod s))) s)=Ri u v s d:=by
 obtain⟨h1,h2,h3⟩:=aIQ hs SH hd hd2 hU hU2 hu hu2 hv Z3
 rw[h1]
 exact yc9 hs O O O
def ij(c:kE)(k:Nat)(p:Pt):Ea F8:=match k with
 |0=>none
 |j+1=>vZ c j p
def Me(c:kE)(p:Pt)(i:Nat):List F8:=(List.range i).flatMap λk=>(FI c k p).toList++(ij c k p).toList
def ybi(c:kE)(p:Pt)(i:Nat):Me c p (i+1)=Me c p i++((FI c i p).toList++(ij c i p).toList):=by unfold Me;rw[Uk,Uw];simp
def toList_some{o:Ea F8}(h:o.isSome=true):o.toList=[TC o]:=by
 cases o with
 |none=>cases h
 |some x=>rfl
def toList_none{o:Ea F8}(h:o.isSome=false):o.toList=[]:=by
 cases o with
 |none=>rfl
 |some x=>cases h
def iw(c:kE)(p:Pt):∀i,(Me c p i).length<=2*i
 |0=>Oa _
 |i+1=>by
  rw[ybi,Qc,Qc];have:=iw c p i;have h1:(FI c i p).toList.length<=1:=by cases FI c i p <;> simp
  have h2:(ij c i p).toList.length<=1:=by cases ij c i p <;> simp
  omega
def rj(l:List F8)(r:Int×Bool):Prop:=(r=(0,false)/\∀x∈l,(TG x).2=false)\/(r.2=true/\(∃x∈l,TG x=r)/\∀x∈l,(TG x).2=true->r.1<=(TG x).1)
def rj.step{l:List F8}{r:Int×Bool}(h:rj l r)(x:F8):rj (l++ [x]) (OX r x):=by
 unfold OX;rcases h with⟨rfl,h⟩|⟨h1,⟨y,hy,hyr⟩,h3⟩
 ·cases hx:(TG x).2 with
  |false=>
   refine .inl ⟨rfl,λz hz=>?_⟩;rcases Ac.1 hz with hz|hz
   ·exact h z hz
   simp at hz;subst hz;exact hx
  |true=>
   refine .inr ⟨rfl,⟨x,sM,by simp[Prod.ext_iff,hx]⟩,λz hz hz2=>?_⟩;rcases Ac.1 hz with hz|hz
   ·rw[h z hz]at hz2;cases hz2
   simp at hz;subst hz;exact Ic _
 rw[h1]
 cases hx:(TG x).2 with
 |false=>
  refine .inr ⟨h1,⟨y,Bg _ hy,hyr⟩,λz hz hz2=>?_⟩;rcases Ac.1 hz with hz|hz
  ·exact h3 z hz hz2
  simp at hz;subst hz;rw[hx]at hz2;cases hz2
 |true=>
  by_cases fZ:(TG x).1<r.1
  ·rw[pc fZ];refine .inr ⟨rfl,⟨x,sM,by simp[Prod.ext_iff,hx]⟩,λz hz hz2=>?_⟩;simp only[Bool.not_true,Lh,Bool.and_self,Na];rcases Ac.1 hz with hz|hz
   ·have:=h3 z hz hz2;omega
   simp at hz;subst hz;exact Ic _
  rw[Cd fZ];refine .inr ⟨h1,⟨y,Bg _ hy,hyr⟩,λz hz hz2=>?_⟩;rcases Ac.1 hz with hz|hz
  ·exact h3 z hz hz2
  simp at hz;subst hz;show r.1<=_;omega
def du(l:List F8):rj l (FL l):=by
 have:∀(m:List F8),rj m (FL m):=by
  intro m;suffices h:∀n,rj (m.take n) (FL (m.take n)) by simpa using h m.length
  intro n;induction n with
  |zero=>exact .inl ⟨rfl,sM⟩
  |succ n ih=>
   by_cases hn:n<m.length
   ·rw[co hn,Y5];exact ih.step _
   rw[nm O]at ih⊢;exact ih
 exact this l
def rj.unique{l m:List F8}{r s:Int×Bool}(hl:∀x,x∈l↔x∈m)(h:rj l r)(k:rj m s):r=s:=by
 rcases h with⟨rfl,h⟩|⟨h1,⟨y,hy,hyr⟩,h3⟩
 ·rcases k with⟨rfl,_⟩|⟨k1,⟨z,hz,hzr⟩,_⟩
  ·rfl
  have:=h z ((hl z).2 hz);rw[hzr,k1]at this;cases this
 rcases k with⟨rfl,k⟩|⟨k1,⟨z,hz,hzr⟩,k3⟩
 ·have:=k y ((hl y).1 hy);rw[hyr,h1]at this;cases this
 have a:=h3 z ((hl z).2 hz) (by rw[hzr];exact k1);have b:=k3 y ((hl y).1 hy) (by rw[hyr];exact h1);rw[hzr]at a;rw[hyr]at b;exact Prod.ext (Int.le_antisymm a b) (h1.trans k1.symm)
def ycc(c:kE)(p:Pt)(h2:2<=c.aZ.length):∀x,x∈G4 c p↔x∈Me c p (c.aZ.length-1):=by
 intro x;unfold G4 lF l8 Me;simp only[Ac,Ci,Kh,List.mem_flatMap,Option.mem_toList];constructor
 ·rintro(⟨k,hk,h⟩|⟨j,hj,h⟩)
  ·exact⟨k,hk,.inl h⟩
  exact⟨j+1,O,.inr h⟩
 rintro⟨k,hk,h|h⟩
 ·exact .inl ⟨k,hk,h⟩
 cases k with
 |zero=>cases h
 |succ j=>exact .inr ⟨j,O,h⟩
def ycB(c:kE)(p:Pt)(h2:2<=c.aZ.length):FL (Me c p (c.aZ.length-1))=UI c p:=
 ((du _).unique (ycc c p h2) (du _)).symm
abbrev rIE(n e:Int):AV:=.t [.s (.d (dI n)),.s (.d (dI e))]
attribute [local irreducible] mI in
def Sl(c:kE)(g:eZ)(less:Int)(i:Nat):Nat->Nat->DV:=λk _=>dI (if k<i then L0 c g less k else g.levels.getD k 0)
def ycm{u v s d L U:Int}(hs:0<s)(hd:0<=d)(hd2:d<=s)(h1:L<=u)(h2:L<=v)(h3:u<=U)(h4:v<=U):L<=Ri u v s d/\Ri u v s d<=U:=by
 have a1:L*(s-d)<=u*(s-d):=Ej h1 O;have a2:L*d<=v*d:=Ej h2 hd;have a3:u*(s-d)<=U*(s-d):=Ej h3 O;have a4:v*d<=U*d:=Ej h4 hd;have e1:L*(s-d)+L*d=L*s:=by rw[Km];omega
 have e2:U*(s-d)+U*d=U*s:=by rw[Km];omega
 unfold Ri;constructor
 ·exact Int.le_ediv_of_mul_le hs O
 exact Int.ediv_le_of_le_mul hs O
structure Ly(c:kE)(x:F8):Prop where
 off:0<=x.offset/\x.offset<=8000000000000
 half:1<=x.half/\x.half<=100000
 rA:c.over-20000<=x.rA/\x.rA<=20000
 run:0<=x.run/\x.run<=1000
def ycR{a b:Ap}{p:Pt}{x:F8}(h:wh a b p=some x):0<=nT a.pt b.pt p/\nT a.pt b.pt p<=nT a.pt b.pt b.pt/\x=Bw a b p:=by
 unfold wh at h
 cases hb:(decide (nT a.pt b.pt p<0)||decide (nT a.pt b.pt p>nT a.pt b.pt b.pt))with
 |true=>rw[hb]at h;cases h
 |false=>rw[hb]at h;simp only[wc,ic]at hb;simp only[Wa,Fe]at h;exact⟨O,O,h.symm⟩
def ycz{a q b:Ap}{p:Pt}{x:F8}(h:R5 a q b p=some x):x=⟨span q.pt p,q.half,q.level,q.run⟩:=by
 unfold R5 at h
 cases hb:(decide (nT a.pt q.pt p<=nT a.pt q.pt q.pt)||decide (nT q.pt b.pt p>=0))with
 |true=>rw[hb]at h;cases h
 |false=>rw[hb]at h;simp only[Wa,Fe]at h;exact h.symm
def ydl{c:kE}{p:Pt}(hv:Qf c)(hp:fB p=true){x:F8}(hx:x∈G4 c p):Ly c x:=by
 have h2:=hv.n2;unfold G4 lF l8 at hx;simp only[Ac,Ci,Kh]at hx;rcases hx with⟨k,hk,h⟩|⟨j,hj,h⟩
 ·obtain⟨d0,d1,rfl⟩:=ycR h;have ha:=hv.w9 k O;have hb:=hv.w9 (k+1) O;have JW:=hv.apart k O;have hs:=Nq JW;have l1:=hv.level k O;have l2:=hv.level (k+1) O;have f1:=hv.half k O;have f2:=hv.half (k+1) O;exact⟨Cu ha hb hp JW,ycm hs d0 d1 f1.1 f2.1 f1.2 f2.2,ycm hs d0 d1 l1.1 l2.1 l1.2 l2.2,hv.run k O⟩
 have:=ycz h;subst this;have hq:=hv.w9 (j+1) O;have hsp:=ycF hq hp;exact⟨⟨hsp.1,Hm hsp.2 O⟩,hv.half (j+1) O,hv.level (j+1) O,hv.run (j+1) O⟩
def yd8{c:kE}{x:F8}(hx:Ly c x)(hv:Qf c)(h:(TG x).2=true):c.over-20000<=(TG x).1/\(TG x).1<=20000:=by
 obtain⟨h1,h2,h3,h4⟩:=hx;have ho:=hv.over;unfold TG lvl at h⊢
 cases c1:decide (x.offset<=x.half)with
 |true=>rw[c1]at h;exact h3
 |false=>
  rw[c1]at h;have c1:=bF c1
  cases c2:(x.run==0)with
  |true=>rw[c2]at h;cases h
  |false=>
   rw[c2]at h;have c2:x.run≠0:=by simpa using c2
   have hq:0<=(x.offset-x.half).tdiv x.run/\(x.offset-x.half).tdiv x.run<=8000000000000:=by rw[si O];exact⟨Fm O O,Hm (Rr _ O) O⟩
   have e:aW (x.rA+aW ((aW (x.offset-x.half)).tdiv x.run))=x.rA+(x.offset-x.half).tdiv x.run:=by rw[aG (n:=x.offset-x.half) O O,aG (n:=(x.offset-x.half).tdiv x.run) O O,aG O O]
   simp only[Wa]at h⊢;have h:=bG h;rw[e]at h⊢;omega
def ych{c:kE}{p:Pt}(hv:Qf c)(hp:fB p=true)(h:(UI c p).2=true):c.over-20000<=(UI c p).1/\(UI c p).1<=20000:=by
 rcases du (G4 c p)with⟨h1,_⟩|⟨_,⟨x,hx,e⟩,_⟩
 ·unfold UI at h;rw[h1]at h;cases h
 unfold UI at h⊢;rw[<-e]at h⊢;exact yd8 (ydl hv hp hx) hv h
def ybp(c:kE)(g:eZ)(less:Int){i:Nat}(h:i<g.levels.length):(mM c g less).levels.getD i 0=L0 c g less i:=by simp[mM,h]
def ycP{l:List Int}:iJ 1 (bif l.isEmpty then 0 else l.length) (cP l) (λx _=>dI x) l:=⟨dK l,λ_ _ _ _=>rfl⟩
def yek(x:F8):Bool:=decide (x.offset<=x.half)
def FM(c:kE)(p:Pt):Bool:=(G4 c p).any yek
def lv(g:eZ)(k:Int):Int:=g.levels.getD k.toNat 0
def wZ(g:eZ)(r:Int×Bool)(i:Nat):Int×Bool:=(bif decide (r.1<0)||decide (lv g i>lv g r.1)then(i:Int)else r.1,r.2||lv g i==30000)
end Go.Ch
namespace Go.Pj
open Go Go.Ax Go.Ch
abbrev Dt(s:Stmt):AV:=.g [.d (dI s.month),.d (dI s.over),.d (dI s.fG),.d (dI s.total),.d (x0 s.Y4),.d (xZ s.gf),.d (b5 s.yj)]
open Go Go.Ax Go.Ch Go.Proofs Go.Proofs.Tryz
def ybV(l:List Fact)(hl:l.length<=9223372036854775807)(f k:Nat)(c:Nat->DV)(p:Fact->Bool)(hp:∀x∈l,aF prog f (pX x::jF c k 0) (vB (p x))):
  aF prog 53 [cJ l,.s (.d (.dZ f k c))] (vB (l.any p)):=by
 refine eP func53 rfl rfl call53 rfl rfl λR J=>?_
 refine aB (YF l hl f k c p hp) ?_
 exact Ja (Va vB (kI p l 0))
end Go.Pj
namespace Go.Ch
open Go Go.Ax Go.Proofs Go.Proofs.Tryz
abbrev vY(b:UInt8):AV:=.s (.d (.val (.int .u8 (b.toNat:Int))))
attribute [local irreducible] kC mU in
def ycb(c:kE)(g:eZ)(hc:c.ok)(hg:g.ok):aF prog 99 [chan c,rK g] (iq (zK c g 0).1 (zK c g 0).2):=by exact eP func99 rfl rfl call99 rfl rfl λR J=>aB (aM0 c g 0 hc hg) (pb _)
def tn(a b p:Pt):Bool:=(decide (a.y<=p.y)&&decide (p.y<b.y))&&decide (nU a b p>0)
def hG(a b p:Pt):Bool:=bif decide (a.y>b.y)then tn b a p else tn a b p
def Fl(a p:Pt):Bool:= !decide (a.x<=p.x)&& !decide (a.y<=p.y)
def ycA{a b p:Pt}(hc:nU a b p=0)(hx:(a.x<=p.x/\p.x<=b.x)\/(b.x<=p.x/\p.x<=a.x))(hy:(a.y<=p.y/\p.y<=b.y)\/(b.y<=p.y/\p.y<=a.y)):jP a b p=true:=by
 have key:∀u v w:Int,(u<=w/\w<=v)\/(v<=w/\w<=u)->within w (mm false u v) (mm true u v)=true:=by
  intro u v w h;have h1:mm false u v<=w:=by unfold mm;simp only;split <;> omega
  have h2:w<=mm true u v:=by unfold mm;simp only;split <;> omega
  unfold within;rw[pc h1,pc h2];rfl
 unfold jP;rw[hc,key _ _ _ hx,key _ _ _ hy];rfl
def Mu(a b p:Pt):N0 a b p=(a.x-p.x)*(b.y-p.y)-(b.x-p.x)*(a.y-p.y):=by unfold N0;simp only[Ko,Km];have h1:=Ii b.y p.x;have h2:=Ii b.y a.x;have h3:=Ii a.y p.x;have h4:=Ii a.y a.x;omega
def yca(a b p:Pt):N0 b a p= -N0 a b p:=by rw[Mu,Mu];omega
def yd4{n:Int}:decide (SY n<0)=decide (n<0):=by
 unfold SY;by_cases h:n<0
 ·simp[h]
 rw[Ma h];by_cases h2:n>0
 ·rw[Qa h2];simp;omega
 rw[Ma h2];simp;omega
def ydf{a b p:Pt}(ha:fB a=true)(hb:fB b=true)(hp:fB p=true)(hn:jP a b p=false):(hG a b p !=hR a b p)=(Fl a p !=Fl b p):=by
 obtain⟨c1,_,_⟩:=RQ ha hb hp;obtain⟨c2,_,_⟩:=RQ hb ha hp;have hs:=yca a b p;have hsh:=Mu a b p;have YN:¬(N0 a b p=0/\((a.x<=p.x/\p.x<=b.x)\/(b.x<=p.x/\p.x<=a.x))/\((a.y<=p.y/\p.y<=b.y)\/(b.y<=p.y/\p.y<=a.y))):=λ⟨h0,h1,h2⟩=>by rw[ycA (by rw[c1];exact h0) h1 h2]at hn;cases hn
 have sg:∀u v:Int,(u>0->v>0->u*v>0)/\(u>0->v<=0->u*v<=0)/\(u<=0->v>0->u*v<=0)/\(u<=0->v<=0->u*v>=0):=λu v=>
  ⟨λh k=>Int.mul_pos h k,λh k=>Int.mul_nonpos_of_nonneg_of_nonpos O k,λh k=>Int.mul_nonpos_of_nonpos_of_nonneg h O,λh k=>d_ h k⟩
 obtain⟨x1,x2,x3,x4⟩:=sg (a.x-p.x) (b.y-p.y);obtain⟨y1,y2,y3,y4⟩:=sg (b.x-p.x) (a.y-p.y);have hzero:(a.x-p.x)*(b.y-p.y)=0->a.x-p.x≠0->b.y-p.y=0:=λh0 h1=>(Int.mul_eq_zero.1 h0).resolve_left h1
 have eG:hG a b p=((decide (a.y<=p.y)&& !decide (b.y<=p.y))&&decide (N0 a b p>0)||(decide (b.y<=p.y)&& !decide (a.y<=p.y))&&decide (N0 a b p<0)):=by
  unfold hG tn;rw[c1,c2,hs,He];by_cases h:a.y>b.y
  ·rw[pc h];simp;omega
  rw[Cd h];simp;omega
 have eR:hR a b p=((!(decide (a.x<=p.x)==decide (b.x<=p.x)))&&(decide (N0 a b p<0)==decide (a.x<b.x))):=by unfold hR;rw[yd4,c1]
 rw[eG,eR];unfold Fl;clear c1 c2 hs eG eR sg ha hb hp hn;generalize (a.x-p.x)*(b.y-p.y)=X at*;generalize (b.x-p.x)*(a.y-p.y)=ta at*;generalize N0 a b p=C at*;by_cases xa:a.x<=p.x <;> by_cases xb:b.x<=p.x <;> by_cases ya:a.y<=p.y <;> by_cases yb:b.y<=p.y <;> simp only[xa,xb,ya,yb,Wk,NE,Bool.not_true,Vz,Eo,Pg,Bool.false_and,Bool.and_false,Em,Lh,Ij,bne_self_eq_false];all_goals by_cases hx:a.x<b.x <;> rcases Int.lt_trichotomy C 0 with h|h|h
 all_goals first
  |(exfalso;omega)
  |(have h1:decide (C>0)=false:=Cd O
    have h2:decide (C<0)=true:=pc O
    simp[h1,h2,hx];done)
  |(have h1:decide (C>0)=true:=pc O
    have h2:decide (C<0)=false:=Cd O
    simp[h1,h2,hx];done)
  |(have h2:decide (C<0)=false:=Cd O
    simp[h2,hx];done)
def ybL(q:Nat->Bool):∀n,Dc (λi=>q i !=q (i+1)) n=(q 0 !=q n)
 |0=>by rw[Dc];cases q 0 <;> rfl
 |n+1=>by
  rw[Dc,ybL q n]
  cases q 0 <;> cases q n <;> cases q (n+1) <;> rfl
def ycp{f g h:Nat->Bool}:∀n,(∀i,i<n->(f i !=g i)=h i)->(Dc f n !=Dc g n)=Dc h n
 |0,_=>rfl
 |n+1,e=>by
  have ih:=ycp n λi hi=>e i O
  have:=e n O;rw[Dc,Dc,Dc,<-ih,<-this]
  cases Dc f n <;> cases Dc g n <;> cases f n <;> cases g n <;> rfl
def Ff(l:List Pt)(p:Pt)(i:Nat):Bool:=hG (sI l i) (qB l (i+1)) p
def yd9{l:List Pt}{p:Pt}(h3:3<=l.length)(hl:∀i,i<l.length->fB (l.getD i default)=true)(hp:fB p=true)(hn:∀i,i<l.length->Wg l p i=false):Dc (Ff l p) l.length=Dc (Xf l p) l.length:=by
 have hc:∀j,fB (qB l j)=true:=λj=>hl _ (lh _ O)
 have hpc:∀i,i<l.length->sI l i=qB l i:=λi hi=>by show l.getD i default=l.getD (i%l.length) default;rw[Jh hi]
 have h:=ycp (f:=Ff l p) (g:=Xf l p) (h:=λi=>Fl (qB l i) p !=Fl (qB l (i+1)) p) l.length λi hi=>by have:=hn i hi;unfold Wg at this;unfold Ff Xf;rw[hpc i hi]at this⊢;exact ydf (hc i) (hc (i+1)) hp this
 rw[ybL (λi=>Fl (qB l i) p)]at h;have e:qB l l.length=qB l 0:=by show l.getD (l.length%l.length) default=l.getD (0%l.length) default;rw[Nat.mod_self,Nat.zero_mod]
 simp only[e,bne_self_eq_false]at h;simpa using h
def On(b:Bool):Int:=bif b then 1 else -1
def Yt{l:List Pt}(h:lP l=0):3<=l.length/\l.length<=40/\∀i,i<l.length->fB (l.getD i default)=true:=by
 unfold lP at h
 cases h1:decide ((l.length:Int)<3)with
 |true=>rw[h1]at h;cases h
 |false=>
  cases h2:decide ((l.length:Int)>40)with
  |true=>rw[h1,h2]at h;cases h
  |false=>
   cases h3:(l.any λp=> !fB p)with
   |true=>rw[h1,h2,h3]at h;cases h
   |false=>have h1:=bF h1;have h2:=bF h2;refine⟨O,O,λi hi=>?_⟩;rw[Zf]at h3;have:=h3 _ (Be hi);rw[aX hi];simpa using this
def ydP(l:List Pt)(p:Pt)(h3:3<=l.length)(h40:l.length<=40)(hg:∀i,i<l.length->fB (l.getD i default)=true)(hp:fB p=true):aF prog 237 [w9 l,pt p] (vI (Gg l p)):=by
 have fJ:l≠[]:=by rintro rfl;cases h3
 refine eP func237 rfl rfl call237 rfl rfl λR J=>mb (λi:Nat=>⟨[(0,w9 l),(3,.s (.ptr 3 0)),(5,vI (On (Dc (Ff l p) i))),(9,w9 l),(10,vI l.length),(11,vI i)],[(3,some (Bh p))]⟩) (λi=>i<=l.length/\∀j,j<i->Wg l p j=false) (λi=>l.length-i) 0 ⟨Oa _,λj hj=>absurd hj (Cc j)⟩ (La J [] rfl Ga Ga) ?_
 rintro i ⟨hi,hj⟩;apply eX J;apply aI<;>intro h
 ·have h:(i:Int)<l.length:=bG h;have bC:i<l.length:=O;have e1:aW ((i:Int)+1)=((i+1:Nat):Int):=aG O O;have c2:aF prog 331 [w9 l,vI (aW ((i:Int)+1))] (pt (qB l (i+1))):=by rw[e1];exact NM l (i+1) fJ
  refine oi Ia (aB c2 ?_);refine aB (on (sI l i) (qB l (i+1)) p) (aI (λh2=>?_) (λh2=>?_))
  ·have h2:Wg l p i=true:=h2;have e:Gg l p=0:=by unfold Gg;rw[eI bC h2];rfl
   rw[e];exactλ_ _ r=>r
  have h2:Wg l p i=false:=h2;have qR:∀j,j<i+1->Wg l p j=false:=λj qR=>by
   by_cases y7:j=i
   ·rw[y7];exact h2
   exact hj j O
  have yes:Ff l p i=true->aW (0-On (Dc (Ff l p) i))=On (Dc (Ff l p) (i+1)):=λh3=>by rw[Dc,h3];cases Dc (Ff l p) i <;> rfl
  have no:Ff l p i=false->On (Dc (Ff l p) i)=On (Dc (Ff l p) (i+1)):=λh3=>by rw[Dc,h3];cases Dc (Ff l p) i <;> rfl
  apply aI<;>intro hs
  ·have hs:decide ((sI l i).y>(qB l (i+1)).y)=true:=hs;have eh:Ff l p i=tn (qB l (i+1)) (sI l i) p:=by unfold Ff hG;rw[hs];rfl
   repeat refine aR ?_
   refine bR (T8 (qB l (i+1)) (sI l i) p) ?_;repeat refine aR ?_
   apply aI<;>intro h3
   ·have h3:=eh.trans h3;exact⟨i+1,⟨O,qR⟩,O,La J [] rfl Ga ⟨Z,Z,⟨rfl,Ra (yes h3)⟩,Z,Z,⟨rfl,Ra e1⟩,oO⟩⟩
   have h3:=eh.trans h3;exact⟨i+1,⟨O,qR⟩,O,La J [] rfl Ga ⟨Z,Z,⟨rfl,Ra (no h3)⟩,Z,Z,⟨rfl,Ra e1⟩,oO⟩⟩
  have hs:decide ((sI l i).y>(qB l (i+1)).y)=false:=hs;have eh:Ff l p i=tn (sI l i) (qB l (i+1)) p:=by unfold Ff hG;rw[hs];rfl
  repeat refine aR ?_
  refine bR (T8 (sI l i) (qB l (i+1)) p) ?_;repeat refine aR ?_
  apply aI<;>intro h3
  ·have h3:=eh.trans h3;exact⟨i+1,⟨O,qR⟩,O,La J [] rfl Ga ⟨Z,Z,⟨rfl,Ra (yes h3)⟩,Z,Z,⟨rfl,Ra e1⟩,oO⟩⟩
  have h3:=eh.trans h3;exact⟨i+1,⟨O,qR⟩,O,La J [] rfl Ga ⟨Z,Z,⟨rfl,Ra (no h3)⟩,Z,Z,⟨rfl,Ra e1⟩,oO⟩⟩
 have h:¬(i:Int)<l.length:=bF h;obtain rfl:i=l.length:=O;refine Ja (Va vI ?_);unfold Gg;rw[oK hj,<-yd9 h3 hg hp hj];rfl
attribute [local irreducible] lP in
def ydN(l:List Pt)(p:Pt)(he:lP l=0)(hp:fB p=true):aF prog 163 [w9 l,pt p] (rIE (Gg l p) 0):=by
 obtain⟨h3,h40,hg⟩:=Yt he;refine eP func163 rfl rfl call163 rfl rfl λR J=>aB (JY l O) (aI (λh=>?_) (λ_=>?_))
 ·have h:(lP l !=0)=true:=h;rw[he]at h;cases h
 refine aB ((B0 [p] sM).conv (args':=_) ⟨Mc λi j hi hj=>Za ?_,oO⟩) ?_
 ·have hi:i<1:=hi;have hj:j<2:=hj
  match i,j,hi,hj with
  |0,0,_,_=>rfl
  |0,1,_,_=>rfl
 refine aI (λh=>?_) (λ_=>?_)
 ·simp[hp]at h
 exact aB (ydP l p h3 h40 hg hp) (Te ⟨Ka _,λ_ _ r=>r,oO⟩)
def Kq(g:eZ)(l:List Pt)(i:Nat):Kc g l (i+1)=bif Zi g l i then Kc g l i++ [(i:Int)]else Kc g l i:=by
 unfold Kc;rw[c8]
 cases Zi g l i <;> simp
def Sp(g:eZ)(l:List Pt)(i:Nat):(Kc g l i).length<=i:=by have:=Ag (λk=>bif Zi g l k then some (k:Int)else none) (List.range i);rw[ax]at this;exact this
def Dn(g:eZ)(l:List Pt):List Int×Int:=bif kC g !=0 then([],kC g)else bif lP l !=0 then([],lP l)else(Kc g l g.levels.length,0)
def ydO(g:eZ)(l:List Pt)(hg:g.ok)(hl:l.length<=1000000):aF prog 100 [rK g,w9 l] (.t [.s (.d (b5 (Dn g l).1)),.s (.d (dI (Dn g l).2))]):=by
 refine eP func100 rfl rfl call100 rfl rfl λR J=>aB (UW g hg.levels) ?_
 unfold Dn;apply aI<;>intro h
 ·have h:(kC g !=0)=true:=h;rw[h,Na];exact Te ⟨Wc,Ka _,oO⟩
 have h:(kC g !=0)=false:=h;rw[h,Wa];have gv:=wt (show kC g=0 by simpa using h);have hn:=gv.n;refine aB (JY l O) (aI (λh2=>?_) (λh2=>?_))
 ·have h2:(lP l !=0)=true:=h2;rw[h2,Na];exact Te ⟨Wc,Ka _,oO⟩
 have h2:(lP l !=0)=false:=h2;rw[h2,Wa];have he:lP l=0:=by simpa using h2
 refine mb (λi:Nat=>⟨[(1,w9 l),(2,.s (.ptr 2 0)),(8,.s (.mo (Kc g l i).isEmpty 100)),(24,vI g.levels.length),(25,vI i)],
   [(2,some (Iq g)),(100,some (.b8 3 (Kc g l i).length 1 (cP (Kc g l i))))]⟩)
  (λi=>i<=g.levels.length) (λi=>g.levels.length-i) 0 (Oa _) ?_ ?_
 ·exact La J [(100,1000)] rfl ⟨bQ,⟨rfl,rfl⟩,oO⟩ ⟨Z,Z,⟨rfl,Jd rfl⟩,Ga⟩
 intro i hi;have hlen:=Sp g l i;apply eX J;apply aI<;>intro h
 ·have h:(i:Int)<g.levels.length:=bG h;have bC:i<g.levels.length:=O;refine aB (aGI g i (by have:=gv.dO;omega)) ?_;refine aB (ydN l (dP g i) he (RY gv bC).1) (aI (λh2=>?_) (λh2=>?_))
  ·have h2:Zi g l i=true:=h2;have e:Kc g l (i+1)=Kc g l i++ [(i:Int)]:=by rw[Kq,h2];rfl
   apply ob dC;refine ob (by rw[dK];show _*8<=_;omega) ?_;refine ob (nJ (AS rfl)) ⟨i+1,O,O,?_⟩;refine La J [(100,41)] rfl ⟨bQ,⟨rfl,?_⟩,oO⟩ ⟨Z,Z,⟨rfl,Oc ?_⟩,Ga⟩
   ·show aY _ (.b8 3 (Kc g l (i+1)).length 1 (cP (Kc g l (i+1))));rw[e];exact Om (el:=λx _=>dI x) (oh ycP (AS rfl))
   rw[e];exact cA _ _
  have h2:Zi g l i=false:=h2;have e:Kc g l (i+1)=Kc g l i:=by rw[Kq,h2];rfl
  refine⟨i+1,O,O,?_⟩;exact La J [] rfl ⟨bQ,⟨rfl,Tb (by rw[e];rfl)⟩,oO⟩ ⟨Z,Z,⟨rfl,Ob (by rw[e];rfl)⟩,Ga⟩
 have h:¬(i:Int)<g.levels.length:=bF h;obtain rfl:i=g.levels.length:=O;exact Te ⟨Je (dK _) λ_ _ _ _=>Ka _,Ka _,oO⟩
def Qp(a b c:Pt):aF prog 335 [pt a,pt b,pt c] (vI (pd a b c)):=by exact eP func335 rfl rfl call335 rfl rfl λR _=>pb _
def fq(a b:Pt):aF prog 242 [pt a,pt b] (vI (pd a b b)):=by exact eP func242 rfl rfl call242 rfl rfl λR _=>aB (Qp a b b) (pb _)
def Abs(n:Int):aF prog 119 [vI n] (vI (if n<0 then aW (0-n)else n)):=by
 refine eP func119 rfl rfl call119 rfl rfl λR _=>aI (λh=>?_) (λh=>?_)
 ·exact Ja (by rw[Qa (bG h)];rfl)
 exact Ja (by rw[Ma (bF h)];rfl)
def yex(a b:Int)(hb:b≠0):aF prog 115 [vI a,vI b] (vI (if a.tmod b<0 then aW (a.tmod b+b)else a.tmod b)):=by
 refine eP func115 rfl rfl call115 rfl rfl λR _=>ob hb (aI (λh=>?_) (λh=>?_))
 ·exact Ja (by rw[Qa (bG h)];rfl)
 exact Ja (by rw[Ma (bF h)];rfl)
def Gw(a b:Int)(hb:b≠0):aF prog 61 [vI a,vI b] (vI (aW (Int.tdiv (aW (a-(if a.tmod b<0 then aW (a.tmod b+b)else a.tmod b))) b))):=by exact eP func61 rfl rfl call61 rfl rfl λR _=>aB (yex a b hb) (oi hb (pb _))
def Level(o h b r:Int):aF prog 184 [part o h b r] (Vp (lvl o h b r)):=by
 refine eP func184 rfl rfl call184 rfl rfl λR _=>aI (λh=>?_) (λh=>?_)
 ·exact Pm (by rw[lvl,h];rfl) (by rw[lvl,h];rfl)
 apply aI<;>intro h'
 ·exact Pm (by rw[lvl,h,h'];rfl) (by rw[lvl,h,h'];rfl)
 refine oi (by simpa using h') (aD ?_);exact Ja (by rw[lvl,h,h'];rfl)
def pv(g:eZ)(i:Int)(h:g.dO≠0):aF prog 114 [rK g,vI i] (pt (dP g i)):=by
 refine eP func114 rfl rfl call114 rfl rfl λR _=>oi h (oi dC ?_)
 refine oi h (oi dC ?_);refine aD (Ja ?_);rfl
def yd(c:kE):aF prog 243 [chan c] (vI (aW (c.aZ.length-1))):=by exact eP func243 rfl rfl call243 rfl rfl λR _=>pb _
def ydE(a b:Pt)(ha:fB a=true)(hb:fB b=true):aF prog 337 [pt a,pt b] (vI (span a b)):=by
 obtain⟨hd,hd1,hd2⟩:=AL ha hb hb;refine eP func337 rfl rfl call337 rfl rfl λR J=>?_
 refine Fb (λi:Nat×Int×Int=>⟨[(2,.s (.ptr 2 0)),(3,.s (.ptr 3 0)),(5,vI i.2.1),(6,vI i.2.2)],[(2,some (.cells [.d (dI a.x),.d (dI a.y)])),(3,some (.cells [.d (dI b.x),.d (dI b.y)]))]⟩)
  (λi=>0<=i.2.1/\i.2.1<=i.2.2/\i.2.2<=4000000/\i.2.2-i.2.1<2^i.1/\span a b=LG (pd a b b) i.1 i.2.1 i.2.2) (λi=>i.1) (23,0,4000000) ⟨dC,dC,dC,dC,rfl⟩ ?_ ?_
 ·exact Lb J Ha Ha
 rintro⟨k,lo,hi⟩ ⟨h0,h1,h2,h3,h4⟩;simp only at h0 h1 h2 h3 h4;apply eX J;apply aI<;>intro h
 ·have fZ:lo<hi:=bG h;obtain⟨k',rfl⟩:∃k',k=k'+1:=by
   cases k with
   |zero=>simp at h3;omega
   |succ k=>exact⟨k,rfl⟩
  rw[Int.pow_succ]at h3;rw[LG,h]at h4;simp only[Na]at h4;refine oi dC (aB (fq a b) ?_);have hw:aW (Int.tdiv (aW (lo+hi)) 2)=(lo+hi) / 2:=by rw[aG (n:=lo+hi) O O,si O,aG O O]
  have hm0:0<=(lo+hi) / 2:=O;have hm1:(lo+hi) / 2<=4000000:=O;have hmm:=VB hm0 hm1;have hmm0:=Ze hm0 hm0;have hww:aW (aW (Int.tdiv (aW (lo+hi)) 2)*aW (Int.tdiv (aW (lo+hi)) 2))=(lo+hi) / 2*((lo+hi) / 2):=by rw[hw,aG O O]
  apply aI<;>intro h'
  ·have h':decide (aW (aW (Int.tdiv (aW (lo+hi)) 2)*aW (Int.tdiv (aW (lo+hi)) 2))>=pd a b b)=true:=h';rw[hww]at h';rw[h']at h4;refine⟨(k',lo,(lo+hi) / 2),⟨h0,by simp only;omega,by simp only;omega,by simp only;omega,h4⟩,sM,?_⟩;refine Lb J Ha ⟨rQ,rQ,rQ,⟨rfl,Va vI hw⟩,oO⟩
  have h':decide (aW (aW (Int.tdiv (aW (lo+hi)) 2)*aW (Int.tdiv (aW (lo+hi)) 2))>=pd a b b)=false:=h';rw[hww]at h';rw[h']at h4;refine⟨(k',(lo+hi) / 2+1,hi),⟨by simp only;omega,by simp only;omega,by simp only;omega,by simp only;omega,h4⟩,sM,?_⟩;refine Lb J Ha ⟨rQ,rQ,⟨rfl,Va vI (?_:aW (aW (Int.tdiv (aW (lo+hi)) 2)+1)=_)⟩,rQ,oO⟩;rw[hw,aG O O]
 have fZ:¬lo<hi:=bF h;apply Ja;rw[h4]
 cases k with
 |zero=>rfl
 |succ k=>rw[LG,h];rfl
def ydX(a b p:Pt)(ha:fB a=true)(hb:fB b=true)(hp:fB p=true)(JW:a≠b):aF prog 336 [pt a,pt b,pt p] (vI (MR a b p)):=by
 obtain⟨h1,h2,h3⟩:=RQ ha hb hp;have hs:=O4 ha hb JW;obtain⟨h4,h5,h6⟩:=Ew (c:=nU a b p) O O;have ho:=Cu ha hb hp JW;refine eP func336 rfl rfl call336 rfl rfl λR J=>aB (Zt a b p) (aB (Abs _) ?_)
 refine aB (ydE a b ha hb) (oi O ?_);refine aD (Ja (Va vI ?_));rw[<-h6,si h4];exact aG (by have:=ho.1;unfold MR at this;omega) (by have:=ho.2;unfold MR at this;omega)
def yeA(c:kE)(k:Nat)(p:Pt)(hv:Qf c)(hk:k+1<c.aZ.length)(hp:fB p=true):aF prog 244 [chan c,vI k,pt p] (pj (FI c k p)):=by
 have hn:=hv.n20;have ha:=hv.w9 k O;have hb:=hv.w9 (k+1) hk;have JW:=hv.apart k hk;obtain⟨d1,d2,d3⟩:=AL ha hb hp;obtain⟨s1,s2,s3⟩:=AL ha hb hb;have s4:=Nq JW;have hh:=hv.half k O;have BW:=hv.half (k+1) hk;have hl:=hv.level k O;have hl':=hv.level (k+1) hk;have ho:=hv.over;have e:aW ((k:Int)+1)=((k+1:Nat):Int):=aG O O;have eup:up k=k+1:=aKP O;have eu:(aW ((k:Int)+1)).toNat=k+1:=eup;refine eP func244 rfl rfl call244 rfl rfl λR J=>oi Ia ?_
 refine oi (by show 0<=aW ((k:Int)+1)/\aW ((k:Int)+1)<_;rw[e];exact Ia) ?_;refine aD (aB (Place (c.aZ.getD k default)) ?_);refine aB (Place (c.aZ.getD (up k) default)) (aB (Qp (c.aZ.getD k default).pt (c.aZ.getD (up k) default).pt p) ?_);refine aB (Place (c.aZ.getD k default)) (aB (Place (c.aZ.getD (up k) default)) ?_);refine aB (fq (c.aZ.getD k default).pt (c.aZ.getD (up k) default).pt) (aD ?_);repeat refine aR ?_
 have ed:pd (c.aZ.getD k default).pt (c.aZ.getD (up k) default).pt p=nT (c.aZ.getD k default).pt (c.aZ.getD (k+1) default).pt p:=by rw[eup];exact d1
 have es:pd (c.aZ.getD k default).pt (c.aZ.getD (up k) default).pt (c.aZ.getD (up k) default).pt=nT (c.aZ.getD k default).pt (c.aZ.getD (k+1) default).pt (c.aZ.getD (k+1) default).pt:=by rw[eup];exact s1
 rw[ed,es];apply aI<;>intro h
 ·exact VP (by unfold FI wh;rw[h];rfl) (by unfold FI wh;rw[h];rfl)
 have h:(decide (nT (c.aZ.getD k default).pt (c.aZ.getD (k+1) default).pt p<0)||decide (nT (c.aZ.getD k default).pt (c.aZ.getD (k+1) default).pt p>nT (c.aZ.getD k default).pt (c.aZ.getD (k+1) default).pt (c.aZ.getD (k+1) default).pt))=false:=h;have h':=h;simp only[wc,ic]at h';refine aB (Place (c.aZ.getD k default)) (aB (Place (c.aZ.getD (up k) default)) ?_);refine aB (ydX (c.aZ.getD k default).pt (c.aZ.getD (up k) default).pt p ha (by rw[eup];exact hb) hp (by rw[eup];exact JW)) ?_;refine aB (Gw _ _ O) (aB (Gw _ _ O) ?_);refine aD ?_;refine VQ (p:=Bw (aZ c k) (aZ c (k+1)) p) (l:=true) (by unfold FI wh;rw[h];rfl) (by unfold FI wh;rw[h];rfl) ?_ ?_ ?_ ?_ ?_
 ·exact Za (Va dI (by rw[eup];rfl))
 ·refine Za (Va dI ?_);simp only[eu,mf];exact ybF (U:=100000) s4 O O O O O O O O O
 ·refine Za (Va dI ?_);simp only[eu,mf];exact ybF (U:=20000) s4 O O O O O O O O O
 ·exact Ka _
 exactλ_ _ r=>r
def yed(c:kE)(p:Pt):aF prog 245 [chan c,vI 0,pt p] (pj none):=by
 refine eP func245 rfl rfl call245 rfl rfl λR J=>?_
 repeat refine aR ?_
 refine bR (yd c) ?_;repeat refine aR ?_
 refine aI (λh=>VP rfl rfl) (λh=>?_)
 cases h
def yep(c:kE)(j:Nat)(p:Pt)(hv:Qf c)(hk:j+2<c.aZ.length)(hp:fB p=true):aF prog 245 [chan c,vI ((j+1:Nat):Int),pt p] (pj (vZ c j p)):=by
 have hn:=hv.n20;have ha:=hv.w9 j O;have hq:=hv.w9 (j+1) O;have hb:=hv.w9 (j+2) hk;obtain⟨d1,_,_⟩:=AL ha hq hp;obtain⟨s1,_,_⟩:=AL ha hq hq;obtain⟨e1,_,_⟩:=AL hq hb hp;have em:aW (((j+1:Nat):Int)-1)=(j:Int):=by rw[aG O O];omega
 have ep:aW (((j+1:Nat):Int)+1)=((j+2:Nat):Int):=by rw[aG O O];omega
 have el:aW ((c.aZ.length:Int)-1)=(c.aZ.length:Int)-1:=aG O O;have om:(aW (((j+1:Nat):Int)-1)).toNat=j:=by rw[em];rfl
 have op:(aW (((j+1:Nat):Int)+1)).toNat=j+2:=by rw[ep];rfl
 refine eP func245 rfl rfl call245 rfl rfl λR J=>?_
 repeat refine aR ?_
 refine bR (yd c) ?_;repeat refine aR ?_
 refine aI (λh=>?_) (λ_=>?_)
 ·exfalso;have h:(decide (((j+1:Nat):Int)<1)||decide (((j+1:Nat):Int)>=aW ((c.aZ.length:Int)-1)))=true:=h;rw[el]at h;simp at h;omega
 refine oi (by show 0<=aW (((j+1:Nat):Int)-1)/\aW (((j+1:Nat):Int)-1)<_;rw[em];exact Ia) ?_;refine aB (Place (c.aZ.getD (aW (((j+1:Nat):Int)-1)).toNat default)) (oi Ia ?_);refine aB (Place (aZ c (j+1))) ?_;refine oi (by show 0<=aW (((j+1:Nat):Int)+1)/\aW (((j+1:Nat):Int)+1)<_;rw[ep];exact Ia) ?_;refine aB (Place (c.aZ.getD (aW (((j+1:Nat):Int)+1)).toNat default)) (aD ?_);refine aB (Qp (c.aZ.getD (aW (((j+1:Nat):Int)-1)).toNat default).pt (aZ c (j+1)).pt p) (aB (fq (c.aZ.getD (aW (((j+1:Nat):Int)-1)).toNat default).pt (aZ c (j+1)).pt) ?_);repeat refine aR ?_
 refine bR (Qp (aZ c (j+1)).pt (c.aZ.getD (aW (((j+1:Nat):Int)+1)).toNat default).pt p) ?_;repeat refine aR ?_
 refine aD ?_;have key:(decide (pd (c.aZ.getD (aW (((j+1:Nat):Int)-1)).toNat default).pt (aZ c (j+1)).pt p<=pd (c.aZ.getD (aW (((j+1:Nat):Int)-1)).toNat default).pt (aZ c (j+1)).pt (aZ c (j+1)).pt)||decide (pd (aZ c (j+1)).pt (c.aZ.getD (aW (((j+1:Nat):Int)+1)).toNat default).pt p>=0))=(decide (nT (aZ c j).pt (aZ c (j+1)).pt p<=nT (aZ c j).pt (aZ c (j+1)).pt (aZ c (j+1)).pt)||decide (nT (aZ c (j+1)).pt (aZ c (j+2)).pt p>=0)):=by rw[om,op,d1,s1,e1]
 apply aI<;>intro h
 ·have h:=key.symm.trans h;exact VP (by unfold vZ R5;rw[h];rfl) (by unfold vZ R5;rw[h];rfl)
 have h:=key.symm.trans h;refine aB (ydE (aZ c (j+1)).pt p hq hp) (oi Ia ?_);refine oi Ia (oi Ia ?_);refine aD ?_;refine VQ (p:=⟨span (aZ c (j+1)).pt p,(aZ c (j+1)).half,(aZ c (j+1)).level,(aZ c (j+1)).run⟩) (l:=true) (by unfold vZ R5;rw[h];rfl) (by unfold vZ R5;rw[h];rfl) ?_ ?_ ?_ ?_ ?_
 ·exact Ka _
 ·exact Ka _
 ·exact Ka _
 ·exact Ka _
 exactλ_ _ r=>r
def ycZ(c:kE)(k:Nat)(p:Pt)(hv:Qf c)(hk:k+1<c.aZ.length)(hp:fB p=true):aF prog 245 [chan c,vI k,pt p] (pj (ij c k p)):=by
 cases k with
 |zero=>exact yed c p
 |succ j=>exact yep c j p hv hk hp
def holds(c:kE)(p:Pt)(hv:Qf c)(hp:fB p=true):aF prog 183 [chan c,pt p] (.s (.d (RM (Me c p (c.aZ.length-1))))):=by
 have h2:=hv.n2;have h20:=hv.n20;have el:aW ((c.aZ.length:Int)-1)=(c.aZ.length:Int)-1:=aG O O;refine eP func183 rfl rfl call183 rfl rfl λR J=>?_
 refine mb (λi:Nat=>⟨[(2,.s (.ptr 2 0)),(3,.s (.ptr 3 0)),(5,.s (.mo (Me c p i).isEmpty 100)),(6,vI i)],[(2,some (IT c)),(3,some (Bh p)),(100,some (.b8 274 (Me c p i).length 4 (vR (Me c p i))))]⟩)
  (λi=>i<=c.aZ.length-1) (λi=>c.aZ.length-1-i) 0 (Oa _) ?_ ?_
 ·exact La J [(100,1000)] rfl ⟨bQ,bQ,⟨rfl,rfl⟩,oO⟩ ⟨Z,Z,⟨rfl,Jd rfl⟩,Ga⟩
 intro i hi;have hlen:=iw c p i;have hs:=ybi c p i;refine eX J (aB (yd c) ?_);apply aI<;>intro h
 ·have h:(i:Int)<aW ((c.aZ.length:Int)-1):=bG h;rw[el]at h;have ew:aW ((i:Int)+1)=((i+1:Nat):Int):=aG O O;refine aB (yeA c i p hv O hp) (aI (λh1=>?_) (λh1=>?_))
  ·have h1:(FI c i p).isSome=true:=h1;rw[toList_some h1]at hs;apply ob dC;refine ob (by rw[dK];show _*32<=_;omega) ?_;refine ob (nJ (Jg rfl rfl rfl rfl)) (aB (ycZ c i p hv O hp) ?_);apply aI<;>intro h2
   ·have h2:(ij c i p).isSome=true:=h2;rw[toList_some h2,<-List.append_assoc]at hs;refine ob (by rw[dK];show _*32<=_;omega) ?_;refine ob (nJ (Jg rfl rfl rfl rfl)) ⟨i+1,O,O,?_⟩;refine La J [(100,40)] rfl ⟨bQ,bQ,⟨rfl,?_⟩,oO⟩ ⟨Z,Z,⟨rfl,Oc ?_⟩,⟨rfl,Ra ew⟩,oO⟩
    ·show aY _ (.b8 274 (Me c p (i+1)).length 4 (vR (Me c p (i+1))));rw[hs];exact Om (el:=XY) (oh (oh Cs (Jg rfl rfl rfl rfl)) (Jg rfl rfl rfl rfl))
    rw[hs];exact cA _ _
   have h2:(ij c i p).isSome=false:=h2;rw[toList_none h2,Ad]at hs;refine⟨i+1,O,O,?_⟩;refine La J [(100,28)] rfl ⟨bQ,bQ,⟨rfl,?_⟩,oO⟩ ⟨Z,Z,⟨rfl,Oc ?_⟩,⟨rfl,Ra ew⟩,oO⟩
   ·show aY _ (.b8 274 (Me c p (i+1)).length 4 (vR (Me c p (i+1))));rw[hs];exact Om (el:=XY) (oh Cs (Jg rfl rfl rfl rfl))
   rw[hs];exact cA _ _
  have h1:(FI c i p).isSome=false:=h1;rw[toList_none h1,Fh]at hs;refine aB (ycZ c i p hv O hp) (aI (λh2=>?_) (λh2=>?_))
  ·have h2:(ij c i p).isSome=true:=h2;rw[toList_some h2]at hs;apply ob dC;refine ob (by rw[dK];show _*32<=_;omega) ?_;refine ob (nJ (Jg rfl rfl rfl rfl)) ⟨i+1,O,O,?_⟩;refine La J [(100,40)] rfl ⟨bQ,bQ,⟨rfl,?_⟩,oO⟩ ⟨Z,Z,⟨rfl,Oc ?_⟩,⟨rfl,Ra ew⟩,oO⟩
   ·show aY _ (.b8 274 (Me c p (i+1)).length 4 (vR (Me c p (i+1))));rw[hs];exact Om (el:=XY) (oh Cs (Jg rfl rfl rfl rfl))
   rw[hs];exact cA _ _
  have h2:(ij c i p).isSome=false:=h2;rw[toList_none h2,Ad]at hs;refine⟨i+1,O,O,?_⟩;refine La J [] rfl ⟨bQ,bQ,⟨rfl,Tb (by rw[hs];rfl)⟩,oO⟩ ⟨Z,Z,⟨rfl,Ob (by rw[hs];rfl)⟩,⟨rfl,Ra ew⟩,oO⟩
 have h:¬(i:Int)<aW ((c.aZ.length:Int)-1):=bF h;rw[el]at h;have bC:i=c.aZ.length-1:=O;subst bC;exact Li
def ydU(c:kE)(p:Pt)(hv:Qf c)(hp:fB p=true):aF prog 116 [chan c,pt p] (Vp (UI c p)):=by
 have hlen:(Me c p (c.aZ.length-1)).length<=40:=by have:=hv.n20;have:=iw c p (c.aZ.length-1);omega
 rw[<-ycB c p hv.n2];refine eP func116 rfl rfl call116 rfl rfl λR J=>aB (holds c p hv hp) ?_
 generalize Me c p (c.aZ.length-1)=l at hlen;refine mb (λi:Nat=>⟨[(7,vI (FL (l.take i)).1),(8,vB (FL (l.take i)).2),(6,.s (.d (RM l))),(9,vI i)],[]⟩) (λi=>i<=l.length) (λi=>l.length-i) 0 (Oa _) (La J [] rfl trivial ⟨Z,⟨rfl,Wm rfl⟩,Ga⟩) ?_;intro i hi;apply eX J;apply aI<;>intro h
 ·have h:(i:Int)<l.length:=bG h;have bC:i<l.length:=O;have ew:aW ((i:Int)+1)=((i+1:Nat):Int):=aG O O;have jO:=XA bC;refine oi Ia (aB (Level (l.getD i default).offset (l.getD i default).half (l.getD i default).rA (l.getD i default).run) ?_);repeat refine aR ?_
  apply aI<;>intro h'
  ·have h':((TG (l.getD i default)).2&&(!(FL (l.take i)).2||decide ((TG (l.getD i default)).1<(FL (l.take i)).1)))=true:=h';unfold OX at jO;rw[h']at jO;refine⟨i+1,O,O,?_⟩;exact La J [] rfl trivial ⟨⟨rfl,Ra (by rw[jO];rfl)⟩,⟨rfl,Wm (by rw[jO];rfl)⟩,Z,⟨rfl,Ra ew⟩,oO⟩
  have h':((TG (l.getD i default)).2&&(!(FL (l.take i)).2||decide ((TG (l.getD i default)).1<(FL (l.take i)).1)))=false:=h';unfold OX at jO;rw[h']at jO;refine⟨i+1,O,O,?_⟩;exact La J [] rfl trivial ⟨⟨rfl,Ra (by rw[jO];rfl)⟩,⟨rfl,Bp (by rw[jO];rfl)⟩,Z,⟨rfl,Ra ew⟩,oO⟩
 have h:¬(i:Int)<l.length:=bF h;have bC:i=l.length:=O;subst bC;exact Ja (by rw[Ec];rfl)
def ycI(l:List Int)(hl:l.length<=1000000):bW prog 74 [iR l] [] (.s (.own 5)) [(5,.row 3 l.length 1 (cP l))]:=by
 refine eG (rc:=[]) (N:=6) func74 rfl rfl call74 aJ mix rfl rfl rfl rfl (λR _=>?_);refine ob (show(0+l.length)*8<=_ by omega) (ob ?_ ?_)
 ·exactλk j hk hj=>rfl
 refine⟨Sa,?_,oO⟩;show some (some (jK.row 3 (0+l.length) 1 (jM 0 _ (cP l))))=_;rw[Uc,aNN]
def ycH(g:eZ)(hl:g.levels.length<=1000000):bW prog 66 [rK g] [] (.g [.d (dI g.x),.d (dI g.y),.d (dI g.side),.d (dI g.dO),.d (dI g.rows),.own 501]) [(501,.row 3 g.levels.length 1 (cP g.levels))]:=by refine eG (rc:=[74]) (N:=8) func66 rfl rfl call66 aJ mix rfl rfl rfl rfl (λR _=>?_);exact⟨[(5,501)],_,_,_,_,ycI g.levels hl,rfl,trivial,rfl,⟨Sa,rfl,oO⟩⟩
def ybj(c:kE)(g:eZ)(less:Int)(hv:Qf c)(hg:FO g):aF prog 62 [chan c,rK g,vI less] (rK (mM c g less)):=by
 have hn:=hg.n;refine gI (rc:=[66]) (N:=41) func62 rfl rfl call62 aJ mix rfl rfl (λR J=>?_);refine⟨[(501,601)],_,_,_,_,ycH g O,rfl,trivial,rfl,?_⟩;refine mb (λi:Nat=>⟨[(2,vI less),(3,.s (.ptr 3 0)),(4,.s (.ptr 4 0)),(6,.s (.ptr 6 0)),(7,.s (.ptr 7 0)),(8,vI i)],
   [(3,some (IT c)),(4,some (Iq g)),(6,some (.cells [.d (dI 0),.d (dI 0),.d (dI 0),.d (dI 0),.d (dI 0),.d (.val (.slice none 0 0))])),(7,some (.cells [.d (dI g.x),.d (dI g.y),.d (dI g.side),.d (dI g.dO),.d (dI g.rows),.own 601])),(601,some (.row 3 g.levels.length 1 (Sl c g less i)))]⟩)
  (λi=>i<=g.levels.length) (λi=>g.levels.length-i) 0 (Oa _) ?_ ?_
 ·exact La J [] rfl ⟨bQ,bQ,bQ,bQ,⟨rfl,Zb rfl λk j _ _=>Ka _⟩,oO⟩ Ga
 intro i hi;refine Nb (rc:=[66]) aJ mix J _ (aI (λh=>?_) (λh=>?_))
 ·have h:(i:Int)<g.levels.length:=bG h;have bC:i<g.levels.length:=O;have hgd:=(RY hg bC).1;refine aB (pv g i (by have:=hg.dO;omega)) ?_;refine aB (ydU c (dP g i) hv hgd) (aD ?_);refine oi Ia (ob bC ?_);apply aI<;>intro h2
  ·have h2:(UI c (dP g i)).2=true:=h2;have e:L0 c g less i=aW ((UI c (dP g i)).1-less):=by unfold L0;rw[h2];rfl
   refine oi Ia (ob bC ?_);refine⟨i+1,O,O,?_⟩;refine La J [] rfl ⟨bQ,bQ,bQ,bQ,⟨rfl,Zb rfl λk j hk hj=>Za ?_⟩,oO⟩ Ga;have hj:j=0:=by have:j<1:=hj;omega
   subst hj;by_cases ON:k=i
   ·subst ON;apply oP.trans;unfold Sl;rw[Qa (Ei _),e]
   refine(tG ON).trans ((tG ON).trans ?_);unfold Sl;by_cases fZ:k<i
   ·rw[Qa fZ,Qa O]
   rw[Ma fZ,Ma O]
  have h2:(UI c (dP g i)).2=false:=h2;have e:L0 c g less i=30000:=by unfold L0;rw[h2];rfl
  refine⟨i+1,O,O,?_⟩;refine La J [] rfl ⟨bQ,bQ,bQ,bQ,⟨rfl,Zb rfl λk j hk hj=>Za ?_⟩,oO⟩ Ga;have hj:j=0:=by have:j<1:=hj;omega
  subst hj;by_cases ON:k=i
  ·subst ON;apply oP.trans;unfold Sl;rw[Qa (Ei _),e]
  refine(tG ON).trans ?_;unfold Sl;by_cases fZ:k<i
  ·rw[Qa fZ,Qa O]
  rw[Ma fZ,Ma O]
 have h:¬(i:Int)<g.levels.length:=bF h;have bC:i=g.levels.length:=O;subst bC;refine Bf ⟨Ka _,Ka _,Ka _,Ka _,Ka _,Je (by simp[mM]) λk j hk hj=>Za ?_,oO⟩;unfold Sl cP;rw[Qa hk];congr 2;simp[mM,hk]
def ydW(l:List Pt)(p:Pt)(h3:3<=l.length)(h40:l.length<=40):aF prog 117 [w9 l,pt p] (vI (Gg l p)):=by
 have fJ:l≠[]:=by rintro rfl;cases h3
 have hpc:∀i,i<l.length->qB l i=sI l i:=λi hi=>by show l.getD (i%l.length) default=l.getD i default;rw[Jh hi]
 refine eP func117 rfl rfl call117 rfl rfl λR J=>mb (λi:Nat=>⟨[(0,w9 l),(3,.s (.ptr 3 0)),(5,vB (Dc (Xf l p) i)),(6,vI i)],[(3,some (Bh p))]⟩) (λi=>i<=l.length/\∀j,j<i->Wg l p j=false) (λi=>l.length-i) 0 ⟨Oa _,λj hj=>absurd hj (Cc j)⟩ (La J [] rfl Ga ⟨Z,Z,⟨rfl,Wm rfl⟩,Ga⟩) ?_
 rintro i ⟨hi,hj⟩;apply eX J;apply aI<;>intro h
 ·have h:(i:Int)<l.length:=bG h;have bC:i<l.length:=O;have e1:aW ((i:Int)+1)=((i+1:Nat):Int):=aG O O;have c1:aF prog 185 [w9 l,vI i] (pt (sI l i)):=by rw[<-hpc i bC];exact IM l i fJ
  have c2:aF prog 185 [w9 l,vI (aW ((i:Int)+1))] (pt (qB l (i+1))):=by rw[e1];exact IM l (i+1) fJ
  refine aB c1 (aB c2 ?_);refine aB (yV (sI l i) (qB l (i+1)) p) (aI (λh2=>?_) (λh2=>?_))
  ·have h2:Wg l p i=true:=h2;have e:Gg l p=0:=by unfold Gg;rw[eI bC h2];rfl
   rw[e];exactλ_ _ r=>r
  have h2:Wg l p i=false:=h2;have qR:∀j,j<i+1->Wg l p j=false:=λj qR=>by
   by_cases y7:j=i
   ·rw[y7];exact h2
   exact hj j O
  repeat refine aR ?_
  refine bR (OJ (sI l i) (qB l (i+1)) p) ?_;repeat refine aR ?_
  refine aD ?_;apply aI<;>intro h3
  ·have h3:Xf l p i=true:=h3;have e:Dc (Xf l p) (i+1)= !Dc (Xf l p) i:=by rw[Dc,h3];cases Dc (Xf l p) i <;> rfl
   exact⟨i+1,⟨O,qR⟩,O,La J [] rfl Ga ⟨Z,Z,⟨rfl,Bp e.symm⟩,⟨rfl,Ra e1⟩,oO⟩⟩
  have h3:Xf l p i=false:=h3;have e:Dc (Xf l p) (i+1)=Dc (Xf l p) i:=by rw[Dc,h3];cases Dc (Xf l p) i <;> rfl
  exact⟨i+1,⟨O,qR⟩,O,La J [] rfl Ga ⟨Z,Z,⟨rfl,Bp e.symm⟩,⟨rfl,Ra e1⟩,oO⟩⟩
 have h:¬(i:Int)<l.length:=bF h;obtain rfl:i=l.length:=O;have ea:zD l.length (Wg l p)=false:=oK hj;apply aI<;>intro h2
 ·have h2:Dc (Xf l p) l.length=true:=h2;have e:Gg l p=1:=by unfold Gg;rw[ea,h2];rfl
  rw[e];exactλ_ _ r=>r
 have h2:Dc (Xf l p) l.length=false:=h2;have e:Gg l p= -1:=by unfold Gg;rw[ea,h2];rfl
 rw[e];exactλ_ _ r=>r
def yd0(g:eZ)(l:List Pt)(gv:FO g)(h3:3<=l.length)(h40:l.length<=40):aF prog 64 [rK g,w9 l] (iR (Kc g l g.levels.length)):=by
 have hn:=gv.n;refine eP func64 rfl rfl call64 rfl rfl λR J=>?_
 refine mb (λi:Nat=>⟨[(1,w9 l),(2,.s (.ptr 2 0)),(5,.s (.mo (Kc g l i).isEmpty 100)),(6,vI i)],
   [(2,some (Iq g)),(100,some (.b8 3 (Kc g l i).length 1 (cP (Kc g l i))))]⟩)
  (λi=>i<=g.levels.length) (λi=>g.levels.length-i) 0 (Oa _) ?_ ?_
 ·exact La J [(100,1000)] rfl ⟨bQ,⟨rfl,rfl⟩,oO⟩ ⟨Z,Z,⟨rfl,Jd rfl⟩,Ga⟩
 intro i hi;have hlen:=Sp g l i;apply eX J;apply aI<;>intro h
 ·have h:(i:Int)<g.levels.length:=bG h;have bC:i<g.levels.length:=O;refine aB (pv g i (by have:=gv.dO;omega)) ?_;refine aB (ydW l (dP g i) h3 h40) (aI (λh2=>?_) (λh2=>?_))
  ·have h2:Zi g l i=true:=h2;have e:Kc g l (i+1)=Kc g l i++ [(i:Int)]:=by rw[Kq,h2];rfl
   apply ob dC;refine ob (by rw[dK];show _*8<=_;omega) ?_;refine ob (nJ (AS rfl)) ⟨i+1,O,O,?_⟩;refine La J [(100,23)] rfl ⟨bQ,⟨rfl,?_⟩,oO⟩ ⟨Z,Z,⟨rfl,Oc ?_⟩,Ga⟩
   ·show aY _ (.b8 3 (Kc g l (i+1)).length 1 (cP (Kc g l (i+1))));rw[e];exact Om (el:=λx _=>dI x) (oh ycP (AS rfl))
   rw[e];exact cA _ _
  have h2:Zi g l i=false:=h2;have e:Kc g l (i+1)=Kc g l i:=by rw[Kq,h2];rfl
  refine⟨i+1,O,O,?_⟩;exact La J [] rfl ⟨bQ,⟨rfl,Tb (by rw[e];rfl)⟩,oO⟩ ⟨Z,Z,⟨rfl,Ob (by rw[e];rfl)⟩,Ga⟩
 have h:¬(i:Int)<g.levels.length:=bF h;obtain rfl:i=g.levels.length:=O;exact Li
end Go.Ch
namespace Go.Pj
open Go Go.Ax Go.Ch Go.Proofs Go.Proofs.Tryz
def ee(f:fS->Int)(l:List fS):Nat->Nat×Int
 |0=>(0,0)
 |i+1=>bif i==0||decide (f (l.getD i default)<(ee f l i).2)then(i,f (l.getD i default))else ee f l i
def Zd(p:Pt)(b:fS):Int:=pd p (Uf b) (Uf b)
abbrev yev(g:Ground):jK:=.cells [.d (kV g.bK),.d (pN g.cC)]
def ydt(g:Ground)(p:Pt)(hl:g.cC.length<=9223372036854775807):aF prog 182 [T7 g,pt p] (vI (ee (Zd p) g.cC g.cC.length).1):=by
 refine eP func182 rfl rfl call182 rfl rfl λR J=>mb (λi:Nat=>⟨[(2,.s (.ptr 2 0)),(3,.s (.ptr 3 0)),(5,vI (ee (Zd p) g.cC i).1),(6,vI (ee (Zd p) g.cC i).2),(7,vI i)],[(2,some (yev g)),(3,some (Bh p))]⟩) (λi=>i<=g.cC.length) (λi=>g.cC.length-i) 0 (Oa _) (La J [] rfl Ga Ga) ?_
 intro i hi;apply eX J;apply aI<;>intro h
 ·have h:(i:Int)<g.cC.length:=bG h;refine oi Ia (oi Ia ?_);refine aB (fq p (Uf (g.cC.getD i default))) (aD ?_);have ez:(((i:Nat):Int)==0)=(i==0):=by rw[He];simp
  repeat refine aR ?_
  apply aI<;>intro h2
  ·have h2:(((i:Nat):Int)==0||decide (Zd p (g.cC.getD i default)<(ee (Zd p) g.cC i).2))=true:=h2;rw[ez]at h2;have e:ee (Zd p) g.cC (i+1)=(i,Zd p (g.cC.getD i default)):=by rw[ee,h2];rfl
   refine⟨i+1,O,O,?_⟩;exact La J [] rfl Ga ⟨Z,Z,⟨rfl,Ra (by rw[e])⟩,⟨rfl,Ra (by rw[e];rfl)⟩,Ga⟩
  have h2:(((i:Nat):Int)==0||decide (Zd p (g.cC.getD i default)<(ee (Zd p) g.cC i).2))=false:=h2;rw[ez]at h2;have e:ee (Zd p) g.cC (i+1)=ee (Zd p) g.cC i:=by rw[ee,h2];rfl
  exact⟨i+1,O,O,La J [] rfl Ga ⟨Z,Z,⟨rfl,Ra (by rw[e])⟩,⟨rfl,Ra (by rw[e])⟩,Ga⟩⟩
 have h:¬(i:Int)<g.cC.length:=bF h;obtain rfl:i=g.cC.length:=O;exact pb _
def yc4{l:List fS}{p:Pt}(hp:fB p=true)(hl:∀b∈l,fB (Uf b)=true):∀i,i<=l.length->ee (Zd p) l i=PT l p i
 |0,_=>rfl
 |i+1,h=>by
  have hb:=hl _ (bP (show i<l.length by omega));have e:Zd p (l.getD i default)=Ah (Uf (l.getD i default)) p:=by unfold Zd Ah;rw[show([Uf (l.getD i default),p].any λp=> !fB p)=false by show(!fB (Uf (l.getD i default))||(!fB p||false))=false;rw[hb,hp];rfl,Wa];rw[(AL hp hb hb).1,(AL hb hp hp).1];unfold nT;grind
  rw[ee,PT,yc4 hp hl i O,e]
def ydT(g:Ground)(p:Pt)(hi lo:Int)(fZ:(ee (Zd p) g.cC g.cC.length).1<g.cC.length)(hl:g.cC.length<=9223372036854775807)(hy:(g.cC.getD (ee (Zd p) g.cC g.cC.length).1 default).bB.length<=1000000):
  aF prog 113 [T7 g,pt p,vI hi,vI lo] (iC (nL (g.cC.getD (ee (Zd p) g.cC g.cC.length).1 default).bB hi lo (g.cC.getD (ee (Zd p) g.cC g.cC.length).1 default).bB.length)):=by
 refine eW func113 rfl rfl call113 rfl rfl (λR J=>?_)
 apply sX J
 apply sX J
 refine aB (ydt g p hl) ?_
 apply oi Ia
 refine aD ?_
 generalize hL:(g.cC.getD (ee (Zd p) g.cC g.cC.length).1 default).bB=L at hy
 refine Gb (I':=⟨[(2,vI hi),(3,vI lo),(9,AZ L)],[]⟩) (La J [] rfl trivial ⟨Z,Z,⟨rfl,Ob (by rw[<-hL];rfl)⟩,oO⟩) ?_
 apply sX J
 refine Ta (sX J ?_)
 apply Xa
 refine mb (λi:Nat=>⟨[(2,vI hi),(3,vI lo),(9,AZ L),(10,.s (.mo (nL L hi lo i).isEmpty 100)),(11,vI i)],[(100,some (.b8 138 (nL L hi lo i).length 3 (vR (nL L hi lo i))))]⟩) (λi=>i<=L.length) (λi=>L.length-i) 0 (Oa _) ?_ ?_
 ·exact La J [(100,1000)] rfl ⟨⟨rfl,rfl⟩,oO⟩ ⟨Z,Z,Z,⟨rfl,Jd rfl⟩,Ga⟩
 ·intro i bC;have hlen:=RU L hi lo i;have fN:=ZC L hi lo i;refine Ta (sX J ?_);refine ab (aI (λh=>tb ?_) (λh=>tc ?_))
  ·have h:(i:Int)<L.length:=bG h;have e1:aW ((i:Int)+1)=((i+1:Nat):Int):=aG O O;refine Ta (Xa ?_);refine sX J (sc (I':=⟨[(2,vI hi),(3,vI lo),(9,AZ L),(10,.s (.mo (nL L hi lo i).isEmpty 100)),(11,vI i),(12,vI (C4 L hi i)),(13,vI lo)],[(100,some (.b8 138 (nL L hi lo i).length 3 (vR (nL L hi lo i))))]⟩) ?_ ?_)
   ·refine sX J (ab ?_);refine aI (λh1=>?_) (λh1=>tb ?_)
    ·have h1:decide ((i:Int)>0)=true:=h1;refine eX J (oi Ia ?_);exact⟨rfl,La J [] rfl Ga ⟨Z,Z,Z,Z,Z,⟨rfl,Ra (by unfold C4;rw[h1];rfl)⟩,Ga⟩⟩
    have h1:decide ((i:Int)>0)=false:=h1;exact⟨rfl,La J [] rfl Ga ⟨Z,Z,Z,Z,Z,⟨rfl,Ra (by unfold C4;rw[h1];rfl)⟩,Ga⟩⟩
   refine sc (I':=⟨[(2,vI hi),(3,vI lo),(9,AZ L),(10,.s (.mo (nL L hi lo i).isEmpty 100)),(11,vI i),(12,vI (C4 L hi i)),(13,vI (FM L lo i))],[(100,some (.b8 138 (nL L hi lo i).length 3 (vR (nL L hi lo i))))]⟩) ?_ ?_
   ·refine sX J (ab ?_);refine aI (λh1=>?_) (λh1=>tb ?_)
    ·have h1:decide (aW ((i:Int)+1)<(L.length:Int))=true:=h1;rw[e1]at h1;have JX:((i+1:Nat):Int)<L.length:=bG h1;apply eX J;refine oi (show 0<=aW ((i:Int)+1)/\aW ((i:Int)+1)<L.length by rw[e1];omega) ?_;have e1n:(aW ((i:Int)+1)).toNat=i+1:=by rw[e1];omega
     exact⟨rfl,La J [] rfl Ga ⟨Z,Z,Z,Z,Z,Z,⟨rfl,Ra (by unfold FM;rw[h1,<-e1n];rfl)⟩,oO⟩⟩
    have h1:decide (aW ((i:Int)+1)<(L.length:Int))=false:=h1;rw[e1]at h1;exact⟨rfl,La J [] rfl Ga ⟨Z,Z,Z,Z,Z,Z,⟨rfl,Ra (by unfold FM;rw[h1];rfl)⟩,oO⟩⟩
   refine sX J (ab ?_);refine aI (λh1=>?_) (λh1=>tb ?_)
   ·have h1:decide (C4 L hi i>FM L lo i)=true:=h1;have e:nL L hi lo (i+1)=nL L hi lo i++ [⟨(L.getD i default).aN,C4 L hi i,FM L lo i⟩]:=by rw[fN];unfold X8;rw[h1];rfl
    refine eX J (oi Ia ?_);apply ob dC;refine ob (by rw[dK];show((nL L hi lo i).length+1)*32<=_;omega) ?_;refine ob (nJ (Vl rfl rfl rfl)) (eX J ?_);refine⟨i+1,O,O,?_⟩;refine La J [(100,65)] rfl ⟨⟨rfl,?_⟩,oO⟩ ⟨Z,Z,Z,⟨rfl,Oc (by rw[e];exact cA _ _)⟩,⟨rfl,Ra e1⟩,oO⟩;show aY _ (.b8 138 (nL L hi lo (i+1)).length 3 (vR (nL L hi lo (i+1))));rw[e];refine Hd (el:=XY) (x:=⟨(L.getD i default).aN,C4 L hi i,FM L lo i⟩) (λc hc=>?_);have hc:c<3:=hc
    match c,hc with|0,_|1,_|2,_=>rfl
   have h1:decide (C4 L hi i>FM L lo i)=false:=h1;have e:nL L hi lo (i+1)=nL L hi lo i:=by rw[fN];unfold X8;rw[h1];exact Ad _
   refine eX J ⟨i+1,O,O,?_⟩;exact La J [] rfl ⟨⟨rfl,Tb (by rw[e];rfl)⟩,oO⟩ ⟨Z,Z,Z,⟨rfl,Ob (by rw[e];rfl)⟩,⟨rfl,Ra e1⟩,oO⟩
  have h:¬(i:Int)<L.length:=bF h;obtain rfl:i=L.length:=O;exact eX J Li
abbrev bh(p:Ua):List SV:=[.d (dI p.month),.d (dI p.cell),.d (dS p.aN),.d (dI p.iZ),.d (dI p.gV),.d (dI p.load),.d (dS p.dN)]
def Sg(x:Ua)(v:Int)(f:Fact):Ua:=⟨x.month,x.cell,x.aN,v,mm false v x.gV,f.number,f.dN⟩
def Ud(x:Ua)(v:Int):Ua:=⟨x.month,x.cell,x.aN,aW (x.iZ-v),aW (x.gV-mm false v x.gV),x.load,x.dN⟩
def yeg(x:Ua)(v:Int)(f:Fact):aF prog 60 [Oq x,vI v,pX f] (.t [.g (bh (Sg x v f)),.g (bh (Ud x v))]):=by
 refine eP func60 rfl rfl call60 rfl rfl λR J=>aD (aD ?_)
 exact aD (aD (pb _))
open Go Go.Ax Go.Ch Go.Proofs Go.Proofs.Tryz Go.Sort Go.Shelf
def ydi(a:Int)(w:Ba):Calls prog 223 #[.int .i64 a] w λe w'=>e=.returned (.bool false)/\w'=w:=by go_enter func223,Tryz.ntmps223;go_wp2;go_ret;exact⟨rfl,rfl⟩
def yd7(a b:Int)(w:Ba):Calls prog 149 #[.int .i64 a,.int .i64 b] w λe w'=>e=.returned (.int .i64 (bf a b))/\w'=w:=by
 have hc:=λa w'=>ydi a w'
 go_enter func149,Tryz.ntmps149;go_wp2_with (first|(go_at_fn 223;refine(hc _ _).mono ?_;rintro e w' ⟨rfl,rfl⟩));refine(hc _ _).mono ?_;rintro e w' ⟨rfl,rfl⟩;go_wp2_with (first|(go_at_fn 223;refine(hc _ _).mono ?_;rintro e w' ⟨rfl,rfl⟩));refine(hc _ _).mono ?_;rintro e w' ⟨rfl,rfl⟩;go_wp2;all_goals go_ret
 all_goals (refine⟨?_,rfl⟩;unfold bf)
 all_goals first
  |(rw[Qa (by assumption)];rfl)
  |(rw[Ma O,Qa (by assumption)];rfl)
  |(rw[Ma O,Ma O];rfl)
def yel(a b:Int)(g cap:Nat)(w:Ba)(h0:w.cell? ⟨g,0,none⟩=some (.int .i64 a))(h1:w.cell? ⟨g,1,none⟩=some (.int .i64 b)):
  Calls prog 148 #[.slice (some ⟨g,0,none⟩) 2 cap] w λe w'=>e=.returned (.int .i64 (Ql a b))/\w'=w:=by
 go_enter func148,Tryz.ntmps148
 go_wp2_with fail
 go_rounds 3
 all_goals go_ret
 all_goals (refine⟨?_,rfl⟩;unfold Ql)
 ·rename_i hz;rw[hz];rfl
 ·rename_i hz;rw[show(a !=0)=false by assumption,hz];rfl
 ·rw[show(a !=0)=false by assumption,show(b !=0)=false by assumption];rfl
def yem(a b:Int)(w:Ba)(o1 o2:Obj):
  Calls prog 148 #[.slice (some ⟨w.heap.size+1+1,0,none⟩) 2 2] (((w.alloc o1).alloc o2).alloc (.cells #[.int .i64 a,.int .i64 b] 3)).drew λe w'=>e=.returned (.int .i64 (Ql a b))/\w'=(((w.alloc o1).alloc o2).alloc (.cells #[.int .i64 a,.int .i64 b] 3)).drew:=
 by
 have hs:((w.alloc o1).alloc o2).heap.size=w.heap.size+1+1:=by show(Array.push (Array.push w.heap o1) o2).size=_;rw[Array.size_push,Array.size_push]
 have hh:((((w.alloc o1).alloc o2).alloc (.cells #[.int .i64 a,.int .i64 b] 3)).drew).heap[w.heap.size+1+1]? =some (.cells #[.int .i64 a,.int .i64 b] 3):=by rw[<-hs];exact pf ((w.alloc o1).alloc o2) _
 exact yel a b _ _ _ (by simp only[World.cell?,hh];rfl) (by simp only[World.cell?,hh];rfl)
def yd6(m1 n1 m2 n2:Int)(w:Ba)(v0 v1 v2 v5 v6 v7 v8 v9 v10 v11 v12 u0 u1 u2 u5 u6 u7 u8 u9 u10 u11 u12:Aa):
  Calls prog 147 #[.agg #[v0,v1,v2,.int .i64 m1,.int .i64 n1,v5,v6,v7,v8,v9,v10,v11,v12],.agg #[u0,u1,u2,.int .i64 m2,.int .i64 n2,u5,u6,u7,u8,u9,u10,u11,u12]] w λe w'=>
   e=.returned (.int .i64 (Ql (bf m1 m2) (bf n1 n2)))/\∃q os',w'=grow (w.drewN q) os':=by
 have hc:=λa b w'=>yd7 a b w'
 have ho:=yem (bf m1 m2) (bf n1 n2) w (.cells #[v0,v1,v2,.int .i64 m1,.int .i64 n1,v5,v6,v7,v8,v9,v10,v11,v12] 66) (.cells #[u0,u1,u2,.int .i64 m2,.int .i64 n2,u5,u6,u7,u8,u9,u10,u11,u12] 66)
 go_enter func147,Tryz.ntmps147
 go_wp2_with fail
 go_region_with (first|(go_at_call 149;refine(hc _ _ _).mono ?_;rintro e w' ⟨rfl,rfl⟩)|(go_at_call 148;apply Calls.mono ho;intro e w1 V7;obtain⟨he,V7⟩:=V7;subst he))
 all_goals go_wp2
 all_goals (try go_ret)
 all_goals first
  |exact⟨rfl,1, #[.cells #[v0,v1,v2,.int .i64 m1,.int .i64 n1,v5,v6,v7,v8,v9,v10,v11,v12] 66,.cells #[u0,u1,u2,.int .i64 m2,.int .i64 n2,u5,u6,u7,u8,u9,u10,u11,u12] 66,.cells #[.int .i64 (bf m1 m2),.int .i64 (bf n1 n2)] 3],rfl⟩
  |exact⟨by simp[Act.put],1, #[.cells #[v0,v1,v2,.int .i64 m1,.int .i64 n1,v5,v6,v7,v8,v9,v10,v11,v12] 66,.cells #[u0,u1,u2,.int .i64 m2,.int .i64 n2,u5,u6,u7,u8,u9,u10,u11,u12] 66,.cells #[.int .i64 (bf m1 m2),.int .i64 (bf n1 n2)] 3],rfl⟩
  |exact⟨rfl,1, #[.cells #[v0,v1,v2,.int .i64 m1,.int .i64 n1,v5,v6,v7,v8,v9,v10,v11,v12] 66,.cells #[u0,u1,u2,.int .i64 m2,.int .i64 n2,u5,u6,u7,u8,u9,u10,u11,u12] 66,.cells #[.int .i64 (bf m1 m2),.int .i64 (bf n1 n2)] 3],V7.trans rfl⟩
def PV.val{p:Proj}(h:PV p):Qf p.chan:=aHP p.chan h.chan
def yba{l:List zP}:∀{n i:Nat},rT l n i=0->∀j,i<=j->j<i+n->pC (l.getD j default) (l.take j)=0
 |0,i,_,j,h1,h2=>by omega
 |n+1,i,h,j,h1,h2=>by
  rw[rT]at h;obtain⟨ha,hb⟩:=dU h;by_cases hj:j=i
  ·subst hj;exact ha
  exact yba hb j O O
def PV.yeb{p:Proj}(h:PV p){i:Nat}(hi:i<p.chan.Ya.length):lP (p.chan.Ya.getD i default).lS=0:=by have hc:=h.chan;unfold mU at hc;obtain⟨_,hc⟩:=dF dC hc;obtain⟨_,hc⟩:=dF dC hc;obtain⟨_,hc⟩:=dU hc;obtain⟨_,hc⟩:=dF dC hc;have hr:=yba hc i (Oa _) O;unfold pC at hr;obtain⟨_,hr⟩:=dF dC hr;obtain⟨_,hr⟩:=dF dC hr;obtain⟨_,hr⟩:=dF dC hr;exact hr
def PV.eS{p:Proj}(h:PV p){i:Nat}(hi:i<p.cU.length):0<=PG p.chan.Ya (p.cU.getD i default).name/\(p.cU.getD i default).due<=24:=by have hs:=h.cU;unfold rR at hs;obtain⟨_,hs⟩:=dF dC hs;have hr:=lQ hs i (Oa _) O;unfold qG at hr;obtain⟨h1,hr⟩:=dF dC hr;obtain⟨_,hr⟩:=dF dC hr;obtain⟨h3,hr⟩:=dF dC hr;simp only[ic]at h1;simp only[wc,Ih,within,fb,mc]at h3;omega
def yeu(des low:eZ)(i:Nat)(c d:Nat->DV)(hc:∀j,j<6->c j=lk des j)(hd:∀j,j<6->d j=lk low j)(h1:i<des.levels.length)(h2:i<low.levels.length):
  aF prog 102 [vI i,.s (.d (.rp 6 c)),.s (.d (.rp 6 d))] (vB (Xj des.levels low.levels i)):=by
 refine af (args:=[vI i,.s (.d (.rp 6 (lk des))),.s (.d (.rp 6 (lk low)))]) ?_ ⟨Ka _,od λj hj=>Za (hc j hj),od λj hj=>Za (hd j hj),oO⟩
 refine eP func102 rfl rfl call102 rfl rfl λR J=>?_
 apply oi Ia
 repeat refine aR ?_
 refine og (λ_=>Ia) ?_
 repeat refine aR ?_
 refine og (λ_=>Ia) ?_
 repeat refine aR ?_
 refine aD ?_
 exact pb _
def yc{g:eZ}{l:List Pt}{n:Nat}{x:Int}(h:x∈Kc g l n):0<=x/\x.toNat<n:=by
 unfold Kc at h;obtain⟨k,hk,hx⟩:=Ci.1 h;have hk:=Kh.1 hk
 cases hw:Zi g l k with
 |true=>rw[hw]at hx;cases hx;omega
 |false=>rw[hw]at hx;cases hx
def complete(p:Proj)(Y:List Fact)(x:zF)(low:eZ)(hp:p.fits)(hv:PV p)(h0:0<=PG p.chan.Ya x.name)(hl:low.levels.length=p.aT.levels.length):
  aF prog 55 [SR p Y,.g [.d (dS x.name),.d (dI x.due),.d (dI x.De)],rK low] (vB (Jl p x.name low)):=by
 have gv:=hv.gv
 have hn:=gv.n
 have hgok:=Hy gv
 have aCK:(PG p.chan.Ya x.name).toNat<p.chan.Ya.length:=(yN (λr:zP=>bE r.name x.name&&r.kind==0) p.chan.Ya 0 h0).2.1
 have hpoly:=hv.yeb aCK
 obtain⟨_,h40,_⟩:=Yt hpoly
 have hD:=ycb p.chan p.aT hp.chan hgok
 rw[hv.rK 0]at hD
 have hW:=ydO p.aT (Fg p x.name) hgok (by unfold Fg;omega)
 have hW':Dn p.aT (Fg p x.name)=(Kc p.aT (Fg p x.name) p.aT.levels.length,0):=by unfold Dn;rw[hv.aT,show lP (Fg p x.name)=0 from hpoly];rfl
 rw[hW']at hW
 have hwl:=Sp p.aT (Fg p x.name) p.aT.levels.length
 refine eW func55 rfl rfl call55 rfl rfl (λR J=>?_)
 apply sX J
 apply sX J
 apply aB hD
 apply sX J
 refine aB (aA5 p.chan x.name hp.Ya) ?_
 refine oi ⟨h0,O⟩ ?_
 apply aB hW
 refine aD ?_
 apply sX J
 refine aB (tZ (Kc p.aT (Fg p x.name) p.aT.levels.length) O 102 2 _ (λn=>Xj (ef p).levels low.levels n.toNat) (λn hm=>?_)) ?_
 ·obtain⟨m0,m1⟩:=yc hm;have e:n=((n.toNat:Nat):Int):=O;have:=yeu (ef p) low n.toNat (λj=>lk (ef p) j) (λj=>lk low j) (λ_ _=>rfl) (λ_ _=>rfl) (by rw[E6];exact m1) O;rw[<-e]at this;refine af this ⟨Ka _,od λj hj=>Za ?_,od λj hj=>Za ?_,oO⟩
  ·match j,hj with|0,_|1,_|2,_|3,_|4,_|5,_=>rfl
  match j,hj with|0,_|1,_|2,_|3,_|4,_|5,_=>rfl
 apply eX J
 exact pb _
def yeD(f:Fact)(s:wa)(m:Int)(c d:Nat->DV)(hc:c 0=dS s)(hd:d 0=dI m):aF prog 54 [pX f,.s (.d (.rp 3 c)),.s (.d (.rp 1 d))] (vB (Bl s m f)):=by
 refine af (args:=[pX f,.s (.d (.rp 3 (UO s))),.s (.d (.rp 1 λ_=>dI m))]) ?_ ⟨⟨Ka _,Ka _,Ka _,Ka _,Ka _,Ka _,Ka _,Ka _,Ka _,Ka _,Ka _,Ka _,Ka _,oO⟩,od λj hj=>?_,od λj hj=>Za (by rw[show j=0 by omega];exact hd),oO⟩
 ·refine eP func54 rfl rfl call54 rfl rfl λR J=>?_
  repeat refine aR ?_
  exact pb _
 match j with
 |0=>exact Za hc
 |_+1=>exactλ_ _ _=>trivial
def ybJ(p:Proj)(Y:List Fact)(m:Int)(low:eZ)(n:Nat):M6 p Y m low (n+1)=M6 p Y m low n++(Rl p Y m low n).toList:=by unfold M6;rw[c8]
def late(p:Proj)(Y:List Fact)(m:Int)(low:eZ)(hp:p.fits)(hv:PV p)(hf:Y.length<=9223372036854775807)(hl:low.levels.length=p.aT.levels.length):
  aF prog 22 [SR p Y,vI m,rK low] (U8 (M6 p Y m low p.cU.length)):=by
 have hsl:p.cU.length<=20:=by have h:=hv.cU;unfold rR at h;obtain⟨h,_⟩:=dF dC h;simp only[ic]at h;omega
 refine eW func22 rfl rfl call22 rfl rfl (λR J=>?_)
 apply sX J
 apply sX J
 refine Ta (sX J ?_)
 apply Xa
 refine mb (λi:Nat=>⟨[(3,.s (.ptr 3 0)),(4,.s (.ptr 4 0)),(5,.s (.ptr 5 0)),(7,.s (.mo (M6 p Y m low i).isEmpty 100)),(13,U7 p.cU),(14,vI p.cU.length),(15,vI i)],[(3,some (.cells (l0 p Y))),(4,some (.cells [.d (dI m)])),(5,some (.cells [.d (dI low.x),.d (dI low.y),.d (dI low.side),.d (dI low.dO),.d (dI low.rows),.d (b5 low.levels)])),(100,some (.b8 89 (M6 p Y m low i).length 2 (Fk (M6 p Y m low i))))]⟩) (λi=>i<=p.cU.length) (λi=>p.cU.length-i) 0 (Oa _) ?_ ?_
 ·exact La J [(100,1000)] rfl ⟨bQ,bQ,bQ,⟨rfl,rfl⟩,oO⟩ ⟨Z,Z,Z,⟨rfl,Jd rfl⟩,Ga⟩
 ·intro i hi;have hlen:=Up p Y m low i;have fN:=ybJ p Y m low i;refine sX J (Ta (ab ?_));refine aI (λh=>tb ?_) (λh=>tc ?_)
  ·have h:(i:Int)<p.cU.length:=bG h;have hreg:=(hv.eS (show i<p.cU.length by omega)).1;refine Ta (Xa ?_);refine sX J (oi Ia ?_);generalize hS:p.cU.getD i default=s at hreg;refine Gb (I':=⟨[(3,.s (.ptr 3 0)),(4,.s (.ptr 4 0)),(5,.s (.ptr 5 0)),(7,.s (.mo (M6 p Y m low i).isEmpty 100)),(9,.s (.ptr 9 0)),(13,U7 p.cU),(14,vI p.cU.length),(15,vI i)],[(3,some (.cells (l0 p Y))),(4,some (.cells [.d (dI m)])),(5,some (.cells [.d (dI low.x),.d (dI low.y),.d (dI low.side),.d (dI low.dO),.d (dI low.rows),.d (b5 low.levels)])),(9,some (.cells [.d (dS s.name),.d (dI s.due),.d (dI s.De)])),(100,some (.b8 89 (M6 p Y m low i).length 2 (Fk (M6 p Y m low i))))]⟩) (La J [] rfl ⟨bQ,bQ,bQ,⟨rfl,Tb (by rw[<-hS];rfl)⟩,Ga⟩ Ga) ?_;refine sX J (aB (ybV Y hf 54 2 _ (Bl s.name m) (λq _=>yeD q s.name m _ _ rfl rfl)) ?_);refine Gb (I':=⟨[(3,.s (.ptr 3 0)),(4,.s (.ptr 4 0)),(5,.s (.ptr 5 0)),(7,.s (.mo (M6 p Y m low i).isEmpty 100)),(9,.s (.ptr 9 0)),(10,vB (aj Y s.name m)),(13,U7 p.cU),(14,vI p.cU.length),(15,vI i)],[(3,some (.cells (l0 p Y))),(4,some (.cells [.d (dI m)])),(5,some (.cells [.d (dI low.x),.d (dI low.y),.d (dI low.side),.d (dI low.dO),.d (dI low.rows),.d (b5 low.levels)])),(9,some (.cells [.d (dS s.name),.d (dI s.due),.d (dI s.De)])),(100,some (.b8 89 (M6 p Y m low i).length 2 (Fk (M6 p Y m low i))))]⟩) (La J [] rfl Ga Ga) (sX J ?_);repeat refine aR ?_
   refine bR (complete p Y s low hp hv hreg hl) ?_;repeat refine aR ?_
   refine ab (aI (λh2=>?_) (λh2=>tb ?_))
   ·have h2:bq p Y m low s=true:=h2;have e:M6 p Y m low (i+1)=M6 p Y m low i++ [⟨s.name,s.De⟩]:=by rw[fN];unfold Rl;rw[hS,h2];rfl
    refine eX J (ob dC ?_);refine ob (by rw[dK];show((M6 p Y m low i).length+1)*24<=_;omega) ?_;refine ob (nJ (Zl rfl rfl)) (eX J ?_);refine⟨i+1,O,O,?_⟩;refine La J [(100,45)] rfl ⟨bQ,bQ,bQ,⟨rfl,?_⟩,oO⟩ ⟨Z,Z,Z,⟨rfl,Oc (by rw[e];exact cA _ _)⟩,Ga⟩;show aY _ (.b8 89 (M6 p Y m low (i+1)).length 2 (Fk (M6 p Y m low (i+1))));rw[e];refine Hd (el:=Vt) (x:=⟨s.name,s.De⟩) (λc hc=>?_);have hc:c<2:=hc
    match c,hc with|0,_|1,_=>rfl
   have h2:bq p Y m low s=false:=h2;have e:M6 p Y m low (i+1)=M6 p Y m low i:=by rw[fN];unfold Rl;rw[hS,h2];exact Ad _
   refine eX J ⟨i+1,O,O,?_⟩;exact La J [] rfl ⟨bQ,bQ,bQ,⟨rfl,Tb (by rw[e];rfl)⟩,oO⟩ ⟨Z,Z,Z,⟨rfl,Ob (by rw[e];rfl)⟩,Ga⟩
  have h:¬(i:Int)<p.cU.length:=bF h;obtain rfl:i=p.cU.length:=O;exact eX J Li
open Go Go.Ax Go.Ch Go.Proofs Go.Proofs.Tryz Go.Sort Go.Shelf
def Oi(x y:Fact):ltOf yh x y=decide (x.month<y.month\/(x.month=y.month/\x.number<y.number)):=by
 unfold ltOf yh Ql bf;apply Az.2;by_cases h1:x.month<y.month
 ·simp[h1]
 by_cases h2:y.month<x.month
 ·have:x.month≠y.month:=O;simp[h1,h2,this]
 have e:x.month=y.month:=O;by_cases h3:x.number<y.number
 ·simp[e,h3]
 by_cases h4:y.number<x.number
 ·simp[e,h3,h4]
 simp[e,h3,h4]
def yeC:SWO (ltOf yh) where
 irrefl:=λx=>by rw[Oi];simp
 trans:=λx y z h1 h2=>by rw[Oi,mc]at*;omega
 ntrans:=λx y z h1 h2=>by rw[Oi,ic]at*;omega
instance:Inhabited (GV J0 13):=⟨⟨(default,[.int .i64 (default:Fact).kind,.int .i64 (default:Fact).seq,.int .i64 (default:Fact).a8,.int .i64 (default:Fact).month,.int .i64 (default:Fact).number,.int .i64 (default:Fact).aT,.int .i64 (default:Fact).over,.int .i64 (default:Fact).Ab,.int .i64 (default:Fact).target,.string (default:Fact).aN,.string (default:Fact).dN,.string (default:Fact).eS,.slice none 0 0]),by
 refine⟨rfl,λv hv=>?_,λj u hj hu=>?_⟩
 ·simp only[Cb,Ge,Ie]at hv;rcases hv with rfl|rfl|rfl|rfl|rfl|rfl|rfl|rfl|rfl|rfl|rfl|rfl|rfl <;> rfl
 match j,hj,hu with
 |0,_,hu|1,_,hu|2,_,hu|3,_,hu|4,_,hu|5,_,hu|6,_,hu|7,_,hu|8,_,hu|9,_,hu|10,_,hu|11,_,hu=>cases hu;rfl
 |12,_,hu=>cases hu⟩⟩
def ycS(blk off n:Nat)(w:Ba):CmpLays prog 147 #[] (λp:GV J0 13=>p.1.2) 13 (λp q=>yh p.1.1 q.1.1) blk off n w:=by
 intro m os dk _ x y;generalize sortWorldK _ 13 w blk off m dk os=W;obtain⟨⟨s,vs⟩,hx⟩:=x;obtain⟨⟨t,us⟩,hy⟩:=y;have e1:=hx.len;have e2:=hy.len;have s3:=hx.val 3 (.int .i64 s.month) O rfl;have s4:=hx.val 4 (.int .i64 s.number) O rfl;have t3:=hy.val 3 (.int .i64 t.month) O rfl;have t4:=hy.val 4 (.int .i64 t.number) O rfl
 match vs,e1,us,e2,s3,s4,t3,t4 with
 |[v0,v1,v2,v3,v4,v5,v6,v7,v8,v9,v10,v11,v12],_,[u0,u1,u2,u3,u4,u5,u6,u7,u8,u9,u10,u11,u12],_,s3,s4,t3,t4=>obtain rfl:v3=.int .i64 s.month:=dd s3;obtain rfl:v4=.int .i64 s.number:=dd s4;obtain rfl:u3=.int .i64 t.month:=dd t3;obtain rfl:u4=.int .i64 t.number:=dd t4;exact yd6 s.month s.number t.month t.number W v0 v1 v2 v5 v6 v7 v8 v9 v10 v11 v12 u0 u1 u2 u5 u6 u7 u8 u9 u10 u11 u12
def ycd(l:List Fact)(hn:∀a∈l,∀b∈l,a.number=b.number->a=b)(l':List Fact)(hp:l'.Perm l)(hs:l'.Pairwise (λx y=>ltOf yh y x=false)):l'=JH l:=by
 refine m_ (le:=λx y=>ltOf yh y x=false) ?_ hs ?_ (hp.trans (Ai _ _).symm)
 ·intro a b ha hb h1 h2;have ha:a∈l:=hp.mem_iff.1 ha;have hb:b∈l:=(Ai _ _).mem_iff.1 hb;rw[Oi,ic]at h1 h2;exact hn a ha b hb O
 have:=Lw (le:=λx y:Fact=> !(ltOf yh y x)) (λa b c h1 h2=>by
  simp only[Oi,Gh,ic]at*;omega) (λa b=>by
  simp only[Oi,ag,Gh,ic];omega) l
 exact this.imp λ{x y} h=>by simpa using h
def ycJ(l:List Fact)(hn:∀a∈l,∀b∈l,a.number=b.number->a=b)(f0:Nat->Nat->DV)(SO:∀i j,i<l.length->j<13->aK (f0 i j) (nE l i j))(hl:l.length<=1000000):
  bW prog 146 [.s (.own 1001),.s (.dZ 147 [])] [(1001,.row 66 l.length 13 f0)] (.t []) [(1001,.row 66 l.length 13 (nE (JH l)))]:=
 aKD (α:=Fact) (k:=13) Tryz.aBY rfl call146 dC Tryz.isAgg66 Tryz.sizeOf66 J0 (λt j h=>aCW t j h) yh yeC
  (enters_of func147 kR rfl) ycS l (JH l) (ycd l hn) f0 SO hl
def ZR.of{Y:List Fact}{m:Int}(hl:Y.length<=200)(hn:∀a∈tO Y m,∀b∈tO Y m,a.number=b.number->a=b):ZR Y m:=λ_=>
 ycJ _ hn _ (λ_ _ _ _=>λ_ _ r=>r) (by have:(tO Y m).length<=Y.length:=yi _ _;omega)
def Tq{g:Fact}(h:g.kind=1)(hv:nZ g=0):bT g=iO [AX,Lib.itoa g.number]:=by unfold bT nH cS;rw[hv,h];rfl
def ycL{l:List Fact}(hv:∀f∈l,fR f=0)(m:Int):∀a∈tO (cntF l) m,∀b∈tO (cntF l) m,a.number=b.number->a=b:=by
 intro a ha b hb hn;unfold tO at ha hb;obtain⟨ha,a1⟩:=se.1 ha;obtain⟨hb,b1⟩:=se.1 hb;simp only[fb,Md]at a1 b1;obtain⟨k1,_,e1,g1,hg1,c1,q1⟩:=N4 hv ha;obtain⟨k2,_,e2,g2,hg2,c2,q2⟩:=N4 hv hb;have t1:g1.kind=1:=by have:=a1.1;rw[c1]at this;exact this
 have t2:g2.kind=1:=by have:=b1.1;rw[c2]at this;exact this
 have n1:a.number=g1.number:=by rw[c1];unfold jE fW;simp[t1]
 have n2:b.number=g2.number:=by rw[c2];unfold jE fW;simp[t2]
 have z1:=(kN (hv g1 hg1)).1;have z2:=(kN (hv g2 hg2)).1;have hkk:k1=k2:=by rw[<-q1,<-q2,Tq t1 z1,Tq t2 z2,<-n1,<-n2,hn]
 rw[e1,e2,hkk]
def Zx{p:Proj}{l:List Fact}(hk:Hg p l)(M:Int):ZR (cntF l) M:=ZR.of (x4 hk).len (ycL hk.fmt M)
def ydJ(p:Proj)(l:List Fact)(M:Nat)(hp:p.fits)(hf:∀f∈l,f.fits)(hl:l.length<=9223372036854775807)(he:j6 p l M 1=0):
  aF prog 7 [oR p,cJ l,vI M] (.t [.g [.d (dI M),.d (dI (OW p l M).over),.d (dI (OW p l M).fG),.d (dI (OW p l M).total),.d (x0 (OW p l M).Y4),.d (xZ (OW p l M).gf),.d (b5 (OW p l M).yj)],.s (.d (dI 0))]):=by
 obtain⟨hk,_⟩:=tL he
 have hS:=x4 hk
 exact aGO p l M hp hf hl he (Zx hk M) (late p (cntF l) M (sK p (cntF l) M) hp (Ki hk.proj) (by have:=hS.len;omega) (by show(lE p (cntF l) M).length=_;unfold lE;simp))
def ycy(p:Proj)(l:List Fact)(m:Int)(hp:p.fits)(hf:∀f∈l,f.fits)(hl:l.length<=9223372036854775807)(he:j6 p l m 1≠0):
  aF prog 7 [oR p,cJ l,vI m] (.t [.g (iB Kg.zero),.s (.d (dI (j6 p l m 1)))]):=by
 have hO:=PR p l m 1 hp hf hl he
 refine eW func7 rfl rfl call7 rfl rfl (λR J=>?_)
 apply sX J
 apply sX J
 apply aB hO
 refine Ta (sX J ?_)
 apply ab
 apply aI<;>intro h
 ·exact eX J (pb _)
 ·have h:(j6 p l m 1 !=0)=false:=h;exact absurd (by simpa using h) he
def Pv(p:Proj)(Y:List Fact)(m:Int):List Fact×gK:=iM p (j8 Y m) (j8 Y m).length
def ycX(y:gK)(b:bd)(hl:y.bA.length<=9223372036854775807):aF prog 110 [tD y,nj b] (vI (R6 y b)):=by
 refine eP func110 rfl rfl call110 rfl rfl λR J=>aB (cI _ _ _) ?_
 repeat refine aR ?_
 refine bR (cI _ _ _) ?_;repeat refine aR ?_
 refine bR (cI _ _ _) ?_;repeat refine aR ?_
 apply aI<;>intro h1
 ·have h1:(!within b.number 1 1000000|| !within b.aT 0 1000000000000|| !within b.over 0 b.aT)=true:=h1;exact Ja (by unfold R6;rw[h1];rfl)
 have h1:(!within b.number 1 1000000|| !within b.aT 0 1000000000000|| !within b.over 0 b.aT)=false:=h1;refine aB (ao y.bA b.aN hl) (aI (λh2=>?_) (λh2=>?_))
 ·have h2:decide (zO y.bA b.aN<0)=true:=h2;exact Ja (by unfold R6;rw[h1,h2];rfl)
 have h2:decide (zO y.bA b.aN<0)=false:=h2;refine aB (cI _ _ _) (aI (λh3=>?_) (λh3=>?_))
 ·have h3:(!within b.Ab 0 9)=true:=h3;exact Ja (by unfold R6;rw[h1,h2,h3];rfl)
 have h3:(!within b.Ab 0 9)=false:=h3;exact Ja (by unfold R6;rw[h1,h2,h3];rfl)
def Xl{y:gK}{b:bd}(h0:0<=zO y.bA b.aN):I0 y b<y.bA.length/\RA y.bA b.aN=I0 y b:=
 ⟨(yN (λx:nM=>bE x.aN b.aN) y.bA 0 h0).2.1,by show zO y.bA b.aN=_;unfold I0;omega⟩
def Uj(y:gK)(b:bd):Int:=Int.tmod (R2 y b) (y.bA.getD (I0 y b) default).den
def yct(y:gK)(b:bd)(hl:y.bA.length<=1000000)(h0:0<=zO y.bA b.aN)(hd:(y.bA.getD (I0 y b) default).den≠0):
  aF prog 181 [tD y,nj b,vI (y.carry.getD (I0 y b) 0)] (.t [.s (.d (dI (q8 y b))),.s (.d (dI (Uj y b)))]):=by
 obtain⟨fZ,hN⟩:=Xl h0
 refine eP func181 rfl rfl call181 rfl rfl λR J=>?_
 refine aB (ao y.bA b.aN O) ?_
 rw[hN]
 have e1:q8 y b=aW (Int.tdiv (R2 y b) (y.bA.getD (I0 y b) default).den):=rfl
 have e2:Uj y b=Int.tmod (R2 y b) (y.bA.getD (I0 y b) default).den:=rfl
 have e3:R2 y b=aW (aW (aW (b.aT-b.over)*(y.bA.getD (I0 y b) default).num)+y.carry.getD (I0 y b) 0):=rfl
 rw[e1,e2,e3]
 generalize I0 y b=i at fZ hd
 apply oi Ia
 refine aD ?_
 apply oi hd
 apply oi hd
 refine aD ?_
 exact pb _
def yds(p:uF)(x:Int)(hl:p.aV.length<=1000000):aF prog 240 [G1 p,vI x] (vB (p.aV.contains x)):=by
 have hc:p.aV.contains x=p.aV.any λd=>d==x:=by rw[List.any_beq']
 rw[hc];refine eP func240 rfl rfl call240 rfl rfl λR J=>Fb (λi:Nat=>⟨[(1,vI x),(2,.s (.ptr 2 0)),(5,vI i),(4,.s (.d (.lit false)))],[(2,some (.cells [.d (dS p.name),.d (dI p.OE),.d (dI p.base),.d (dI p.cb),.d (b5 p.aV),.d (dI p.GZ)]))]⟩) (λi=>i<=p.aV.length/\(p.aV.any λd=>d==x)=(p.aV.drop i).any λd=>d==x) (λi=>p.aV.length-i) 0 ⟨Oa _,rfl⟩ ?_ ?_
 ·refine Lb J Ha Ha
 rintro i ⟨hi,he⟩;apply eX J;apply aI<;>intro h
 ·have h:(i:Int)<p.aV.length:=bG h;have bC:i<p.aV.length:=O;have hd:p.aV.drop i=p.aV[i]::p.aV.drop (i+1):=Oe bC;have hg:p.aV.getD i 0=p.aV[i]:=by simp[bC]
  apply oi Ia;rw[hd,bg,<-hg]at he;apply aI<;>intro h
  ·have h:(p.aV.getD i 0==x)=true:=h;exact Yb (by rw[he,h];rfl)
  have h:(p.aV.getD i 0==x)=false:=h;refine⟨i+1,⟨O,by rw[he,h];rfl⟩,O,?_⟩;exact Lb J Ha ⟨rQ,rQ,⟨rfl,Va vI (aG O O)⟩,rQ,oO⟩
 have h:¬(i:Int)<p.aV.length:=bF h;have bC:i=p.aV.length:=O;subst bC;exact Yb (by rw[he,gh];rfl)
def yeo(y:gK)(k:Nat)(hk:k<y.aQ.length)(hl:y.bH.length<=9223372036854775807):aF prog 241 [tD y,vI k] (vI (GL y (y.aQ.getD k default))):=by
 refine eP func241 rfl rfl call241 rfl rfl λR J=>oi Ia (aB (XX (y.aQ.getD k default)) ?_)
 exact aB (aIA y k hk hl) (aD (pb _))
def ydu(y:gK)(b:bd)(k:Nat)(hk:k<y.aQ.length)(hy:y.small)(hl:y.bH.length<=9223372036854775807)(h0:0<=zO y.bA b.aN)(vA:y.carry.length=y.bA.length)(hd:(y.bA.getD (I0 y b) default).den≠0):
  aF prog 180 [tD y,nj b,vI k] (vI (JL y (y.aQ.getD k default) b.Ab (q8 y b))):=by
 obtain⟨fZ,hN⟩:=Xl h0
 have hb:=yct y b hy.bA h0 hd
 have hA:=yds (y.aQ.getD k default) b.Ab (hy.aV _ (bP hk))
 refine eP func180 rfl rfl call180 rfl rfl λR J=>?_
 apply oi Ia
 apply aB hA
 refine aD ?_
 apply aI<;>intro h1
 ·have h1:(!(y.aQ.getD k default).aV.contains b.Ab)=true:=h1;exact Ja (by unfold JL;rw[h1];rfl)
 have h1:(!(y.aQ.getD k default).aV.contains b.Ab)=false:=h1
 refine aB (ao y.bA b.aN (by have:=hy.bA;omega)) ?_
 rw[hN]
 generalize I0 y b=i at fZ hb
 apply oi Ia
 apply aB hb
 refine aD ?_
 refine aB (yeo y k hk hl) ?_
 apply aI<;>intro h2
 ·have h2:decide (q8 y b>GL y (y.aQ.getD k default))=true:=h2;exact Ja (by unfold JL;rw[h1,show decide (GL y (y.aQ.getD k default)<q8 y b)=true from h2];rfl)
 ·have h2:decide (q8 y b>GL y (y.aQ.getD k default))=false:=h2;exact Ja (by unfold JL;rw[h1,show decide (GL y (y.aQ.getD k default)<q8 y b)=false from h2];rfl)
def mg(y:gK)(b:bd)(dN:wa):Int:=
 bif NX y b.number then 5 else bif decide (lU y.aQ dN<0)then 6
 else bif JL y (y.aQ.getD (lU y.aQ dN).toNat default) b.Ab (q8 y b) !=0 then JL y (y.aQ.getD (lU y.aQ dN).toNat default) b.Ab (q8 y b)
 else bif decide ((y.bH.length:Int)>=200)then 8 else 0
def ycY(y:gK)(b:bd)(dN:wa)(hy:y.small)(hp:y.aQ.length<=9223372036854775807)(hl:y.bH.length<=9223372036854775807)(h0:0<=zO y.bA b.aN)(vA:y.carry.length=y.bA.length)(hd:(y.bA.getD (I0 y b) default).den≠0):
  aF prog 111 [tD y,nj b,vS dN] (vI (mg y b dN)):=by
 refine eP func111 rfl rfl call111 rfl rfl λR J=>?_
 refine aB (S9 y.bH b.number hl) ?_
 apply aI<;>intro h1
 ·have h1:NX y b.number=true:=h1;exact Ja (by unfold mg;rw[h1];rfl)
 have h1:NX y b.number=false:=h1
 refine aB (Gu y.aQ dN hp) ?_
 apply aI<;>intro h2
 ·have h2:decide (lU y.aQ dN<0)=true:=h2;exact Ja (by unfold mg;rw[h1,h2];rfl)
 have h2:decide (lU y.aQ dN<0)=false:=h2
 have hp0:0<=lU y.aQ dN:=by
  have:¬lU y.aQ dN<0:=by simpa using h2
  omega
 have hpl:(lU y.aQ dN).toNat<y.aQ.length:=(yN (λx:uF=>bE x.name dN) y.aQ 0 hp0).2.1
 have hR:=ydu y b (lU y.aQ dN).toNat hpl hy hl h0 vA hd
 rw[Int.toNat_of_nonneg hp0]at hR
 apply aB hR
 apply aI<;>intro h3
 ·have h3:(JL y (y.aQ.getD (lU y.aQ dN).toNat default) b.Ab (q8 y b) !=0)=true:=h3;exact Ja (by unfold mg;rw[h1,h2,h3];rfl)
 have h3:(JL y (y.aQ.getD (lU y.aQ dN).toNat default) b.Ab (q8 y b) !=0)=false:=h3
 apply aI<;>intro h4
 ·have h4:decide ((y.bH.length:Int)>=200)=true:=h4;exact Ja (by unfold mg;rw[h1,h2,h3,h4];rfl)
 ·have h4:decide ((y.bH.length:Int)>=200)=false:=h4;exact Ja (by unfold mg;rw[h1,h2,h3,h4];rfl)
def yec(y:gK)(b:bd)(dN:wa)(hy:y.small)(hl:y.bH.length<=200)(h0:0<=zO y.bA b.aN)(vA:y.carry.length=y.bA.length)(hd:(y.bA.getD (I0 y b) default).den≠0):
  aF prog 112 [tD y,nj b,vS dN] (tD (PO y b dN)):=by
 obtain⟨fZ,hN⟩:=Xl h0
 have hb:=yct y b hy.bA h0 hd
 have qT:=hy.bA
 have hcy:=TA y.carry O
 have hC:oZ y b=y.carry.set (I0 y b) (Uj y b):=rfl
 have aI5:(oZ y b).length=y.carry.length:=by unfold oZ;simp
 refine eW func112 rfl rfl call112 rfl rfl (λR J=>?_)
 apply sX J
 apply sX J
 refine aB (ao y.bA b.aN O) ?_
 rw[hN]
 generalize I0 y b=i at fZ hb hC
 apply sX J
 apply oi Ia
 apply aB hb
 refine aD ?_
 refine Ta (Nb (rc:=[74]) aJ mix J _ ?_)
 refine⟨[(5,600)],_,_,_,_,hcy,rfl,trivial,rfl,?_⟩
 apply sX J
 apply oi Ia
 refine ob (show((i:Nat):Int).toNat<y.carry.length by omega) ?_
 refine Gb (I':=⟨[(2,vS dN),(3,.s (.ptr 3 0)),(4,.s (.ptr 4 0)),(6,.s (.ptr 6 0)),(8,vI (q8 y b))],[(3,some (.cells [.d (q7 y.aQ),.d (oY y.bA),.d (LU y.bH),.own 600])),(4,some (.cells (lq b))),(6,some (.cells (iB ze.zero))),(600,some (.row 3 (oZ y b).length 1 (cP (oZ y b))))]⟩) (La J [] rfl ⟨bQ,bQ,bQ,⟨rfl,Zb aI5.symm λa c ha hc=>Za ?_⟩,oO⟩ Ga) ?_
 ·obtain rfl:c=0:=O;show eT (cP y.carry) i 0 [.d (dI (Uj y b))] a 0=dI ((oZ y b).getD a 0);rw[hC];by_cases h2:a=i
  ·subst h2;rw[oP];simp[show a<y.carry.length by omega]
  rw[tG h2];show dI (y.carry.getD a 0)=_;simp[Ne.symm h2]
 apply sX J
 refine ob (show(0+y.bH.length)*32<=140737488355328 by omega) ?_
 refine ob (λa c ha hc=>by match c,hc with|0,_|1,_|2,_=>rfl) ?_
 refine ob (show(0+y.bH.length+1)*32<=140737488355328 by omega) ?_
 refine ob (λa c ha hc=>by match a,ha,c,hc with|0,_,0,_|0,_,1,_|0,_,2,_=>rfl) ?_
 refine aD ?_
 apply eX J
 refine Bf (x:=.g _) (y:=.g _) ⟨Ka _,Ka _,?_,Ka _,oO⟩
 refine Je (show 0+y.bH.length+1=(y.bH++ [(⟨b.number,dN,q8 y b⟩:OQ)]).length by simp) λx c hx hc=>Za ?_
 have hc:c<3:=hc
 have hx:x<0+y.bH.length+1:=hx
 unfold jM
 by_cases h1:x<y.bH.length
 ·rw[Qa O,Ma (Cc x)];show Gk (y.bH.getD (x-0) default) c=Gk ((y.bH++ [(⟨b.number,dN,q8 y b⟩:OQ)]).getD x default) c;rw[Jj,Ib,Ib,Pc h1]
 ·obtain rfl:x=y.bH.length:=O;rw[Ma O,show y.bH.length-(0+y.bH.length)=0 by omega];show _=Gk ((y.bH++ [(⟨b.number,dN,q8 y b⟩:OQ)]).getD y.bH.length default) c;rw[Ib,Nx]
  match c,hc with|0,_|1,_|2,_=>rfl
def Yl{f:Nat->Int}:∀{n i:Nat},(∀j,i<=j->j<i+n->f j=0)->aO f n i=0
 |0,_,_=>rfl
 |n+1,i,h=>by rw[aO,h i (lb _) O];exact Yl λj h1 h2=>h j O O
structure Hf(y:gK):Prop where
 np:y.aQ.length<=8
 aQ:∀j,j<y.aQ.length->tK y.aQ j=0
 nb:y.bA.length<=20
 bA:∀j,j<y.bA.length->rN y.bA j=0
 nc:y.carry.length=y.bA.length
 carry:∀j,j<y.carry.length->D0 y j=0
 nd:y.bH.length<=200
 bH:∀j,j<y.bH.length->pF y j=0
 cap:∀j,j<y.aQ.length->D1 y j=0
def Hf.of{y:gK}(h:kX y=0):Hf y:=by
 unfold kX at h;obtain⟨h1,h⟩:=dF dC h;obtain⟨h2,h⟩:=dU h;obtain⟨hb,hd⟩:=dU h;unfold o4 at hb;obtain⟨h3,hb⟩:=dF dC hb;obtain⟨h4,hb⟩:=dU hb;obtain⟨h5,h6⟩:=dF dC hb;unfold pM at hd;obtain⟨h7,hd⟩:=dF dC hd;obtain⟨h8,h9⟩:=dU hd;simp only[ic]at h1 h3 h7;have h5:(y.carry.length:Int)=y.bA.length:=by simpa using h5
 exact⟨O,λj hj=>lQ h2 j (Oa _) O,O,λj hj=>lQ h4 j (Oa _) O,O,
  λj hj=>lQ h6 j (Oa _) O,O,λj hj=>lQ h8 j (Oa _) O,λj hj=>lQ h9 j (Oa _) O⟩
def Hf.zero{y:gK}(h:Hf y):kX y=0:=by
 have e1:o4 y=0:=by unfold o4;rw[Yl λj _ hj=>h.bA j O,Yl λj _ hj=>h.carry j O,h.nc,show decide ((y.bA.length:Int)>20)=false by have:=h.nb;simp only[ic];omega];simp
 have e2:pM y=0:=by unfold pM;rw[Yl λj _ hj=>h.bH j O,Yl λj _ hj=>h.cap j O,show decide ((y.bH.length:Int)>200)=false by have:=h.nd;simp only[ic];omega];rfl
 unfold kX;rw[e1,e2,Yl λj _ hj=>h.aQ j O,show decide ((y.aQ.length:Int)>8)=false by have:=h.np;simp only[ic];omega];rfl
def sv(l:List OQ)(n:wa):∀k i s,JG l n (k+1) i s=bif bE (l.getD (i+k) default).dN n then aW (JG l n k i s+(l.getD (i+k) default).iZ)else JG l n k i s
 |0,i,s=>by simp[JG]
 |k+1,i,s=>by rw[JG,sv l n k,show i+1+k=i+(k+1) by omega];conv=>rhs;rw[JG]
def yb8(l:List OQ)(d:OQ)(n:wa):∀k i s,i+k<=l.length->JG (l++ [d]) n k i s=JG l n k i s
 |0,_,_,_=>rfl
 |k+1,i,s,h=>by
  have e:(l++ [d]).getD i default=l.getD i default:=by rw[Ib,Ib,Pc O]
  rw[JG,JG,e,yb8 l d n k (i+1) _ O]
def ydB(y:gK)(d:OQ)(c:List Int)(n:wa):JF {y with bH:=y.bH++ [d],carry:=c} n=bif bE d.dN n then aW (JF y n+d.iZ)else JF y n:=by
 unfold JF;have e:(y.bH++ [d]).getD (0+y.bH.length) default=d:=by rw[Uc,Ib,Nx];rfl
 show JG (y.bH++ [d]) n (y.bH++ [d]).length 0 0=_;rw[Qc];show JG (y.bH++ [d]) n (y.bH.length+1) 0 0=_;rw[sv,yb8 _ _ _ _ _ _ O,e]
def yb9(l:List OQ)(n:wa)(hv:∀j,j<l.length->0<=(l.getD j default).iZ/\(l.getD j default).iZ<=100000000000000):∀k,k<=l.length->k<=200->0<=JG l n k 0 0/\JG l n k 0 0<=100000000000000*k
 |0,_,_=>⟨Ic _,Ic _⟩
 |k+1,h,h2=>by
  obtain⟨a,b⟩:=yb9 l n hv k O O;obtain⟨c,d⟩:=hv k O;rw[sv,Uc]
  cases bE (l.getD k default).dN n with
  |false=>show 0<=JG l n k 0 0/\JG l n k 0 0<=_;omega
  |true=>show 0<=aW _/\aW _<=_;rw[aG O O];omega
def ydd{y:gK}{j:Nat}(h:pF y j=0):0<=(y.bH.getD j default).iZ/\(y.bH.getD j default).iZ<=100000000000000:=by unfold pF at h;obtain⟨_,h⟩:=dF dC h;obtain⟨_,h⟩:=dF dC h;obtain⟨_,h⟩:=dF dC h;obtain⟨h,_⟩:=dF dC h;exact within_iff.1 (by simpa using h)
def Hf.tak{y:gK}(h:Hf y)(n:wa):0<=JF y n/\JF y n<=20000000000000000:=by have:=yb9 y.bH n (λj hj=>ydd (h.bH j hj)) y.bH.length (lb _) h.nd;have:=h.nd;unfold JF;omega
def ydo{p:uF}(h:qI p=0):0<=N8 p/\N8 p<=40000000000000:=by unfold qI at h;obtain⟨h1,h⟩:=dF dC h;obtain⟨h2,h⟩:=dF dC h;simp only[wc,Ih,within,fb,mc,ic]at h1 h2;unfold N8;rw[aG (n:=p.cb-p.base) O O];have a:=Ze (a:=p.OE) (b:=p.cb-p.base) O O;have b:=Mh (a:=p.OE) (b:=p.cb-p.base) (c:=1000000000) (d:=40000) O O O O;rw[aG O O];omega
def yb2{l:List uF}{j:Nat}(h:tK l j=0):(l.take j).any (λy=>bE y.name (l.getD j default).name)=false/\qI (l.getD j default)=0:=by unfold tK at h;obtain⟨_,h⟩:=dF dC h;exact dF dC h
def Hf.ydS{y:gK}(h:Hf y){i j:Nat}(hi:i<y.aQ.length)(hj:j<y.aQ.length)(he:bE (y.aQ.getD i default).name (y.aQ.getD j default).name=true):i=j:=by
 have key:∀a b,a<b->b<y.aQ.length->bE (y.aQ.getD a default).name (y.aQ.getD b default).name=true->False:=λa b JW hb hs=>by
  have hn:=(yb2 (h.aQ b hb)).1;have:(y.aQ.take b).any (λz=>bE z.name (y.aQ.getD b default).name)=true:=
   rk.2 ⟨y.aQ.getD a default,by rw[List.mem_iff_getElem?];exact⟨a,by rw[wi JW,Bb O,aX O]⟩,hs⟩
  rw[this]at hn;cases hn
 have hsym:bE (y.aQ.getD j default).name (y.aQ.getD i default).name=true:=by unfold bE at he⊢;simp only[Md]at he⊢;exact he.symm
 rcases Sy i j with hl|hl|hl
 ·exact(key i j hl hj he).elim
 ·exact hl
 exact(key j i hl hi hsym).elim
def ycr{y:gK}(h:kX y=0)(b:bd)(dN:wa):oS y b dN=bif R6 y b !=0 then R6 y b else mg y b dN:=by unfold oS mg yD;rw[h];rfl
def iu{y:gK}(h:Hf y){j:Nat}(hj:j<y.bA.length):1<=(y.bA.getD j default).den/\(y.bA.getD j default).den<=1000/\1<=(y.bA.getD j default).num/\(y.bA.getD j default).num<=10*(y.bA.getD j default).den:=by have hb:=h.bA j hj;unfold rN at hb;obtain⟨_,hb⟩:=dF dC hb;obtain⟨_,hb⟩:=dF dC hb;unfold JZ at hb;obtain⟨hb,_⟩:=dF dC hb;simp only[wc,Ih,within,fb,mc]at hb;rw[aG O O]at hb;omega
def Av{y:gK}{b:bd}(h:R6 y b=0):1<=b.number/\b.number<=1000000/\0<=b.aT/\b.aT<=1000000000000/\0<=b.over/\b.over<=b.aT/\0<=zO y.bA b.aN:=by unfold R6 at h;obtain⟨h1,h⟩:=dF dC h;obtain⟨h2,h⟩:=dF dC h;simp only[wc,Ih,within,fb,mc,ic]at h1 h2;omega
def ydb{y:gK}(h:Hf y){b:bd}(hb:R6 y b=0):0<=q8 y b/\q8 y b<=100000000000000/\0<=Uj y b/\Uj y b<=(y.bA.getD (I0 y b) default).den-1:=by
 obtain⟨_,_,h1,h2,h3,h4,h0⟩:=Av hb;have fZ:=(Xl h0).1;obtain⟨d1,d2,n1,n2⟩:=iu h fZ;have hc:0<=y.carry.getD (I0 y b) 0/\y.carry.getD (I0 y b) 0<=(y.bA.getD (I0 y b) default).den-1:=by have:=h.carry (I0 y b) (by have:=h.nc;omega);unfold D0 at this;obtain⟨this,_⟩:=dF dC this;rw[aG O O]at this;exact within_iff.1 (by simpa using this)
 have e1:q8 y b=aW (Int.tdiv (R2 y b) (y.bA.getD (I0 y b) default).den):=rfl;have e2:Uj y b=Int.tmod (R2 y b) (y.bA.getD (I0 y b) default).den:=rfl;have e3:R2 y b=aW (aW (aW (b.aT-b.over)*(y.bA.getD (I0 y b) default).num)+y.carry.getD (I0 y b) 0):=rfl;generalize y.bA.getD (I0 y b) default=B at*;generalize y.carry.getD (I0 y b) 0=c at*;have p1:=Ze (a:=b.aT-b.over) (b:=B.num) O O;have p2:=Mh (a:=b.aT-b.over) (b:=B.num) (c:=1000000000000) (d:=10*B.den) O O O O;rw[aG (n:=b.aT-b.over) O O]at e3;generalize (b.aT-b.over)*B.num=m at*;rw[aG (n:=m) O O,aG (n:=m+c) O O]at e3;rw[e3]at e1 e2;rw[si O]at e1;rw[Eh O]at e2;have q1:0<=(m+c) / B.den:=Fm O O;have q2:(m+c) / B.den<=10000000000001:=Int.ediv_le_of_le_mul O O;have q3:=Yr (m+c) (b:=B.den) O;have q4:=Wr (m+c) (b:=B.den) O;rw[aG O O]at e1;omega
def Hf.Rv{y:gK}(h:Hf y){b:bd}{dN:wa}(hb:R6 y b=0)(hp:mg y b dN=0):Hf (PO y b dN):=by
 obtain⟨b1,b2,_,_,_,_,h0⟩:=Av hb;obtain⟨v1,v2,m1,m2⟩:=ydb h hb;have fZ:=(Xl h0).1;obtain⟨d1,d2,_,_⟩:=iu h fZ;unfold mg at hp;obtain⟨p1,hp⟩:=dF dC hp;obtain⟨p2,hp⟩:=dF dC hp;obtain⟨p3,hp⟩:=dU hp;obtain⟨p4,_⟩:=dF dC hp;simp only[ic]at p2 p4;have hpi:=yN (λx:uF=>bE x.name dN) y.aQ 0 (show 0<=lU y.aQ dN by omega);have hpl:(lU y.aQ dN).toNat<y.aQ.length:=hpi.2.1;have hps:bE (y.aQ.getD (lU y.aQ dN).toNat default).name dN=true:=hpi.2.2;unfold JL at p3;obtain⟨_,p3⟩:=dF dC p3;obtain⟨p3,_⟩:=dF dC p3;simp only[ic]at p3;have vA:(oZ y b).length=y.carry.length:=by unfold oZ;simp
 have wI:∀j,j<y.aQ.length->0<=N8 (y.aQ.getD j default)/\N8 (y.aQ.getD j default)<=40000000000000:=λj hj=>ydo (yb2 (h.aQ j hj)).2
 have rY:∀j,j<y.aQ.length->GL y (y.aQ.getD j default)=N8 (y.aQ.getD j default)-JF y (y.aQ.getD j default).name:=λj hj=>by have:=wI j hj;have:=h.tak (y.aQ.getD j default).name;unfold GL;rw[aG O O]
 refine⟨h.np,h.aQ,h.nb,h.bA,vA.trans h.nc,λj hj=>?_,?_,λj hj=>?_,λj hj=>?_⟩
 ·have hj:j<y.carry.length:=by rw[<-vA];exact hj
  show(bif !within ((oZ y b).getD j 0) 0 (aW ((y.bA.getD j default).den-1))then(2:Int)else 0)=0;by_cases e:j=I0 y b
  ·subst e;have:(oZ y b).getD (I0 y b) 0=Uj y b:=by unfold oZ;rw[Ib,List.getElem?_set_self O];rfl
   rw[this,aG O O,within_iff.2 ⟨m1,m2⟩];rfl
  have:(oZ y b).getD j 0=y.carry.getD j 0:=by unfold oZ;rw[Ib,List.getElem?_set_ne (Ne.symm e),Ib]
  rw[this];exact h.carry j hj
 ·show(y.bH++_).length<=_;rw[Qc];simp only[Nr];omega
 ·have hj:j<y.bH.length+1:=by simpa[PO]using hj
  show(bif !within ((y.bH++ [(⟨b.number,dN,q8 y b⟩:OQ)]).getD j default).sd 1 1000000 then(2:Int)
   else bif ((y.bH++ [(⟨b.number,dN,q8 y b⟩:OQ)]).take j).any (λd=>d.sd==((y.bH++ [(⟨b.number,dN,q8 y b⟩:OQ)]).getD j default).sd)then 5
   else bif decide (lU y.aQ ((y.bH++ [(⟨b.number,dN,q8 y b⟩:OQ)]).getD j default).dN<0)then 6
   else bif !within ((y.bH++ [(⟨b.number,dN,q8 y b⟩:OQ)]).getD j default).iZ 0 100000000000000 then 2 else 0)=0
  by_cases e:j<y.bH.length
  ·have e1:(y.bH++ [(⟨b.number,dN,q8 y b⟩:OQ)]).getD j default=y.bH.getD j default:=by rw[Ib,Ib,Pc e]
   have e2:(y.bH++ [(⟨b.number,dN,q8 y b⟩:OQ)]).take j=y.bH.take j:=List.take_append_of_le_length O;rw[e1,e2];exact h.bH j e
  obtain rfl:j=y.bH.length:=O;have e1:(y.bH++ [(⟨b.number,dN,q8 y b⟩:OQ)]).getD y.bH.length default=⟨b.number,dN,q8 y b⟩:=by rw[Ib,Nx];rfl
  have e2:(y.bH++ [(⟨b.number,dN,q8 y b⟩:OQ)]).take y.bH.length=y.bH:=sM;rw[e1,e2,within_iff.2 ⟨b1,b2⟩,within_iff.2 ⟨v1,v2⟩,show y.bH.any (λd=>d.sd==b.number)=false from p1,show decide (lU y.aQ dN<0)=false by simpa using p2];rfl
 have hj:j<y.aQ.length:=hj;show(bif decide (aW (N8 (y.aQ.getD j default)-JF {y with bH:=y.bH++ [(⟨b.number,dN,q8 y b⟩:OQ)],carry:=oZ y b} (y.aQ.getD j default).name)<0)then(19:Int)else 0)=0;rw[ydB]
 cases hs:bE dN (y.aQ.getD j default).name with
 |false=>have:=h.cap j hj;exact this
 |true=>have ej:j=(lU y.aQ dN).toNat:=h.ydS hj hpl (by unfold bE at hs hps⊢;simp only[Md]at hs hps⊢;rw[<-hs,hps]);have c1:=wI j hj;have t1:=h.tak (y.aQ.getD j default).name;have r1:=rY j hj;rw[<-ej]at p3;show(bif decide (aW (N8 (y.aQ.getD j default)-aW (JF y (y.aQ.getD j default).name+q8 y b))<0)then(19:Int)else 0)=0;rw[aG (n:=JF y (y.aQ.getD j default).name+q8 y b) O O,aG O O,Cd O];rfl
def ybU{l:List Fact}(hv:∀f∈l,fR f=0){k:bJ}(hk:k∈pS l):∃g∈l,rU (zH (pT l) k)=jE g/\bT g=k:=by
 obtain⟨j,e,uZ,he⟩:=KO hk;obtain⟨hl1,_⟩:=O0 he;obtain⟨e',DT,y5,_,hp,_⟩:=A4 he;have qP:zH (pT l) k=e.2.1.getD (e.2.1.length-1) []:=by unfold zH;rw[uZ]
 have kK:zH (pT l) k∈e.2.1:=by rw[qP,aX O];exact Be _
 rw[hp]at kK;obtain⟨g,hg,ht,tR⟩:=yP DT _ (XZ kK);refine⟨g,hg,?_,?_⟩
 ·rw[ht];exact LZ (hv g hg)
 rw[tR,<-y5];exact(xU uZ).2.2
def ydM{l:List Fact}(hv:∀f∈l,fR f=0):(cntF l).Pairwise λa b=>a.kind=1->b.kind=1->a.number≠b.number:=by
 unfold cntF;rw[wz];have hn:(pS l).Nodup:=(Ai _ _).nodup_iff.2 (C9 l);refine c_ ?_ hn;intro k1 k2 h1 h2 fJ a1 a2 hnum;obtain⟨g1,hg1,c1,q1⟩:=ybU hv h1;obtain⟨g2,hg2,c2,q2⟩:=ybU hv h2;rw[c1]at a1 hnum;rw[c2]at a2 hnum;have t1:g1.kind=1:=a1;have t2:g2.kind=1:=a2;have n1:(jE g1).number=g1.number:=by unfold jE fW;simp[t1]
 have n2:(jE g2).number=g2.number:=by unfold jE fW;simp[t2]
 apply fJ;rw[<-q1,<-q2,Tq t1 (kN (hv g1 hg1)).1,Tq t2 (kN (hv g2 hg2)).1,<-n1,<-n2,hnum]
def yc7{l:List Fact}(hv:∀f∈l,fR f=0)(m:Int):(j8 (cntF l) m).Pairwise λa b=>a.month<b.month\/(a.month=b.month/\a.number<b.number):=by
 have h1:(tO (cntF l) m).Pairwise λa b=>a.number≠b.number:=by unfold tO;refine c_ ?_ ((ydM hv).filter _);intro a b ha hb h;have ha:=(se.1 ha).2;have hb:=(se.1 hb).2;simp only[fb,Md]at ha hb;exact h ha.1 hb.1
 have h2:(j8 (cntF l) m).Pairwise λa b=>a.number≠b.number:=(Ai _ _).symm.pairwise h1 λh=>h.symm
 have h3:=Lw (le:=λx y:Fact=> !(ltOf yh y x)) (λa b c h1 h2=>by
   simp only[Oi,Gh,ic]at*;omega) (λa b=>by
   simp only[Oi,ag,Gh,ic];omega) (tO (cntF l) m)
 have h3:(j8 (cntF l) m).Pairwise λx y=>(!(ltOf yh y x))=true:=h3
 refine(h2.and h3).imp ?_;intro a b ⟨hn,h⟩;simp only[Oi,Gh,ic]at h;omega
def Mg(l:List Fact)(m last:Int)(j:Nat):Bool:=(l.getD j default).kind==1&&(l.getD j default).month==m&&decide ((l.getD j default).number>last)
def cc(l:List Fact)(m last:Int):Nat->Int
 |0=> -1
 |i+1=>bif Mg l m last i&&(decide (cc l m last i<0)||decide ((l.getD i default).number<(l.getD (cc l m last i).toNat default).number))then(i:Int)else cc l m last i
def Cp(l:List Fact)(m last:Int):∀i, -1<=cc l m last i/\cc l m last i<i
 |0=>⟨Ic _,by show(-1:Int)<((0:Nat):Int);decide⟩
 |i+1=>by
  have ih:=Cp l m last i;rw[cc]
  cases(Mg l m last i&&(decide (cc l m last i<0)||decide ((l.getD i default).number<(l.getD (cc l m last i).toNat default).number)))with
  |true=>show -1<=(i:Int)/\(i:Int)<_;omega
  |false=>show -1<=cc l m last i/\cc l m last i<_;omega
def Uq(l:List Fact)(m last:Int):∀i,cc l m last i<0->∀j,j<i->Mg l m last j=false
 |0,_,j,hj=>by omega
 |i+1,h,j,hj=>by
  rw[cc]at h
  cases hc:(Mg l m last i&&(decide (cc l m last i<0)||decide ((l.getD i default).number<(l.getD (cc l m last i).toNat default).number)))with
  |true=>rw[hc]at h;have h:(i:Int)<0:=h;omega
  |false=>
   rw[hc]at h;have h:cc l m last i<0:=h;by_cases e:j=i
   ·subst e;rw[pc h]at hc;simpa using hc
   exact Uq l m last i h j O
def Tv(l:List Fact)(m last:Int):∀i,0<=cc l m last i->Mg l m last (cc l m last i).toNat=true/\∀j,j<i->Mg l m last j=true->(l.getD (cc l m last i).toNat default).number<=(l.getD j default).number
 |0,h=>by simp[cc]at h
 |i+1,h=>by
  rw[cc]at h⊢
  cases hc:(Mg l m last i&&(decide (cc l m last i<0)||decide ((l.getD i default).number<(l.getD (cc l m last i).toNat default).number)))with
  |true=>
   have JA:=hc;simp only[fb,ag,mc]at JA;show Mg l m last ((i:Int).toNat)=true/\∀j,j<i+1->_->(l.getD ((i:Int).toNat) default).number<=_;rw[mf];refine⟨JA.1,λj hj hcj=>?_⟩;by_cases e:j=i
   ·subst e;exact Ic _
   rcases JA.2 with hn|hl
   ·rw[Uq l m last i hn j O]at hcj;cases hcj
   by_cases hn:cc l m last i<0
   ·rw[Uq l m last i hn j O]at hcj;cases hcj
   have:=(Tv l m last i O).2 j O hcj;omega
  |false=>
   rw[hc]at h;have h:0<=cc l m last i:=h;obtain⟨h1,h2⟩:=Tv l m last i h;refine⟨h1,λj hj hcj=>?_⟩;show(l.getD (cc l m last i).toNat default).number<=_;by_cases e:j=i
   ·subst e;rw[hcj,Cd O]at hc;simp at hc;exact hc
   exact h2 j O hcj
structure yg(S:List Fact)(m last:Int)(k:Nat):Prop where
 le:k<=S.length
 past:∀j,j<k->(S.getD j default).month<m\/((S.getD j default).month=m/\(S.getD j default).number<=last)
 rest:∀j,k<=j->j<S.length->m<(S.getD j default).month\/((S.getD j default).month=m/\last<(S.getD j default).number)
abbrev Tn(a b:Fact):Prop:=a.month<b.month\/(a.month=b.month/\a.number<b.number)
def yco{S:List Fact}(h:S.Pairwise Tn){i j:Nat}(Z5:i<j)(hj:j<S.length):Tn (S.getD i default) (S.getD j default):=by have:=yr.1 h i j O hj Z5;rw[aX hj,aX (show i<S.length by omega)];exact this
structure gk(Y S:List Fact)(M:Int):Prop where
 mem:∀{f},f∈S->f∈Y/\f.kind=1/\f.month<=M
 sub:∀{f},f∈Y->f.kind=1->f.month<=M->f∈S
 pair:S.Pairwise Tn
def ycV{Y:List Fact}{m last:Int}{f:Fact}(h:f∈Y)(hk:f.kind=1):∃i,i<Y.length/\Y.getD i default=f/\Mg Y m last i=decide (f.month=m/\f.number>last):=by
 obtain⟨i,hi,he⟩:=nk h;have hg:Y.getD i default=f:=by rw[aX hi];exact he
 refine⟨i,hi,hg,?_⟩;unfold Mg;rw[hg,hk,Bool.decide_and];rfl
def yg.none{Y S:List Fact}{M m last:Int}{k:Nat}(h:yg S m last k)(hS:gk Y S M)(hn:cc Y m last Y.length<0)(h1:∀f∈Y,f.kind=1->1<=f.number/\1<=f.month):yg S (m+1) 0 k:=by
 refine⟨h.le,λj hj=>?_,λj hj hl=>?_⟩
 ·have:=h.past j hj;omega
 have hm:=hS.mem (bP hl);have hr:=h.rest j hj hl;have hn1:=h1 _ hm.1 hm.2.1;obtain⟨i,hi,_,hg⟩:=ycV (m:=m) (last:=last) hm.1 hm.2.1;rw[Uq Y m last Y.length hn i hi]at hg;have:=Hh hg.symm;omega
def yg.some{Y S:List Fact}{M m last:Int}{k:Nat}(h:yg S m last k)(hS:gk Y S M)(hm:m<=M)(hn:0<=cc Y m last Y.length):
  k<S.length/\Y.getD (cc Y m last Y.length).toNat default=S.getD k default/\yg S m (S.getD k default).number (k+1):=by
 obtain⟨hc,aIY⟩:=Tv Y m last Y.length hn
 have hb:=(Cp Y m last Y.length).2
 have fZ:(cc Y m last Y.length).toNat<Y.length:=O
 generalize (cc Y m last Y.length).toNat=a at hc aIY fZ
 unfold Mg at hc
 simp only[fb,Md,mc]at hc
 obtain⟨j,hj,he⟩:=nk (hS.sub (bP fZ) hc.1.1 O)
 have he:S.getD j default=Y.getD a default:=by rw[aX hj];exact he
 have hkj:k<=j:=by have:=h.past j;rw[he]at this;omega
 have hkm:=hS.mem (bP (show k<S.length by omega))
 have hr:=h.rest k (lb _) O
 have SL:j=k:=by
  by_cases e:k<j
  ·have hl:=yco hS.pair e hj;obtain⟨i,hi,hg,hci⟩:=ycV (m:=m) (last:=last) hkm.1 hkm.2.1;unfold Tn at hl;rw[he]at hl;have:=aIY i hi (hci.trans (pc O));rw[hg]at this;omega
  omega
 subst SL
 refine⟨hj,he.symm,hj,λi hi=>?_,λi hi hl=>?_⟩
 ·by_cases e:i=j
  ·subst e;rw[he];omega
  have:=h.past i O;rw[he];omega
 ·have:=yco hS.pair (show j<i by omega) hl;unfold Tn at this;rw[he]at this⊢;omega
def yg.done{Y S:List Fact}{M:Int}{k:Nat}(h:yg S (M+1) 0 k)(hS:gk Y S M):k=S.length:=by
 have hle:=h.le;by_cases e:k<S.length
 ·have:=(hS.mem (bP e)).2.2;have:=h.rest k (lb _) e;omega
 omega
def yg.start{Y S:List Fact}{M:Int}(hS:gk Y S M)(h1:∀f∈Y,f.kind=1->1<=f.number/\1<=f.month):yg S 1 0 0:=
 ⟨Oa _,λj hj=>by omega,λj _ hl=>by have hm:=hS.mem (bP hl);have:=h1 _ hm.1 hm.2.1;omega⟩
def gk.of{l:List Fact}(hv:∀f∈l,fR f=0)(M:Int):gk (cntF l) (j8 (cntF l) M) M:=
 ⟨br,λh hk hm=>by refine(Ai _ _).mem_iff.2 ?_;unfold tO;exact se.2 ⟨h,by simp[hk,hm]⟩,yc7 hv M⟩
def Xu{p:Proj}{S:List Fact}(hz:PW p.aQ p.bA=0):∀k,Hf (iM p S k).2
 |0=>by show Hf (G7 p.aQ p.bA);rw[show G7 p.aQ p.bA=BL p.aQ p.bA by unfold G7;rw[hz];rfl];exact Hf.of hz
 |k+1=>by
  have ih:=Xu (S:=S) hz k;rw[iM]
  cases he:(oS (iM p S k).2 (zC (S.getD k default)) (S.getD k default).dN==0)with
  |false=>exact ih
  |true=>
   have he:oS (iM p S k).2 (zC (S.getD k default)) (S.getD k default).dN=0:=by simpa using he
   rw[ycr ih.zero]at he;obtain⟨e1,e2⟩:=dU he;exact ih.Rv e1 e2
def bzz(a b:Int):((bif a !=0 then a else b)==0)=(a==0&&b==0):=by cases h:(a==0) <;> simp[bne,h]
def ycO{p:Proj}{S:List Fact}(hz:PW p.aQ p.bA=0){k:Nat}{H:List Fact}{y:gK}{f:Fact}(e:iM p S k=(H,y))(hf:S.getD k default=f):iM p S (k+1)=bif R6 y (zC f)==0&&mg y (zC f) f.dN==0 then(H++ [f],PO y (zC f) f.dN)else(H,y):=by have h:=(Xu (S:=S) hz k).zero;rw[iM,hf];rw[e]at h⊢;rw[ycr h,bzz]
def ybI{p:Proj}{S:List Fact}(hz:PW p.aQ p.bA=0):∀k,(iM p S k).2.aQ=p.aQ/\(iM p S k).2.bA=p.bA
 |0=>by show(G7 p.aQ p.bA).aQ=_/\(G7 p.aQ p.bA).bA=_;rw[show G7 p.aQ p.bA=BL p.aQ p.bA by unfold G7;rw[hz];rfl];exact⟨rfl,rfl⟩
 |k+1=>by
  have ih:=ybI (S:=S) hz k;rw[iM]
  cases(oS (iM p S k).2 (zC (S.getD k default)) (S.getD k default).dN==0)with
  |false=>exact ih
  |true=>exact ih
abbrev Rk(Y H:List Fact)(y:gK)(M m:Int)(r:List (Nat×AV))(b:List (Nat×Ea jK)):St:=⟨[(1,cJ Y),(2,vI M),(7,.s (.ptr 7 0)),(8,.s (.ptr 8 0)),(9,.s (.mo H.isEmpty 100)),(10,vI m)]++r,[(7,some (.cells (iB ze.zero))),(8,some (.cells (uH y))),(100,some (.b8 66 H.length 13 (nE H)))]++b⟩
def ydV(p:Proj)(Y S:List Fact)(M:Nat)(hs:(BL p.aQ p.bA).small)(hz:PW p.aQ p.bA=0)(hl:Y.length<=200)(hM:M<=24)(hS:gk Y S M)(hSl:S.length<=200)
  (h1:∀f∈Y,f.kind=1->1<=f.number/\1<=f.month):
  aF prog 58 [oR p,cJ Y,vI M] (.t [.s (.d (RN (iM p S S.length).1)),.g (uH (iM p S S.length).2)]):=by
 have hSt:=yg.start hS h1
 have hN:G7 p.aQ p.bA=BL p.aQ p.bA:=by unfold G7;rw[hz];rfl
 have hYV:=Xu (S:=S) hz
 have hsm:∀k,(iM p S k).2.small:=λk=>by have h2:=hYV k;have h3:=h2.nd;have h4:=h2.nc;have h5:=h2.nb;have h6:=h2.np;refine⟨O,O,O,O,?_⟩;rw[(ybI (S:=S) hz k).1];exact hs.aV
 refine eW func58 rfl rfl call58 rfl rfl (λR J=>?_)
 apply sX J
 apply sX J
 refine aB (aH5 p hs) ?_
 apply sX J
 refine Ta (sX J ?_)
 apply Xa
 refine mb (λs:Nat×Nat=>Rk Y (iM p S s.2).1 (iM p S s.2).2 M s.1 [] []) (λs=>1<=s.1/\s.1<=M+1/\yg S s.1 0 s.2) (λs=>M+1-s.1) (1,0) ⟨lb _,by show 1<=M+1;omega,hSt⟩ ?_ ?_
 ·refine La J [(100,1000)] rfl ⟨bQ,⟨rfl,Rc ?_⟩,⟨rfl,rfl⟩,oO⟩ ⟨Z,Z,Z,Z,⟨rfl,Jd rfl⟩,Ga⟩;show ZW _ (mC [(100,1000)] (uH (G7 p.aQ p.bA)));rw[hN];exact⟨Sa,Sa,Sa,Sa,oO⟩
 rintro⟨m,k⟩ ⟨hm1,hm2,hw⟩
 dsimp only at hm1 hm2 hw
 apply sX J
 apply aI<;>intro h2
 ·have h2:(m:Int)<=M:=bG h2;refine Ta (Xa (sX J ?_));refine Xa (mb (λs:Nat×Int=>Rk Y (iM p S s.1).1 (iM p S s.1).2 M m [(11,vI s.2)] []) (λs=>yg S m s.2 s.1) (λs=>S.length-s.1) (k,0) hw (La J [] rfl Ga Ga) ?_);rintro⟨k,last⟩ hw;dsimp only at hw;refine Xa (sX J ?_);refine sc (I':=Rk Y (iM p S k).1 (iM p S k).2 M m [(12,vI (cc Y m last Y.length))] []) ?_ ?_
  ·refine sX J (Xa ?_);refine mb (λi:Nat=>Rk Y (iM p S k).1 (iM p S k).2 M m [(11,vI last),(12,vI (cc Y m last i)),(13,vI i)] []) (λi=>i<=Y.length) (λi=>Y.length-i) 0 (Oa _) (La J [] rfl Ga Ga) ?_;intro i hi;apply sX J;apply aI<;>intro h3
   ·have h3:(i:Int)<Y.length:=bG h3;have hmb:=Cp Y m last i;refine Ta (Xa (sX J ?_));apply oi Ia;repeat refine aR ?_
    refine og (λ_=>Ia) ?_;repeat refine aR ?_
    refine og (λ_=>Ia) ?_;repeat refine aR ?_
    refine og (λ_=>Ia) ?_;repeat refine aR ?_
    refine og (λh4=>?_) ?_
    ·simp[rL]at h4;omega
    repeat refine aR ?_
    refine aD ?_;have ew:aW ((i:Int)+1)=((i+1:Nat):Int):=aG O O;refine ab (aI (λh4=>?_) (λh4=>tb ?_))
    ·have h4:(Mg Y m last i&&(decide (cc Y m last i<0)||decide ((Y.getD i default).number<(Y.getD (cc Y m last i).toNat default).number)))=true:=h4;have hA4:(i:Int)=cc Y m last (i+1):=by rw[cc,h4];rfl
     refine eX J (eX J ?_);exact⟨i+1,O,O,La J [] rfl Ga ⟨Z,Z,Z,Z,Z,Z,Z,⟨rfl,Ra hA4⟩,⟨rfl,Ra ew⟩,oO⟩⟩
    have h4:(Mg Y m last i&&(decide (cc Y m last i<0)||decide ((Y.getD i default).number<(Y.getD (cc Y m last i).toNat default).number)))=false:=h4;have hA4:cc Y m last i=cc Y m last (i+1):=by rw[cc,h4];rfl
    exact eX J ⟨i+1,O,O,La J [] rfl Ga ⟨Z,Z,Z,Z,Z,Z,Z,⟨rfl,Ra hA4⟩,⟨rfl,Ra ew⟩,oO⟩⟩
   have h3:¬(i:Int)<Y.length:=bF h3;obtain rfl:i=Y.length:=O;exact⟨rfl,La J [] rfl Ga Ga⟩
  apply sX J;apply aI<;>intro h3
  ·have h3:cc Y m last Y.length<0:=bG h3;have V6:=hw.none hS h3 h1;have ew:aW ((m:Int)+1)=((m+1:Nat):Int):=aG O O;have em:((m+1:Nat):Int)=(m:Int)+1:=O;apply eX J;refine⟨(m+1,k),⟨by show 1<=m+1;omega,by show m+1<=M+1;omega,by show yg _ ((m+1:Nat):Int) 0 k;rw[em];exact V6⟩,by show M+1-(m+1)<M+1-m;omega,?_⟩;exact La J [] rfl Ga ⟨Z,Z,Z,Z,Z,⟨rfl,Ra ew⟩,oO⟩
  have h3:¬cc Y m last Y.length<0:=bF h3;obtain⟨hk,oL,V6⟩:=hw.some hS h2 O;have hmb:=Cp Y m last Y.length;refine sX J (oi Ia ?_);refine sX J (sX J ?_);generalize hf:S.getD k default=f at oL V6;obtain⟨H,y,e⟩:∃H y,iM p S k=(H,y):=⟨_,_,rfl⟩;have hsu:=ycO hz e hf;have hHk:=BY p S k;have hy:=hYV k;have hys:=hsm k;rw[e]at hHk hy hys;dsimp only at hHk hy hys;refine Gb (I':=Rk Y H y M m [(11,vI f.number),(14,.s (.ptr 14 0)),(15,.s (.ptr 15 0))] [(14,some (.cells (xT f))),(15,some (.cells (lq (zC f))))]) ?_ ?_
  ·rw[e];refine La J [] rfl ⟨bQ,bQ,bQ,⟨rfl,Rc ⟨?_,?_,?_,?_,?_,?_,?_,?_,?_,?_,?_,?_,?_,oO⟩⟩,⟨rfl,Rc ⟨?_,?_,?_,?_,?_,oO⟩⟩,oO⟩ ⟨Z,Z,Z,Z,Z,Z,⟨rfl,?_⟩,Ga⟩;all_goals exact Ob (by rw[<-oL];rfl)
  apply sX J;refine aB (ycX y (zC f) (by have:=hys.bA;omega)) ?_;repeat refine aR ?_
  have hgo:R6 y (zC f)=0->0<=zO y.bA f.aN/\(y.bA.getD (I0 y (zC f)) default).den≠0:=λhb=>by have h0:=(Av hb).2.2.2.2.2.2;have:=(iu hy (Xl h0).1).1;exact⟨h0,O⟩
  have hnp:=hys.aQ;have YP:=hy.nd;refine yd5 (r:=vI (mg y (zC f) f.dN)) (λhb=>?_) ?_
  ·have hb:R6 y (zC f)=0:=by simpa[rL]using hb
   exact ycY y (zC f) f.dN hys O O (hgo hb).1 hy.nc (hgo hb).2
  repeat refine aR ?_
  refine ab (aI (λh4=>?_) (λh4=>tb ?_))
  ·have h4:(R6 y (zC f)==0&&mg y (zC f) f.dN==0)=true:=h4;rw[h4]at hsu;simp only[fb,Md]at h4;obtain⟨g1,g2⟩:=hgo h4.1;refine sX J (aB (yec y (zC f) f.dN hys YP g1 hy.nc g2) ?_);refine eX J (ob dC ?_);refine ob (by rw[dK];show(H.length+1)*144<=_;omega) ?_;refine ob (λa c ha hc=>by match a,ha,c,hc with|0,_,0,_|0,_,1,_|0,_,2,_|0,_,3,_|0,_,4,_|0,_,5,_|0,_,6,_|0,_,7,_|0,_,8,_|0,_,9,_|0,_,10,_|0,_,11,_|0,_,12,_=>rfl) ?_;refine⟨(k+1,f.number),V6,by show S.length-(k+1)<S.length-k;omega,?_⟩;show aM _ _ _ (Rk Y (iM p S (k+1)).1 (iM p S (k+1)).2 M m [(11,vI f.number)] []);rw[hsu];refine La J [(100,110)] rfl ⟨bQ,bQ,⟨rfl,?_⟩,oO⟩ ⟨Z,Z,Z,Z,⟨rfl,Oc (cA _ _)⟩,Ga⟩;exact Hd (el:=J0) (x:=f) λc hc=>by match c,hc with|0,_|1,_|2,_|3,_|4,_|5,_|6,_|7,_|8,_|9,_|10,_|11,_|12,_=>rfl
  have h4:(R6 y (zC f)==0&&mg y (zC f) f.dN==0)=false:=h4;rw[h4]at hsu;refine⟨(k+1,f.number),V6,by show S.length-(k+1)<S.length-k;omega,?_⟩;show aM _ _ _ (Rk Y (iM p S (k+1)).1 (iM p S (k+1)).2 M m [(11,vI f.number)] []);rw[hsu];exact La J [] rfl Ga Ga
 ·have h2:¬(m:Int)<=M:=bF h2;obtain rfl:m=M+1:=O;have em:((M+1:Nat):Int)=(M:Int)+1:=O;rw[em]at hw;obtain rfl:=hw.done hS;have hHk:=BY p S S.length;generalize iM p S S.length=r at*;refine eX J (aD ?_);exact Te ⟨Za (show DV.fU (bif r.1.isEmpty then 0 else r.1.length) 13 (nE r.1)=RN r.1 by rw[dK];rfl),⟨Ka _,Ka _,Ka _,Ka _,oO⟩,oO⟩
abbrev kyS(s:wa):bJ:=s.data.toList
def Rf(g:bJ->Nat×List Room)(k:bJ)(v:Nat×List Room):bJ->Nat×List Room:=λk'=>if k'=k then v else g k'
def Qn(g:bJ->Nat×List Room)(k:bJ)(v:Nat×List Room):Rf g k v k=v:=Qa rfl
def Zn{g:bJ->Nat×List Room}{k k':bJ}{v:Nat×List Room}(h:k'≠k):Rf g k v k'=g k':=Ma h
def Zh(e:mF)(r:List mF)(k:bJ):B1 (e::r) k=bif k==e.1 then e.2.1 else B1 r k:=by
 have sh:∀(l:List mF) (i:Nat),(fP l k (i+1)).map (·.2)=(fP l k i).map (·.2):=by
  intro l;induction l with
  |nil=>intro i;rfl
  |cons x r ih=>
   intro i;rw[fP,fP]
   cases k==x.1 with
   |true=>rfl
   |false=>exact ih (i+1)
 unfold B1;rw[fP]
 cases k==e.1 with
 |true=>rfl
 |false=>
  have:=sh r 0;show(match fP r k (0+1)with|some (_,e)=>e.2.1|none=>(0,[]))=(match fP r k 0 with|some (_,e)=>e.2.1|none=>(0,[]))
  cases h1:fP r k (0+1) <;> cases h2:fP r k 0 <;> rw[h1,h2]at this <;> simp_all
def ybX{k:bJ}:∀{E:List mF} {i j:Nat} {e:mF},fP E k i=some (j,e)->∃a b,E=a++e::b/\j=i+a.length/\e.1=k/\∀x∈a,(k==x.1)=false
 |[],_,_,_,h=>by cases h
 |x::r,i,j,e,h=>by
  rw[fP]at h
  cases hk:(k==x.1)with
  |true=>rw[hk]at h;obtain⟨rfl,rfl⟩:=Mx (dd h);exact⟨[],r,rfl,rfl,(eq_of_beq hk).symm,λy hy=>by cases hy⟩
  |false=>
   rw[hk]at h;obtain⟨a,b,rfl,hj,he,ha⟩:=ybX (E:=r) h;refine⟨x::a,b,rfl,by rw[hj,Pb];omega,he,λy hy=>?_⟩;rcases Cb.1 hy with rfl|hy
   ·exact hk
   exact ha y hy
def ycj{k:bJ}:∀{E:List mF} {i:Nat},fP E k i=none->∀x∈E,(k==x.1)=false
 |[],_,_,x,hx=>by cases hx
 |y::r,i,h,x,hx=>by
  rw[fP]at h
  cases hk:(k==y.1)with
  |true=>rw[hk]at h;cases h
  |false=>
   rw[hk]at h;rcases Cb.1 hx with rfl|hx
   ·exact hk
   exact ycj h x hx
def Mt{k:bJ}(b:List mF):∀(a:List mF),(∀x∈a,(k==x.1)=false)->B1 (a++b) k=B1 b k
 |[],_=>rfl
 |x::r,h=>by rw[Re,Zh,h x (Gc),Wa];exact Mt b r λy hy=>h y (Ub _ hy)
def ybH{k k':bJ}{x y:mF}(b:List mF)(hx:x.1=k)(hy:y.1=k)(hk:k'≠k):∀(a:List mF),B1 (a++x::b) k'=B1 (a++y::b) k'
 |[]=>by have h:(k'==k)=false:=Ng.2 hk;rw[Fh,Fh,Zh,Zh,hx,hy,h];rfl
 |z::r=>by rw[Re,Re,Zh,Zh,ybH b hx hy hk r]
def Xt(E:List mF)(k:bJ)(v:Nat×List Room):B1 (Ig E k v)=Rf (B1 E) k v:=by
 funext k';unfold Ig
 cases hf:fP E k 0 with
 |none=>
  have hn:=ycj hf;by_cases he:k'=k
  ·subst he;rw[Qn];show B1 (E++ [(k',v,E.length)]) k'=v;rw[Mt _ _ hn,Zh,BEq.rfl];rfl
  rw[Zn he];show B1 (E++ [(k,v,E.length)]) k'=B1 E k';have:∀a:List mF,B1 (a++ [(k,v,E.length)]) k'=B1 a k':=by
   intro a;induction a with
   |nil=>rw[Fh,Zh,show(k'==k)=false from Ng.2 he];rfl
   |cons x r ih=>rw[Re,Zh,Zh,ih]
  exact this E
 |some p=>
  obtain⟨i,e⟩:=p;obtain⟨a,b,rfl,hi,hek,ha⟩:=ybX hf;obtain rfl:i=a.length:=O;show B1 ((a++e::b).modify a.length λe=>(e.1,v,e.2.2)) k'=_;have hm:(a++e::b).modify a.length (λe=>(e.1,v,e.2.2))=a++(e.1,v,e.2.2)::b:=by
   clear hf ha hi;induction a with
   |nil=>rfl
   |cons x r ih=>simpa[Nw]using ih
  rw[hm];by_cases he:k'=k
  ·subst he;rw[Qn,Mt _ _ ha,Zh,<-hek,BEq.rfl];rfl
  rw[Zn he];exact ybH (x:=(e.1,v,e.2.2)) (y:=e) b hek hek he a
def ng:List Part->Int
 |[]=>0
 |x::r=>(x.cb-x.bot)+ng r
def ycx(b:List Part):∀a,ng (a++b)=ng a+ng b
 |[]=>by show ng b=0+_;omega
 |x::r=>by show _+ng (r++b)=_+ng r+_;rw[ycx b r];omega
def Al(x y:Int):mm true x y=max x y:=by unfold mm;simp only;split <;> omega
def ydc{l:List sC}{hi lo:Int}(h:lo<=hi)(hd:∀i,i+1<l.length->(l.getD (i+1) default).cb<(l.getD i default).cb):
  ∀n,n<l.length->ng (nL l hi lo (n+1))=hi-min hi (FM l lo n):=by
 intro n
 induction n with
 |zero=>
  intro h0;rw[ZC];show ng ([]++(X8 l hi lo 0).toList)=_;unfold X8 C4;show ng ([]++(bif decide (hi>FM l lo 0)then some (⟨(l.getD 0 default).aN,hi,FM l lo 0⟩:Part)else none).toList)=_;by_cases hb:hi>FM l lo 0
  ·rw[pc hb];show(hi-FM l lo 0)+0=_;omega
  rw[Cd hb];show(0:Int)=_;omega
 |succ n ih=>
  intro hn;rw[ZC,ycx,ih O];have ht:C4 l hi (n+1)=min hi (l.getD (n+1) default).cb:=by unfold C4;rw[pc O];exact Gf _ _
  have hb0:FM l lo n=max lo (l.getD (n+1) default).cb:=by unfold FM;rw[pc O];exact Al _ _
  have hb1:FM l lo (n+1)=lo\/∃t,t<(l.getD (n+1) default).cb/\FM l lo (n+1)=max lo t:=by
   unfold FM;by_cases hc:n+1+1<l.length
   ·rw[pc O];exact .inr ⟨_,hd (n+1) hc,Al _ _⟩
   rw[Cd O];exact .inl rfl
  unfold X8;rw[ht,hb0];generalize FM l lo (n+1)=b at hb1;generalize (l.getD (n+1) default).cb=t at hb1;by_cases hc:min hi t>b
  ·rw[pc hc];show _+((min hi t-b)+0)=_;rcases hb1 with hb1|⟨u,h1,h2⟩ <;> omega
  rw[Cd hc];show _+(0:Int)=_;rcases hb1 with hb1|⟨u,h1,h2⟩ <;> omega
def ydL{s:List lI}{b:fS}(h:vN s b=0):0<b.bB.length/\∀i,i+1<b.bB.length->(b.bB.getD (i+1) default).cb<(b.bB.getD i default).cb:=by unfold vN at h;obtain⟨_,h⟩:=dF dC h;obtain⟨h1,h⟩:=dF dC h;obtain⟨_,h⟩:=dF dC h;refine⟨by simp at h1;exact Og.2 h1,λi hi=>?_⟩;have h2:=lQ h (i+1) (Oa _) O;unfold sL at h2;obtain⟨_,h2⟩:=dF dC h2;obtain⟨h2,_⟩:=dF dC h2;rw[pc O]at h2;simpa using h2
def ycK{g:Ground}(h:dX g=0){b:fS}(hb:b∈g.cC):vN g.bK b=0:=by unfold dX at h;obtain⟨_,h⟩:=dU h;obtain⟨_,h⟩:=dF dC h;obtain⟨_,h⟩:=dF dC h;obtain⟨i,hi,rfl⟩:=nk hb;have h2:=lQ h i (Oa _) O;unfold uC at h2;obtain⟨_,h2⟩:=dF dC h2;obtain⟨_,h2⟩:=dF dC h2;rw[aX hi]at h2;exact h2
def yc8{p:Proj}(hv:PV p){i:Nat}(hi:i<p.aT.levels.length){a b:Int}(ha: -20000<=a/\a<=20000)(hb: -20000<=b/\b<=20000)(h:b<=a):ng (vP p.gr (dP p.aT i) a b)=a-b:=by
 have hg:=(RY hv.gv hi).1;have he:FQ p.gr (dP p.aT i) a b=0:=by
  have e1:FN p.gr (dP p.aT i) [a,b]=0:=by unfold FN;rw[hv.gr,hg];have w1:=within_iff.2 ha;have w2:=within_iff.2 hb;simp[L2,w1,w2]
  unfold FQ;rw[e1,Cd O];rfl
 unfold vP;rw[he];show ng (nL _ a b _)=_;obtain⟨h1,h2⟩:=ydL (ycK hv.gr (aIO (c:=dP p.aT i) (EX hv.gr).1));generalize (uD p.gr (dP p.aT i)).bB=l at h1 h2;obtain⟨n,hn⟩:∃n,l.length=n+1:=⟨l.length-1,O⟩;rw[hn,ydc h h2 n O];have:FM l b n=b:=by unfold FM;rw[Cd O];rfl
 rw[this];omega
def ycq{p:Proj}{m:Int}{i:Nat}{x:Part}(hv:PV p)(hx:AQ x):(bN p m i x).iZ=(x.cb-x.bot)*dH p:=by obtain⟨a1,a2⟩:=tq hv;have h1:=hx.lt;have h2:=hx.lo;have h3:=hx.hi;have h4:=Ze (a:=x.cb-x.bot) (b:=dH p) O O;have h5:(x.cb-x.bot)*dH p<=40000*1000000:=Mh O a2 O dC;show aW (aW (x.cb-x.bot)*dH p)=_;rw[show aW (x.cb-x.bot)=x.cb-x.bot from aG O O,aG O O]
def ydj{p:Proj}(hv:PV p){i:Nat}(hi:i<p.aT.levels.length):P2 p i=30000\/(-20000<=P2 p i/\P2 p i<=20000):=by
 unfold P2;rw[ybp _ _ _ hi];unfold L0
 cases hd:(UI p.chan (dP p.aT i)).2 with
 |false=>exact .inl rfl
 |true=>have h1:=ych hv.val (RY hv.gv hi).1 hd;have h2:=hv.val.over;refine .inr ?_;show -20000<=aW _/\aW _<=20000;rw[aG O O];omega
def ybM{p:Proj}{m:Int}{i:Nat}{x:Part}(hv:PV p)(hi:i<p.aT.levels.length)(hx:AQ x):0<=(bN p m i x).gV/\(bN p m i x).gV<=(bN p m i x).iZ:=by
 obtain⟨a1,a2⟩:=tq hv;have h1:=hx.lt;have h2:=hx.lo;have h3:=hx.hi;rw[ycq hv hx];have h4:=Ze (a:=x.cb-x.bot) (b:=dH p) O O;show 0<=(bif P2 p i !=30000 then aW (mm true 0 (aW (x.cb-mm true x.bot (P2 p i)))*dH p)else 0)/\(bif P2 p i !=30000 then aW (mm true 0 (aW (x.cb-mm true x.bot (P2 p i)))*dH p)else 0)<=_
 cases hl:(P2 p i !=30000)with
 |false=>exact⟨Ic _,h4⟩
 |true=>
  have hb:=ydj hv hi;have hl:P2 p i≠30000:=by simpa using hl
  show 0<=aW _/\aW _<=_;rw[Al,Al,aG (n:=x.cb-max x.bot (P2 p i)) O O];have q1:=Ze (a:=max 0 (x.cb-max x.bot (P2 p i))) (b:=dH p) O O;have q2:=Ej (a:=max 0 (x.cb-max x.bot (P2 p i))) (b:=x.cb-x.bot) (c:=dH p) O O;have q3:(x.cb-x.bot)*dH p<=40000*1000000:=Mh O a2 O dC;rw[aG O O];exact⟨q1,q2⟩
section
variable{l:List Fact}{f:Fact}(h0:f.kind=0)
include h0
end
def Tj(x:Int):Prop:=x=30000\/(-20000<=x/\x<=20000)
def Mn{n:Int}(h: -1000000<=n)(k:n<=1000000):aW n=n:=aG O O
def ycv{p:Proj}{Y:List Fact}(hS:Tf p Y)(hv:Ug Y)(m:Int){i:Nat}(hi:i<p.aT.levels.length):Tj (fF p Y m i).1:=by
 have ha:=GD hv 0 m hi hS.shape;have hb:=GD hv 1 m hi hS.shape;have hc:=GD hv 2 m hi hS.shape;unfold fF;generalize lT Y 0 m i=a at ha;generalize lT Y 1 m i=b at hb;generalize lT Y 2 m i=c at hc;dsimp only
 cases h1:(a==30000)with
 |true=>exact hb
 |false=>
  have h1:a≠30000:=by simpa using h1
  cases h2:(b==30000)with
  |true=>exact ha
  |false=>
   have h2:b≠30000:=by simpa using h2
   cases decide (aW (mm true a b-mm false a b)<=p.agree)with
   |true=>show Tj (aW (aW (Int.tdiv (aW (aW (aW (a+b)+40000)+1)) 2)-20000));rw[Mn (n:=a+b) O O,Mn (n:=a+b+40000) O O,Mn (n:=a+b+40000+1) O O,si O,Mn (n:=(a+b+40000+1) / 2) O O,Mn O O];exact .inr O
   |false=>
    cases h3:(c==30000)with
    |true=>exact hc
    |false=>
     have h3:c≠30000:=by simpa using h3
     show Tj (X4 a b c);unfold X4;rw[Al,Gf,Gf,Al];exact .inr O
def Ol{p:Proj}{Y:List Fact}(hp:PV p)(hS:Tf p Y)(hv:Ug Y){i:Nat}(hi:i<p.aT.levels.length):∀M,Tj (iL p Y M i)
 |0=>by
  rw[iL]
  cases h:((fF p Y ((0:Nat):Int) i).1==30000)with
  |true=>exact hp.gv.Qu _ (by rw[Ib,Bb hi];exact Be _)
  |false=>exact ycv hS hv _ hi
 |M+1=>by have h1:=Ol hp hS hv hi M;have h2:=ycv hS hv ((M+1:Nat):Int) hi;rw[iL,Gf];unfold Tj at*;omega
def yd1{p:Proj}(hv:PV p){i:Nat}(hi:i<p.aT.levels.length){a b:Int}(ha: -20000<=a/\a<=20000)(hb: -20000<=b/\b<=20000)(h:b<=a):
  (ee (Zd (dP p.aT i)) p.gr.cC p.gr.cC.length).1<p.gr.cC.length/\vP p.gr (dP p.aT i) a b=nL (p.gr.cC.getD (ee (Zd (dP p.aT i)) p.gr.cC p.gr.cC.length).1 default).bB a b (p.gr.cC.getD (ee (Zd (dP p.aT i)) p.gr.cC p.gr.cC.length).1 default).bB.length:=by
 have hg:=(RY hv.gv hi).1
 have he:FQ p.gr (dP p.aT i) a b=0:=by
  have e1:FN p.gr (dP p.aT i) [a,b]=0:=by unfold FN;rw[hv.gr,hg];have w1:=within_iff.2 ha;have w2:=within_iff.2 hb;simp[L2,w1,w2]
  unfold FQ;rw[e1,Cd O];rfl
 have hbo:∀x∈p.gr.cC,fB (Uf x)=true:=λx hx=>by have h1:=ycK hv.gr hx;unfold vN at h1;obtain⟨h1,_⟩:=dF dC h1;show fB ⟨x.x,x.y⟩=true;simpa using h1
 rw[yc4 hg hbo _ (lb _)]
 refine⟨MS _ _ _ (EX hv.gr).1,?_⟩
 unfold vP
 rw[he]
 rfl
def yen{p:Proj}(hv:PV p){i:Nat}(hi:i<p.aT.levels.length){a b:Int}(ha: -20000<=a/\a<=20000)(hb: -20000<=b/\b<=20000)(h:b<=a):
  aF prog 113 [T7 p.gr,pt (dP p.aT i),vI a,vI b] (iC (vP p.gr (dP p.aT i) a b)):=by
 obtain⟨h1,h2⟩:=yd1 hv hi ha hb h
 rw[h2]
 have h3:=hv.aBZ _ (bP h1)
 exact ydT p.gr _ a b h1 (by have:=(EX hv.gr).2;omega) O
def Wj(p:Proj)(Y:List Fact)(k i:Nat):List Ua:=
 bif iL p Y k i==30000||decide (iL p Y (k+1) i>=iL p Y k i)then []else(vP p.gr (dP p.aT i) (iL p Y k i) (iL p Y (k+1) i)).map (bN p (k+1:Nat) i)
def Ce(p:Proj)(Y:List Fact)(k n:Nat):List Ua:=(List.range n).flatMap (Wj p Y k)
def Pu(p:Proj)(Y:List Fact)(k n:Nat):Ce p Y k (n+1)=Ce p Y k n++Wj p Y k n:=by unfold Ce;rw[Uk,Uw];simp
def Nu{p:Proj}(hv:PV p)(Y:List Fact)(k:Nat):∀n,(Ce p Y k n).length<=12*n
 |0=>lb _
 |n+1=>by
  have h1:=Nu hv Y k n;have h2:(Wj p Y k n).length<=12:=by
   unfold Wj
   cases iL p Y k n==30000||decide (iL p Y (k+1) n>=iL p Y k n)with
   |true=>exact Oa _
   |false=>rw[Wa,nf];exact I6 hv
  rw[Pu,Qc];omega
abbrev Ek(p:Proj)(Y:List Fact)(k:Nat)(out:List Ua)(r:List (Nat×AV))(b:List (Nat×Ea jK)):St:=⟨[(1,cJ Y),(2,vI (k+1:Nat)),(3,.s (.ptr 3 0)),(7,.s (.ptr 7 0)),(8,.s (.ptr 8 0)),(9,.s (.ptr 9 0)),(10,vI (dH p)),(11,.s (.mo out.isEmpty 100))]++r,[(3,some (.cells (qH p))),(7,some (.cells (C3 p.aT (.d (b5 (lE p Y k)))))),(8,some (.cells (C3 p.aT (.d (b5 (lE p Y (k+1))))))),(9,some (.cells (kQ p))),(100,some (.b8 86 out.length 7 (eJ out)))]++b⟩
def yee(p:Proj)(Y:List Fact)(k:Nat)(hp:PV p)(h:Tf p Y)(hv:Ug Y)(hk:k+1<=24):aF prog 59 [oR p,cJ Y,vI (k+1:Nat)] (iD (Ce p Y k p.aT.levels.length)):=by
 obtain⟨hn0,hn1⟩:=h.n;have hL0:aF prog 63 [oR p,cJ Y,vI (aW (((k+1:Nat):Int)-1))] (rK (sK p Y k)):=by rw[show aW (((k+1:Nat):Int)-1)=((k:Nat):Int) by rw[aG O O];omega];exact tw p Y k h hv O
 have hL1:=tw p Y (k+1) h hv hk;refine eW func59 rfl rfl call59 rfl rfl (λR J=>?_);refine sX J (sX J ?_);refine aB hL0 (aB hL1 ?_);refine aD (sX J ?_);refine aB (ybj p.chan p.aT p.chan.over hp.val hp.gv) (sX J ?_);refine sX J (Ta (sX J ?_));refine Xa (mb (λi:Nat=>Ek p Y k (Ce p Y k i) [(12,vI i)] []) (λi=>i<=p.aT.levels.length) (λi=>p.aT.levels.length-i) 0 (Oa _) (La J [(100,1000)] rfl ⟨bQ,bQ,bQ,bQ,⟨rfl,rfl⟩,oO⟩ ⟨Z,Z,Z,Z,Z,Z,Z,⟨rfl,Jd rfl⟩,Ga⟩) ?_);intro i hi;refine Ta (sX J ?_);refine ab (aI (λh1=>tb ?_) (λh1=>tc ?_))
 ·have h1:(i:Int)<(lE p Y k).length:=bG h1;rw[P0]at h1;have bC:i<p.aT.levels.length:=O;have hsu:=Pu p Y k i;have hle:=Nu hp Y k i;have l0:=Ol hp h hv bC k;have l1:=Ol hp h hv bC (k+1);unfold Tj at l0 l1;have hmm:iL p Y (k+1) i<=iL p Y k i:=by show mm false _ _<=_;rw[Gf];omega
  refine sc (I':=Ek p Y k (Ce p Y k (i+1)) [(12,vI i)] []) ?_ ?_
  ·refine Xa (sX J ?_);refine oi (show 0<=(i:Int)/\(i:Int)<(lE p Y k).length by rw[P0];omega) ?_;refine oi (show 0<=(i:Int)/\(i:Int)<(lE p Y (k+1)).length by rw[P0];omega) ?_;refine aD (Gb (I':=Ek p Y k (Ce p Y k i) [(12,vI i),(13,vI (iL p Y k i)),(14,vI (iL p Y (k+1) i))] []) (La J [] rfl Ga ⟨Z,Z,Z,Z,Z,Z,Z,Z,Z,⟨rfl,Ra (uS bC)⟩,⟨rfl,Ra (uS bC)⟩,oO⟩) ?_);refine Ta (sX J ?_);repeat refine aR ?_
   refine ab (aI (λh2=>tc ?_) (λh2=>tb ?_))
   ·have h2:((iL p Y k i==30000||iL p Y (k+1) i==30000)||decide (iL p Y (k+1) i>=iL p Y k i))=true:=h2;have h3:(iL p Y k i==30000||decide (iL p Y (k+1) i>=iL p Y k i))=true:=by simp only[ag,mc,Md]at h2⊢;omega
    have e:Ce p Y k (i+1)=Ce p Y k i:=by rw[hsu];unfold Wj;rw[h3];exact Ad _
    rw[e];exact⟨rfl,La J [] rfl Ga Ga⟩
   have h2:((iL p Y k i==30000||iL p Y (k+1) i==30000)||decide (iL p Y (k+1) i>=iL p Y k i))=false:=h2;have h3:(iL p Y k i==30000||decide (iL p Y (k+1) i>=iL p Y k i))=false:=by simp only[wc]at h2⊢;exact⟨h2.1.1,h2.2⟩
   simp only[wc,Ng,ne_eq,ic]at h2;have hC:=yen hp bC (a:=iL p Y k i) (b:=iL p Y (k+1) i) O O hmm;have hl12:=I6 (c:=dP p.aT i) (hi:=iL p Y k i) (lo:=iL p Y (k+1) i) hp;have e:Ce p Y k (i+1)=Ce p Y k i++(vP p.gr (dP p.aT i) (iL p Y k i) (iL p Y (k+1) i)).map (bN p (k+1:Nat) i):=by rw[hsu];unfold Wj;rw[h3];rfl
   rw[e];generalize vP p.gr (dP p.aT i) (iL p Y k i) (iL p Y (k+1) i)=xs at hC hl12;generalize Ce p Y k i=out at hle;apply sX J;refine aB (pv p.aT i (by have:=hp.gv.dO;omega)) ?_;refine aB hC (aD ?_);refine sX J (Xa ?_);refine mb (λj:Nat=>Ek p Y k (out++(xs.take j).map (bN p (k+1:Nat) i)) [(12,vI i),(15,iC xs),(16,vI j)] []) (λj=>j<=xs.length) (λj=>xs.length-j) 0 (Oa _) ?_ ?_
   ·exact La J [] rfl ⟨bQ,bQ,bQ,bQ,⟨rfl,Tb (by rw[wx,Ex,Ad];rfl)⟩,oO⟩ ⟨Z,Z,Z,Z,Z,Z,Z,⟨rfl,Ob (by rw[wx,Ex,Ad];rfl)⟩,Ga⟩
   intro j hj;refine Ta (sX J ?_);refine ab (aI (λh4=>tb ?_) (λh4=>tc ?_))
   ·have h4:(j:Int)<xs.length:=bG h4;have qR:j<xs.length:=O;have HW:(out++(xs.take j).map (bN p (k+1:Nat) i)).length<=12*i+12:=by rw[Qc,nf,Xe];omega
    have eS:out++(xs.take (j+1)).map (bN p (k+1:Nat) i)=(out++(xs.take j).map (bN p (k+1:Nat) i))++ [bN p (k+1:Nat) i (xs.getD j default)]:=by rw[Gd,Bb qR,aX qR,Fi,Pe];rfl
    generalize out++(xs.take j).map (bN p (k+1:Nat) i)=ot at HW eS;refine Ta (Xa ?_);refine sX J (oi Ia ?_);refine oi Ia (oi Ia ?_);refine aD (sc (I':=Ek p Y k ot [(12,vI i),(15,iC xs),(16,vI j),(17,.s (.ptr 17 0))] [(17,some (.cells (bh (bN p (k+1:Nat) i (xs.getD j default)))))]) ?_ ?_)
    ·apply sX J;refine oi (show 0<=(i:Int)/\(i:Int)<(mM p.chan p.aT p.chan.over).levels.length by rw[E6];omega) ?_;have hvol:aW (dH p*aW ((xs.getD j default).cb-(xs.getD j default).bot))=(bN p (k+1:Nat) i (xs.getD j default)).iZ:=by show _=aW (aW ((xs.getD j default).cb-(xs.getD j default).bot)*dH p);rw[Ii]
     refine sX J (ab ?_);refine aI (λh5=>?_) (λh5=>tb ?_)
     ·have h5:(P2 p i !=30000)=true:=h5;have hpd:aW (dH p*mm true 0 (aW ((xs.getD j default).cb-mm true (xs.getD j default).bot (P2 p i))))=(bN p (k+1:Nat) i (xs.getD j default)).gV:=by show _=bif P2 p i !=30000 then _ else _;rw[h5,Ii];rfl
      refine eX J (oi Ia ?_);exact oi Ia (aD ⟨rfl,La J [] rfl ⟨bQ,bQ,bQ,bQ,bQ,⟨rfl,Rc ⟨Sa,Sa,Sa,Ra hvol,Ra hpd,Sa,Sa,oO⟩⟩,oO⟩ Ga⟩)
     have h5:(P2 p i !=30000)=false:=h5;have hpd:(0:Int)=(bN p (k+1:Nat) i (xs.getD j default)).gV:=by show _=bif P2 p i !=30000 then _ else _;rw[h5];rfl
     exact⟨rfl,La J [] rfl ⟨bQ,bQ,bQ,bQ,bQ,⟨rfl,Rc ⟨Sa,Sa,Sa,Ra hvol,Ra hpd,Sa,Sa,oO⟩⟩,oO⟩ Ga⟩
    refine eX J (ob dC ?_);refine ob (by rw[dK];show(ot.length+1)*72<=_;omega) ?_;refine ob (nJ λc hc=>by match c,hc with|0,_|1,_|2,_|3,_|4,_|5,_|6,_=>rfl) (eX J ?_);refine⟨j+1,O,O,?_⟩;rw[eS];refine La J [(100,134)] rfl ⟨bQ,bQ,bQ,bQ,⟨rfl,?_⟩,oO⟩ ⟨Z,Z,Z,Z,Z,Z,Z,⟨rfl,Oc (cA _ _)⟩,Ga⟩;refine Hd (el:=lm) (x:=bN p (k+1:Nat) i (xs.getD j default)) (λc hc=>?_);have hc:c<7:=hc
    match c,hc with|0,_|1,_|2,_|3,_|4,_|5,_|6,_=>rfl
   have h4:¬(j:Int)<xs.length:=bF h4;obtain rfl:j=xs.length:=O;exact⟨rfl,La J [] rfl ⟨bQ,bQ,bQ,bQ,⟨rfl,Tb (by rw[Ec];rfl)⟩,oO⟩ ⟨Z,Z,Z,Z,Z,Z,Z,⟨rfl,Ob (by rw[Ec];rfl)⟩,Ga⟩⟩
  exact eX J ⟨i+1,O,O,La J [] rfl Ga Ga⟩
 have h1:¬(i:Int)<(lE p Y k).length:=bF h1;rw[P0]at h1;obtain rfl:i=p.aT.levels.length:=O;exact eX J Li
end Go.Pj
namespace Go.Ax
def AW.Jk{P:Ca}{R:Cx}{N:Nat}{I:St}{c:Code}{K:Exit->St->Prop}(zs:List Nat)(J:R.ref=[])(h:AW P R N c (CB zs I) K):AW P R N c I K:=λM V a w i=>by obtain⟨M',i',g⟩:=i.CB J zs;exact mh (h M' V a w i') λ_ _ _ ⟨s,M2,ia,k,r,g2,kp⟩=>⟨s,M2,ia,k,r,g.trans g2,kp⟩
end Go.Ax
namespace Go.Pj
open Go Go.Ax Go.Ch Go.Proofs Go.Proofs.Tryz
def oe(H:List Fact)(m:Int)(n:Nat):List Fact:=(H.take n).filter λf=>f.month==m
def ycT{H:List Fact}{m:Int}{n:Nat}(h:n<H.length):oe H m (n+1)=oe H m n++bif (H.getD n default).month==m then [H.getD n default]else []:=by
 unfold oe;rw[Gd,Bb h,aX h,Bm]
 cases hh:(H[n]).month==m <;> simp[hh]
abbrev Ve:=List Int×Ua×List Ua
def Yc(s:Ve)(k:Nat):Int:=mm false (s.1.getD k 0) s.2.1.iZ
def ci(ld:List Fact)(s:Ve)(k:Nat):Ve:=
 bif !bE (ld.getD k default).aN s.2.1.aN||Yc s k==0 then s
 else(s.1.set k (aW (s.1.getD k 0-Yc s k)),Ud s.2.1 (Yc s k),s.2.2++ [Sg s.2.1 (Yc s k) (ld.getD k default)])
def Bc(ld:List Fact)(s:Ve)(n:Nat):Ve:=(List.range n).foldl (ci ld) s
def rn(ld:List Fact)(s:Ve)(n:Nat):Bc ld s (n+1)=ci ld (Bc ld s n) n:=by unfold Bc;rw[Uk,Di];rfl
structure ph(n:Nat)(s:Ve):Prop where
 len:s.1.length=n
 left:∀i,i<n->0<=s.1.getD i 0/\s.1.getD i 0<=1000000000000000
 iZ:0<=s.2.1.iZ/\s.2.1.iZ<=1000000000000000
def Qv{n:Nat}{s:Ve}(h:ph n s){k:Nat}(hk:k<n):0<=Yc s k/\Yc s k<=s.1.getD k 0/\Yc s k<=s.2.1.iZ:=by have h1:=(h.left k hk).1;have h2:=h.iZ.1;unfold Yc;rw[Gf];omega
def ph.step{n:Nat}{s:Ve}(h:ph n s)(ld:List Fact){k:Nat}(hk:k<n):ph n (ci ld s k):=by
 obtain⟨h1,h2,h3⟩:=Qv h hk;have h4:=h.left k hk;have h5:=h.iZ;unfold ci
 cases !bE (ld.getD k default).aN s.2.1.aN||Yc s k==0 with
 |true=>exact h
 |false=>
  refine⟨by show(s.1.set k _).length=n;rw[yo];exact h.len,λi hi=>?_,?_⟩
  ·show 0<=(s.1.set k _).getD i 0/\(s.1.set k _).getD i 0<=_;rw[aG O O,Ib,List.getElem?_set];by_cases e:k=i
   ·rw[Qa e,Qa (by have:=h.len;omega)];show 0<=s.1.getD k 0-Yc s k/\s.1.getD k 0-Yc s k<=_;omega
   rw[Ma e,<-List.getD_eq_getElem?_getD];exact h.left i hi
  show 0<=aW (s.2.1.iZ-Yc s k)/\aW (s.2.1.iZ-Yc s k)<=_;rw[aG O O];omega
def ph.all{n:Nat}{s:Ve}(h:ph n s)(ld:List Fact):∀k,k<=n->ph n (Bc ld s k)
 |0,_=>h
 |k+1,hk=>by rw[rn];exact(ph.all h ld k O).step ld O
def ydz{n:Nat}{s:Ve}(h:ph n s)(ld:List Fact){k:Nat}(hk:k<n)(hv:s.2.1.iZ=0):ci ld s k=s:=by obtain⟨h1,_,h3⟩:=Qv h hk;unfold ci;rw[show(Yc s k==0)=true by rw[Md];omega,EQ];rfl
def yb6{n:Nat}{s:Ve}(h:ph n s)(ld:List Fact){k:Nat}(hv:(Bc ld s k).2.1.iZ=0):∀d,k+d<=n->Bc ld s (k+d)=Bc ld s k
 |0,_=>rfl
 |d+1,hd=>by have ih:=yb6 h ld hv d O;rw[<-Nat.add_assoc,rn,ih];have h2:=h.all ld k O;exact ydz h2 ld O hv
def Fw(ld:List Fact)(s:Ve):∀k,(Bc ld s k).2.2.length<=s.2.2.length+k
 |0=>lb _
 |k+1=>by
  have ih:=Fw ld s k;rw[rn];unfold ci
  cases !bE (ld.getD k default).aN (Bc ld s k).2.1.aN||Yc (Bc ld s k) k==0 with
  |true=>show(Bc ld s k).2.2.length<=_;omega
  |false=>show((Bc ld s k).2.2++ [_]).length<=_;rw[Qc,Nr];omega
def Wf(ld:List Fact)(s:List Int×List Ua)(x:Ua):List Int×List Ua:=
 ((Bc ld (s.1,x,s.2) ld.length).1,bif decide ((Bc ld (s.1,x,s.2) ld.length).2.1.iZ>0)then(Bc ld (s.1,x,s.2) ld.length).2.2++ [(Bc ld (s.1,x,s.2) ld.length).2.1]else(Bc ld (s.1,x,s.2) ld.length).2.2)
def Tg(ld:List Fact)(xs:List Ua)(n:Nat):List Int×List Ua:=(xs.take n).foldl (Wf ld) (ld.map Fact.aT,[])
def ybN{ld:List Fact}{xs:List Ua}{n:Nat}(h:n<xs.length):Tg ld xs (n+1)=Wf ld (Tg ld xs n) (xs.getD n default):=by unfold Tg;rw[Gd,Bb h,aX h,Di];rfl
structure sj(n:Nat)(s:List Int×List Ua)(m:Nat):Prop where
 len:s.1.length=n
 left:∀i,i<n->0<=s.1.getD i 0/\s.1.getD i 0<=1000000000000000
 out:s.2.length<=m
def sj.sp{n:Nat}{s:List Int×List Ua}{m:Nat}(h:sj n s m){x:Ua}(hx:0<=x.iZ/\x.iZ<=1000000000000000):ph n (s.1,x,s.2):=⟨h.len,h.left,hx⟩
def sj.step{ld:List Fact}{s:List Int×List Ua}{m:Nat}(h:sj ld.length s m){x:Ua}(hx:0<=x.iZ/\x.iZ<=1000000000000000):sj ld.length (Wf ld s x) (m+(ld.length+1)):=by
 have h1:=(h.sp hx).all ld ld.length (lb _);have h2:=Fw ld (s.1,x,s.2) ld.length;have h3:=h.out;have h2:(Bc ld (s.1,x,s.2) ld.length).2.2.length<=s.2.length+ld.length:=h2;refine⟨h1.len,h1.left,?_⟩;unfold Wf
 cases decide ((Bc ld (s.1,x,s.2) ld.length).2.1.iZ>0)with
 |true=>show(_++ [_]).length<=_;rw[Qc,Nr];omega
 |false=>show(Bc ld (s.1,x,s.2) ld.length).2.2.length<=_;omega
def sj.all{ld:List Fact}{xs:List Ua}(hb:∀f∈ld,0<=f.aT/\f.aT<=1000000000000000)(hx:∀x∈xs,0<=x.iZ/\x.iZ<=1000000000000000):∀n,n<=xs.length->sj ld.length (Tg ld xs n) (n*(ld.length+1))
 |0,_=>by refine⟨by show(ld.map Fact.aT).length=_;rw[nf],λi hi=>?_,Oa _⟩;show 0<=(ld.map Fact.aT).getD i 0/\(ld.map Fact.aT).getD i 0<=_;rw[Ib,Ae,Bb hi];exact hb _ (Be hi)
 |n+1,hn=>by rw[ybN O,Wd,Nat.one_mul];exact(sj.all hb hx n O).step (hx _ (bP O))
def Mv(ld:List Fact)(i a:Nat):Int:=if a<i then(ld.getD a default).aT else 0
abbrev tj(ld:List Fact)(xs:List Ua)(left:List Int)(out:List Ua)(r:List (Nat×AV))(b:List (Nat×Ea jK)):St:=⟨[(9,cJ ld),(11,.s (.own 600)),(13,.s (.mo out.isEmpty 100)),(14,iD xs)]++r,[(600,some (.row 3 ld.length 1 (cP left))),(100,some (.b8 86 out.length 7 (eJ out)))]++b⟩
def ydY(p:Proj)(Y H:List Fact)(y:gK)(xs:List Ua)(M:Nat)
  (hH:aF prog 58 [oR p,cJ Y,vI M] (.t [.s (.d (RN H)),.g (uH y)]))
  (hP:aF prog 59 [oR p,cJ Y,vI M] (iD xs)) (hl:H.length<=200) (hxl:xs.length<=1200)
  (hb:∀f∈H,0<=f.aT/\f.aT<=1000000000000000) (hx:∀x∈xs,0<=x.iZ/\x.iZ<=1000000000000000):
  aF prog 27 [oR p,cJ Y,vI M] (iD (Tg (oe H M H.length) xs xs.length).2):=by
 have TW:∀n,(oe H M n).length<=200:=λn=>by have h1:=yi (λf:Fact=>f.month==(M:Int)) (H.take n);rw[Xe]at h1;unfold oe;omega
 have hlb:∀f∈oe H M H.length,0<=f.aT/\f.aT<=1000000000000000:=λf hf=>by unfold oe at hf;rw[Ec]at hf;exact hb f (se.1 hf).1
 refine eW func27 rfl rfl call27 rfl rfl (λR J=>?_)
 apply sX J
 apply sX J
 apply aB hH
 apply sX J
 refine sc (I':=⟨[(1,cJ Y),(2,vI M),(3,.s (.ptr 3 0)),(9,.s (.mo (oe H M H.length).isEmpty 100))],[(3,some (.cells (qH p))),(100,some (.b8 66 (oe H M H.length).length 13 (nE (oe H M H.length))))]⟩) ?_ ?_
 ·refine sX J (Xa ?_);refine mb (λi:Nat=>⟨[(1,cJ Y),(2,vI M),(3,.s (.ptr 3 0)),(7,cJ H),(9,.s (.mo (oe H M i).isEmpty 100)),(10,vI i)],[(3,some (.cells (qH p))),(100,some (.b8 66 (oe H M i).length 13 (nE (oe H M i))))]⟩) (λi=>i<=H.length) (λi=>H.length-i) 0 (Oa _) (La J [(100,1000)] rfl ⟨bQ,⟨rfl,rfl⟩,oO⟩ ⟨Z,Z,Z,Z,⟨rfl,Jd rfl⟩,Ga⟩) ?_;intro i hi;refine Ta (sX J ?_);refine ab (aI (λh1=>tb ?_) (λh1=>tc ?_))
  ·have h1:(i:Int)<H.length:=bG h1;have bC:i<H.length:=O;have hsu:=ycT (m:=M) bC;have hle:=TW i;refine Ta (Xa (sX J ?_));refine oi Ia (ab ?_);refine aI (λh2=>?_) (λh2=>tb ?_)
   ·have h2:((H.getD i default).month==(M:Int))=true:=h2;rw[h2,Na]at hsu;refine eX J (oi Ia ?_);apply ob dC;refine ob (by rw[dK];show((oe H M i).length+1)*144<=_;omega) ?_;refine ob (nJ λc hc=>by match c,hc with|0,_|1,_|2,_|3,_|4,_|5,_|6,_|7,_|8,_|9,_|10,_|11,_|12,_=>rfl) (eX J ?_);refine⟨i+1,O,O,?_⟩;rw[hsu];refine La J [(100,46)] rfl ⟨bQ,⟨rfl,?_⟩,oO⟩ ⟨Z,Z,Z,Z,⟨rfl,Oc (cA _ _)⟩,Ga⟩;refine Hd (el:=J0) (x:=H.getD i default) (λc hc=>?_);have hc:c<13:=hc
    match c,hc with|0,_|1,_|2,_|3,_|4,_|5,_|6,_|7,_|8,_|9,_|10,_|11,_|12,_=>rfl
   have h2:((H.getD i default).month==(M:Int))=false:=h2;rw[h2,Wa,Ad]at hsu;refine eX J ⟨i+1,O,O,?_⟩;rw[hsu];exact La J [] rfl Ga Ga
  have h1:¬(i:Int)<H.length:=bF h1;obtain rfl:i=H.length:=O;exact⟨rfl,La J [] rfl Ga Ga⟩
 have hl2:=TW H.length
 generalize oe H M H.length=ld at hl2 hlb
 refine AW.Jk [100] J ?_
 refine Gb (I':=⟨[(1,cJ Y),(2,vI M),(3,.s (.ptr 3 0)),(9,cJ ld)],[(3,some (.cells (qH p)))]⟩) ?_ ?_
 ·refine La J [] rfl Ga ⟨Z,Z,Z,⟨rfl,?_⟩,oO⟩;exact Ob (show AV.s (SV.d (DV.fU (bif ld.isEmpty then 0 else ld.length) 13 (nE ld)))=cJ ld by rw[dK];rfl)
 apply sX J
 refine ob (show(0:Int)<=(ld.length:Int) by omega) ?_
 refine ob (Ic _) ?_
 refine ob (show(8:Int)*(ld.length:Int)<=281474976710656 by omega) ?_
 refine sc (I':=⟨[(1,cJ Y),(2,vI M),(3,.s (.ptr 3 0)),(9,cJ ld),(11,.s (.own 600))],[(3,some (.cells (qH p))),(600,some (.row 3 ld.length 1 (cP (ld.map Fact.aT))))]⟩) ?_ ?_
 ·refine sX J (Xa ?_);refine mb (λi:Nat=>⟨[(1,cJ Y),(2,vI M),(3,.s (.ptr 3 0)),(9,cJ ld),(11,.s (.own 600)),(12,vI i)],[(3,some (.cells (qH p))),(600,some (.row 3 ld.length 1 (λa _=>dI (Mv ld i a))))]⟩) (λi=>i<=ld.length) (λi=>ld.length-i) 0 (Oa _) ?_ ?_
  ·refine La J [(600,49)] rfl ⟨bQ,⟨rfl,Zb (mf _) λa c ha hc=>Za ?_⟩,oO⟩ Ga;obtain rfl:c=0:=by have hc:c<1:=hc;omega
   rfl
  intro i hi;refine Ta (sX J ?_);refine ab (aI (λh1=>tb ?_) (λh1=>tc ?_))
  ·have h1:(i:Int)<ld.length:=bG h1;have bC:i<ld.length:=O;refine Ta (Xa (eX J ?_));refine oi Ia (oi Ia ?_);refine ob (show((i:Nat):Int).toNat<ld.length by omega) (eX J ?_);refine⟨i+1,O,O,?_⟩;refine La J [] rfl ⟨bQ,⟨rfl,Zb rfl λa c ha hc=>Za ?_⟩,oO⟩ Ga;obtain rfl:c=0:=by have hc:c<1:=hc;omega
   show eT (λa _=>dI (Mv ld i a)) i 0 [.d (dI (ld.getD i default).aT)] a 0=dI (Mv ld (i+1) a);by_cases h4:a=i
   ·subst h4;rw[oP];show _=dI (if a<a+1 then(ld.getD a default).aT else 0);rw[Qa (Ei a)]
   rw[tG h4];show dI (if a<i then(ld.getD a default).aT else 0)=dI (if a<i+1 then(ld.getD a default).aT else 0);by_cases h5:a<i
   ·rw[Qa h5,Qa O]
   rw[Ma h5,Ma O]
  have h1:¬(i:Int)<ld.length:=bF h1;obtain rfl:i=ld.length:=O;refine⟨rfl,La J [] rfl ⟨bQ,⟨rfl,Zb rfl λa c ha hc=>Za ?_⟩,oO⟩ Ga⟩;show dI (if a<ld.length then(ld.getD a default).aT else 0)=dI ((ld.map Fact.aT).getD a 0);have ha:a<ld.length:=ha;rw[Qa ha,aX ha,Ib,Ae,Bb ha];rfl
 apply sX J
 apply sX J
 apply aB hP
 refine Ta (sX J ?_)
 apply Xa
 refine mb (λi:Nat=>tj ld xs (Tg ld xs i).1 (Tg ld xs i).2 [(15,vI i)] []) (λi=>i<=xs.length) (λi=>xs.length-i) 0 (Oa _) ?_ ?_
 ·exact La J [(100,1000)] rfl ⟨bQ,⟨rfl,rfl⟩,oO⟩ ⟨Z,Z,⟨rfl,Jd rfl⟩,Ga⟩
 intro i hi
 have hI:=sj.all hlb hx i hi
 refine Ta (sX J ?_)
 apply ab
 refine aI (λh1=>tb ?_) (λh1=>tc ?_)
 ·have h1:(i:Int)<xs.length:=bG h1;have bC:i<xs.length:=O;have hsu:=ybN (ld:=ld) bC;have hm:i*(ld.length+1)<=1200*201:=Nat.mul_le_mul O O;have hxi:=hx _ (bP bC);refine sc (I':=tj ld xs (Tg ld xs (i+1)).1 (Tg ld xs (i+1)).2 [(15,vI i)] []) ?_ ?_
  ·rw[hsu];unfold Wf;have hsp:=hI.sp hxi;have aCF:=hI.out;generalize Tg ld xs i=rr at hsp aCF;obtain⟨left0,out0⟩:=rr;dsimp only at hsp aCF⊢;generalize hxe:xs.getD i default=x at hsp;refine Xa (sX J ?_);apply oi Ia;refine Gb (I':=tj ld xs ((left0,x,out0):Ve).1 ((left0,x,out0):Ve).2.2 [(15,vI i),(16,.s (.ptr 16 0))] [(16,some (.cells (bh ((left0,x,out0):Ve).2.1)))]) (La J [] rfl ⟨bQ,bQ,⟨rfl,Tb (by rw[<-hxe];rfl)⟩,oO⟩ Ga) ?_;have hso:=Fw ld (left0,x,out0);have aCF:((left0,x,out0):Ve).2.2.length<=i*(ld.length+1):=aCF;generalize ((left0,x,out0):Ve)=s0 at hsp hso aCF⊢;refine sc (I':=tj ld xs (Bc ld s0 ld.length).1 (Bc ld s0 ld.length).2.2 [(15,vI i),(16,.s (.ptr 16 0))] [(16,some (.cells (bh (Bc ld s0 ld.length).2.1)))]) ?_ ?_
   ·refine sX J (Xa ?_);refine mb (λk:Nat=>tj ld xs (Bc ld s0 k).1 (Bc ld s0 k).2.2 [(15,vI i),(16,.s (.ptr 16 0)),(17,vI k)] [(16,some (.cells (bh (Bc ld s0 k).2.1)))]) (λk=>k<=ld.length) (λk=>ld.length-k) 0 (Oa _) (La J [] rfl Ga Ga) ?_;intro k hk;have hS:=hsp.all ld k hk;refine Ta (sX J ?_);repeat refine aR ?_
    refine ab (aI (λh2=>tb ?_) (λh2=>tc ?_))
    ·have h2:(decide ((k:Int)<ld.length)&&decide ((Bc ld s0 k).2.1.iZ>0))=true:=h2;simp only[fb,mc]at h2;have y5:k<ld.length:=O;refine sc (I':=tj ld xs (Bc ld s0 (k+1)).1 (Bc ld s0 (k+1)).2.2 [(15,vI i),(16,.s (.ptr 16 0)),(17,vI k)] [(16,some (.cells (bh (Bc ld s0 (k+1)).2.1)))]) ?_ ?_
     ·rw[rn];have hso:=hso k;generalize Bc ld s0 k=s at hS hso⊢;have hN:=Qv hS y5;have hlf:=hS.left k y5;have hlen:=hS.len;refine Xa (sX J ?_);refine oi Ia (oi (show((k:Nat):Int).toNat<ld.length by omega) ?_);refine aD (Gb (I':=tj ld xs s.1 s.2.2 [(15,vI i),(16,.s (.ptr 16 0)),(17,vI k),(18,vI (Yc s k))] [(16,some (.cells (bh s.2.1)))]) (La J [] rfl Ga Ga) ?_);refine Ta (sX J ?_);apply oi Ia;repeat refine aR ?_
      refine aD (ab ?_);refine aI (λh3=>tc ?_) (λh3=>tb ?_)
      ·have h3:(!bE (ld.getD k default).aN s.2.1.aN||Yc s k==0)=true:=h3;unfold ci;rw[h3];exact⟨rfl,La J [] rfl Ga Ga⟩
      have h3:(!bE (ld.getD k default).aN s.2.1.aN||Yc s k==0)=false:=h3;unfold ci;rw[h3];dsimp only [cond_false];refine sX J (sX J ?_);refine oi Ia (aB (yeg s.2.1 (Yc s k) (ld.getD k default)) ?_);refine aD (Gb (I':=tj ld xs s.1 s.2.2 [(15,vI i),(16,.s (.ptr 16 0)),(17,vI k),(18,vI (Yc s k)),(19,.s (.ptr 19 0))] [(16,some (.cells (bh (Ud s.2.1 (Yc s k))))),(19,some (.cells (bh (Sg s.2.1 (Yc s k) (ld.getD k default)))))]) (La J [] rfl Ga Ga) ?_);refine sX J (oi Ia ?_);refine oi (show((k:Nat):Int).toNat<ld.length by omega) (oi Ia ?_);refine ob (show((k:Nat):Int).toNat<ld.length by omega) (Gb (I':=tj ld xs (s.1.set k (aW (s.1.getD k 0-Yc s k))) s.2.2 [(15,vI i),(16,.s (.ptr 16 0)),(17,vI k),(19,.s (.ptr 19 0))] [(16,some (.cells (bh (Ud s.2.1 (Yc s k))))),(19,some (.cells (bh (Sg s.2.1 (Yc s k) (ld.getD k default)))))]) (La J [] rfl ⟨⟨rfl,Zb rfl λa c ha hc=>Za ?_⟩,Ga⟩ Ga) ?_)
      ·obtain rfl:c=0:=by have hc:c<1:=hc;omega
       show eT (cP s.1) k 0 [.d (dI (aW (s.1.getD k 0-Yc s k)))] a 0=dI ((s.1.set k (aW (s.1.getD k 0-Yc s k))).getD a 0);have ha:a<ld.length:=ha;rw[Ib (l:=s.1.set _ _),List.getElem?_set];by_cases h4:a=k
       ·subst h4;rw[oP,Qa rfl,Qa O];rfl
       rw[tG h4,Ma (λe=>h4 e.symm),<-List.getD_eq_getElem?_getD];rfl
      refine eX J (ob dC ?_);refine ob (by rw[dK];show(s.2.2.length+1)*72<=_;omega) ?_;refine ob (nJ λc hc=>by match c,hc with|0,_|1,_|2,_|3,_|4,_|5,_|6,_=>rfl) ⟨rfl,La J [(100,130)] rfl ⟨bQ,⟨rfl,?_⟩,Ga⟩ ⟨Z,Z,⟨rfl,Oc (cA _ _)⟩,Ga⟩⟩;refine Hd (el:=lm) (x:=Sg s.2.1 (Yc s k) (ld.getD k default)) (λc hc=>?_);have hc:c<7:=hc
      match c,hc with|0,_|1,_|2,_|3,_|4,_|5,_|6,_=>rfl
     exact eX J ⟨k+1,O,O,La J [] rfl Ga Ga⟩
    have h2:(decide ((k:Int)<ld.length)&&decide ((Bc ld s0 k).2.1.iZ>0))=false:=h2;have e:Bc ld s0 ld.length=Bc ld s0 k:=by
     by_cases ND:k=ld.length
     ·rw[ND]
     have h3:(Bc ld s0 k).2.1.iZ=0:=by have:=hS.iZ;rw[pc O,Eo,ic]at h2;omega
     have h4:=yb6 hsp ld h3 (ld.length-k) O;rw[Nat.add_sub_cancel' hk]at h4;exact h4
    rw[e];exact⟨rfl,La J [] rfl Ga Ga⟩
   have hse:=hso ld.length;generalize Bc ld s0 ld.length=s at hse⊢;refine sX J (ab ?_);refine aI (λh2=>?_) (λh2=>tb ?_)
   ·have h2:decide (s.2.1.iZ>0)=true:=h2;rw[h2,Na];refine eX J (ob dC ?_);refine ob (by rw[dK];show(s.2.2.length+1)*72<=_;omega) ?_;refine ob (nJ λc hc=>by match c,hc with|0,_|1,_|2,_|3,_|4,_|5,_|6,_=>rfl) ⟨rfl,La J [(100,137)] rfl ⟨bQ,⟨rfl,?_⟩,oO⟩ ⟨Z,Z,⟨rfl,Oc (cA _ _)⟩,Ga⟩⟩;refine Hd (el:=lm) (x:=s.2.1) (λc hc=>?_);have hc:c<7:=hc
    match c,hc with|0,_|1,_|2,_|3,_|4,_|5,_|6,_=>rfl
   have h2:decide (s.2.1.iZ>0)=false:=h2;rw[h2,Wa];exact⟨rfl,La J [] rfl Ga Ga⟩
  exact eX J ⟨i+1,O,O,La J [] rfl Ga Ga⟩
 ·have h1:¬(i:Int)<xs.length:=bF h1;obtain rfl:i=xs.length:=O;exact eX J Li
def drop_cons{α:Type} [Inhabited α] {l:List α}{i:Nat}(h:i<l.length):l.drop i=l.getD i default::l.drop (i+1):=by rw[Oe h,aX h]
def Xc(l:List pQ)(s:wa):Int:=match l.find? λx=>bE x.aN s with
 |some x=>x.vY
 |none=>0
def Jp(x:pQ)(l:List pQ)(s:wa):Xc (x::l) s=bif bE x.aN s then x.vY else Xc l s:=by
 unfold Xc;rw[List.find?_cons]
 cases bE x.aN s <;> rfl
def yef(p:Proj)(s:wa)(hl:p.cO.length<=9223372036854775807):aF prog 28 [oR p,vS s] (vI (Xc p.cO s)):=by
 refine eP func28 rfl rfl call28 rfl rfl λR J=>mb (λi:Nat=>⟨[(1,vS s),(2,.s (.ptr 2 0)),(5,vI i)],[(2,some (.cells (qH p)))]⟩) (λi=>i<=p.cO.length/\Xc (p.cO.drop i) s=Xc p.cO s) (λi=>p.cO.length-i) 0 ⟨Oa _,rfl⟩ (La J [] rfl Ga Ga) ?_
 rintro i ⟨hi,hv⟩;apply eX J;apply aI<;>intro h
 ·have h:(i:Int)<p.cO.length:=bG h;rw[drop_cons O,Jp]at hv;apply oi Ia;apply aI<;>intro h2
  ·have h2:bE (p.cO.getD i default).aN s=true:=h2;rw[h2,Na]at hv;apply oi Ia;exact Ja (by rw[<-hv];rfl)
  have h2:bE (p.cO.getD i default).aN s=false:=h2;rw[h2,Wa]at hv;exact⟨i+1,⟨O,hv⟩,O,La J [] rfl Ga Ga⟩
 have h:¬(i:Int)<p.cO.length:=bF h;rw[rm O]at hv;exact Ja (by rw[<-hv];rfl)
def yc0(v c:Int)(h0:0<=v*c)(hm:v*c<=9000000000000000000):aF prog 29 [vI v,vI c] (vI (r8 v c)):=by
 refine eP func29 rfl rfl call29 rfl rfl λR J=>aB (Gw (aW (aW (v*c)+500000)) 1000000 dC) (Ja (Va vI ?_))
 unfold r8;rw[aG (n:=v*c) O O,aG (n:=v*c+500000) O O];have h:0<=v*c+500000:=O;have hb:v*c+500000<=9000000000000500000:=O;generalize v*c+500000=a at h hb;have h1:0<=a.tmod 1000000:=Int.tmod_nonneg _ h;rw[Ma O];have h2:a.tmod 1000000+1000000*a.tdiv 1000000=a:=cz a 1000000;rw[show a-a.tmod 1000000=1000000*a.tdiv 1000000 by omega];have h3:0<=a.tdiv 1000000:=Int.tdiv_nonneg h dC;rw[aG (n:=1000000*a.tdiv 1000000) O O,n_ _ dC]
def yd2(Y:List Fact)(s:wa)(m:Int)(hl:Y.length<=1000000):aF prog 31 [cJ Y,vS s,vI m] (vB (aj Y s m)):=by
 refine eP func31 rfl rfl call31 rfl rfl λR J=>mb (λi:Nat=>⟨[(0,cJ Y),(1,vS s),(2,vI m),(7,vI i)],[]⟩) (λi=>i<=Y.length/\aj (Y.drop i) s m=aj Y s m) (λi=>Y.length-i) 0 ⟨Oa _,rfl⟩ (La J [] rfl trivial Ga) ?_
 rintro i ⟨hi,hv⟩;apply eX J;apply aI<;>intro h
 ·have h:(i:Int)<Y.length:=bG h;rw[drop_cons O]at hv;have hv:(Bl s m (Y.getD i default)||aj (Y.drop (i+1)) s m)=aj Y s m:=hv;apply oi Ia;repeat refine aR ?_
  refine og (λ_=>Ia) ?_;repeat refine aR ?_
  refine og (λ_=>Ia) ?_;repeat refine aR ?_
  apply aI<;>intro h2
  ·have h2:Bl s m (Y.getD i default)=true:=h2;rw[h2,Jx]at hv;exact Yb hv
  have h2:Bl s m (Y.getD i default)=false:=h2;rw[h2,Lh]at hv;exact⟨i+1,⟨O,hv⟩,O,La J [] rfl trivial Ga⟩
 have h:¬(i:Int)<Y.length:=bF h;rw[rm O]at hv;exact Yb hv
def ydR{p:Proj}{Y:List Fact}(hp:PV p)(h:Tf p Y)(hv:Ug Y){i:Nat}(hi:i<p.aT.levels.length)(M:Nat){d:Int}(hd:d=30000\/d<=20000):
  (d !=30000&&(iL p Y M i==30000||decide (iL p Y M i>d)))=(d !=30000&&decide (iL p Y M i>d)):=by
 have l0:=Ol hp h hv hi M
 unfold Tj at l0
 rw[He]
 simp only[fb,ag,Ox,Md,mc,ne_eq]
 omega
def yde{p:Proj}(hp:PV p){i:Nat}(hi:i<p.aT.levels.length):(ef p).levels.getD i 0=30000\/(ef p).levels.getD i 0<=20000:=by
 rw[ybp _ _ _ hi];unfold L0;have hg:=(RY hp.gv hi).1
 cases hc:(UI p.chan (dP p.aT i)).2 with
 |false=>exact .inl rfl
 |true=>refine .inr ?_;have h1:=ych hp.val hg hc;have h2:=hp.val.over;show aW ((UI p.chan (dP p.aT i)).1-0)<=20000;rw[aG O O];omega
def yc1(p:Proj)(Y:List Fact)(M:Nat)(s:wa)(hf:p.fits)(hp:PV p)(h:Tf p Y)(hv:Ug Y)(hM:M<=24)(h0:0<=PG p.chan.Ya s):
  aF prog 30 [oR p,cJ Y,vI M,vS s] (vB (Jl p s (sK p Y M))):=by
 have hL:=tw p Y M h hv hM
 have aCK:(PG p.chan.Ya s).toNat<p.chan.Ya.length:=(yN (λr:zP=>bE r.name s&&r.kind==0) p.chan.Ya 0 h0).2.1
 have hpoly:=hp.yeb aCK
 obtain⟨h3,h40,_⟩:=Yt hpoly
 have hW:=yd0 p.aT (Fg p s) hp.gv h3 h40
 have kK:∀x∈Kc p.aT (Fg p s) p.aT.levels.length,0<=x/\x.toNat<p.aT.levels.length:=λx hx=>yc hx
 have hwl:=Sp p.aT (Fg p s) p.aT.levels.length
 have hn:=h.n
 have hcp:Jl p s (sK p Y M)= !(Kc p.aT (Fg p s) p.aT.levels.length).any λn=>Xj (ef p).levels (lE p Y M) n.toNat:=rfl
 rw[hcp]
 generalize Kc p.aT (Fg p s) p.aT.levels.length=W at hW kK hwl
 refine eW func30 rfl rfl call30 rfl rfl (λR J=>?_)
 apply sX J
 apply sX J
 refine aB (ybj p.chan p.aT 0 hp.val hp.gv) ?_
 apply aB hL
 refine aD ?_
 apply sX J
 refine aB (aAU p.chan s hf.Ya) ?_
 refine oi ⟨h0,O⟩ ?_
 apply aB hW
 refine aD ?_
 refine Ta (sX J ?_)
 apply Xa
 refine mb (λi:Nat=>⟨[(9,.s (.ptr 9 0)),(10,.s (.ptr 10 0)),(11,iR W),(12,vI i)],[(9,some (.cells (C3 p.aT (.d (b5 (ef p).levels))))),(10,some (.cells (C3 p.aT (.d (b5 (lE p Y M))))))]⟩) (λi=>i<=W.length/\((W.drop i).any λn=>Xj (ef p).levels (lE p Y M) n.toNat)=W.any λn=>Xj (ef p).levels (lE p Y M) n.toNat) (λi=>W.length-i) 0 ⟨Oa _,rfl⟩ ?_ ?_
 ·exact La J [] rfl Ga Ga
 rintro i ⟨hi,hw⟩
 refine Ta (sX J ?_)
 apply ab
 refine aI (λh1=>tb ?_) (λh1=>tc ?_)
 ·have h1:(i:Int)<W.length:=bG h1;have bC:i<W.length:=O;obtain⟨m0,m1⟩:=kK _ (bP bC);rw[drop_cons bC,bg]at hw;have ed:W.getD i default=W.getD i 0:=rfl;rw[ed]at m0 m1 hw;refine Ta (Xa (sX J ?_));apply oi Ia;refine oi (show 0<=W.getD i 0/\W.getD i 0<((ef p).levels.length:Int) by rw[E6];omega) ?_;apply oi Ia;refine oi (show 0<=W.getD i 0/\W.getD i 0<((lE p Y M).length:Int) by rw[P0];omega) ?_;refine aD ?_;have hd:=yde hp m1;have aI1:=ydR hp h hv m1 M hd;have TZ:Xj (ef p).levels (lE p Y M) (W.getD i 0).toNat=((ef p).levels.getD (W.getD i 0).toNat 0 !=30000&&decide (iL p Y M (W.getD i 0).toNat>(ef p).levels.getD (W.getD i 0).toNat 0)):=by unfold Xj;rw[uS m1]
  rw[TZ]at hw;refine Gb (I':=⟨[(9,.s (.ptr 9 0)),(10,.s (.ptr 10 0)),(11,iR W),(12,vI i),(13,vI ((ef p).levels.getD (W.getD i 0).toNat 0)),(14,vI (iL p Y M (W.getD i 0).toNat))],[(9,some (.cells (C3 p.aT (.d (b5 (ef p).levels))))),(10,some (.cells (C3 p.aT (.d (b5 (lE p Y M))))))]⟩) (La J [] rfl Ga ⟨Z,Z,Z,Z,Z,⟨rfl,Ra (uS m1)⟩,oO⟩) ?_;generalize (ef p).levels.getD (W.getD i 0).toNat 0=d at hw aI1;generalize iL p Y M (W.getD i 0).toNat=n at hw aI1;apply sX J;repeat refine aR ?_
  refine ab (aI (λh5=>?_) (λh5=>tb ?_))
  ·have h5:(d !=30000&&(n==30000||decide (n>d)))=true:=h5;rw[<-aI1,h5,Jx]at hw;apply eX J;exact Yb (by rw[<-hw];rfl)
  have h5:(d !=30000&&(n==30000||decide (n>d)))=false:=h5;rw[<-aI1,h5,Lh]at hw;exact eX J ⟨i+1,⟨O,hw⟩,O,La J [] rfl Ga Ga⟩
 ·have h1:¬(i:Int)<W.length:=bF h1;rw[rm O]at hw;apply eX J;exact Yb (by rw[<-hw];rfl)
def Tt(p:Proj)(l:List Ua)(s:wa):Le:=⟨s,wL l s l.length,Xc p.cO s,r8 (wL l s l.length) (Xc p.cO s)⟩
def Qk(p:Proj)(l:List Ua)(i:Nat):Ea Le:=bif decide (wL l (p.gr.bK.getD i default).name l.length>0)then some (Tt p l (p.gr.bK.getD i default).name)else none
def Cf(p:Proj)(l:List Ua)(n:Nat):List Le:=(List.range n).filterMap (Qk p l)
def yc3(p:Proj)(l:List Ua)(n:Nat):Cf p l (n+1)=Cf p l n++(Qk p l n).toList:=by unfold Cf;rw[c8]
def yb3(p:Proj)(l:List Ua)(n:Nat):(Cf p l n).length<=n:=by have:=Ag (Qk p l) (List.range n);rw[ax]at this;exact this
def We(l:List Le):Int:=l.foldl (λt d=>aW (t+d.I3)) 0
def Wh(t:Int)(l:List OK):Int:=l.foldl (λt x=>aW (t-x.I3)) t
def pg(l:List Ua):Nat->Int
 |0=>0
 |i+1=>aW (aW (pg l i+(l.getD i default).iZ)-(l.getD i default).gV)
abbrev wg(p:Proj)(Y:List Fact)(M:Nat)(xs:List Ua)(ov de tt:Int)(D:List Le)(Lt:List OK)(r:List (Nat×AV))(b:List (Nat×Ea jK)):St:=⟨[(1,cJ Y),(2,vI M),(3,.s (.ptr 3 0)),(6,.s (.ptr 6 0)),(7,.s (.ptr 7 0)),(8,iD xs)]++r,[(3,some (.cells (qH p))),(6,some (.cells (iB Kg.zero))),(7,some (.cells [.d (dI M),.d (dI ov),.d (dI de),.d (dI tt),.mo D.isEmpty 100,.mo Lt.isEmpty 200,.d eO])),(100,some (.b8 72 D.length 4 (E5 D))),(200,some (.b8 89 Lt.length 2 (Fk Lt)))]++b⟩
def ydZ(p:Proj)(Y:List Fact)(xs:List Ua)(M:Nat)(hf:p.fits)(hp:PV p)(h:Tf p Y)(hv:Ug Y)(hM:M<=24)
  (hX:aF prog 27 [oR p,cJ Y,vI M] (iD xs)) (hxl:xs.length<=1000000)
  (hsec:∀x∈p.cU,0<=PG p.chan.Ya x.name)
  (hpr:∀s,0<=Xc p.cO s/\Xc p.cO s<=1000000) (hdv:∀s,wL xs s xs.length<=5000000000000)
  (hov:0<=pg xs xs.length/\pg xs xs.length<=5000000000000):
  aF prog 10 [oR p,cJ Y,vI M] (.g [.d (dI M),.d (dI (pg xs xs.length)),.d (dI (r8 (pg xs xs.length) p.fG)),.d (dI (Wh (aW (We (Cf p xs p.gr.bK.length)-r8 (pg xs xs.length) p.fG)) (M6 p Y M (sK p Y M) p.cU.length))),.d (x0 (Cf p xs p.gr.bK.length)),.d (xZ (M6 p Y M (sK p Y M) p.cU.length)),.d (b5 (gY p Y M p.aT.levels.length))]):=by
 have hsl:p.cU.length<=20:=by have h:=hp.cU;unfold rR at h;obtain⟨h,_⟩:=dF dC h;simp only[ic]at h;omega
 have HV:p.gr.bK.length<=1000000:=by have h:=hp.gr;unfold dX mO at h;obtain⟨h,_⟩:=dU h;obtain⟨_,h⟩:=dF dC h;obtain⟨h,_⟩:=dF dC h;simp only[ic]at h;omega
 refine eW func10 rfl rfl call10 rfl rfl (λR J=>?_)
 apply sX J
 apply sX J
 apply sX J
 apply aB hX
 refine sc (I':=wg p Y M xs 0 0 (We (Cf p xs p.gr.bK.length)) (Cf p xs p.gr.bK.length) [] [] []) ?_ ?_
 ·refine sX J (Xa ?_);refine mb (λi:Nat=>wg p Y M xs 0 0 (We (Cf p xs i)) (Cf p xs i) [] [(9,vI i)] []) (λi=>i<=p.gr.bK.length) (λi=>p.gr.bK.length-i) 0 (Oa _) (La J [(100,1000),(200,1001)] rfl ⟨bQ,bQ,⟨rfl,Rc ⟨Sa,Sa,Sa,Sa,Jd rfl,Jd rfl,Sa,oO⟩⟩,⟨rfl,rfl⟩,⟨rfl,rfl⟩,oO⟩ Ga) ?_;intro i hi;have hle:=yb3 p xs i;have hsu:=yc3 p xs i;refine Ta (sX J ?_);refine ab (aI (λh1=>tb ?_) (λh1=>tc ?_))
  ·have h1:(i:Int)<p.gr.bK.length:=bG h1;refine sc (I':=wg p Y M xs 0 0 (We (Cf p xs (i+1))) (Cf p xs (i+1)) [] [(9,vI i)] []) ?_ ?_
   ·rw[hsu];unfold Qk Tt;generalize Cf p xs i=D at hle;generalize hs:(p.gr.bK.getD i default).name=s;refine Xa (sX J ?_);refine oi Ia (sc (I':=wg p Y M xs 0 0 (We D) D [] [(9,vI i),(10,.s (.ptr 10 0))] [(10,some (.cells [.d (dS s),.d (dI (wL xs s xs.length)),.d (dI 0),.d (dI 0)]))]) ?_ ?_)
    ·refine sX J (Xa ?_);refine mb (λj:Nat=>wg p Y M xs 0 0 (We D) D [] [(9,vI i),(10,.s (.ptr 10 0)),(11,vI j)] [(10,some (.cells [.d (dS s),.d (dI (wL xs s j)),.d (dI 0),.d (dI 0)]))]) (λj=>j<=xs.length) (λj=>xs.length-j) 0 (Oa _) ?_ ?_
     ·exact La J [] rfl ⟨bQ,bQ,bQ,bQ,bQ,⟨rfl,Tb (by rw[<-hs];rfl)⟩,oO⟩ Ga
     intro j hj;refine Ta (sX J ?_);refine ab (aI (λh2=>tb ?_) (λh2=>tc ?_))
     ·have h2:(j:Int)<xs.length:=bG h2;refine Ta (Xa (sX J ?_));apply oi Ia;repeat refine aR ?_
      refine og (λ_=>Ia) ?_;repeat refine aR ?_
      refine aD (ab ?_);refine aI (λh3=>?_) (λh3=>tb ?_)
      ·have h3:(bE (xs.getD j default).aN s&&decide ((xs.getD j default).load>0))=true:=h3;refine eX J (oi Ia ?_);refine aD (eX J ?_);refine⟨j+1,O,O,?_⟩;exact La J [] rfl ⟨bQ,bQ,bQ,bQ,bQ,⟨rfl,Rc ⟨Sa,Ra (by rw[wL,h3];rfl),Sa,Sa,oO⟩⟩,oO⟩ Ga
      have h3:(bE (xs.getD j default).aN s&&decide ((xs.getD j default).load>0))=false:=h3;refine eX J ⟨j+1,O,O,?_⟩;exact La J [] rfl ⟨bQ,bQ,bQ,bQ,bQ,⟨rfl,Rc ⟨Sa,Ra (by rw[wL,h3];rfl),Sa,Sa,oO⟩⟩,oO⟩ Ga
     have h2:¬(j:Int)<xs.length:=bF h2;obtain rfl:j=xs.length:=O;exact⟨rfl,La J [] rfl Ga Ga⟩
    have hd:=hdv s;have hc:=hpr s;generalize wL xs s xs.length=v at hd;refine sX J (ab ?_);refine aI (λh2=>?_) (λh2=>tb ?_)
    ·have h2:decide (v>0)=true:=h2;have h2':v>0:=by simpa using h2
     rw[h2,Na];have m0:0<=v*Xc p.cO s:=Ze O hc.1;have m1:v*Xc p.cO s<=5000000000000*1000000:=Mh hd hc.2 hc.1 dC;refine sX J (aB (yef p s hf.cO) ?_);refine sX J (aB (yc0 v (Xc p.cO s) m0 O) ?_);refine Gb (I':=wg p Y M xs 0 0 (We D) D [] [(9,vI i),(10,.s (.ptr 10 0))] [(10,some (.cells [.d (dS s),.d (dI v),.d (dI (Xc p.cO s)),.d (dI (r8 v (Xc p.cO s)))]))]) (La J [] rfl Ga Ga) (sX J ?_);apply ob dC;refine ob (by rw[dK];show(D.length+1)*40<=_;omega) ?_;refine ob (nJ (Jg rfl rfl rfl rfl)) (Gb (I':=wg p Y M xs 0 0 (We D) (D++ [⟨s,v,Xc p.cO s,r8 v (Xc p.cO s)⟩]) [] [(9,vI i),(10,.s (.ptr 10 0))] [(10,some (.cells [.d (dS s),.d (dI v),.d (dI (Xc p.cO s)),.d (dI (r8 v (Xc p.cO s)))]))]) (La J [(100,86)] rfl ⟨bQ,bQ,⟨rfl,Rc ⟨Sa,Sa,Sa,Sa,Oc (cA _ _),Sa,Sa,oO⟩⟩,⟨rfl,?_⟩,Ga⟩ Ga) ?_)
     ·refine Hd (el:=Bu) (x:=⟨s,v,Xc p.cO s,r8 v (Xc p.cO s)⟩) (λc hc=>?_);have hc:c<4:=hc
      match c,hc with|0,_|1,_|2,_|3,_=>rfl
     apply eX J;rw[Ho];exact⟨rfl,La J [] rfl ⟨bQ,bQ,⟨rfl,Rc ⟨Sa,Sa,Sa,Ra (by unfold We;rw[Di];rfl),Sa,Sa,Sa,oO⟩⟩,Ga⟩ Ga⟩
    have h2:decide (v>0)=false:=h2;rw[h2,Wa,Option.toList_none,Ad];exact⟨rfl,La J [] rfl Ga Ga⟩
   exact eX J ⟨i+1,O,O,La J [] rfl Ga Ga⟩
  have h1:¬(i:Int)<p.gr.bK.length:=bF h1;obtain rfl:i=p.gr.bK.length:=O;exact⟨rfl,La J [] rfl Ga Ga⟩
 have hD:=yb3 p xs p.gr.bK.length
 generalize Cf p xs p.gr.bK.length=D at hD
 refine sc (I':=wg p Y M xs (pg xs xs.length) 0 (We D) D [] [] []) ?_ ?_
 ·refine sX J (Xa ?_);refine mb (λj:Nat=>wg p Y M xs (pg xs j) 0 (We D) D [] [(12,vI j)] []) (λj=>j<=xs.length) (λj=>xs.length-j) 0 (Oa _) (La J [] rfl Ga Ga) ?_;intro j hj;refine Ta (sX J ?_);refine ab (aI (λh2=>tb ?_) (λh2=>tc ?_))
  ·have h2:(j:Int)<xs.length:=bG h2;refine Ta (Xa (eX J ?_));refine oi Ia (oi Ia ?_);refine aD (eX J ?_);exact⟨j+1,O,O,La J [] rfl Ga Ga⟩
  have h2:¬(j:Int)<xs.length:=bF h2;obtain rfl:j=xs.length:=O;exact⟨rfl,La J [] rfl Ga Ga⟩
 generalize pg xs xs.length=ov at hov
 have hde:=hp.fG
 have m0:0<=ov*p.fG:=Ze hov.1 hde.1
 have m1:ov*p.fG<=5000000000000*1000000:=Mh hov.2 hde.2 hde.1 dC
 apply sX J
 refine aB (yc0 ov p.fG m0 O) ?_
 apply sX J
 generalize r8 ov p.fG=de
 have hLs:=ybJ p Y M (sK p Y M)
 have hLl:=Up p Y M (sK p Y M)
 refine sc (I':=wg p Y M xs ov de (Wh (aW (We D-de)) (M6 p Y M (sK p Y M) p.cU.length)) D (M6 p Y M (sK p Y M) p.cU.length) [] []) ?_ ?_
 ·refine sX J (Xa ?_);refine mb (λi:Nat=>wg p Y M xs ov de (Wh (aW (We D-de)) (M6 p Y M (sK p Y M) i)) D (M6 p Y M (sK p Y M) i) [(13,vI i)] []) (λi=>i<=p.cU.length) (λi=>p.cU.length-i) 0 (Oa _) (La J [] rfl Ga Ga) ?_;intro i hi;have hsu:=hLs i;have hle:=hLl i;refine Ta (sX J ?_);refine ab (aI (λh1=>tb ?_) (λh1=>tc ?_))
  ·have h1:(i:Int)<p.cU.length:=bG h1;have hs0:=hsec _ (bP (show i<p.cU.length by omega));refine sc (I':=wg p Y M xs ov de (Wh (aW (We D-de)) (M6 p Y M (sK p Y M) (i+1))) D (M6 p Y M (sK p Y M) (i+1)) [(13,vI i)] []) ?_ ?_
   ·rw[hsu];unfold Rl bq;generalize M6 p Y M (sK p Y M) i=Lt at hle;refine Xa (sX J ?_);apply oi Ia;generalize hs:p.cU.getD i default=s at hs0;refine Gb (I':=wg p Y M xs ov de (Wh (aW (We D-de)) Lt) D Lt [(13,vI i),(14,.s (.ptr 14 0))] [(14,some (.cells [.d (dS s.name),.d (dI s.due),.d (dI s.De)]))]) (La J [] rfl ⟨bQ,bQ,bQ,bQ,bQ,⟨rfl,Tb (by rw[<-hs];rfl)⟩,oO⟩ Ga) ?_;apply sX J;repeat refine aR ?_
    refine bR (yc1 p Y M s.name hf hp h hv hM hs0) ?_;repeat refine aR ?_
    refine bR (yd2 Y s.name M (by have:=h.len;omega)) ?_;repeat refine aR ?_
    refine ab (aI (λh5=>?_) (λh5=>tb ?_))
    ·have h5:((decide (s.due<=M)&& !Jl p s.name (sK p Y M))&& !aj Y s.name M)=true:=h5;rw[Bool.and_right_comm]at h5;rw[h5,Na,Ho];refine sX J (ob dC ?_);refine ob (by rw[dK];show(Lt.length+1)*24<=_;omega) ?_;refine ob (nJ (Zl rfl rfl)) (Gb (I':=wg p Y M xs ov de (Wh (aW (We D-de)) Lt) D (Lt++ [⟨s.name,s.De⟩]) [(13,vI i),(14,.s (.ptr 14 0))] [(14,some (.cells [.d (dS s.name),.d (dI s.due),.d (dI s.De)]))]) (La J [(200,168)] rfl ⟨bQ,bQ,⟨rfl,Rc ⟨Sa,Sa,Sa,Sa,Sa,Oc (cA _ _),Sa,oO⟩⟩,bQ,⟨rfl,?_⟩,Ga⟩ Ga) ?_)
     ·refine Hd (el:=Vt) (x:=⟨s.name,s.De⟩) (λc hc=>?_);have hc:c<2:=hc
      match c,hc with|0,_|1,_=>rfl
     apply eX J;exact⟨rfl,La J [] rfl ⟨bQ,bQ,⟨rfl,Rc ⟨Sa,Sa,Sa,Ra (by unfold Wh;rw[Di];rfl),Sa,Sa,Sa,oO⟩⟩,Ga⟩ Ga⟩
    have h5:((decide (s.due<=M)&& !Jl p s.name (sK p Y M))&& !aj Y s.name M)=false:=h5;rw[Bool.and_right_comm]at h5;rw[h5,Wa,Option.toList_none,Ad];exact⟨rfl,La J [] rfl Ga Ga⟩
   exact eX J ⟨i+1,O,O,La J [] rfl Ga Ga⟩
  have h1:¬(i:Int)<p.cU.length:=bF h1;obtain rfl:i=p.cU.length:=O;exact⟨rfl,La J [] rfl Ga Ga⟩
 generalize M6 p Y M (sK p Y M) p.cU.length=Lt
 refine Ta (Nb (rc:=[32]) aJ mix J _ ?_)
 refine⟨[(600,600)],_,_,_,_,w8 p Y M h hv,rfl,trivial,rfl,?_⟩
 apply sX J
 apply eX J
 apply Ja
 show AV.g [.d (dI M),.d (dI ov),.d (dI de),.d (dI _),.d (.fU (bif D.isEmpty then 0 else D.length) 4 (E5 D)),.d (.fU (bif Lt.isEmpty then 0 else Lt.length) 2 (Fk Lt)),.d _]=_
 rw[dK,dK]
 rfl
def ydk{l:List Fact}(hv:∀f∈l,fR f=0):∀f∈cntF l,f.kind=1->1<=f.number/\1<=f.month:=by
 intro f hf hk;obtain⟨k,_,_,g,hg,rfl,_⟩:=N4 hv hf;have hk:g.kind=1:=hk;have hz:=kN (hv g hg);have h1:=within_iff.1 (mQ hz.2 (by rw[hk];rfl)).1.1;have e1:(jE g).month=g.month:=by unfold jE;rw[hk];rfl
 have e2:(jE g).number=g.number:=by unfold jE fW;simp[hk]
 rw[e1,e2];have h2:=hz.1;unfold nZ cK at h2;rw[hk]at h2
 cases hw:within g.number 1 1000000 with
 |true=>exact⟨(within_iff.1 hw).1,h1.1⟩
 |false=>rw[hw]at h2;cases h2
def Tc:List Ua->Int
 |[]=>0
 |x::r=>x.iZ+Tc r
def Ul(b:List Ua):∀a,Tc (a++b)=Tc a+Tc b
 |[]=>by show Tc b=0+_;omega
 |x::r=>by show _+Tc (r++b)=_+Tc r+_;rw[Ul b r];omega
structure Ui(x:Ua):Prop where
 iZ:0<x.iZ
 gV:0<=x.gV/\x.gV<=x.iZ
def ycf{l:List Ua}(h:∀x∈l,Ui x){y:Ua}(hy:Ui y):∀x∈l++ [y],Ui x:=λx hx=>by
 rcases Ac.1 hx with hx|hx
 ·exact h x hx
 rw[Jb.1 hx];exact hy
def ydw{pt:Ua}{N:Nat}{fin:DS}{T:Int}:∀db s,DJ pt N fin (db,s)->(0<=s.p/\s.p<=s.v)->(∀x∈s.out,Ui x)->Tc s.out+s.v=T->(∀x∈fin.out,Ui x)/\Tc fin.out=T:=by
 intro db;induction db with
 |zero=>
  intro s h hp hq hT;by_cases hv:s.v>0
  ·obtain⟨k',e,_⟩:=h.step hv;omega
  have aCM:s=fin:=h.run;have h0:s.v=0:=by have:=h.v;dsimp only at this;omega
  rw[<-aCM];exact⟨hq,O⟩
 |succ db ih=>
  intro s h hp hq hT;by_cases hv:s.v>0
  ·obtain⟨k',e,h'⟩:=h.step hv;obtain rfl:db=k':=O;have hvv:=h.v;have hlen:=h.len;have hleft:=h.left s.lo (lb _);dsimp only at hvv hlen hleft;by_cases DR:s.lo<s.cur.length
   ·obtain⟨l1,l2⟩:=hleft O;have hd:decide (s.lo<s.cur.length)=true:=pc DR;have m1:=Gf s.v (s.cur.getD s.lo default).2;have m2:=Gf s.p (mm false s.v (s.cur.getD s.lo default).2);have e2:aW (s.v-mm false s.v (s.cur.getD s.lo default).2)=s.v-mm false s.v (s.cur.getD s.lo default).2:=aG O O;have e3:aW (s.p-mm false s.p (mm false s.v (s.cur.getD s.lo default).2))=s.p-mm false s.p (mm false s.v (s.cur.getD s.lo default).2):=aG O O;refine ih (a6 pt s) h' ?_ ?_ ?_
    ·unfold a6;rw[hd];show 0<=aW _/\aW _<=aW _;rw[e2,e3];omega
    ·unfold a6;rw[hd];exact ycf hq ⟨by show 0<mm false _ _;omega,by show 0<=mm false _ _/\mm false _ _<=mm false _ _;omega⟩
    rw[<-hT];unfold a6;rw[hd];show Tc (s.out++ [_])+aW _=_;rw[Ul,e2];show _+(mm false _ _+0)+_=_;omega
   have hd:decide (s.lo<s.cur.length)=false:=Cd DR;have m2:=Gf s.p s.v;refine ih (a6 pt s) h' ?_ ?_ ?_
   ·unfold a6;rw[hd];show 0<=aW _/\aW _<=aW _;rw[aG O O,aG O O];omega
   ·unfold a6;rw[hd];exact ycf hq ⟨hv,by show 0<=mm false _ _/\mm false _ _<=s.v;omega⟩
   rw[<-hT];unfold a6;rw[hd];show Tc (s.out++ [_])+aW _=_;rw[Ul,aG O O];show _+(s.v+0)+_=_;omega
  have aCM:s=fin:=by have:=h.run;rw[<-this];exact(BD hv).symm
  have h0:s.v=0:=by have:=h.v;dsimp only at this;omega
  rw[<-aCM];exact⟨hq,O⟩
def ybG{M:Int}{p:Proj}(hv:PV p){i:Nat}(hi:i<p.aT.levels.length):∀(xs:List Part) (s:PS) (n:Nat),D5 s n->(∀x∈xs,AQ x)->(∀y∈s.2,Ui y)->
  D5 (xs.foldl (oN p M i) s) (n+xs.length*201)/\(∀y∈(xs.foldl (oN p M i) s).2,Ui y)/\Tc (xs.foldl (oN p M i) s).2=Tc s.2+ng xs*dH p
 |[],s,n,h,_,hq=>⟨h.more (Dz _ _),hq,by show _=_+(0:Int)*_;rw[Int.zero_mul,Qy];rfl⟩
 |x::r,s,n,h,hx,hq=>by
  have hx0:=hx x (Gc);have hpv:=BK (m:=M) (i:=i) hv hx0;have hg:=YS (k:=kyS x.aN) h.1;have h1:=XH (pt:=bN p M i x) (n:=(B1 s.1 (kyS x.aN)).2.length) rfl hg.le (by have:=hg.Wi;omega) ⟨O,hpv.2⟩ hg.left;obtain⟨a1,a2⟩:=ydw (T:=(bN p M i x).iZ) _ _ h1 (ybM (m:=M) hv hi hx0) (λy hy=>by cases hy) (Int.zero_add _);have h2:=KN (m:=M) (i:=i) (x:=x) h ⟨O,hpv.2⟩;have hs:Tc (oN p M i s x).2=Tc s.2+(bN p M i x).iZ:=by show Tc (s.2++_)=_;rw[Ul];exact Va _ a2
  obtain⟨h3,h4,h5⟩:=ybG hv hi r _ _ h2 (λy hy=>hx y (Ub _ hy)) (λy hy=>by
   rcases Ac.1 hy with hy|hy
   ·exact hq y hy
   exact a1 y hy)
  refine⟨h3.more (by rw[Pb];omega),h4,?_⟩;rw[Ao,h5,hs,ycq hv hx0];show _=_+(x.cb-x.bot+ng r)*dH p;rw[Int.add_mul];omega
def ycs{p:Proj}{Y:List Fact}{M:Nat}(hp:PV p)(hS:Tf p Y)(hv:Ug Y)(hM:1<=M){E:List mF}(hE:D5 (E,[]) 0):∀i,i<=p.aT.levels.length->
  D5 (EE p Y M E i) (i*2412)/\(∀y∈(EE p Y M E i).2,Ui y)/\Tc (EE p Y M E i).2<=(i:Int)*40000000000
 |0,_=>⟨hE.more (Oa _),(λy hy=>by cases hy),Ic _⟩
 |i+1,hi=>by
  obtain⟨h1,h2,h3⟩:=ycs hp hS hv hM hE i O;have b1:=Ol hp hS hv (show i<p.aT.levels.length by omega) (M-1);have b2:=Ol hp hS hv (show i<p.aT.levels.length by omega) M;rw[GY];unfold wZ
  cases hg:(iL p Y (M-1) i==30000||decide (iL p Y M i>=iL p Y (M-1) i))with
  |true=>exact⟨h1.more O,h2,by show Tc (EE p Y M E i).2<=_;omega⟩
  |false=>simp only[wc,Ng,ic]at hg;unfold Tj at b1 b2;have h6:=yc8 hp (show i<p.aT.levels.length by omega) (a:=iL p Y (M-1) i) (b:=iL p Y M i) O O O;have h4:=I6 (c:=dP p.aT i) (hi:=iL p Y (M-1) i) (lo:=iL p Y M i) hp;obtain⟨h5,h7,h8⟩:=ybG (M:=M) hp (show i<p.aT.levels.length by omega) (vP p.gr (dP p.aT i) (iL p Y (M-1) i) (iL p Y M i)) _ _ h1 (λx hx=>D7 hx) h2;obtain⟨a1,a2⟩:=tq hp;refine⟨h5.more O,h7,?_⟩;show Tc (List.foldl _ (EE p Y M E i) _).2<=_;have:(iL p Y (M-1) i-iL p Y M i)*dH p<=40000*1000000:=Mh O a2 O dC;rw[h8,h6];omega
def ybZ(p:Proj)(S:List Fact):∀k,k<=S.length->((iM p S k).1).Sublist (S.take k)
 |0,_=>List.Sublist.refl _
 |k+1,hk=>by
  have ih:=ybZ p S k O;have y5:k<S.length:=O;have ht:S.take (k+1)=S.take k++ [S.getD k default]:=by rw[Gd,Bb y5,aX y5];rfl
  rw[iM,ht]
  cases(oS (iM p S k).2 (zC (S.getD k default)) (S.getD k default).dN==0)with
  |true=>exact ih.append (List.Sublist.refl _)
  |false=>exact ih.trans (List.sublist_append_left _ _)
def ydm{p:Proj}{l:List Fact}{M:Nat}(hk:Hg p l)(hM:1<=M):(∀y∈G3 p (cntF l) M,Ui y)/\Tc (G3 p (cntF l) M)<=4000000000000:=by
 have hS:=x4 hk;have hp:=Ki hk.proj;have hn:=hp.cells;have fQ:=ybZ p (j8 (cntF l) M) (j8 (cntF l) M).length (lb _);rw[Ec]at fQ;have fQ:(Pv p (cntF l) M).1.Sublist (j8 (cntF l) M):=fQ;have hbed:∀f∈(Pv p (cntF l) M).1,1<=f.aT/\f.aT<=1000000000000:=λf hf=>by obtain⟨a,b,_⟩:=br (fQ.subset hf);exact Dv hk.fmt f a b
 have hlen:(Pv p (cntF l) M).1.length<=200:=Vb fQ.length_le (by
  have h2:(j8 (cntF l) M).length<=(cntF l).length:=by unfold j8;rw[A5];exact yi _ _
  have:=hS.len;omega)
 obtain⟨_,h2,h3⟩:=ycs hp hS (cv hk.fmt) hM (M:=M) ⟨O1 (m:=(M:Int)) hbed hlen,lb _⟩ p.aT.levels.length (lb _);exact⟨h2,by have h3:Tc (G3 p (cntF l) M)<=_:=h3;omega⟩
def Sj(e:Rm.gL):mF:=(e.1,(0,e.2.1),e.2.2)
def mn(E:List Rm.gL):qD E=E.map Sj:=rfl
def ybY(k:bJ):∀(E:List Rm.gL) (i:Nat),fP (qD E) k i=(Rm.fE E k i).map λx=>(x.1,Sj x.2)
 |[],_=>rfl
 |e::r,i=>by
  show(bif k==e.1 then some (i,Sj e)else fP (qD r) k (i+1))=_;rw[Rm.fE,ybY k r (i+1)]
  cases k==e.1 <;> rfl
def ycG(E:List Rm.gL)(k:bJ)(t:Room):qD (Rm.o6 E k t)=Ig (qD E) k (0,(B1 (qD E) k).2++ [t]):=by
 have h:=ybY k E 0;unfold Rm.o6 Ig B1
 cases hf:Rm.fE E k 0 with
 |none=>rw[hf]at h;have h:fP (qD E) k 0=none:=h;rw[h];show qD (E++ [(k,[t],E.length)])=qD E++ [(k,(0,[]++ [t]),(qD E).length)];rw[mn,mn,Fi,nf];rfl
 |some x=>
  obtain⟨i,e⟩:=x;rw[hf]at h;have h:fP (qD E) k 0=some (i,Sj e):=h;rw[h];obtain⟨_,h2,_⟩:=NQ h;have h2:(qD E)[i]? =some (Sj e):=h2;rw[mn,Ae]at h2;show qD (E.modify i λe=>(e.1,e.2.1++ [t],e.2.2))=(qD E).modify i λy=>(y.1,(0,e.2.1++ [t]),y.2.2)
  rw[mn,mn];apply Gj;intro j;rw[Ae,re,re,Ae];by_cases hj:i=j
  ·subst hj
   cases hE:E[i]? with
   |none=>rw[hE]at h2;cases h2
   |some y=>rw[hE]at h2;have h2:Sj y=Sj e:=dd h2;have h3:y.2.1=e.2.1:=Va (λz:mF=>z.2.1.2) h2;simp[Sj,h3]
  simp[hj]
def An(H:List Fact)(m:Int)(k:bJ):List Fact:=H.filter λf=>f.month==m&&Rm.kS f==k
def yb4(H:List Fact)(m:Int)(k:bJ):∀i,i<=H.length->B1 (qD (Rm.kU H m i)) k=(0,(An (H.take i) m k).map λf=>(f,f.aT))
 |0,_=>rfl
 |i+1,hi=>by
  have ih:=λk'=>yb4 H m k' i O
  have bC:i<H.length:=O;have ht:H.take (i+1)=H.take i++ [H.getD i default]:=by rw[Gd,Bb bC,aX bC];rfl
  rw[Rm.DW bC,ht];unfold Rm.KM An;rw[Bm,Fi];clear ht;generalize H.getD i default=f
  cases hm:(f.month==m)with
  |false=>
   have:([f].filter λx=>x.month==m&&Rm.kS x==k)=[]:=by simp[hm]
   rw[this];show B1 (qD (Rm.kU H m i)) k=_;rw[ih k];exact Va (Prod.mk 0) (Ad _).symm
  |true=>
   show B1 (qD (Rm.o6 _ _ _)) k=_;rw[ycG,Xt];by_cases hk:k=Rm.kS f
   ·subst hk;rw[Qn,ih];have:([f].filter λx=>x.month==m&&Rm.kS x==Rm.kS f)=[f]:=by simp[hm]
    rw[this];rfl
   rw[Zn hk,ih k];have:([f].filter λx=>x.month==m&&Rm.kS x==k)=[]:=by have:(Rm.kS f==k)=false:=Ng.2 (Ne.symm hk);simp[this]
   rw[this];exact Va (Prod.mk 0) (Ad _).symm
structure Ue(x:Ua):Prop where
 iZ:0<=x.iZ/\x.iZ<=1000000000000000
 gV:0<=x.gV/\x.gV<=x.iZ
def nR(x:Ua)(r:Room):Int:=mm false r.2 x.iZ
def mj(x:Ua):List Room->Ua
 |[]=>x
 |r::rs=>bif decide (x.iZ>0)then mj (Ud x (nR x r)) rs else x
def dj(x:Ua):List Room->List Ua
 |[]=>[]
 |r::rs=>bif decide (x.iZ>0)then Sg x (nR x r) r.1::dj (Ud x (nR x r)) rs else []
def ak(x:Ua):List Room->List Room
 |[]=>[]
 |r::rs=>bif decide (x.iZ>0)then(bif r.2-nR x r==0 then ak (Ud x (nR x r)) rs else(r.1,r.2-nR x r)::rs)else r::rs
def Yn{x:Ua}(hx:Ue x){r:Room}(hr:0<=r.2):0<=nR x r/\nR x r<=r.2/\nR x r<=x.iZ/\(nR x r=r.2\/nR x r=x.iZ):=by have:=hx.iZ;unfold nR;rw[Gf];omega
def Lp{x:Ua}(hx:Ue x){v:Int}(h0:0<=v)(hv:v<=x.iZ):(Ud x v).iZ=x.iZ-v:=by have:=hx.iZ;exact aG O O
def Zu{x:Ua}(hx:Ue x){v:Int}(h0:0<=v)(hv:v<=x.iZ):Ue (Ud x v):=by
 have h1:=hx.iZ;have h2:=hx.gV;have e:(Ud x v).gV=x.gV-mm false v x.gV:=by show aW (x.gV-mm false v x.gV)=_;rw[Gf];exact aG O O
 refine⟨by rw[Lp hx h0 hv];omega,?_⟩;rw[Lp hx h0 hv,e,Gf];omega
def div_zero{x:Ua}(h:x.iZ=0)(rs:List Room):mj x rs=x/\dj x rs=[]/\ak x rs=rs:=by
 have h1:decide (x.iZ>0)=false:=Cd O
 cases rs with
 |nil=>exact⟨rfl,rfl,rfl⟩
 |cons r rs=>exact⟨by rw[mj,h1];rfl,by rw[dj,h1];rfl,by rw[ak,h1];rfl⟩
def Vd(k:bJ)(r:Room):Bool:=Rm.kS r.1==k&&r.2 !=0
def Zg(x:Ua)(r:Room):Room:=bif !bE r.1.aN x.aN||nR x r==0 then r else(r.1,r.2-nR x r)
def ff(x:Ua)(r:Room):Ua:=bif !bE r.1.aN x.aN||nR x r==0 then x else Ud x (nR x r)
def ai(x:Ua)(r:Room):List Ua:=bif !bE r.1.aN x.aN||nR x r==0 then []else [Sg x (nR x r) r.1]
def lf(x:Ua):List Room->Ua
 |[]=>x
 |r::rs=>lf (ff x r) rs
def ah(x:Ua):List Room->List Ua
 |[]=>[]
 |r::rs=>ai x r++ah (ff x r) rs
def xe(x:Ua):List Room->List Room
 |[]=>[]
 |r::rs=>Zg x r::xe (ff x r) rs
def yc2(b:List Room):∀(a:List Room) (x:Ua),lf x (a++b)=lf (lf x a) b/\ah x (a++b)=ah x a++ah (lf x a) b/\xe x (a++b)=xe x a++xe (lf x a) b
 |[],x=>⟨rfl,rfl,rfl⟩
 |r::a,x=>by
  obtain⟨h1,h2,h3⟩:=yc2 b a (ff x r);refine⟨h1,?_,?_⟩
  ·show ai x r++ah (ff x r) (a++b)=_;rw[h2,<-List.append_assoc];rfl
  show Zg x r::xe (ff x r) (a++b)=_;rw[h3];rfl
def ycl{a b:wa}:bE a b=(a.data.toList==b.data.toList):=by unfold bE;rw[Sk,Sk]
def Rp{x:Ua}(hx:Ue x):∀{z:List Room},(∀r∈z,0<=r.2)->
  lf x z=mj x (z.filter (Vd x.aN.data.toList))/\ah x z=dj x (z.filter (Vd x.aN.data.toList))/\
  (xe x z).filter (Vd x.aN.data.toList)=ak x (z.filter (Vd x.aN.data.toList))/\
  ∀k,k≠x.aN.data.toList->(xe x z).filter (Vd k)=z.filter (Vd k)
 |[],_=>⟨rfl,rfl,rfl,λ_ _=>rfl⟩
 |r::z,h=>by
  have hr:=h r (Gc ..);have hz:∀y∈z,0<=y.2:=λy hy=>h y (Ub _ hy)
  obtain⟨n0,n1,n2,n3⟩:=Yn hx hr;have hvol:=hx.iZ
  cases hs:bE r.1.aN x.aN with
  |false=>
   have e1:ff x r=x:=by unfold ff;rw[hs];rfl
   have e2:ai x r=[]:=by unfold ai;rw[hs];rfl
   have e3:Zg x r=r:=by unfold Zg;rw[hs];rfl
   have ea:Vd x.aN.data.toList r=false:=by unfold Vd Rm.kS;rw[<-ycl,hs];rfl
   obtain⟨i1,i2,i3,i4⟩:=Rp hx hz;rw[lf,ah,xe,e1,e2,e3,Qe,Qe,ea];refine⟨i1,i2,i3,λk hk=>?_⟩;rw[Qe,Qe,i4 k hk]
  |true=>
   have ek:Rm.kS r.1=x.aN.data.toList:=by rw[ycl]at hs;simpa[Rm.kS]using hs
   have fJ:∀k,k≠x.aN.data.toList->∀v:Int,Vd k (r.1,v)=false:=λk hk v=>by unfold Vd;rw[show(Rm.kS r.1==k)=false by rw[ek,Ng];exactλe=>hk e.symm];rfl
   by_cases hn:nR x r=0
   ·have e1:ff x r=x:=by unfold ff;rw[hn];simp
    have e2:ai x r=[]:=by unfold ai;rw[hn];simp
    have e3:Zg x r=r:=by unfold Zg;rw[hn];simp
    obtain⟨i1,i2,i3,i4⟩:=Rp hx hz;rw[lf,ah,xe,e1,e2,e3];by_cases h0:r.2=0
    ·have ea:Vd x.aN.data.toList r=false:=by unfold Vd;rw[h0];simp
     rw[Qe,Qe,ea];refine⟨i1,i2,i3,λk hk=>?_⟩;rw[Qe,Qe,i4 k hk]
    have ea:Vd x.aN.data.toList r=true:=by unfold Vd;rw[ek];simp[h0]
    have hv0:x.iZ=0:=O;obtain⟨d1,d2,d3⟩:=div_zero hv0 (r::z.filter (Vd x.aN.data.toList));obtain⟨c1,c2,c3⟩:=div_zero hv0 (z.filter (Vd x.aN.data.toList));rw[Qe,Qe,Qa ea,Qa ea,d1,d2,d3,i1,i2,i3,c1,c2,c3];refine⟨rfl,rfl,rfl,λk hk=>?_⟩;rw[Qe,Qe,i4 k hk]
   have hnb:(!bE r.1.aN x.aN||nR x r==0)=false:=by rw[hs];simpa using hn
   have e1:ff x r=Ud x (nR x r):=by unfold ff;rw[hnb];rfl
   have e2:ai x r=[Sg x (nR x r) r.1]:=by unfold ai;rw[hnb];rfl
   have e3:Zg x r=(r.1,r.2-nR x r):=by unfold Zg;rw[hnb];rfl
   have ea:Vd x.aN.data.toList r=true:=by unfold Vd;rw[ek];have:r.2≠0:=O;simp[this]
   have hv:decide (x.iZ>0)=true:=pc O;have hxr:=Zu hx n0 n2;have es:(Ud x (nR x r)).aN=x.aN:=rfl;obtain⟨i1,i2,i3,i4⟩:=Rp hxr hz;rw[es]at i1 i2 i3 i4;rw[lf,ah,xe,e1,e2,e3,Qe,Qe,Qa ea,mj,dj,ak,hv,i1,i2];refine⟨rfl,rfl,?_,λk hk=>?_⟩
   ·rw[Na];by_cases h5:r.2-nR x r=0
    ·rw[show(r.2-nR x r==0)=true by simpa using h5,Na,Ma (by unfold Vd;rw[h5];simp),i3]
    rw[show(r.2-nR x r==0)=false by simpa using h5,Wa,Qa (by unfold Vd;rw[ek];simp[h5]),i3];have hv0:(Ud x (nR x r)).iZ=0:=by rw[Lp hx n0 n2];omega
    rw[(div_zero hv0 _).2.2]
   rw[Qe,Qe,fJ k hk,i4 k hk,show Vd k r=false from fJ k hk r.2];simp
def ycn(a b:Int):mm false a b=mm false b a:=by rw[Gf,Gf];omega
def oc(pt:Ua)(s:DS):Ua:=⟨pt.month,pt.cell,pt.aN,s.v,s.p,pt.load,pt.dN⟩
def Dj(x:Ua):List Ua:=bif decide (x.iZ>0)then [x]else []
def Hv{pt:Ua}{s:DS}(h:¬s.v>0):∀k,pB pt k s=s
 |0=>rfl
 |k+1=>by rw[pB,Cd h];rfl
def drop_at{α:Type} [Inhabited α] {l rs:List α}{r:α}{i:Nat}(h:l.drop i=r::rs):i<l.length/\l.getD i default=r/\l.drop (i+1)=rs:=by
 have hi:i<l.length:=by
  by_cases hi:i<l.length
  ·exact hi
  rw[rm O]at h;cases h
 rw[drop_cons hi]at h;injection h with h1 h2;exact⟨hi,h1,h2⟩
def ycw{pt:Ua}:∀(k:Nat) (s:DS) (rs:List Room),s.cur.drop s.lo=rs->s.lo<=s.cur.length->rs.length<k->Ue (oc pt s)->(∀r∈rs,1<=r.2/\r.2<=1000000000000000)->
  (pB pt k s).out=s.out++(dj (oc pt s) rs++Dj (mj (oc pt s) rs))/\
  (pB pt k s).cur.drop (pB pt k s).lo=ak (oc pt s) rs/\(pB pt k s).lo<=(pB pt k s).cur.length
 |0,_,_,_,_,h,_,_=>absurd h (Cc _)
 |k+1,s,rs,hd,hl,hk,hb,hr=>by
  have hv:=hb.iZ;have hp:=hb.gV;have ev:(oc pt s).iZ=s.v:=rfl;have ep:(oc pt s).gV=s.p:=rfl;rw[ev]at hv;rw[ev,ep]at hp;by_cases h0:s.v>0
  ·have hr1:pB pt (k+1) s=pB pt k (a6 pt s):=by rw[pB,pc h0];rfl
   rw[hr1]
   cases rs with
   |nil=>
    have DR:¬s.lo<s.cur.length:=λhh=>by rw[drop_cons hh]at hd;cases hd
    have e:a6 pt s= {s with out:=s.out++ [⟨pt.month,pt.cell,pt.aN,s.v,mm false s.p s.v,pt.load,pt.dN⟩],v:=aW (s.v-s.v),p:=aW (s.p-mm false s.p s.v)}:=by unfold a6;rw[Cd DR];rfl
    have e0:aW (s.v-s.v)=0:=by rw[Gx];rfl
    have em:mm false s.p s.v=s.p:=by rw[Gf];omega
    rw[e,Hv (by show ¬aW (s.v-s.v)>0;rw[e0];omega)];refine⟨?_,hd,hl⟩;show s.out++ [⟨pt.month,pt.cell,pt.aN,s.v,mm false s.p s.v,pt.load,pt.dN⟩]=s.out++([]++Dj (oc pt s));rw[em];unfold Dj;rw[ev,pc h0];rfl
   |cons r rs=>
    obtain⟨hi,hg,hd'⟩:=drop_at hd;have YL:=hr r (Gc ..);have en:mm false s.v r.2=nR (oc pt s) r:=ycn _ _;obtain⟨n0,n1,n2,n3⟩:=Yn hb (r:=r) O;rw[ev]at n2 n3;have e:a6 pt s=⟨s.out++ [Sg (oc pt s) (nR (oc pt s) r) r.1],bif r.2-nR (oc pt s) r==0 then s.lo+1 else s.lo,(Ud (oc pt s) (nR (oc pt s) r)).iZ,(Ud (oc pt s) (nR (oc pt s) r)).gV,s.cur.set s.lo (r.1,r.2-nR (oc pt s) r)⟩:=by unfold a6;rw[pc hi,Na,hg,en,aG (n:=r.2-nR (oc pt s) r) O O,ycn s.p];rfl
    rw[e];have hx:=Zu hb n0 (by rw[ev];exact n2);have hvr:=Lp hb n0 (by rw[ev];exact n2);rw[ev]at hvr;have hgt:decide ((oc pt s).iZ>0)=true:=pc h0;rw[dj,mj,ak,hgt,Na,Na,Na];by_cases h5:r.2-nR (oc pt s) r=0
    ·have h5':(r.2-nR (oc pt s) r==0)=true:=by simpa using h5
     rw[h5',Na,Na];have ih:=ycw (pt:=pt) k ⟨s.out++ [Sg (oc pt s) (nR (oc pt s) r) r.1],s.lo+1,(Ud (oc pt s) (nR (oc pt s) r)).iZ,(Ud (oc pt s) (nR (oc pt s) r)).gV,s.cur.set s.lo (r.1,r.2-nR (oc pt s) r)⟩ rs
      (by show(s.cur.set s.lo _).drop (s.lo+1)=rs;rw[mz (Ei _)];exact hd')
      (by show s.lo+1<=(s.cur.set s.lo _).length;rw[yo];exact hi)
      (by simp only[Pb]at hk;omega) hx (λy hy=>hr y (Ub _ hy))
     obtain⟨i1,i2,i3⟩:=ih;refine⟨?_,i2,i3⟩;rw[i1];show(s.out++ [Sg (oc pt s) (nR (oc pt s) r) r.1])++(dj (Ud (oc pt s) (nR (oc pt s) r)) rs++Dj (mj (Ud (oc pt s) (nR (oc pt s) r)) rs))=_;rw[Pe];rfl
    have h5':(r.2-nR (oc pt s) r==0)=false:=by simpa using h5
    rw[h5',Wa,Wa];have hv0:(Ud (oc pt s) (nR (oc pt s) r)).iZ=0:=by rw[hvr];omega
    obtain⟨c1,c2,_⟩:=div_zero hv0 rs;rw[Hv (by show ¬(Ud (oc pt s) (nR (oc pt s) r)).iZ>0;omega),c1,c2];refine⟨?_,?_,?_⟩
    ·unfold Dj;rw[Cd O];rfl
    ·show(s.cur.set s.lo _).drop s.lo=_;rw[drop_cons (by rw[yo];exact hi),mz (Ei _),hd',Ib,List.getElem?_set_self hi];rfl
    show s.lo<=(s.cur.set s.lo _).length;rw[yo];exact hl
  have h0':s.v=0:=O;obtain⟨c1,c2,c3⟩:=div_zero (x:=oc pt s) h0' rs;rw[Hv h0,c1,c2,c3];refine⟨?_,hd,hl⟩;unfold Dj;rw[ev,Cd h0];exact(Ad _).symm
def ydg{pt:Ua}(hb:Ue pt){lo:Nat}{l:List Room}(hl:lo<=l.length)(hr:∀r∈l.drop lo,1<=r.2/\r.2<=1000000000000000):
  (cH pt lo l).out=dj pt (l.drop lo)++Dj (mj pt (l.drop lo))/\(cH pt lo l).cur.drop (cH pt lo l).lo=ak pt (l.drop lo)/\(cH pt lo l).lo<=(cH pt lo l).cur.length:=
 ycw (pt:=pt) (l.length-lo+1) (qE pt lo l) (l.drop lo) rfl hl (by rw[Tk];omega) hb hr
def ydH{x:Ua}(hx:Ue x){r:Room}(hr:0<=r.2):Ue (ff x r):=by
 unfold ff
 cases !bE r.1.aN x.aN||nR x r==0 with
 |true=>exact hx
 |false=>obtain⟨h1,_,h3,_⟩:=Yn hx hr;exact Zu hx h1 h3
def ydG:∀{z:List Room} {x:Ua},Ue x->(∀r∈z,0<=r.2)->Ue (lf x z)
 |[],_,hx,_=>hx
 |r::z,x,hx,h=>by show Ue (lf (ff x r) z);exact ydG (ydH hx (h r (Gc ..))) λy hy=>h y (Ub _ hy)
def Bv:∀(z:List Room) (x:Ua),(xe x z).map Prod.fst=z.map Prod.fst
 |[],_=>rfl
 |r::z,x=>by
  rw[xe,Ye,Ye,Bv z];unfold Zg
  cases !bE r.1.aN x.aN||nR x r==0 <;> rfl
def ydF:∀{z:List Room} {x:Ua},Ue x->(∀r∈z,0<=r.2/\r.2<=1000000000000000)->∀r∈xe x z,0<=r.2/\r.2<=1000000000000000
 |[],_,_,_=>λ_ h=>by cases h
 |r::z,x,hx,h=>λy hy=>by
  have hr:=h r (Gc ..);rw[xe,Cb]at hy;rcases hy with rfl|hy
  ·unfold Zg;obtain⟨h1,h2,_,_⟩:=Yn hx hr.1
   cases !bE r.1.aN x.aN||nR x r==0 with
   |true=>exact hr
   |false=>show 0<=r.2-nR x r/\r.2-nR x r<=_;omega
  exact ydF (ydH hx hr.1) (λy hy=>h y (Ub _ hy)) y hy
def ycu(z:List Room)(x:Ua):(xe x z).length=z.length:=by have h:=Va List.length (Bv z x);rwa [nf,nf]at h
def yc6{ld:List Fact}{left:List Int}{x:Ua}{out:List Ua}(hx:Ue x)(hlen:left.length=ld.length)(hb:∀r∈ld.zip left,0<=r.2/\r.2<=1000000000000000):∀n,n<=ld.length->
  Bc ld (left,x,out) n=((xe x ((ld.zip left).take n)).map Prod.snd++left.drop n,lf x ((ld.zip left).take n),out++ah x ((ld.zip left).take n))
 |0,_=>by show(left,x,out)=([]++left.drop 0,x,out++ []);rw[Ad];rfl
 |n+1,hn=>by
  have ih:=yc6 (out:=out) hx hlen hb n O;have hzl:(ld.zip left).length=ld.length:=by rw[Nz,hlen,Kj]
  rw[rn,ih];have hr:(ld.zip left)[n]'O=(ld.getD n default,left.getD n 0):=by rw[List.getElem_zip,aX O,Ib,Bb O];rfl
  have hz:(ld.zip left).take (n+1)=(ld.zip left).take n++ [(ld.getD n default,left.getD n 0)]:=by rw[Gd,Bb O,hr];rfl
  have hm:((ld.getD n default,left.getD n 0):Room)∈ld.zip left:=hr▸Be _;have hbr:=hb _ hm;have hX:Ue (lf x ((ld.zip left).take n)):=ydG hx λr hr=>(hb r (Qw hr)).1
  obtain⟨a1,a2,a3⟩:=yc2 [(ld.getD n default,left.getD n 0)] ((ld.zip left).take n) x;rw[hz,a1,a2,a3];have hA:((xe x ((ld.zip left).take n)).map Prod.snd).length=n:=by rw[nf,ycu,Xe];omega
  have hd:left.drop n=left.getD n 0::left.drop (n+1):=drop_cons (show n<left.length by omega);rw[Fi];generalize (xe x ((ld.zip left).take n)).map Prod.snd=A at hA;generalize lf x ((ld.zip left).take n)=X at hX;generalize ah x ((ld.zip left).take n)=P;have hg:(A++left.drop n).getD n 0=left.getD n 0:=by rw[Ib,Sd O,hA,Td,hd];rfl
  have eN:Yc (A++left.drop n,X,out++P) n=nR X (ld.getD n default,left.getD n 0):=by unfold Yc nR;show mm false ((A++left.drop n).getD n 0) X.iZ=_;rw[hg]
  obtain⟨n0,n1,_,_⟩:=Yn hX hbr.1;unfold ci;rw[eN];show(bif !bE (ld.getD n default).aN X.aN||nR X (ld.getD n default,left.getD n 0)==0 then _ else _)=(A++ [Zg X (ld.getD n default,left.getD n 0)].map Prod.snd++left.drop (n+1),ff X (ld.getD n default,left.getD n 0),out++(P++(ai X (ld.getD n default,left.getD n 0)++ [])));unfold Zg ff ai;rw[Ad]
  cases hc:(!bE (ld.getD n default).aN X.aN||nR X (ld.getD n default,left.getD n 0)==0)with
  |true=>rw[Na,Na,Na,Na,Ad,hd];simp
  |false=>rw[Wa,Wa,Wa,Wa];show((A++left.drop n).set n (aW ((A++left.drop n).getD n 0-nR X (ld.getD n default,left.getD n 0))),Ud X (nR X (ld.getD n default,left.getD n 0)),(out++P)++ [Sg X (nR X (ld.getD n default,left.getD n 0)) (ld.getD n default)])=_;have hbr2:=hbr.2;dsimp only at n1 hbr2;rw[hg,aG O O,List.set_append_right _ _ O,hA,Td,hd,Pe out];simp
def ye{ld:List Fact}{left:List Int}{x:Ua}{out:List Ua}(hx:Ue x)(hlen:left.length=ld.length)(hb:∀r∈ld.zip left,0<=r.2/\r.2<=1000000000000000):
  Wf ld (left,out) x=((xe x (ld.zip left)).map Prod.snd,out++(ah x (ld.zip left)++Dj (lf x (ld.zip left)))):=by
 have h:=yc6 (out:=out) hx hlen hb ld.length (lb _)
 have hzl:(ld.zip left).length=ld.length:=by rw[Nz,hlen,Kj]
 rw[nm O,rm O,Ad]at h
 unfold Wf Dj
 rw[h]
 dsimp only
 cases decide ((lf x (ld.zip left)).iZ>0)with
 |true=>rw[Na,Na,Pe]
 |false=>rw[Wa,Wa,Ad]
structure ck(ld:List Fact)(E:List mF)(left:List Int):Prop where
 len:left.length=ld.length
 Sf:∀r∈ld.zip left,0<=r.2/\r.2<=1000000000000000
 lo:∀k,(B1 E k).1<=(B1 E k).2.length
 av:∀k,(B1 E k).2.drop (B1 E k).1=(ld.zip left).filter (Vd k)
def ydy{ld:List Fact}{p:Proj}{m:Int}{i:Nat}{x:Part}{s:PS}{left:List Int}(h:ck ld s.1 left)(hb:Ue (bN p m i x)):
  ck ld (oN p m i s x).1 (Wf ld (left,s.2) (bN p m i x)).1/\(oN p m i s x).2=(Wf ld (left,s.2) (bN p m i x)).2:=by
 rw[ye hb h.len h.Sf]
 have hk:(bN p m i x).aN.data.toList=x.aN.data.toList:=rfl
 obtain⟨r1,r2,r3,r4⟩:=Rp hb (z:=ld.zip left) λr hr=>(h.Sf r hr).1
 rw[hk]at r1 r2 r3 r4
 have hav:=h.av x.aN.data.toList
 have hr:∀r∈(B1 s.1 x.aN.data.toList).2.drop (B1 s.1 x.aN.data.toList).1,1<=r.2/\r.2<=1000000000000000:=λr hr=>by rw[hav]at hr;obtain⟨h1,h2⟩:=se.1 hr;have h3:=h.Sf r h1;unfold Vd at h2;simp only[fb,Ox,ne_eq]at h2;omega
 obtain⟨e1,e2,e3⟩:=ydg hb (h.lo x.aN.data.toList) hr
 rw[hav,<-r1,<-r2]at e1
 rw[hav,<-r3]at e2
 have hz:ld.zip ((xe (bN p m i x) (ld.zip left)).map Prod.snd)=xe (bN p m i x) (ld.zip left):=by refine(List.zip_of_prod ?_ rfl).symm;rw[Bv,List.map_fst_zip (by have:=h.len;omega)]
 refine⟨⟨?_,?_,λk=>?_,λk=>?_⟩,?_⟩
 ·rw[nf,ycu,Nz,h.len,Kj]
 ·rw[hz];exact ydF hb h.Sf
 ·show(B1 (Ig s.1 _ _) k).1<=(B1 (Ig s.1 _ _) k).2.length;rw[Xt];by_cases hkk:k=x.aN.data.toList
  ·rw[hkk,Qn];exact e3
  rw[Zn hkk];exact h.lo k
 ·show(B1 (Ig s.1 _ _) k).2.drop (B1 (Ig s.1 _ _) k).1=_;rw[Xt,hz];by_cases hkk:k=x.aN.data.toList
  ·rw[hkk,Qn];exact e2
  rw[Zn hkk,r4 k hkk];exact h.av k
 ·show s.2++_=_;rw[e1]
def ybP{ld:List Fact}{p:Proj}{m:Int}{i:Nat}:∀(xs:List Part) (s:PS) (left:List Int),ck ld s.1 left->(∀x∈xs,Ue (bN p m i x))->
  ck ld (xs.foldl (oN p m i) s).1 ((xs.map (bN p m i)).foldl (Wf ld) (left,s.2)).1/\(xs.foldl (oN p m i) s).2=((xs.map (bN p m i)).foldl (Wf ld) (left,s.2)).2
 |[],_,_,h,_=>⟨h,rfl⟩
 |x::xs,s,left,h,hx=>by
  obtain⟨h1,h2⟩:=ydy h (hx x (Gc ..));have ih:=ybP xs (oN p m i s x) (Wf ld (left,s.2) (bN p m i x)).1 h1 λy hy=>hx y (Ub _ hy)
  rw[h2]at ih;exact ih
def ybO{ld:List Fact}{p:Proj}{Y:List Fact}{k:Nat}(hp:PV p){E:List mF}{left:List Int}(h:ck ld E left):∀n,n<=p.aT.levels.length->
  ck ld ((List.range n).foldl (wZ p Y (k+1)) (E,[])).1 ((Ce p Y k n).foldl (Wf ld) (left,[])).1/\((List.range n).foldl (wZ p Y (k+1)) (E,[])).2=((Ce p Y k n).foldl (Wf ld) (left,[])).2
 |0,_=>⟨h,rfl⟩
 |n+1,hn=>by
  obtain⟨i1,i2⟩:=ybO hp h n O;rw[Uk,Di,Pu,Di];generalize (List.range n).foldl (wZ p Y (k+1)) (E,[])=s at i1 i2;generalize (Ce p Y k n).foldl (Wf ld) (left,[])=t at i1 i2;obtain⟨t1,t2⟩:=t;dsimp only at i1 i2;show ck ld (wZ p Y (k+1) s n).1 _/\(wZ p Y (k+1) s n).2=_;unfold wZ Wj;simp only[Nat.add_sub_cancel]
  cases iL p Y k n==30000||decide (iL p Y (k+1) n>=iL p Y k n)with
  |true=>exact⟨i1,i2⟩
  |false=>
   rw[Wa,Wa,<-i2];refine ybP _ s t1 i1 λx hx=>?_
   have hpx:=D7 hx;have h1:=BK (m:=((k+1:Nat):Int)) (i:=n) hp hpx;have h2:=ybM (m:=((k+1:Nat):Int)) hp (show n<p.aT.levels.length by omega) hpx;exact⟨⟨O,h1.2⟩,h2⟩
def pw:∀l:List Fact,l.zip (l.map Fact.aT)=l.map λf=>(f,f.aT)
 |[]=>rfl
 |f::l=>by rw[Ye,Ye,List.zip_cons_cons,pw l]
def yc5{H:List Fact}{m:Int}(hb:∀f∈H,1<=f.aT/\f.aT<=1000000000000000):ck (oe H m H.length) (qD (Rm.kU H m H.length)) ((oe H m H.length).map Fact.aT):=by
 have hl:oe H m H.length=H.filter λf=>f.month==m:=by unfold oe;rw[Ec]
 have hg:∀k,B1 (qD (Rm.kU H m H.length)) k=(0,(An H m k).map λf=>(f,f.aT)):=λk=>by have h:=yb4 H m k H.length (lb _);rwa [Ec]at h
 have hm:∀f∈oe H m H.length,1<=f.aT/\f.aT<=1000000000000000:=λf hf=>by rw[hl]at hf;exact hb f (se.1 hf).1
 refine⟨nf ..,λr hr=>?_,λk=>by rw[hg];exact Oa _,λk=>?_⟩
 ·rw[pw]at hr;obtain⟨f,hf,rfl⟩:=Hc.1 hr;have:=hm f hf;show 0<=f.aT/\f.aT<=_;omega
 rw[hg,pw,List.filter_map];show(An H m k).map _=_;congr 1;unfold An;rw[hl,Kr];refine dx λf hf=>?_
 have h1:=hb f hf;show(f.month==m&&Rm.kS f==k)=((Rm.kS f==k&&f.aT !=0)&&f.month==m);rw[show(f.aT !=0)=true by rw[Ox];omega,Pg,Zz]
def ydn{p:Proj}{Y:List Fact}{k:Nat}(hp:PV p)(hb:∀f∈(iM p (j8 Y (k+1:Nat)) (j8 Y (k+1:Nat)).length).1,1<=f.aT/\f.aT<=1000000000000000):
  (Tg (oe (iM p (j8 Y (k+1:Nat)) (j8 Y (k+1:Nat)).length).1 (k+1:Nat) (iM p (j8 Y (k+1:Nat)) (j8 Y (k+1:Nat)).length).1.length) (Ce p Y k p.aT.levels.length) (Ce p Y k p.aT.levels.length).length).2=G3 p Y (k+1):=by
 have h:=(ybO (Y:=Y) (k:=k) hp (yc5 (m:=((k+1:Nat):Int)) hb) p.aT.levels.length (lb _)).2
 unfold Tg G3
 rw[Ec]
 exact h.symm
def ybE{l:List Ua}{i:Nat}(h:i<l.length):Tc (l.take (i+1))=Tc (l.take i)+(l.getD i default).iZ:=by rw[Gd,Bb h,aX h,Ul];show _+(_+0)=_;omega
def ydK{l:List Ua}(h:∀x∈l,0<x.iZ):0<=Tc l:=by
 induction l with
 |nil=>exact Ic _
 |cons x l ih=>
  show 0<=x.iZ+Tc l;have h1:=h x (Gc ..);have h2:=ih λy hy=>h y (Ub _ hy)
  omega
def yce{l:List Ua}(h:∀x∈l,0<x.iZ)(i:Nat):Tc (l.take i)<=Tc l:=by
 have h1:=Ul (l.drop i) (l.take i);rw[Er]at h1;have h2:0<=Tc (l.drop i):=ydK λx hx=>h x (Rw hx)
 omega
structure Ik(l:List Ua):Prop where
 pos:∀x∈l,0<x.iZ
 gV:∀x∈l,0<=x.gV/\x.gV<=x.iZ
 sum:Tc l<=5000000000000
def Ik.wL{l:List Ua}(h:Ik l)(s:wa):∀i,i<=l.length->0<=wL l s i/\wL l s i<=Tc (l.take i)
 |0,_=>⟨Ic _,Ic _⟩
 |i+1,hi=>by
  obtain⟨h1,h2⟩:=Ik.wL h s i O;have hm:=bP (show i<l.length by omega);have h3:=h.pos _ hm;have h4:=h.gV _ hm;have h5:=ybE (show i<l.length by omega);have h6:=yce h.pos (i+1);have h7:=h.sum;rw[Go.Pj.wL]
  cases bE (l.getD i default).aN s&&decide ((l.getD i default).load>0)with
  |true=>rw[Na,aG O O];omega
  |false=>rw[Wa];omega
def Ik.rov{l:List Ua}(h:Ik l):∀i,i<=l.length->pg l i=G5 l i/\0<=pg l i/\pg l i<=Tc (l.take i)
 |0,_=>⟨rfl,Ic _,Ic _⟩
 |i+1,hi=>by obtain⟨h0,h1,h2⟩:=Ik.rov h i O;have hm:=bP (show i<l.length by omega);have h3:=h.pos _ hm;have h4:=h.gV _ hm;have h5:=ybE (show i<l.length by omega);have h6:=yce h.pos (i+1);have h7:=h.sum;rw[pg,G5,<-h0,aG (n:=pg l i+(l.getD i default).iZ) O O,aG (n:=(l.getD i default).iZ-(l.getD i default).gV) O O,aG O O,aG O O];omega
def yea{p:Proj}{l:List Fact}{M:Nat}(hk:Hg p l)(hM:1<=M):Ik (G3 p (cntF l) M):=by obtain⟨h1,h2⟩:=ydm hk hM;exact⟨λx hx=>(h1 x hx).iZ,λx hx=>(h1 x hx).gV,O⟩
abbrev Wl(s:Stmt):List SV:=[.d (dI s.month),.d (dI s.over),.d (dI s.fG),.d (dI s.total),.d (x0 s.Y4),.d (xZ s.gf),.d (b5 s.yj)]
def ybT(s:Stmt)(h1:s.Y4.length<=1000000)(h2:s.gf.length<=1000000)(h3:s.yj.length<=1000000):aF prog 9 [Dt s,Dt s] (vB true):=by
 refine eW func9 rfl rfl call9 rfl rfl (λR J=>?_);refine sX J (Ta (sX J ?_));repeat refine aR ?_
 refine bR (aE0 s.yj O) ?_;repeat refine aR ?_
 refine ab (aI (λh=>?_) (λ_=>tb ?_))
 ·have h:(((((((s.month !=s.month)||(s.over !=s.over))||(s.fG !=s.fG))||(s.total !=s.total))||((s.Y4.length:Int) !=s.Y4.length))||((s.gf.length:Int) !=s.gf.length))|| !true)=true:=h;simp at h
 refine sc (I':=⟨[(2,.s (.ptr 2 0)),(3,.s (.ptr 3 0))],[(2,some (.cells (Wl s))),(3,some (.cells (Wl s)))]⟩) ?_ ?_
 ·refine sX J (Xa ?_);refine mb (λi:Nat=>⟨[(2,.s (.ptr 2 0)),(3,.s (.ptr 3 0)),(5,vI i)],[(2,some (.cells (Wl s))),(3,some (.cells (Wl s)))]⟩) (λi=>i<=s.Y4.length) (λi=>s.Y4.length-i) 0 (Oa _) (La J [] rfl Ga Ga) ?_;intro i hi;refine sX J (aI (λh=>?_) (λh=>⟨rfl,La J [] rfl Ga Ga⟩));have h:(i:Int)<s.Y4.length:=bG h;have ew:aW ((i:Int)+1)=((i+1:Nat):Int):=aG O O;refine Ta (Xa (sX J ?_));refine oi Ia (oi Ia ?_);refine aD (ab ?_);refine aI (λg=>?_) (λ_=>tb ?_)
  ·have g:(!((s.Y4.getD i default).aN.toList==(s.Y4.getD i default).aN.toList&&((s.Y4.getD i default).iZ==(s.Y4.getD i default).iZ&&((s.Y4.getD i default).GZ==(s.Y4.getD i default).GZ&&((s.Y4.getD i default).I3==(s.Y4.getD i default).I3&&true)))))=true:=g;simp at g
  exact eX J ⟨i+1,O,O,La J [] rfl Ga ⟨Z,Z,⟨rfl,Ra ew⟩,oO⟩⟩
 refine sc (I':=⟨[],[]⟩) ?_ ?_
 ·refine sX J (Xa ?_);refine mb (λi:Nat=>⟨[(2,.s (.ptr 2 0)),(3,.s (.ptr 3 0)),(6,vI i)],[(2,some (.cells (Wl s))),(3,some (.cells (Wl s)))]⟩) (λi=>i<=s.gf.length) (λi=>s.gf.length-i) 0 (Oa _) (La J [] rfl Ga Ga) ?_;intro i hi;refine sX J (aI (λh=>?_) (λh=>⟨rfl,La J [] rfl trivial trivial⟩));have h:(i:Int)<s.gf.length:=bG h;have ew:aW ((i:Int)+1)=((i+1:Nat):Int):=aG O O;refine Ta (Xa (sX J ?_));refine oi Ia (oi Ia ?_);refine aD (ab ?_);refine aI (λg=>?_) (λ_=>tb ?_)
  ·have g:(!((s.gf.getD i default).eS.toList==(s.gf.getD i default).eS.toList&&((s.gf.getD i default).I3==(s.gf.getD i default).I3&&true)))=true:=g;simp at g
  exact eX J ⟨i+1,O,O,La J [] rfl Ga ⟨Z,Z,⟨rfl,Ra ew⟩,oO⟩⟩
 exact eX J (pb _)
def Fu(n:Int):aW n=if n%18446744073709551616>=9223372036854775808 then n%18446744073709551616-18446744073709551616 else n%18446744073709551616:=by unfold aW IntKind.wrap;simp[IntKind.bits,IntKind.signed]
def ydI(a b:Int):aW (aW a+b)=aW (a+b):=by rw[Fu a,Fu (a+b),Fu];split <;> split <;> split <;> omega
def Gl:List Le->Int
 |[]=>0
 |d::l=>d.I3+Gl l
def Wu:∀(l:List Le) (u:Int),l.foldl (λt d=>aW (t+d.I3)) (aW u)=aW (u+Gl l)
 |[],u=>by show aW u=aW (u+0);rw[Qy]
 |d::l,u=>by show l.foldl _ (aW (aW u+d.I3))=aW (u+(d.I3+Gl l));rw[ydI,Wu l,Int.add_assoc]
def ybW(t:Int)(l:List Le):∀i,i<=l.length->bj t l i=(l.take i).foldl (λt d=>aW (t+d.I3)) t
 |0,_=>rfl
 |i+1,h=>by rw[bj,ybW t l i O,Gd,Bb O,aX O,Di];rfl
def yb1(t:Int)(l:List OK):∀i,i<=l.length->Kk t l i=Wh t (l.take i)
 |0,_=>rfl
 |i+1,h=>by rw[Kk,yb1 t l i O,Gd,Bb O,aX O];unfold Wh;rw[Di];rfl
def ydC(de:Int)(D:List Le)(Lt:List OK):Kk (bj (aW (0-de)) D D.length) Lt Lt.length=Wh (aW (We D-de)) Lt:=by rw[yb1 _ _ _ (lb _),Ec,ybW _ _ _ (lb _),Ec,Wu];have h:We D=aW (0+Gl D):=Wu D 0;rw[h,show aW (0+Gl D)-de=aW (0+Gl D)+ -de from Int.sub_eq_add_neg,ydI];congr 2;omega
def ydx{a b c:wa}(h1:bE a c=true)(h2:bE b c=true):bE a b=true:=by unfold bE at*;rw[Md]at*;rw[h1,h2]
def ydp(l:List pQ)(x:pQ)(s:wa):Xc (l++ [x]) s=bif l.any (λy=>bE y.aN s)then Xc l s else bif bE x.aN s then x.vY else 0:=by
 induction l with
 |nil=>exact Jp x [] s
 |cons y l ih=>
  rw[Re,Jp,Jp,ih,bg]
  cases bE y.aN s <;> rfl
def ycW{p:Proj}(hp:PV p){i:Nat}(hi:i<p.cO.length):((p.cO.take i).any λy=>bE y.aN (p.cO.getD i default).aN)=false/\0<=(p.cO.getD i default).vY/\(p.cO.getD i default).vY<=1000000:=by have h:=hp.cO;unfold rW at h;obtain⟨_,h⟩:=dF dC h;have h1:=lQ h i (Oa _) O;unfold sH at h1;obtain⟨_,h1⟩:=dF dC h1;obtain⟨h2,h1⟩:=dF dC h1;obtain⟨h3,_⟩:=dF dC h1;exact⟨h2,within_iff.1 (by simpa using h3)⟩
def ycg{p:Proj}(hp:PV p)(s:wa):∀i,i<=p.cO.length->IK p.cO s i=Xc (p.cO.take i) s
 |0,_=>rfl
 |i+1,hi=>by
  have bC:i<p.cO.length:=O;rw[IK,ycg hp s i O,Gd,Bb bC,<-aX bC];show _=Xc (p.cO.take i++ [p.cO.getD i default]) s;rw[ydp];have hd:=(ycW hp bC).1
  cases ha:(p.cO.take i).any (λy=>bE y.aN s)with
  |true=>
   obtain⟨y,hy,hys⟩:=rk.1 ha
   cases hx:bE (p.cO.getD i default).aN s with
   |true=>exact absurd (ydx hys hx) (by simpa using Zf.1 hd y hy)
   |false=>rfl
  |false=>
   cases hx:bE (p.cO.getD i default).aN s with
   |true=>rfl
   |false=>show Xc _ _=0;unfold Xc;rw[List.find?_eq_none.2 λy hy=>by simpa using Zf.1 ha y hy]
def ydq{p:Proj}(hp:PV p)(s:wa):0<=Xc p.cO s/\Xc p.cO s<=1000000:=by
 unfold Xc
 cases h:p.cO.find? λx=>bE x.aN s with
 |none=>exact⟨Ic _,dC⟩
 |some x=>have hm:=List.mem_of_find?_eq_some h;obtain⟨i,hi,rfl⟩:=nk hm;have:=(ycW hp hi).2;rw[aX hi]at this;exact this
def ycM{p:Proj}(hp:PV p)(xs:List Ua)(n:Nat):Cf p xs n=gB p xs n:=by
 have e:∀i,Qk p xs i=Yj p xs i:=λi=>by unfold Qk Yj Tt cr;have h:=ycg hp (p.gr.bK.getD i default).name p.cO.length (lb _);rw[Ec]at h;rw[h]
 unfold Cf gB;rw[show Qk p xs=Yj p xs from funext e]
def yeh{p:Proj}(hp:PV p):∀x∈p.cU,0<=PG p.chan.Ya x.name:=λx hx=>by have h:=hp.cU;unfold rR at h;obtain⟨_,h⟩:=dF dC h;obtain⟨i,hi,rfl⟩:=nk hx;have h1:=lQ h i (Oa _) O;unfold qG at h1;obtain⟨h1,_⟩:=dF dC h1;rw[aX hi]at h1;have:=Hh h1;omega
def ydr{p:Proj}(hp:PV p)(Y:List Fact)(k n:Nat):∀x∈Ce p Y k n,0<=x.iZ/\x.iZ<=1000000000000000:=λx hx=>by
 unfold Ce at hx;obtain⟨i,_,hx⟩:=List.mem_flatMap.1 hx;unfold Wj at hx
 cases hc:iL p Y k i==30000||decide (iL p Y (k+1) i>=iL p Y k i)with
 |true=>rw[hc]at hx;cases hx
 |false=>rw[hc,Wa]at hx;obtain⟨y,hy,rfl⟩:=Hc.1 hx;have:=BK (m:=((k+1:Nat):Int)) (i:=i) hp (D7 hy);omega
def ydQ{p:Proj}{l:List Fact}{M:Int}(hk:Hg p l):∀f∈(iM p (j8 (cntF l) M) (j8 (cntF l) M).length).1,1<=f.aT/\f.aT<=1000000000000000:=λf hf=>by obtain⟨h1,h2,_⟩:=br (HZ (lb _) f hf);have:=Dv hk.fmt f h1 h2;omega
def yck{p:Proj}{l:List Fact}{M:Int}(hk:Hg p l):(j8 (cntF l) M).length<=200/\(iM p (j8 (cntF l) M) (j8 (cntF l) M).length).1.length<=200:=by
 have h2:(j8 (cntF l) M).length<=(cntF l).length:=by unfold j8;rw[A5];exact yi _ _
 have h3:=(x4 hk).len;have h4:=BY p (j8 (cntF l) M) (j8 (cntF l) M).length;omega
def yew{p:Proj}{l:List Fact}{M:Nat}(oW:p.fits)(hk:Hg p l)(hM:M<=24):
  aF prog 58 [oR p,cJ (cntF l),vI M] (.t [.s (.d (RN (iM p (j8 (cntF l) M) (j8 (cntF l) M).length).1)),.g (uH (iM p (j8 (cntF l) M) (j8 (cntF l) M).length).2)]):=
 ydV p (cntF l) _ M oW.small (Ki hk.proj).new (x4 hk).len hM (gk.of hk.fmt M) (yck hk).1 (ydk hk.fmt)
def yey{p:Proj}{l:List Fact}{j:Nat}(oW:p.fits)(hk:Hg p l)(hj:j+1<=24):
  aF prog 27 [oR p,cJ (cntF l),vI (j+1:Nat)] (iD (G3 p (cntF l) (j+1))):=by
 have hp:=Ki hk.proj
 have hn:=hp.cells
 have hbed:=ydQ (M:=((j+1:Nat):Int)) hk
 have hX:=ydY p (cntF l) _ _ _ (j+1) (yew oW hk hj) (yee p (cntF l) j hp (x4 hk) (cv hk.fmt) hj) (yck hk).2 (by have:=Nu hp (cntF l) j p.aT.levels.length;omega) (λf hf=>by have:=hbed f hf;omega) (ydr hp _ _ _)
 rwa [ydn hp hbed]at hX
def yez{p:Proj}{l:List Fact}{j:Nat}(oW:p.fits)(hk:Hg p l)(hj:j+1<=24):
  aF prog 10 [oR p,cJ (cntF l),vI (j+1:Nat)] (.g [.d (dI (j+1:Nat)),.d (dI (OW p l (j+1)).over),.d (dI (OW p l (j+1)).fG),.d (dI (OW p l (j+1)).total),.d (x0 (OW p l (j+1)).Y4),.d (xZ (OW p l (j+1)).gf),.d (b5 (OW p l (j+1)).yj)]):=by
 have hp:=Ki hk.proj
 have hT:=yea hk (show 1<=j+1 by omega)
 have hxl:=(aE6 (M:=j+1) oW hk ⟨O,hj⟩ (Zx hk _)).2
 have h1:=hT.rov _ (lb _)
 rw[Ec]at h1
 have h2:=hT.sum
 have hST:=ydZ p (cntF l) _ (j+1) oW hp (x4 hk) (cv hk.fmt) hj (yey oW hk hj) O (yeh hp) (ydq hp) (λs=>by have h3:=(hT.wL s _ (lb _)).2;rw[Ec]at h3;omega) O
 rw[h1.1,ycM hp,<-ydC]at hST
 exact hST
def yei{p:Proj}{l:List Fact}(hg:vC p=false)(hk:Hg p l)(M:Nat):(OW p l M).Y4.length<=1000000/\(OW p l M).gf.length<=1000000/\(OW p l M).yj.length<=1000000:=by have h1:=LS p (G3 p (cntF l) M) p.gr.bK.length;have h2:=Up p (cntF l) M (sK p (cntF l) M) p.cU.length;have h3:=DY p (cntF l) M p.aT.levels.length;have hc:=(Ki hk.proj).cells;simp only[vC,Ll,wc,ic]at hg;exact⟨by show(gB ..).length<=_;omega,by show(M6 ..).length<=_;omega,by show(gY ..).length<=_;omega⟩
def yeB:Stmt:=⟨0,0,0,0,[],[],[]⟩
def yd3:aF prog 9 [.g (iB Kg.zero),.g (iB Kg.zero)] (vB true):=
 (ybT yeB (Oa _) (Oa _) (Oa _)).conv ⟨⟨Ka _,Ka _,Ka _,Ka _,Wc,Wc,Wc,oO⟩,⟨Ka _,Ka _,Ka _,Ka _,Wc,Wc,Wc,oO⟩,oO⟩
def ProjectSettles(p:Proj)(l:List Fact)(m:Int)(hp:p.Zq)(hf:∀f∈l,f.fits)(hl:l.length<=9223372036854775807):aF prog 3 [oR p,cJ l,vI m] (vB true):=by
 refine eW func3 rfl rfl call3 rfl rfl (λR J=>?_);refine sX J (Ta (sX J ?_));refine aB (aI9 p) ?_;repeat refine aR ?_
 refine bR (aMW l 25 dC) ?_;repeat refine aR ?_
 refine ab (aI (λh=>eX J (aB Du (pb _))) (λh=>tb ?_));have h:(vC p||HD l 25)=false:=h;rw[wc]at h;have oW:=hp.fits h.1;obtain⟨hlen,aPJ⟩:=aBR h.2;by_cases he:j6 p l m 1=0
 ·obtain⟨hk,hw⟩:=tL he;have hwm:=within_iff.1 hw;obtain⟨j,rfl⟩:∃j:Nat,m=(j+1:Nat):=⟨m.toNat-1,O⟩;have hC:=aBC l hf aPJ O;rw[aJO hk.fmt]at hC;have hR:=ydJ p l (j+1) oW hf hl he;have hE:=WH p l (j+1:Nat) 1 oW hf hl;rw[he]at hE;have hRR:=yez (j:=j) oW hk O;have hb:(OW p l (j+1)).Y4.length<=1000000/\(OW p l (j+1)).gf.length<=1000000/\(OW p l (j+1)).yj.length<=1000000:=yei h.1 hk (j+1);have hSS:=ybT (OW p l (j+1)) hb.1 hb.2.1 hb.2.2;have hm:(OW p l (j+1)).month=(j+1:Nat):=rfl;generalize OW p l (j+1)=st at hR hRR hSS hm;unfold Dt at hSS;rw[hm]at hSS;generalize cntF l=Y at hC hRR;refine sX J (aB hR ?_);refine Ta (sX J ?_);refine aB hE (sX J ?_);refine ab (aI (λh2=>by cases h2) (λ_=>tb ?_));apply eX J;repeat refine aR ?_
  apply bR hC;repeat refine aR ?_
  apply bR hRR;repeat refine aR ?_
  apply bR hSS;repeat first|apply oi trivial|apply sk|apply st|apply sg|apply sh|apply su|apply Gv|apply tu
  apply bR Du;repeat first|apply oi trivial|apply sk|apply st|apply sg|apply sh|apply su|apply Gv|apply tu
  refine aD (Ja (Va (λb=>vB b) ?_));simp
 have hd:(j6 p l m 1 !=0)=true:=by simpa using he
 refine sX J (aB (ycy p l m oW hf hl he) ?_);refine Ta (sX J ?_);refine aB (WH p l m 1 oW hf hl) (sX J ?_);refine ab (aI (λ_=>?_) (λh2=>Bool.noConfusion (hd.symm.trans h2)));refine eX J (aB yd3 ?_);repeat refine aR ?_
 apply bR Du;repeat refine aR ?_
 refine Ja (Va (λb=>vB b) ?_);simp
end Go.Pj
