/- Part 9: lemmas that the proofs of this seat share; by itself it claims nothing. -/
import Derived.Test.YtplioigfcjbbiaaGreatDoorPt8
set_option maxRecDepth 100000
set_option maxHeartbeats 20000000
set_option linter.defProp false
namespace Go.Pj
open Go Go.Ax Go.Ch Go.Proofs Go.Proofs.Tryz
def aGB{l:List Fact}(hv:∀f∈l,fR f=0):rj (cntF l):=by
 intro f hf h0 x hx;obtain⟨_,_,_,g,hg,rfl,_⟩:=N4 hv hf;have h0:g.kind=0:=h0;obtain⟨_,h2⟩:=kN (hv g hg);have hb:=(oB h2 (by rw[h0];rfl)).1;have e:(jE g).levels=g.levels:=by unfold jE;simp only[h0,Dj,Ma]
 rw[e]at hx;have:=Hg.1 hb x hx;rcases yT (show iQ x=false by simpa using this)with h|h
 ·exact .inl h
 exact .inr h.2
def aBR{l:List Fact}(h:HD l 25=false):l.length<=25/\∀f∈l,f.levels.length<=1000000:=by unfold HD at h;rw[sc]at h;have h1:=Ph h.1;refine⟨O,λf hf=>?_⟩;have:=Hg.1 h.2 f hf;simp only[KX,Uf,lc,not_or]at this;omega
abbrev lim(n:Nat):Prop:=n<=9223372036854775807
def aGY:Rd prog 92 2 (λp:Int×Int=>[.d (dI p.1),.d (dI p.2)]) (λ_=>True):=
 (fI underlying92 rfl kR (aS rfl rI (aS rfl rI jN))).to (λa=>(a.1,a.2.1)) (λ_=>rfl) (λ_ _=>trivial)
def aKZ:Rd prog 94 5 (λs:lI=>[.d (dS s.name),.d (dI s.run),.d (dI s.bq),.d (dI s.num),.d (dI s.den)]) (λs=>lim s.name.size):=
 (fI underlying94 rfl kR (aS rfl rS (aS rfl rI (aS rfl rI (aS rfl aGY jN))))).to (λa=>⟨a.1,a.2.1,a.2.2.1,a.2.2.2.1.1,a.2.2.2.1.2⟩) (λ_=>rfl) (λ_ h=>h.1)
def aIB:Rd prog 29 1 (λl:List lI=>[.d (kV l)]) (λl=>lim l.length/\∀a∈l,lim a.name.size):=
 kF underlying29 kR aKZ dC aGU (λ_=>rfl) (λa j hj=>by match j,hj with|0,_|1,_|2,_|3,_|4,_=>rfl)
def aIC:Rd prog 125 2 (λs:sC=>[.d (dI s.mb),.d (dS s.aN)]) (λ_=>True):=
 (fI underlying125 rfl kR (aS rfl rI (aS rfl rS jN))).to (λa=>⟨a.1,a.2.1⟩) (λ_=>rfl) (λ_ _=>trivial)
def aEZ:Rd prog 62 1 (λl:List sC=>[.d (mN l)]) (λl=>lim l.length/\∀a∈l,True):=
 kF underlying62 kR aIC dC aLM (λ_=>rfl) (λa j hj=>by match j,hj with|0,_|1,_=>rfl)
def aOO:Rd prog 64 4 (λs:fS=>[.d (dS s.name),.d (dI s.x),.d (dI s.y),.d (mN s.bB)]) (λs=>lim s.name.size/\lim s.bB.length):=
 (fI underlying64 rfl kR (aS rfl rS (aS rfl rI (aS rfl rI (aS rfl aEZ jN))))).to (λa=>⟨a.1,a.2.1,a.2.2.1,a.2.2.2.1⟩) (λ_=>rfl) (λ_ h=>⟨h.1,h.2.2.2.1.1⟩)
def aK7:Rd prog 30 1 (λl:List fS=>[.d (pN l)]) (λl=>lim l.length/\∀a∈l,lim a.name.size/\lim a.bB.length):=
 kF underlying30 kR aOO dC aNS (λ_=>rfl) (λa j hj=>by match j,hj with|0,_|1,_|2,_|3,_=>rfl)
def aOI:Rd prog 127 2 (λs:pQ=>[.d (dS s.aN),.d (dI s.vY)]) (λ_=>True):=
 (fI underlying127 rfl kR (aS rfl rS (aS rfl rI jN))).to (λa=>⟨a.1,a.2.1⟩) (λ_=>rfl) (λ_ _=>trivial)
def aK2:Rd prog 33 1 (λl:List pQ=>[.d (CG l)]) (λl=>lim l.length/\∀a∈l,True):=
 kF underlying33 kR aOI dC Hu (λ_=>rfl) (λa j hj=>by match j,hj with|0,_|1,_=>rfl)
def aOE:Rd prog 174 3 (λs:zF=>[.d (dS s.name),.d (dI s.due),.d (dI s.Ng)]) (λ_=>True):=
 (fI underlying174 rfl kR (aS rfl rS (aS rfl rI (aS rfl rI jN)))).to (λa=>⟨a.1,a.2.1,a.2.2.1⟩) (λ_=>rfl) (λ_ _=>trivial)
def aK0:Rd prog 34 1 (λl:List zF=>[.d (RL l)]) (λl=>lim l.length/\∀a∈l,True):=
 kF underlying34 kR aOE dC Kt (λ_=>rfl) (λa j hj=>by match j,hj with|0,_|1,_|2,_=>rfl)
def aOJ:Rd prog 66 6 (λs:uF=>[.d (dS s.name),.d (dI s.OE),.d (dI s.base),.d (dI s.mb),.d (b5 s.aV),.d (dI s.GZ)]) (λs=>lim s.name.size):=
 (fI underlying66 rfl kR (aS rfl rS (aS rfl rI (aS rfl rI (aS rfl rI (aS rfl Ch.PL (aS rfl rI jN))))))).to (λa=>⟨a.1,a.2.1,a.2.2.1,a.2.2.2.1,a.2.2.2.2.1,a.2.2.2.2.2.1⟩) (λ_=>rfl) (λ_ h=>h.1)
def aK3:Rd prog 35 1 (λl:List uF=>[.d (q7 l)]) (λl=>lim l.length/\∀a∈l,lim a.name.size):=
 kF underlying35 kR aOJ dC X0 (λ_=>rfl) (λa j hj=>by match j,hj with|0,_|1,_|2,_|3,_|4,_|5,_=>rfl)
def aOP:Rd prog 129 3 (λs:nM=>[.d (dS s.aN),.d (dI s.num),.d (dI s.den)]) (λs=>lim s.aN.size):=
 (fI underlying129 rfl kR (aS rfl rS (aS rfl aGY jN))).to (λa=>⟨a.1,a.2.1.1,a.2.1.2⟩) (λ_=>rfl) (λ_ h=>h.1)
def aK8:Rd prog 36 1 (λl:List nM=>[.d (oY l)]) (λl=>lim l.length/\∀a∈l,lim a.aN.size):=
 kF underlying36 kR aOP dC aNU (λ_=>rfl) (λa j hj=>by match j,hj with|0,_|1,_|2,_=>rfl)
def aOM:Rd prog 32 2 (λg:Ground=>[.d (kV g.bK),.d (pN g.cC)]) Ground.fits:=
 (fI underlying32 rfl kR (aS rfl aIB (aS rfl aK7 jN))).to (λa=>⟨a.1,a.2.1⟩) (λ_=>rfl) (λ_ h=>⟨h.1.1,h.2.1.1,h.1.2,λx hx=>(h.2.1.2 x hx).1,λx hx=>(h.2.1.2 x hx).2⟩)
def aOL:Rd prog 24 6 (λg:eZ=>[.d (dI g.x),.d (dI g.y),.d (dI g.side),.d (dI g.dO),.d (dI g.rows),.d (b5 g.levels)]) (λg=>lim g.levels.length):=
 (fI underlying24 rfl kR (aS rfl rI (aS rfl rI (aS rfl rI (aS rfl rI (aS rfl rI (aS rfl Ch.PL jN))))))).to (λa=>⟨a.1,a.2.1,a.2.2.1,a.2.2.2.1,a.2.2.2.2.1,a.2.2.2.2.2.1⟩) (λ_=>rfl) (λ_ h=>h.2.2.2.2.2.1.1)
def aON:Rd prog 28 5 (λc:kE=>[.d (dS c.name),.d (x3 c.aZ),.d (dI c.over),.d (dI c.buffer),.d (zM c.cb)]) kE.ok:=
 (fI underlying28 rfl kR (aS rfl rS (aS rfl aOQ (aS rfl rI (aS rfl rI (aS rfl aK1 jN)))))).to (λa=>⟨a.1,a.2.1,a.2.2.1,a.2.2.2.1,a.2.2.2.2.1⟩) (λ_=>rfl)
  (λ_ h=>⟨h.1,h.2.1.1,h.2.1.2,h.2.2.1,h.2.2.2.1,h.2.2.2.2.1.1,h.2.2.2.2.1.2⟩)
def aQF:Is prog 38 oR Proj.dq:=
 VN (k:=20) underlying38 ((fI underlying38 rfl kR (aS rfl rS (aS rfl aOL (aS rfl aON (aS rfl aOM (aS rfl rI (aS rfl rI (aS rfl aK2 (aS rfl aK0 (aS rfl aK3 (aS rfl aK8 jN))))))))))).to
  (λa=>(⟨a.1,a.2.1,a.2.2.1,a.2.2.2.1,a.2.2.2.2.1,a.2.2.2.2.2.1,a.2.2.2.2.2.2.1,a.2.2.2.2.2.2.2.1,a.2.2.2.2.2.2.2.2.1,a.2.2.2.2.2.2.2.2.2.1⟩:Proj)) (λ_=>rfl)
  (λ_ h=>⟨h.1,h.2.1,h.2.2.1,h.2.2.2.1,h.2.2.2.2.2.2.1.1,h.2.2.2.2.2.2.2.1.1,h.2.2.2.2.2.2.2.2.1.2,h.2.2.2.2.2.2.2.2.2.1.2⟩))
def aK6:Rd prog 69 13 (λf:Fact=>[.d (dI f.kind),.d (dI f.seq),.d (dI f.a8),.d (dI f.month),.d (dI f.number),.d (dI f.aT),.d (dI f.over),.d (dI f.wb),.d (dI f.target),.d (dS f.aN),.d (dS f.dN),.d (dS f.eS),.d (b5 f.levels)]) Fact.fits:=
 (fI underlying69 rfl kR (aS rfl rI (aS rfl rI (aS rfl rI (aS rfl rI (aS rfl rI (aS rfl rI (aS rfl rI (aS rfl rI (aS rfl rI (aS rfl rS (aS rfl rS (aS rfl rS (aS rfl Ch.PL jN)))))))))))))).to
  (λa=>(⟨a.1,a.2.1,a.2.2.1,a.2.2.2.1,a.2.2.2.2.1,a.2.2.2.2.2.1,a.2.2.2.2.2.2.1,a.2.2.2.2.2.2.2.1,a.2.2.2.2.2.2.2.2.1,a.2.2.2.2.2.2.2.2.2.1,a.2.2.2.2.2.2.2.2.2.2.1,a.2.2.2.2.2.2.2.2.2.2.2.1,a.2.2.2.2.2.2.2.2.2.2.2.2.1⟩:Fact)) (λ_=>rfl)
  (λ_ h=>⟨h.2.2.2.2.2.2.2.2.2.2.2.2.1.1,h.2.2.2.2.2.2.2.2.2.1,h.2.2.2.2.2.2.2.2.2.2.1,h.2.2.2.2.2.2.2.2.2.2.2.1⟩)
def aQH:Rd prog 39 1 (λl:List Fact=>[.d (RN l)]) (λl=>lim l.length/\∀a∈l,a.fits):=
 kF underlying39 kR aK6 dC J0 (λ_=>rfl) (λa j hj=>by match j,hj with|0,_|1,_|2,_|3,_|4,_|5,_|6,_|7,_|8,_|9,_|10,_|11,_|12,_=>rfl)
end Go.Pj
namespace Go.Ax
open Go.RowKit
def sh{b:Bool}{q:Prop}(h:q):Q3 (b=true) (some (rL true b))/\q:=⟨λh=>by simpa[rL]using h,h⟩
def yds{P:Ba}{f:FuncId}{args:List AV}{r:AV}{K:AV->Prop}{b:Bool}{X:Prop}(h:b=true->aF P f args r)(k:K r):(∃r,(b=true->aF P f args r)/\K r)\/X:=.inl ⟨r,h,k⟩
section
variable{α:Type} [Inhabited α] {s n e:Nat}{f g:Nat->Nat->DV}{el:α->Nat->DV}{l:List α}{x:α}
def Lr:iJ s (bif l.isEmpty then 0 else l.length) (λi=>el (l.getD i default)) el l:=⟨dK l,λ_ _ _ _=>rfl⟩
def iJ.b8(h:iJ s n f el l):aY (.row e n s f) (.b8 e l.length s (λi=>el (l.getD i default))):=
 aY.b8 h.1 λi j hi hj=>Za (h.2 i j hi hj)
end
end Go.Ax
namespace Go.Ch
open Go Go.Ax Go.Proofs Go.Proofs.Tryz
def ycm{a b:Pt}(ha:fB a=true)(hb:fB b=true):0<=span a b/\span a b<=3000000:=by have h:=KQ ha hb;obtain⟨h1,h2,h3⟩:=AL ha hb hb;exact⟨h.1,h.le O O⟩
def ycM{a b:Int}(hb:0<b)(hb2:b<=100000000000000000)(h: -9000000000000000000<=a)(k:a<=9000000000000000000):
  aW (Int.tdiv (aW (a-(if a.tmod b<0 then aW (a.tmod b+b)else a.tmod b))) b)=a / b:=by
 have h1:=tdm a b
 have h2:=aEE (a:=a) hb
 have hm:=Wq a (show b≠0 by omega)
 have hl:=Tq a hb
 have hd:=Int.mul_ediv_add_emod a b
 have e:(if a.tmod b<0 then aW (a.tmod b+b)else a.tmod b)=a%b:=by
  split
  ·rw[aG O O];have hx:=To (a:=a) (r:=a.tmod b+b) (q:=a.tdiv b-1) hb (by rw[Uq];omega) O O;rw[hx]at hd;rw[Dn,Il b]at hd;omega
  have hx:=To (a:=a) (r:=a.tmod b) (q:=a.tdiv b) hb O O O;rw[hx]at hd;rw[Il b]at hd;omega
 rw[e,aG (n:=a-a%b) O O]
 have e2:a-a%b=a / b*b:=by rw[Il];omega
 rw[e2,Int.mul_tdiv_cancel _ O]
 have hq: -9000000000000000000<=a / b/\a / b<=9000000000000000000:=by
  constructor
  ·rcases Ql 0 a with h0|h0
   ·have:=Ll h0 (show 0<=b by omega);omega
   have:a<=a / b:=by
    have h3:a / b*b<=a:=O;rcases Ql 0 (a / b)with h4|h4
    ·omega
    have h5:a / b*b<=a / b:=by have:0<=(-(a / b))*(b-1):=pf O O;rw[Dn,Int.neg_mul,Int.mul_one]at this;omega
    rcases En (a / b) a with h6|h6
    ·exfalso;have h7:a<(a / b+1)*b:=by rw[Int.add_mul];omega
     have h8:(a / b+1)*b<=a / b+1:=by have:0<=(-(a / b+1))*(b-1):=pf O O;rw[Dn,Int.neg_mul,Int.mul_one]at this;omega
     omega
    exact h6
   omega
  rcases Ql 0 a with h0|h0
  ·have:=Nq b h0;omega
  have:a / b<=0:=by
   rcases En 0 (a / b)with h6|h6
   ·have:b<=a / b*b:=by have:0<=(a / b-1)*b:=pf O O;rw[Uq]at this;omega
    omega
   exact h6
  omega
 exact aG O O
def ybw{u v s d U:Int}(hs:0<s)(SH:s<=8000000000000)(hd:0<=d)(hd2:d<=s)(hU:0<=U)(hU2:U<=100000)(hu: -U<=u)(hu2:u<=U)(hv: -U<=v)(Z3:v<=U):
  aW (Int.tdiv (aW (aW (aW (u*aW (s-d))+aW (v*d))-(if(aW (aW (u*aW (s-d))+aW (v*d))).tmod s<0 then aW ((aW (aW (u*aW (s-d))+aW (v*d))).tmod s+s)else(aW (aW (u*aW (s-d))+aW (v*d))).tmod s))) s)=ri u v s d:=by
 obtain⟨h1,h2,h3⟩:=aIQ hs SH hd hd2 hU hU2 hu hu2 hv Z3
 rw[h1]
 exact ycM hs O O O
def Qi(c:kE)(k:Nat)(p:Pt):Da F8:=match k with
 |0=>none
 |j+1=>vZ c j p
def Ce(c:kE)(p:Pt)(i:Nat):List F8:=(List.range i).flatMap λk=>(FI c k p).toList++(Qi c k p).toList
def ya5(c:kE)(p:Pt)(i:Nat):Ce c p (i+1)=Ce c p i++((FI c i p).toList++(Qi c i p).toList):=by unfold Ce;rw[wk,Sv];simp
def toList_some{o:Da F8}(h:o.isSome=true):o.toList=[TC o]:=by
 cases o with
 |none=>cases h
 |some x=>rfl
def toList_none{o:Da F8}(h:o.isSome=false):o.toList=[]:=by
 cases o with
 |none=>rfl
 |some x=>cases h
def Dt(c:kE)(p:Pt):∀i,(Ce c p i).length<=2*i
 |0=>Oa _
 |i+1=>by
  rw[ya5,Jc,Jc];have:=Dt c p i;have h1:(FI c i p).toList.length<=1:=by cases FI c i p <;> simp
  have h2:(Qi c i p).toList.length<=1:=by cases Qi c i p <;> simp
  omega
def Zh(l:List F8)(r:Int×Bool):Prop:=(r=(0,false)/\∀x∈l,(TG x).2=false)\/(r.2=true/\(∃x∈l,TG x=r)/\∀x∈l,(TG x).2=true->r.1<=(TG x).1)
def Zh.step{l:List F8}{r:Int×Bool}(h:Zh l r)(x:F8):Zh (l++ [x]) (OX r x):=by
 unfold OX;rcases h with⟨rfl,h⟩|⟨h1,⟨y,hy,hyr⟩,h3⟩
 ·cases hx:(TG x).2 with
  |false=>
   refine .inl ⟨rfl,λz hz=>?_⟩;rcases tc.1 hz with hz|hz
   ·exact h z hz
   simp at hz;subst hz;exact hx
  |true=>
   refine .inr ⟨rfl,⟨x,sM,by simp[Prod.ext_iff,hx]⟩,λz hz hz2=>?_⟩;rcases tc.1 hz with hz|hz
   ·rw[h z hz]at hz2;cases hz2
   simp at hz;subst hz;exact Kc _
 rw[h1]
 cases hx:(TG x).2 with
 |false=>
  refine .inr ⟨h1,⟨y,Tf _ hy,hyr⟩,λz hz hz2=>?_⟩;rcases tc.1 hz with hz|hz
  ·exact h3 z hz hz2
  simp at hz;subst hz;rw[hx]at hz2;cases hz2
 |true=>
  by_cases fZ:(TG x).1<r.1
  ·rw[cd fZ];refine .inr ⟨rfl,⟨x,sM,by simp[Prod.ext_iff,hx]⟩,λz hz hz2=>?_⟩;simp only[Bool.not_true,Ej,Bool.and_self,Ma];rcases tc.1 hz with hz|hz
   ·have:=h3 z hz hz2;omega
   simp at hz;subst hz;exact Kc _
  rw[Je fZ];refine .inr ⟨h1,⟨y,Tf _ hy,hyr⟩,λz hz hz2=>?_⟩;rcases tc.1 hz with hz|hz
  ·exact h3 z hz hz2
  simp at hz;subst hz;show r.1<=_;omega
def Iu(l:List F8):Zh l (FL l):=by
 have:∀(m:List F8),Zh m (FL m):=by
  intro m;suffices h:∀n,Zh (m.take n) (FL (m.take n)) by simpa using h m.length
  intro n;induction n with
  |zero=>exact .inl ⟨rfl,sM⟩
  |succ n ih=>
   by_cases hn:n<m.length
   ·rw[nn hn,Y5];exact ih.step _
   rw[El O]at ih⊢;exact ih
 exact this l
def Zh.unique{l m:List F8}{r s:Int×Bool}(hl:∀x,x∈l↔x∈m)(h:Zh l r)(k:Zh m s):r=s:=by
 rcases h with⟨rfl,h⟩|⟨h1,⟨y,hy,hyr⟩,h3⟩
 ·rcases k with⟨rfl,_⟩|⟨k1,⟨z,hz,hzr⟩,_⟩
  ·rfl
  have:=h z ((hl z).2 hz);rw[hzr,k1]at this;cases this
 rcases k with⟨rfl,k⟩|⟨k1,⟨z,hz,hzr⟩,k3⟩
 ·have:=k y ((hl y).1 hy);rw[hyr,h1]at this;cases this
 have a:=h3 z ((hl z).2 hz) (by rw[hzr];exact k1);have b:=k3 y ((hl y).1 hy) (by rw[hyr];exact h1);rw[hzr]at a;rw[hyr]at b;exact Prod.ext (Int.le_antisymm a b) (h1.trans k1.symm)
def ybT(c:kE)(p:Pt)(h2:2<=c.aZ.length):∀x,x∈G4 c p↔x∈Ce c p (c.aZ.length-1):=by
 intro x;unfold G4 lF l8 Ce;simp only[tc,Ti,Rh,List.mem_flatMap,Option.mem_toList];constructor
 ·rintro(⟨k,hk,h⟩|⟨j,hj,h⟩)
  ·exact⟨k,hk,.inl h⟩
  exact⟨j+1,O,.inr h⟩
 rintro⟨k,hk,h|h⟩
 ·exact .inl ⟨k,hk,h⟩
 cases k with
 |zero=>cases h
 |succ j=>exact .inr ⟨j,O,h⟩
def ycg(c:kE)(p:Pt)(h2:2<=c.aZ.length):FL (Ce c p (c.aZ.length-1))=UI c p:=
 ((Iu _).unique (ybT c p h2) (Iu _)).symm
def wl(c:kE)(g:eZ)(less:Int)(i:Nat):Nat->Nat->DV:=λk _=>dI (if k<i then L0 c g less k else g.levels.getD k 0)
def yb0{u v s d L U:Int}(hs:0<s)(hd:0<=d)(hd2:d<=s)(h1:L<=u)(h2:L<=v)(h3:u<=U)(h4:v<=U):L<=ri u v s d/\ri u v s d<=U:=by
 have a1:L*(s-d)<=u*(s-d):=Si h1 O;have a2:L*d<=v*d:=Si h2 hd;have a3:u*(s-d)<=U*(s-d):=Si h3 O;have a4:v*d<=U*d:=Si h4 hd;have e1:L*(s-d)+L*d=L*s:=by rw[Dn];omega
 have e2:U*(s-d)+U*d=U*s:=by rw[Dn];omega
 unfold ri;constructor
 ·exact Int.le_ediv_of_mul_le hs O
 exact Int.ediv_le_of_le_mul hs O
structure Gx(c:kE)(x:F8):Prop where
 off:0<=x.offset/\x.offset<=8000000000000
 half:1<=x.half/\x.half<=100000
 rA:c.over-20000<=x.rA/\x.rA<=20000
 run:0<=x.run/\x.run<=1000
def ycw{a b:Ap}{p:Pt}{x:F8}(h:Tg a b p=some x):0<=nT a.pt b.pt p/\nT a.pt b.pt p<=nT a.pt b.pt b.pt/\x=Ds a b p:=by
 unfold Tg at h
 cases hb:(decide (nT a.pt b.pt p<0)||decide (nT a.pt b.pt p>nT a.pt b.pt b.pt))with
 |true=>rw[hb]at h;cases h
 |false=>rw[hb]at h;simp only[sc,ic]at hb;simp only[Va,re]at h;exact⟨O,O,h.symm⟩
def ycf{a q b:Ap}{p:Pt}{x:F8}(h:R5 a q b p=some x):x=⟨span q.pt p,q.half,q.level,q.run⟩:=by
 unfold R5 at h
 cases hb:(decide (nT a.pt q.pt p<=nT a.pt q.pt q.pt)||decide (nT q.pt b.pt p>=0))with
 |true=>rw[hb]at h;cases h
 |false=>rw[hb]at h;simp only[Va,re]at h;exact h.symm
def ycW{c:kE}{p:Pt}(hv:Jf c)(hp:fB p=true){x:F8}(hx:x∈G4 c p):Gx c x:=by
 have h2:=hv.n2;unfold G4 lF l8 at hx;simp only[tc,Ti,Rh]at hx;rcases hx with⟨k,hk,h⟩|⟨j,hj,h⟩
 ·obtain⟨d0,d1,rfl⟩:=ycw h;have ha:=hv.w9 k O;have hb:=hv.w9 (k+1) O;have JW:=hv.apart k O;have hs:=iq JW;have l1:=hv.level k O;have l2:=hv.level (k+1) O;have f1:=hv.half k O;have f2:=hv.half (k+1) O;exact⟨Xu ha hb hp JW,yb0 hs d0 d1 f1.1 f2.1 f1.2 f2.2,yb0 hs d0 d1 l1.1 l2.1 l1.2 l2.2,hv.run k O⟩
 have:=ycf h;subst this;have hq:=hv.w9 (j+1) O;have hsp:=ycm hq hp;exact⟨⟨hsp.1,Ol hsp.2 O⟩,hv.half (j+1) O,hv.level (j+1) O,hv.run (j+1) O⟩
def ydv{c:kE}{x:F8}(hx:Gx c x)(hv:Jf c)(h:(TG x).2=true):c.over-20000<=(TG x).1/\(TG x).1<=20000:=by
 obtain⟨h1,h2,h3,h4⟩:=hx;have ho:=hv.over;unfold TG lvl at h⊢
 cases c1:decide (x.offset<=x.half)with
 |true=>rw[c1]at h;exact h3
 |false=>
  rw[c1]at h;have c1:=bF c1
  cases c2:(x.run==0)with
  |true=>rw[c2]at h;cases h
  |false=>
   rw[c2]at h;have c2:x.run≠0:=by simpa using c2
   have hq:0<=(x.offset-x.half).tdiv x.run/\(x.offset-x.half).tdiv x.run<=8000000000000:=by rw[Lh O];exact⟨Ll O O,Ol (Nq _ O) O⟩
   have e:aW (x.rA+aW ((aW (x.offset-x.half)).tdiv x.run))=x.rA+(x.offset-x.half).tdiv x.run:=by rw[aG (n:=x.offset-x.half) O O,aG (n:=(x.offset-x.half).tdiv x.run) O O,aG O O]
   simp only[Va]at h⊢;have h:=bG h;rw[e]at h⊢;omega
def ydh{c:kE}{p:Pt}(hv:Jf c)(hp:fB p=true)(h:(UI c p).2=true):c.over-20000<=(UI c p).1/\(UI c p).1<=20000:=by
 rcases Iu (G4 c p)with⟨h1,_⟩|⟨_,⟨x,hx,e⟩,_⟩
 ·unfold UI at h;rw[h1]at h;cases h
 unfold UI at h⊢;rw[<-e]at h⊢;exact ydv (ycW hv hp hx) hv h
def ych(c:kE)(g:eZ)(less:Int){i:Nat}(h:i<g.levels.length):(mM c g less).levels.getD i 0=L0 c g less i:=by simp[mM,h]
def ydF(x:F8):Bool:=decide (x.offset<=x.half)
def FM(c:kE)(p:Pt):Bool:=(G4 c p).any ydF
def lv(g:eZ)(k:Int):Int:=g.levels.getD k.toNat 0
def wZ(g:eZ)(r:Int×Bool)(i:Nat):Int×Bool:=(bif decide (r.1<0)||decide (lv g i>lv g r.1)then(i:Int)else r.1,r.2||lv g i==30000)
end Go.Ch
namespace Go.Pj
open Go Go.Ax Go.Ch
structure Ri where
 aN:ta
 iZ:Int
 deriving Inhabited
def dt(p:Ri):Nat->DV
 |0=>dS p.aN
 |1=>dI p.iZ
 |_=>.bL
def cp(l:List Ri):Nat->Nat->DV:=λi=>dt (l.getD i default)
def ck(l:List Ri):DV:=.fU l.length 2 (cp l)
end Go.Pj
namespace Go.Ch
open Go Go.Ax Go.Proofs Go.Proofs.Tryz
def yd(a b c:Pt):aF prog 263 [pt a,pt b,pt c] (vI (Xc a b c)):=by exact eP func263 rfl rfl call263 rfl rfl λR _=>fb _
def fp(a b:Pt):aF prog 182 [pt a,pt b] (vI (Xc a b b)):=by exact eP func182 rfl rfl call182 rfl rfl λR _=>aB (yd a b b) (fb _)
def Abs(n:Int):aF prog 257 [vI n] (vI (if n<0 then aW (0-n)else n)):=by
 refine eP func257 rfl rfl call257 rfl rfl λR _=>aI (λh=>?_) (λh=>?_)
 ·exact Ia (by rw[Na (bG h)];rfl)
 exact Ia (by rw[La (bF h)];rfl)
def ydN(a b:Int)(hb:b≠0):aF prog 368 [vI a,vI b] (vI (if a.tmod b<0 then aW (a.tmod b+b)else a.tmod b)):=by
 refine eP func368 rfl rfl call368 rfl rfl λR _=>ob hb (aI (λh=>?_) (λh=>?_))
 ·exact Ia (by rw[Na (bG h)];rfl)
 exact Ia (by rw[La (bF h)];rfl)
def ycr(a b:Int)(hb:b≠0):aF prog 328 [vI a,vI b] (vI (aW (Int.tdiv (aW (a-(if a.tmod b<0 then aW (a.tmod b+b)else a.tmod b))) b))):=by exact eP func328 rfl rfl call328 rfl rfl λR _=>aB (ydN a b hb) (oi hb (fb _))
def Level(o h b r:Int):aF prog 181 [part o h b r] (Up (lvl o h b r)):=by
 refine eP func181 rfl rfl call181 rfl rfl λR _=>aI (λh=>?_) (λh=>?_)
 ·exact lm (by rw[lvl,h];rfl) (by rw[lvl,h];rfl)
 apply aI<;>intro h'
 ·exact lm (by rw[lvl,h,h'];rfl) (by rw[lvl,h,h'];rfl)
 refine oi (by simpa using h') (aD ?_);exact Ia (by rw[lvl,h,h'];rfl)
def yco(g:eZ)(i:Int)(h:g.dO≠0):aF prog 66 [rK g,vI i] (pt (dP g i)):=by
 refine eP func66 rfl rfl call66 rfl rfl λR _=>oi h (oi dC ?_)
 refine oi h (oi dC ?_);refine aD (Ia ?_);rfl
def Dv(c:kE):aF prog 260 [chan c] (vI (aW (c.aZ.length-1))):=by exact eP func260 rfl rfl call260 rfl rfl λR _=>fb _
def yda(a b:Pt)(ha:fB a=true)(hb:fB b=true):aF prog 330 [pt a,pt b] (vI (span a b)):=by
 obtain⟨hd,hd1,hd2⟩:=AL ha hb hb;refine eP func330 rfl rfl call330 rfl rfl λR J=>?_
 refine Eb (λi:Nat×Int×Int=>⟨[(2,.s (.ptr 2 0)),(3,.s (.ptr 3 0)),(5,vI i.2.1),(6,vI i.2.2)],[(2,some (.cells [.d (dI a.x),.d (dI a.y)])),(3,some (.cells [.d (dI b.x),.d (dI b.y)]))]⟩)
  (λi=>0<=i.2.1/\i.2.1<=i.2.2/\i.2.2<=4000000/\i.2.2-i.2.1<2^i.1/\span a b=LG (Xc a b b) i.1 i.2.1 i.2.2) (λi=>i.1) (23,0,4000000) ⟨dC,dC,dC,dC,rfl⟩ ?_ ?_
 ·exact Kb J Ga Ga
 rintro⟨k,lo,hi⟩ ⟨h0,h1,h2,h3,h4⟩;simp only at h0 h1 h2 h3 h4;apply eX J;apply aI<;>intro h
 ·have fZ:lo<hi:=bG h;obtain⟨k',rfl⟩:∃k',k=k'+1:=by
   cases k with
   |zero=>simp at h3;omega
   |succ k=>exact⟨k,rfl⟩
  rw[Int.pow_succ]at h3;rw[LG,h]at h4;simp only[Ma]at h4;refine oi dC (aB (fp a b) ?_);have hw:aW (Int.tdiv (aW (lo+hi)) 2)=(lo+hi) / 2:=by rw[aG (n:=lo+hi) O O,Lh O,aG O O]
  have hm0:0<=(lo+hi) / 2:=O;have hm1:(lo+hi) / 2<=4000000:=O;have hmm:=VB hm0 hm1;have hmm0:=pf hm0 hm0;have hww:aW (aW (Int.tdiv (aW (lo+hi)) 2)*aW (Int.tdiv (aW (lo+hi)) 2))=(lo+hi) / 2*((lo+hi) / 2):=by rw[hw,aG O O]
  apply aI<;>intro h'
  ·have h':decide (aW (aW (Int.tdiv (aW (lo+hi)) 2)*aW (Int.tdiv (aW (lo+hi)) 2))>=Xc a b b)=true:=h';rw[hww]at h';rw[h']at h4;refine⟨(k',lo,(lo+hi) / 2),⟨h0,by simp only;omega,by simp only;omega,by simp only;omega,h4⟩,sM,?_⟩;refine Kb J Ga ⟨rQ,rQ,rQ,⟨rfl,Ua vI hw⟩,oO⟩
  have h':decide (aW (aW (Int.tdiv (aW (lo+hi)) 2)*aW (Int.tdiv (aW (lo+hi)) 2))>=Xc a b b)=false:=h';rw[hww]at h';rw[h']at h4;refine⟨(k',(lo+hi) / 2+1,hi),⟨by simp only;omega,by simp only;omega,by simp only;omega,by simp only;omega,h4⟩,sM,?_⟩;refine Kb J Ga ⟨rQ,rQ,⟨rfl,Ua vI (?_:aW (aW (Int.tdiv (aW (lo+hi)) 2)+1)=_)⟩,rQ,oO⟩;rw[hw,aG O O]
 have fZ:¬lo<hi:=bF h;apply Ia;rw[h4]
 cases k with
 |zero=>rfl
 |succ k=>rw[LG,h];rfl
def ydo(a b p:Pt)(ha:fB a=true)(hb:fB b=true)(hp:fB p=true)(JW:a≠b):aF prog 329 [pt a,pt b,pt p] (vI (MR a b p)):=by
 obtain⟨h1,h2,h3⟩:=RQ ha hb hp;have hs:=O4 ha hb JW;obtain⟨h4,h5,h6⟩:=Gt (c:=nU a b p) O O;have ho:=Xu ha hb hp JW;refine eP func329 rfl rfl call329 rfl rfl λR J=>aB (bt a b p) (aB (Abs _) ?_)
 refine aB (yda a b ha hb) (oi O ?_);refine aD (Ia (Ua vI ?_));rw[<-h6,Lh h4];exact aG (by have:=ho.1;unfold MR at this;omega) (by have:=ho.2;unfold MR at this;omega)
def ydP(c:kE)(k:Nat)(p:Pt)(hv:Jf c)(hk:k+1<c.aZ.length)(hp:fB p=true):aF prog 261 [chan c,vI k,pt p] (Gi (FI c k p)):=by
 have hn:=hv.n20;have ha:=hv.w9 k O;have hb:=hv.w9 (k+1) hk;have JW:=hv.apart k hk;obtain⟨d1,d2,d3⟩:=AL ha hb hp;obtain⟨s1,s2,s3⟩:=AL ha hb hb;have s4:=iq JW;have hh:=hv.half k O;have BW:=hv.half (k+1) hk;have hl:=hv.level k O;have hl':=hv.level (k+1) hk;have ho:=hv.over;have e:aW ((k:Int)+1)=((k+1:Nat):Int):=aG O O;have eup:up k=k+1:=aKP O;have eu:(aW ((k:Int)+1)).toNat=k+1:=eup;refine eP func261 rfl rfl call261 rfl rfl λR J=>oi Ha ?_
 refine oi (by show 0<=aW ((k:Int)+1)/\aW ((k:Int)+1)<_;rw[e];exact Ha) ?_;refine aD (aB (Place (c.aZ.getD k default)) ?_);refine aB (Place (c.aZ.getD (up k) default)) (aB (yd (c.aZ.getD k default).pt (c.aZ.getD (up k) default).pt p) ?_);refine aB (Place (c.aZ.getD k default)) (aB (Place (c.aZ.getD (up k) default)) ?_);refine aB (fp (c.aZ.getD k default).pt (c.aZ.getD (up k) default).pt) (aD ?_);repeat refine aR ?_
 have ed:Xc (c.aZ.getD k default).pt (c.aZ.getD (up k) default).pt p=nT (c.aZ.getD k default).pt (c.aZ.getD (k+1) default).pt p:=by rw[eup];exact d1
 have es:Xc (c.aZ.getD k default).pt (c.aZ.getD (up k) default).pt (c.aZ.getD (up k) default).pt=nT (c.aZ.getD k default).pt (c.aZ.getD (k+1) default).pt (c.aZ.getD (k+1) default).pt:=by rw[eup];exact s1
 rw[ed,es];apply aI<;>intro h
 ·exact VP (by unfold FI Tg;rw[h];rfl) (by unfold FI Tg;rw[h];rfl)
 have h:(decide (nT (c.aZ.getD k default).pt (c.aZ.getD (k+1) default).pt p<0)||decide (nT (c.aZ.getD k default).pt (c.aZ.getD (k+1) default).pt p>nT (c.aZ.getD k default).pt (c.aZ.getD (k+1) default).pt (c.aZ.getD (k+1) default).pt))=false:=h;have h':=h;simp only[sc,ic]at h';refine aB (Place (c.aZ.getD k default)) (aB (Place (c.aZ.getD (up k) default)) ?_);refine aB (ydo (c.aZ.getD k default).pt (c.aZ.getD (up k) default).pt p ha (by rw[eup];exact hb) hp (by rw[eup];exact JW)) ?_;refine aB (ycr _ _ O) (aB (ycr _ _ O) ?_);refine aD ?_;refine VQ (p:=Ds (aZ c k) (aZ c (k+1)) p) (l:=true) (by unfold FI Tg;rw[h];rfl) (by unfold FI Tg;rw[h];rfl) ?_ ?_ ?_ ?_ ?_
 ·exact Za (Ua dI (by rw[eup];rfl))
 ·refine Za (Ua dI ?_);simp only[eu,Ue];exact ybw (U:=100000) s4 O O O O O O O O O
 ·refine Za (Ua dI ?_);simp only[eu,Ue];exact ybw (U:=20000) s4 O O O O O O O O O
 ·exact Ja _
 exactλ_ _ r=>r
def ydA(c:kE)(p:Pt):aF prog 262 [chan c,vI 0,pt p] (Gi none):=by
 refine eP func262 rfl rfl call262 rfl rfl λR J=>?_
 repeat refine aR ?_
 refine bR (Dv c) ?_;repeat refine aR ?_
 refine aI (λh=>VP rfl rfl) (λh=>?_)
 cases h
def ydK(c:kE)(j:Nat)(p:Pt)(hv:Jf c)(hk:j+2<c.aZ.length)(hp:fB p=true):aF prog 262 [chan c,vI ((j+1:Nat):Int),pt p] (Gi (vZ c j p)):=by
 have hn:=hv.n20;have ha:=hv.w9 j O;have hq:=hv.w9 (j+1) O;have hb:=hv.w9 (j+2) hk;obtain⟨d1,_,_⟩:=AL ha hq hp;obtain⟨s1,_,_⟩:=AL ha hq hq;obtain⟨e1,_,_⟩:=AL hq hb hp;have em:aW (((j+1:Nat):Int)-1)=(j:Int):=by rw[aG O O];omega
 have ep:aW (((j+1:Nat):Int)+1)=((j+2:Nat):Int):=by rw[aG O O];omega
 have el:aW ((c.aZ.length:Int)-1)=(c.aZ.length:Int)-1:=aG O O;have om:(aW (((j+1:Nat):Int)-1)).toNat=j:=by rw[em];rfl
 have op:(aW (((j+1:Nat):Int)+1)).toNat=j+2:=by rw[ep];rfl
 refine eP func262 rfl rfl call262 rfl rfl λR J=>?_
 repeat refine aR ?_
 refine bR (Dv c) ?_;repeat refine aR ?_
 refine aI (λh=>?_) (λ_=>?_)
 ·exfalso;have h:(decide (((j+1:Nat):Int)<1)||decide (((j+1:Nat):Int)>=aW ((c.aZ.length:Int)-1)))=true:=h;rw[el]at h;simp at h;omega
 refine oi (by show 0<=aW (((j+1:Nat):Int)-1)/\aW (((j+1:Nat):Int)-1)<_;rw[em];exact Ha) ?_;refine aB (Place (c.aZ.getD (aW (((j+1:Nat):Int)-1)).toNat default)) (oi Ha ?_);refine aB (Place (aZ c (j+1))) ?_;refine oi (by show 0<=aW (((j+1:Nat):Int)+1)/\aW (((j+1:Nat):Int)+1)<_;rw[ep];exact Ha) ?_;refine aB (Place (c.aZ.getD (aW (((j+1:Nat):Int)+1)).toNat default)) (aD ?_);refine aB (yd (c.aZ.getD (aW (((j+1:Nat):Int)-1)).toNat default).pt (aZ c (j+1)).pt p) (aB (fp (c.aZ.getD (aW (((j+1:Nat):Int)-1)).toNat default).pt (aZ c (j+1)).pt) ?_);repeat refine aR ?_
 refine bR (yd (aZ c (j+1)).pt (c.aZ.getD (aW (((j+1:Nat):Int)+1)).toNat default).pt p) ?_;repeat refine aR ?_
 refine aD ?_;have key:(decide (Xc (c.aZ.getD (aW (((j+1:Nat):Int)-1)).toNat default).pt (aZ c (j+1)).pt p<=Xc (c.aZ.getD (aW (((j+1:Nat):Int)-1)).toNat default).pt (aZ c (j+1)).pt (aZ c (j+1)).pt)||decide (Xc (aZ c (j+1)).pt (c.aZ.getD (aW (((j+1:Nat):Int)+1)).toNat default).pt p>=0))=(decide (nT (aZ c j).pt (aZ c (j+1)).pt p<=nT (aZ c j).pt (aZ c (j+1)).pt (aZ c (j+1)).pt)||decide (nT (aZ c (j+1)).pt (aZ c (j+2)).pt p>=0)):=by rw[om,op,d1,s1,e1]
 apply aI<;>intro h
 ·have h:=key.symm.trans h;exact VP (by unfold vZ R5;rw[h];rfl) (by unfold vZ R5;rw[h];rfl)
 have h:=key.symm.trans h;refine aB (yda (aZ c (j+1)).pt p hq hp) (oi Ha ?_);refine oi Ha (oi Ha ?_);refine aD ?_;refine VQ (p:=⟨span (aZ c (j+1)).pt p,(aZ c (j+1)).half,(aZ c (j+1)).level,(aZ c (j+1)).run⟩) (l:=true) (by unfold vZ R5;rw[h];rfl) (by unfold vZ R5;rw[h];rfl) ?_ ?_ ?_ ?_ ?_
 ·exact Ja _
 ·exact Ja _
 ·exact Ja _
 ·exact Ja _
 exactλ_ _ r=>r
def ycE(c:kE)(k:Nat)(p:Pt)(hv:Jf c)(hk:k+1<c.aZ.length)(hp:fB p=true):aF prog 262 [chan c,vI k,pt p] (Gi (Qi c k p)):=by
 cases k with
 |zero=>exact ydA c p
 |succ j=>exact ydK c j p hv hk hp
def holds(c:kE)(p:Pt)(hv:Jf c)(hp:fB p=true):aF prog 180 [chan c,pt p] (.s (.d (RM (Ce c p (c.aZ.length-1))))):=by
 have h2:=hv.n2;have h20:=hv.n20;have el:aW ((c.aZ.length:Int)-1)=(c.aZ.length:Int)-1:=aG O O;refine eP func180 rfl rfl call180 rfl rfl λR J=>?_
 refine pb (λi:Nat=>⟨[(2,.s (.ptr 2 0)),(3,.s (.ptr 3 0)),(5,.s (.mo (Ce c p i).isEmpty 100)),(6,vI i)],[(2,some (IT c)),(3,some (Bi p)),(100,some (.b8 280 (Ce c p i).length 4 (vR (Ce c p i))))]⟩)
  (λi=>i<=c.aZ.length-1) (λi=>c.aZ.length-1-i) 0 (Oa _) ?_ ?_
 ·exact Ka J [(100,1000)] rfl ⟨bQ,bQ,⟨rfl,rfl⟩,oO⟩ ⟨Z,Z,⟨rfl,Nd rfl⟩,Fa⟩
 intro i hi;have hlen:=Dt c p i;have hs:=ya5 c p i;refine eX J (aB (Dv c) ?_);apply aI<;>intro h
 ·have h:(i:Int)<aW ((c.aZ.length:Int)-1):=bG h;rw[el]at h;have ew:aW ((i:Int)+1)=((i+1:Nat):Int):=aG O O;refine aB (ydP c i p hv O hp) (aI (λh1=>?_) (λh1=>?_))
  ·have h1:(FI c i p).isSome=true:=h1;rw[toList_some h1]at hs;apply ob dC;refine ob (by rw[dK];show _*32<=_;omega) ?_;refine ob (nJ (Eg rfl rfl rfl rfl)) (aB (ycE c i p hv O hp) ?_);apply aI<;>intro h2
   ·have h2:(Qi c i p).isSome=true:=h2;rw[toList_some h2,<-List.append_assoc]at hs;refine ob (by rw[dK];show _*32<=_;omega) ?_;refine ob (nJ (Eg rfl rfl rfl rfl)) ⟨i+1,O,O,?_⟩;refine Ka J [(100,40)] rfl ⟨bQ,bQ,⟨rfl,?_⟩,oO⟩ ⟨Z,Z,⟨rfl,Rc ?_⟩,⟨rfl,Ra ew⟩,oO⟩
    ·show aY _ (.b8 280 (Ce c p (i+1)).length 4 (vR (Ce c p (i+1))));rw[hs];exact iJ.b8 (el:=XY) (Wh (Wh Lr (Eg rfl rfl rfl rfl)) (Eg rfl rfl rfl rfl))
    rw[hs];exact cA _ _
   have h2:(Qi c i p).isSome=false:=h2;rw[toList_none h2,dd]at hs;refine⟨i+1,O,O,?_⟩;refine Ka J [(100,28)] rfl ⟨bQ,bQ,⟨rfl,?_⟩,oO⟩ ⟨Z,Z,⟨rfl,Rc ?_⟩,⟨rfl,Ra ew⟩,oO⟩
   ·show aY _ (.b8 280 (Ce c p (i+1)).length 4 (vR (Ce c p (i+1))));rw[hs];exact iJ.b8 (el:=XY) (Wh Lr (Eg rfl rfl rfl rfl))
   rw[hs];exact cA _ _
  have h1:(FI c i p).isSome=false:=h1;rw[toList_none h1,Wg]at hs;refine aB (ycE c i p hv O hp) (aI (λh2=>?_) (λh2=>?_))
  ·have h2:(Qi c i p).isSome=true:=h2;rw[toList_some h2]at hs;apply ob dC;refine ob (by rw[dK];show _*32<=_;omega) ?_;refine ob (nJ (Eg rfl rfl rfl rfl)) ⟨i+1,O,O,?_⟩;refine Ka J [(100,40)] rfl ⟨bQ,bQ,⟨rfl,?_⟩,oO⟩ ⟨Z,Z,⟨rfl,Rc ?_⟩,⟨rfl,Ra ew⟩,oO⟩
   ·show aY _ (.b8 280 (Ce c p (i+1)).length 4 (vR (Ce c p (i+1))));rw[hs];exact iJ.b8 (el:=XY) (Wh Lr (Eg rfl rfl rfl rfl))
   rw[hs];exact cA _ _
  have h2:(Qi c i p).isSome=false:=h2;rw[toList_none h2,dd]at hs;refine⟨i+1,O,O,?_⟩;refine Ka J [] rfl ⟨bQ,bQ,⟨rfl,Zb (by rw[hs];rfl)⟩,oO⟩ ⟨Z,Z,⟨rfl,Qb (by rw[hs];rfl)⟩,⟨rfl,Ra ew⟩,oO⟩
 have h:¬(i:Int)<aW ((c.aZ.length:Int)-1):=bF h;rw[el]at h;have bC:i=c.aZ.length-1:=O;subst bC;exact gj
def ydm(c:kE)(p:Pt)(hv:Jf c)(hp:fB p=true):aF prog 114 [chan c,pt p] (Up (UI c p)):=by
 have hlen:(Ce c p (c.aZ.length-1)).length<=40:=by have:=hv.n20;have:=Dt c p (c.aZ.length-1);omega
 rw[<-ycg c p hv.n2];refine eP func114 rfl rfl call114 rfl rfl λR J=>aB (holds c p hv hp) ?_
 generalize Ce c p (c.aZ.length-1)=l at hlen;refine pb (λi:Nat=>⟨[(7,vI (FL (l.take i)).1),(8,vB (FL (l.take i)).2),(6,.s (.d (RM l))),(9,vI i)],[]⟩) (λi=>i<=l.length) (λi=>l.length-i) 0 (Oa _) (Ka J [] rfl trivial ⟨Z,⟨rfl,co rfl⟩,Fa⟩) ?_;intro i hi;apply eX J;apply aI<;>intro h
 ·have h:(i:Int)<l.length:=bG h;have bC:i<l.length:=O;have ew:aW ((i:Int)+1)=((i+1:Nat):Int):=aG O O;have jO:=XA bC;refine oi Ha (aB (Level (l.getD i default).offset (l.getD i default).half (l.getD i default).rA (l.getD i default).run) ?_);repeat refine aR ?_
  apply aI<;>intro h'
  ·have h':((TG (l.getD i default)).2&&(!(FL (l.take i)).2||decide ((TG (l.getD i default)).1<(FL (l.take i)).1)))=true:=h';unfold OX at jO;rw[h']at jO;refine⟨i+1,O,O,?_⟩;exact Ka J [] rfl trivial ⟨⟨rfl,Ra (by rw[jO];rfl)⟩,⟨rfl,co (by rw[jO];rfl)⟩,Z,⟨rfl,Ra ew⟩,oO⟩
  have h':((TG (l.getD i default)).2&&(!(FL (l.take i)).2||decide ((TG (l.getD i default)).1<(FL (l.take i)).1)))=false:=h';unfold OX at jO;rw[h']at jO;refine⟨i+1,O,O,?_⟩;exact Ka J [] rfl trivial ⟨⟨rfl,Ra (by rw[jO];rfl)⟩,⟨rfl,aU.bool (by rw[jO];rfl)⟩,Z,⟨rfl,Ra ew⟩,oO⟩
 have h:¬(i:Int)<l.length:=bF h;have bC:i=l.length:=O;subst bC;exact Ia (by rw[Ic];rfl)
def ycq(l:List Int)(hl:l.length<=1000000):bW prog 62 [iR l] [] (.s (.own 5)) [(5,.row 3 l.length 1 (cP l))]:=by
 refine eG (rc:=[]) (N:=6) func62 rfl rfl call62 aJ mix rfl rfl rfl rfl (λR _=>?_);refine ob (show(0+l.length)*8<=_ by omega) (ob ?_ ?_)
 ·exactλk j hk hj=>rfl
 refine⟨Ta,?_,oO⟩;show some (some (jK.row 3 (0+l.length) 1 (jM 0 _ (cP l))))=_;rw[Oc,aNN]
def ycp(g:eZ)(hl:g.levels.length<=1000000):bW prog 113 [rK g] [] (.g [.d (dI g.x),.d (dI g.y),.d (dI g.side),.d (dI g.dO),.d (dI g.rows),.own 501]) [(501,.row 3 g.levels.length 1 (cP g.levels))]:=by refine eG (rc:=[62]) (N:=8) func113 rfl rfl call113 aJ mix rfl rfl rfl rfl (λR _=>?_);exact⟨[(5,501)],_,_,_,_,ycq g.levels hl,rfl,trivial,rfl,⟨Ta,rfl,oO⟩⟩
def ybU(c:kE)(g:eZ)(less:Int)(hv:Jf c)(hg:FO g):aF prog 64 [chan c,rK g,vI less] (rK (mM c g less)):=by
 have hn:=hg.n;refine gI (rc:=[113]) (N:=41) func64 rfl rfl call64 aJ mix rfl rfl (λR J=>?_);refine⟨[(501,601)],_,_,_,_,ycp g O,rfl,trivial,rfl,?_⟩;refine pb (λi:Nat=>⟨[(2,vI less),(3,.s (.ptr 3 0)),(4,.s (.ptr 4 0)),(6,.s (.ptr 6 0)),(7,.s (.ptr 7 0)),(8,vI i)],
   [(3,some (IT c)),(4,some (aMS g)),(6,some (.cells [.d (dI 0),.d (dI 0),.d (dI 0),.d (dI 0),.d (dI 0),.d (.val (.slice none 0 0))])),(7,some (.cells [.d (dI g.x),.d (dI g.y),.d (dI g.side),.d (dI g.dO),.d (dI g.rows),.own 601])),(601,some (.row 3 g.levels.length 1 (wl c g less i)))]⟩)
  (λi=>i<=g.levels.length) (λi=>g.levels.length-i) 0 (Oa _) ?_ ?_
 ·exact Ka J [] rfl ⟨bQ,bQ,bQ,bQ,⟨rfl,Wb rfl λk j _ _=>Ja _⟩,oO⟩ Fa
 intro i hi;refine Mb (rc:=[113]) aJ mix J _ (aI (λh=>?_) (λh=>?_))
 ·have h:(i:Int)<g.levels.length:=bG h;have bC:i<g.levels.length:=O;have hgd:=(RY hg bC).1;refine aB (yco g i (by have:=hg.dO;omega)) ?_;refine aB (ydm c (dP g i) hv hgd) (aD ?_);refine oi Ha (ob bC ?_);apply aI<;>intro h2
  ·have h2:(UI c (dP g i)).2=true:=h2;have e:L0 c g less i=aW ((UI c (dP g i)).1-less):=by unfold L0;rw[h2];rfl
   refine oi Ha (ob bC ?_);refine⟨i+1,O,O,?_⟩;refine Ka J [] rfl ⟨bQ,bQ,bQ,bQ,⟨rfl,Wb rfl λk j hk hj=>Za ?_⟩,oO⟩ Fa;have hj:j=0:=by have:j<1:=hj;omega
   subst hj;by_cases ON:k=i
   ·subst ON;apply oP.trans;unfold wl;rw[Na (Qh _),e]
   refine(tG ON).trans ((tG ON).trans ?_);unfold wl;by_cases fZ:k<i
   ·rw[Na fZ,Na O]
   rw[La fZ,La O]
  have h2:(UI c (dP g i)).2=false:=h2;have e:L0 c g less i=30000:=by unfold L0;rw[h2];rfl
  refine⟨i+1,O,O,?_⟩;refine Ka J [] rfl ⟨bQ,bQ,bQ,bQ,⟨rfl,Wb rfl λk j hk hj=>Za ?_⟩,oO⟩ Fa;have hj:j=0:=by have:j<1:=hj;omega
  subst hj;by_cases ON:k=i
  ·subst ON;apply oP.trans;unfold wl;rw[Na (Qh _),e]
  refine(tG ON).trans ?_;unfold wl;by_cases fZ:k<i
  ·rw[Na fZ,Na O]
  rw[La fZ,La O]
 have h:¬(i:Int)<g.levels.length:=bF h;have bC:i=g.levels.length:=O;subst bC;refine bf ⟨Ja _,Ja _,Ja _,Ja _,Ja _,Ae (by simp[mM]) λk j hk hj=>Za ?_,oO⟩;unfold wl cP;rw[Na hk];congr 2;simp[mM,hk]
end Go.Ch
namespace Go.Pj
open Go Go.Ax Go.Ch Go.Proofs Go.Proofs.Tryz
def Td(f:fS->Int)(l:List fS):Nat->Nat×Int
 |0=>(0,0)
 |i+1=>bif i==0||decide (f (l.getD i default)<(Td f l i).2)then(i,f (l.getD i default))else Td f l i
def Wd(p:Pt)(b:fS):Int:=Xc p (Gf b) (Gf b)
abbrev ydM(g:Ground):jK:=.cells [.d (kV g.bK),.d (pN g.cC)]
def yc1(g:Ground)(p:Pt)(hl:g.cC.length<=9223372036854775807):aF prog 115 [T7 g,pt p] (vI (Td (Wd p) g.cC g.cC.length).1):=by
 refine eP func115 rfl rfl call115 rfl rfl λR J=>pb (λi:Nat=>⟨[(2,.s (.ptr 2 0)),(3,.s (.ptr 3 0)),(5,vI (Td (Wd p) g.cC i).1),(6,vI (Td (Wd p) g.cC i).2),(7,vI i)],[(2,some (ydM g)),(3,some (Bi p))]⟩) (λi=>i<=g.cC.length) (λi=>g.cC.length-i) 0 (Oa _) (Ka J [] rfl Fa Fa) ?_
 intro i hi;apply eX J;apply aI<;>intro h
 ·have h:(i:Int)<g.cC.length:=bG h;refine oi Ha (oi Ha ?_);refine aB (fp p (Gf (g.cC.getD i default))) (aD ?_);have ez:(((i:Nat):Int)==0)=(i==0):=by rw[Fe];simp
  repeat refine aR ?_
  apply aI<;>intro h2
  ·have h2:(((i:Nat):Int)==0||decide (Wd p (g.cC.getD i default)<(Td (Wd p) g.cC i).2))=true:=h2;rw[ez]at h2;have e:Td (Wd p) g.cC (i+1)=(i,Wd p (g.cC.getD i default)):=by rw[Td,h2];rfl
   refine⟨i+1,O,O,?_⟩;exact Ka J [] rfl Fa ⟨Z,Z,⟨rfl,Ra (by rw[e])⟩,⟨rfl,Ra (by rw[e];rfl)⟩,Fa⟩
  have h2:(((i:Nat):Int)==0||decide (Wd p (g.cC.getD i default)<(Td (Wd p) g.cC i).2))=false:=h2;rw[ez]at h2;have e:Td (Wd p) g.cC (i+1)=Td (Wd p) g.cC i:=by rw[Td,h2];rfl
  exact⟨i+1,O,O,Ka J [] rfl Fa ⟨Z,Z,⟨rfl,Ra (by rw[e])⟩,⟨rfl,Ra (by rw[e])⟩,Fa⟩⟩
 have h:¬(i:Int)<g.cC.length:=bF h;obtain rfl:i=g.cC.length:=O;exact fb _
def ycG{l:List fS}{p:Pt}(hp:fB p=true)(hl:∀b∈l,fB (Gf b)=true):∀i,i<=l.length->Td (Wd p) l i=PT l p i
 |0,_=>rfl
 |i+1,h=>by
  have hb:=hl _ (bP (show i<l.length by omega));have e:Wd p (l.getD i default)=Rg (Gf (l.getD i default)) p:=by unfold Wd Rg;rw[show([Gf (l.getD i default),p].any λp=> !fB p)=false by show(!fB (Gf (l.getD i default))||(!fB p||false))=false;rw[hb,hp];rfl,Va];rw[(AL hp hb hb).1,(AL hb hp hp).1];unfold nT;grind
  rw[Td,PT,ycG hp hl i O,e]
def ydl(g:Ground)(p:Pt)(hi lo:Int)(fZ:(Td (Wd p) g.cC g.cC.length).1<g.cC.length)(hl:g.cC.length<=9223372036854775807)(hy:(g.cC.getD (Td (Wd p) g.cC g.cC.length).1 default).bB.length<=1000000):
  aF prog 65 [T7 g,pt p,vI hi,vI lo] (iC (nL (g.cC.getD (Td (Wd p) g.cC g.cC.length).1 default).bB hi lo (g.cC.getD (Td (Wd p) g.cC g.cC.length).1 default).bB.length)):=by
 refine eW func65 rfl rfl call65 rfl rfl (λR J=>?_)
 apply sX J
 apply sX J
 refine aB (yc1 g p hl) ?_
 apply oi Ha
 refine aD ?_
 generalize hL:(g.cC.getD (Td (Wd p) g.cC g.cC.length).1 default).bB=L at hy
 refine Ib (I':=⟨[(2,vI hi),(3,vI lo),(9,AZ L)],[]⟩) (Ka J [] rfl trivial ⟨Z,Z,⟨rfl,Qb (by rw[<-hL];rfl)⟩,oO⟩) ?_
 apply sX J
 refine Qa (sX J ?_)
 apply Wa
 refine pb (λi:Nat=>⟨[(2,vI hi),(3,vI lo),(9,AZ L),(10,.s (.mo (nL L hi lo i).isEmpty 100)),(11,vI i)],[(100,some (.b8 148 (nL L hi lo i).length 3 (vR (nL L hi lo i))))]⟩) (λi=>i<=L.length) (λi=>L.length-i) 0 (Oa _) ?_ ?_
 ·exact Ka J [(100,1000)] rfl ⟨⟨rfl,rfl⟩,oO⟩ ⟨Z,Z,Z,⟨rfl,Nd rfl⟩,Fa⟩
 ·intro i bC;have hlen:=RU L hi lo i;have fN:=ZC L hi lo i;refine Qa (sX J ?_);refine Xa (aI (λh=>lb ?_) (λh=>cc ?_))
  ·have h:(i:Int)<L.length:=bG h;have e1:aW ((i:Int)+1)=((i+1:Nat):Int):=aG O O;refine Qa (Wa ?_);refine sX J (mc (I':=⟨[(2,vI hi),(3,vI lo),(9,AZ L),(10,.s (.mo (nL L hi lo i).isEmpty 100)),(11,vI i),(12,vI (C4 L hi i)),(13,vI lo)],[(100,some (.b8 148 (nL L hi lo i).length 3 (vR (nL L hi lo i))))]⟩) ?_ ?_)
   ·refine sX J (Xa ?_);refine aI (λh1=>?_) (λh1=>lb ?_)
    ·have h1:decide ((i:Int)>0)=true:=h1;refine eX J (oi Ha ?_);exact⟨rfl,Ka J [] rfl Fa ⟨Z,Z,Z,Z,Z,⟨rfl,Ra (by unfold C4;rw[h1];rfl)⟩,Fa⟩⟩
    have h1:decide ((i:Int)>0)=false:=h1;exact⟨rfl,Ka J [] rfl Fa ⟨Z,Z,Z,Z,Z,⟨rfl,Ra (by unfold C4;rw[h1];rfl)⟩,Fa⟩⟩
   refine mc (I':=⟨[(2,vI hi),(3,vI lo),(9,AZ L),(10,.s (.mo (nL L hi lo i).isEmpty 100)),(11,vI i),(12,vI (C4 L hi i)),(13,vI (FM L lo i))],[(100,some (.b8 148 (nL L hi lo i).length 3 (vR (nL L hi lo i))))]⟩) ?_ ?_
   ·refine sX J (Xa ?_);refine aI (λh1=>?_) (λh1=>lb ?_)
    ·have h1:decide (aW ((i:Int)+1)<(L.length:Int))=true:=h1;rw[e1]at h1;have JX:((i+1:Nat):Int)<L.length:=bG h1;apply eX J;refine oi (show 0<=aW ((i:Int)+1)/\aW ((i:Int)+1)<L.length by rw[e1];omega) ?_;have e1n:(aW ((i:Int)+1)).toNat=i+1:=by rw[e1];omega
     exact⟨rfl,Ka J [] rfl Fa ⟨Z,Z,Z,Z,Z,Z,⟨rfl,Ra (by unfold FM;rw[h1,<-e1n];rfl)⟩,oO⟩⟩
    have h1:decide (aW ((i:Int)+1)<(L.length:Int))=false:=h1;rw[e1]at h1;exact⟨rfl,Ka J [] rfl Fa ⟨Z,Z,Z,Z,Z,Z,⟨rfl,Ra (by unfold FM;rw[h1];rfl)⟩,oO⟩⟩
   refine sX J (Xa ?_);refine aI (λh1=>?_) (λh1=>lb ?_)
   ·have h1:decide (C4 L hi i>FM L lo i)=true:=h1;have e:nL L hi lo (i+1)=nL L hi lo i++ [⟨(L.getD i default).aN,C4 L hi i,FM L lo i⟩]:=by rw[fN];unfold X8;rw[h1];rfl
    refine eX J (oi Ha ?_);apply ob dC;refine ob (by rw[dK];show((nL L hi lo i).length+1)*32<=_;omega) ?_;refine ob (nJ (Xk rfl rfl rfl)) (eX J ?_);refine⟨i+1,O,O,?_⟩;refine Ka J [(100,65)] rfl ⟨⟨rfl,?_⟩,oO⟩ ⟨Z,Z,Z,⟨rfl,Rc (by rw[e];exact cA _ _)⟩,⟨rfl,Ra e1⟩,oO⟩;show aY _ (.b8 148 (nL L hi lo (i+1)).length 3 (vR (nL L hi lo (i+1))));rw[e];refine sd (el:=XY) (x:=⟨(L.getD i default).aN,C4 L hi i,FM L lo i⟩) (λc hc=>?_);have hc:c<3:=hc
    match c,hc with|0,_|1,_|2,_=>rfl
   have h1:decide (C4 L hi i>FM L lo i)=false:=h1;have e:nL L hi lo (i+1)=nL L hi lo i:=by rw[fN];unfold X8;rw[h1];exact dd _
   refine eX J ⟨i+1,O,O,?_⟩;exact Ka J [] rfl ⟨⟨rfl,Zb (by rw[e];rfl)⟩,oO⟩ ⟨Z,Z,Z,⟨rfl,Qb (by rw[e];rfl)⟩,⟨rfl,Ra e1⟩,oO⟩
  have h:¬(i:Int)<L.length:=bF h;obtain rfl:i=L.length:=O;exact eX J gj
abbrev Ag(p:Sa):List SV:=[.d (dI p.month),.d (dI p.cell),.d (dS p.aN),.d (dI p.iZ),.d (dI p.gV),.d (dI p.load),.d (dS p.dN)]
def Bg(x:Sa)(v:Int)(f:Fact):Sa:=⟨x.month,x.cell,x.aN,v,mm false v x.gV,f.number,f.dN⟩
def Od(x:Sa)(v:Int):Sa:=⟨x.month,x.cell,x.aN,aW (x.iZ-v),aW (x.gV-mm false v x.gV),x.load,x.dN⟩
def ydC(x:Sa)(v:Int)(f:Fact):aF prog 32 [Fo x,vI v,pX f] (.t [.g (Ag (Bg x v f)),.g (Ag (Od x v))]):=by
 refine eP func32 rfl rfl call32 rfl rfl λR J=>aD (aD ?_)
 exact aD (aD (fb _))
open Go Go.Ax Go.Ch Go.Proofs Go.Proofs.Tryz Go.Sort Go.Shelf
def ycT(a:Int)(w:Aa):Calls prog 156 #[.int .i64 a] w λe w'=>e=.returned (.bool false)/\w'=w:=by go_enter func156,Tryz.ntmps156;go_wp2;go_ret;exact⟨rfl,rfl⟩
def ydu(a b:Int)(w:Aa):Calls prog 96 #[.int .i64 a,.int .i64 b] w λe w'=>e=.returned (.int .i64 (Te a b))/\w'=w:=by
 have hc:=λa w'=>ycT a w'
 go_enter func96,Tryz.ntmps96;go_wp2_with (first|(go_at_fn 156;refine(hc _ _).mono ?_;rintro e w' ⟨rfl,rfl⟩));refine(hc _ _).mono ?_;rintro e w' ⟨rfl,rfl⟩;go_wp2_with (first|(go_at_fn 156;refine(hc _ _).mono ?_;rintro e w' ⟨rfl,rfl⟩));refine(hc _ _).mono ?_;rintro e w' ⟨rfl,rfl⟩;go_wp2;all_goals go_ret
 all_goals (refine⟨?_,rfl⟩;unfold Te)
 all_goals first
  |(rw[Na (by assumption)];rfl)
  |(rw[La O,Na (by assumption)];rfl)
  |(rw[La O,La O];rfl)
def ydG(a b:Int)(g cap:Nat)(w:Aa)(h0:w.cell? ⟨g,0,none⟩=some (.int .i64 a))(h1:w.cell? ⟨g,1,none⟩=some (.int .i64 b)):
  Calls prog 95 #[.slice (some ⟨g,0,none⟩) 2 cap] w λe w'=>e=.returned (.int .i64 (Al a b))/\w'=w:=by
 go_enter func95,Tryz.ntmps95
 go_wp2_with fail
 go_rounds 3
 all_goals go_ret
 all_goals (refine⟨?_,rfl⟩;unfold Al)
 ·rename_i hz;rw[hz];rfl
 ·rename_i hz;rw[show(a !=0)=false by assumption,hz];rfl
 ·rw[show(a !=0)=false by assumption,show(b !=0)=false by assumption];rfl
def ydH(a b:Int)(w:Aa)(o1 o2:Obj):
  Calls prog 95 #[.slice (some ⟨w.heap.size+1+1,0,none⟩) 2 2] (((w.alloc o1).alloc o2).alloc (.cells #[.int .i64 a,.int .i64 b] 3)).drew λe w'=>e=.returned (.int .i64 (Al a b))/\w'=(((w.alloc o1).alloc o2).alloc (.cells #[.int .i64 a,.int .i64 b] 3)).drew:=
 by
 have hs:((w.alloc o1).alloc o2).heap.size=w.heap.size+1+1:=by show(Array.push (Array.push w.heap o1) o2).size=_;rw[Array.size_push,Array.size_push]
 have hh:((((w.alloc o1).alloc o2).alloc (.cells #[.int .i64 a,.int .i64 b] 3)).drew).heap[w.heap.size+1+1]? =some (.cells #[.int .i64 a,.int .i64 b] 3):=by rw[<-hs];exact Ve ((w.alloc o1).alloc o2) _
 exact ydG a b _ _ _ (by simp only[World.cell?,hh];rfl) (by simp only[World.cell?,hh];rfl)
def ydt(m1 n1 m2 n2:Int)(w:Aa)(v0 v1 v2 v5 v6 v7 v8 v9 v10 v11 v12 u0 u1 u2 u5 u6 u7 u8 u9 u10 u11 u12:wa):
  Calls prog 94 #[.agg #[v0,v1,v2,.int .i64 m1,.int .i64 n1,v5,v6,v7,v8,v9,v10,v11,v12],.agg #[u0,u1,u2,.int .i64 m2,.int .i64 n2,u5,u6,u7,u8,u9,u10,u11,u12]] w λe w'=>
   e=.returned (.int .i64 (Al (Te m1 m2) (Te n1 n2)))/\∃q os',w'=grow (w.drewN q) os':=by
 have hc:=λa b w'=>ydu a b w'
 have ho:=ydH (Te m1 m2) (Te n1 n2) w (.cells #[v0,v1,v2,.int .i64 m1,.int .i64 n1,v5,v6,v7,v8,v9,v10,v11,v12] 69) (.cells #[u0,u1,u2,.int .i64 m2,.int .i64 n2,u5,u6,u7,u8,u9,u10,u11,u12] 69)
 go_enter func94,Tryz.ntmps94
 go_wp2_with fail
 go_region_with (first|(go_at_call 96;refine(hc _ _ _).mono ?_;rintro e w' ⟨rfl,rfl⟩)|(go_at_call 95;apply Calls.mono ho;intro e w1 V7;obtain⟨he,V7⟩:=V7;subst he))
 all_goals go_wp2
 all_goals (try go_ret)
 all_goals first
  |exact⟨rfl,1, #[.cells #[v0,v1,v2,.int .i64 m1,.int .i64 n1,v5,v6,v7,v8,v9,v10,v11,v12] 69,.cells #[u0,u1,u2,.int .i64 m2,.int .i64 n2,u5,u6,u7,u8,u9,u10,u11,u12] 69,.cells #[.int .i64 (Te m1 m2),.int .i64 (Te n1 n2)] 3],rfl⟩
  |exact⟨by simp[Act.put],1, #[.cells #[v0,v1,v2,.int .i64 m1,.int .i64 n1,v5,v6,v7,v8,v9,v10,v11,v12] 69,.cells #[u0,u1,u2,.int .i64 m2,.int .i64 n2,u5,u6,u7,u8,u9,u10,u11,u12] 69,.cells #[.int .i64 (Te m1 m2),.int .i64 (Te n1 n2)] 3],rfl⟩
  |exact⟨rfl,1, #[.cells #[v0,v1,v2,.int .i64 m1,.int .i64 n1,v5,v6,v7,v8,v9,v10,v11,v12] 69,.cells #[u0,u1,u2,.int .i64 m2,.int .i64 n2,u5,u6,u7,u8,u9,u10,u11,u12] 69,.cells #[.int .i64 (Te m1 m2),.int .i64 (Te n1 n2)] 3],V7.trans rfl⟩
def PV.val{p:Proj}(h:PV p):Jf p.chan:=aHP p.chan h.chan
def yaY{l:List zP}:∀{n i:Nat},rT l n i=0->∀j,i<=j->j<i+n->pC (l.getD j default) (l.take j)=0
 |0,i,_,j,h1,h2=>by omega
 |n+1,i,h,j,h1,h2=>by
  rw[rT]at h;obtain⟨ha,hb⟩:=dU h;by_cases hj:j=i
  ·subst hj;exact ha
  exact yaY hb j O O
def PV.ydW{p:Proj}(h:PV p){i:Nat}(hi:i<p.chan.cb.length):lP (p.chan.cb.getD i default).lS=0:=by have hc:=h.chan;unfold mU at hc;obtain⟨_,hc⟩:=dF dC hc;obtain⟨_,hc⟩:=dF dC hc;obtain⟨_,hc⟩:=dU hc;obtain⟨_,hc⟩:=dF dC hc;have hr:=yaY hc i (Oa _) O;unfold pC at hr;obtain⟨_,hr⟩:=dF dC hr;obtain⟨_,hr⟩:=dF dC hr;obtain⟨_,hr⟩:=dF dC hr;exact hr
def PV.eS{p:Proj}(h:PV p){i:Nat}(hi:i<p.cU.length):0<=PG p.chan.cb (p.cU.getD i default).name/\(p.cU.getD i default).due<=24:=by have hs:=h.cU;unfold rR at hs;obtain⟨_,hs⟩:=dF dC hs;have hr:=lQ hs i (Oa _) O;unfold qG at hr;obtain⟨h1,hr⟩:=dF dC hr;obtain⟨_,hr⟩:=dF dC hr;obtain⟨h3,hr⟩:=dF dC hr;simp only[ic]at h1;simp only[sc,Yg,within,Ya,lc]at h3;omega
open Go Go.Ax Go.Ch Go.Proofs Go.Proofs.Tryz Go.Sort Go.Shelf
def si(x y:Fact):ltOf Og x y=decide (x.month<y.month\/(x.month=y.month/\x.number<y.number)):=by
 unfold ltOf Og Al Te;apply oy.2;by_cases h1:x.month<y.month
 ·simp[h1]
 by_cases h2:y.month<x.month
 ·have:x.month≠y.month:=O;simp[h1,h2,this]
 have e:x.month=y.month:=O;by_cases h3:x.number<y.number
 ·simp[e,h3]
 by_cases h4:y.number<x.number
 ·simp[e,h3,h4]
 simp[e,h3,h4]
def ydQ:SWO (ltOf Og) where
 irrefl:=λx=>by rw[si];simp
 trans:=λx y z h1 h2=>by rw[si,lc]at*;omega
 ntrans:=λx y z h1 h2=>by rw[si,ic]at*;omega
instance:Inhabited (GV J0 13):=⟨⟨(default,[.int .i64 (default:Fact).kind,.int .i64 (default:Fact).seq,.int .i64 (default:Fact).a8,.int .i64 (default:Fact).month,.int .i64 (default:Fact).number,.int .i64 (default:Fact).aT,.int .i64 (default:Fact).over,.int .i64 (default:Fact).wb,.int .i64 (default:Fact).target,.string (default:Fact).aN,.string (default:Fact).dN,.string (default:Fact).eS,.slice none 0 0]),by
 refine⟨rfl,λv hv=>?_,λj u hj hu=>?_⟩
 ·simp only[Bb,xe,ze]at hv;rcases hv with rfl|rfl|rfl|rfl|rfl|rfl|rfl|rfl|rfl|rfl|rfl|rfl|rfl <;> rfl
 match j,hj,hu with
 |0,_,hu|1,_,hu|2,_,hu|3,_,hu|4,_,hu|5,_,hu|6,_,hu|7,_,hu|8,_,hu|9,_,hu|10,_,hu|11,_,hu=>cases hu;rfl
 |12,_,hu=>cases hu⟩⟩
def ycx(blk off n:Nat)(w:Aa):CmpLays prog 94 #[] (λp:GV J0 13=>p.1.2) 13 (λp q=>Og p.1.1 q.1.1) blk off n w:=by
 intro m os dk _ x y;generalize sortWorldK _ 13 w blk off m dk os=W;obtain⟨⟨s,vs⟩,hx⟩:=x;obtain⟨⟨t,us⟩,hy⟩:=y;have e1:=hx.len;have e2:=hy.len;have s3:=hx.val 3 (.int .i64 s.month) O rfl;have s4:=hx.val 4 (.int .i64 s.number) O rfl;have t3:=hy.val 3 (.int .i64 t.month) O rfl;have t4:=hy.val 4 (.int .i64 t.number) O rfl
 match vs,e1,us,e2,s3,s4,t3,t4 with
 |[v0,v1,v2,v3,v4,v5,v6,v7,v8,v9,v10,v11,v12],_,[u0,u1,u2,u3,u4,u5,u6,u7,u8,u9,u10,u11,u12],_,s3,s4,t3,t4=>obtain rfl:v3=.int .i64 s.month:=Vc s3;obtain rfl:v4=.int .i64 s.number:=Vc s4;obtain rfl:u3=.int .i64 t.month:=Vc t3;obtain rfl:u4=.int .i64 t.number:=Vc t4;exact ydt s.month s.number t.month t.number W v0 v1 v2 v5 v6 v7 v8 v9 v10 v11 v12 u0 u1 u2 u5 u6 u7 u8 u9 u10 u11 u12
def ybV(l:List Fact)(hn:∀a∈l,∀b∈l,a.number=b.number->a=b)(l':List Fact)(hp:l'.Perm l)(hs:l'.Pairwise (λx y=>ltOf Og y x=false)):l'=JH l:=by
 refine Bz (le:=λx y=>ltOf Og y x=false) ?_ hs ?_ (hp.trans (Nh _ _).symm)
 ·intro a b ha hb h1 h2;have ha:a∈l:=hp.mem_iff.1 ha;have hb:b∈l:=(Nh _ _).mem_iff.1 hb;rw[si,ic]at h1 h2;exact hn a ha b hb O
 have:=Jv (le:=λx y:Fact=> !(ltOf Og y x)) (λa b c h1 h2=>by
  simp only[si,Xg,ic]at*;omega) (λa b=>by
  simp only[si,Uf,Xg,ic];omega) l
 exact this.imp λ{x y} h=>by simpa using h
def yct(l:List Fact)(hn:∀a∈l,∀b∈l,a.number=b.number->a=b)(f0:Nat->Nat->DV)(SO:∀i j,i<l.length->j<13->aK (f0 i j) (nE l i j))(hl:l.length<=1000000):
  bW prog 93 [.s (.own 1001),.s (.dZ 94 [])] [(1001,.row 69 l.length 13 f0)] (.t []) [(1001,.row 69 l.length 13 (nE (JH l)))]:=
 aKD (α:=Fact) (k:=13) Tryz.aBY rfl call93 dC Tryz.isAgg69 Tryz.sizeOf69 J0 (λt j h=>aCW t j h) Og ydQ
  (enters_of func94 kR rfl) ycx l (JH l) (ybV l hn) f0 SO hl
def ZR.of{Y:List Fact}{m:Int}(hl:Y.length<=200)(hn:∀a∈tO Y m,∀b∈tO Y m,a.number=b.number->a=b):ZR Y m:=λ_=>
 yct _ hn _ (λ_ _ _ _=>λ_ _ r=>r) (by have:(tO Y m).length<=Y.length:=Vg _ _;omega)
def lq{g:Fact}(h:g.kind=1)(hv:nZ g=0):bT g=iO [AX,Lib.itoa g.number]:=by unfold bT nH cS;rw[hv,h];rfl
def ycu{l:List Fact}(hv:∀f∈l,fR f=0)(m:Int):∀a∈tO (cntF l) m,∀b∈tO (cntF l) m,a.number=b.number->a=b:=by
 intro a ha b hb hn;unfold tO at ha hb;obtain⟨ha,a1⟩:=Yd.1 ha;obtain⟨hb,b1⟩:=Yd.1 hb;simp only[Ya,Dd]at a1 b1;obtain⟨k1,_,e1,g1,hg1,c1,q1⟩:=N4 hv ha;obtain⟨k2,_,e2,g2,hg2,c2,q2⟩:=N4 hv hb;have t1:g1.kind=1:=by have:=a1.1;rw[c1]at this;exact this
 have t2:g2.kind=1:=by have:=b1.1;rw[c2]at this;exact this
 have n1:a.number=g1.number:=by rw[c1];unfold jE fW;simp[t1]
 have n2:b.number=g2.number:=by rw[c2];unfold jE fW;simp[t2]
 have z1:=(kN (hv g1 hg1)).1;have z2:=(kN (hv g2 hg2)).1;have hkk:k1=k2:=by rw[<-q1,<-q2,lq t1 z1,lq t2 z2,<-n1,<-n2,hn]
 rw[e1,e2,hkk]
def oo{p:Proj}{l:List Fact}(hk:rh p l)(M:Int):ZR (cntF l) M:=ZR.of (x4 hk).len (ycu hk.fmt M)
def ycC(y:gK)(b:Tc)(hl:y.bA.length<=9223372036854775807):aF prog 53 [tD y,ni b] (vI (R6 y b)):=by
 refine eP func53 rfl rfl call53 rfl rfl λR J=>aB (cI _ _ _) ?_
 repeat refine aR ?_
 refine bR (cI _ _ _) ?_;repeat refine aR ?_
 refine bR (cI _ _ _) ?_;repeat refine aR ?_
 apply aI<;>intro h1
 ·have h1:(!within b.number 1 1000000|| !within b.aT 0 1000000000000|| !within b.over 0 b.aT)=true:=h1;exact Ia (by unfold R6;rw[h1];rfl)
 have h1:(!within b.number 1 1000000|| !within b.aT 0 1000000000000|| !within b.over 0 b.aT)=false:=h1;refine aB (wm y.bA b.aN hl) (aI (λh2=>?_) (λh2=>?_))
 ·have h2:decide (zO y.bA b.aN<0)=true:=h2;exact Ia (by unfold R6;rw[h1,h2];rfl)
 have h2:decide (zO y.bA b.aN<0)=false:=h2;refine aB (cI _ _ _) (aI (λh3=>?_) (λh3=>?_))
 ·have h3:(!within b.wb 0 9)=true:=h3;exact Ia (by unfold R6;rw[h1,h2,h3];rfl)
 have h3:(!within b.wb 0 9)=false:=h3;exact Ia (by unfold R6;rw[h1,h2,h3];rfl)
def il{y:gK}{b:Tc}(h0:0<=zO y.bA b.aN):I0 y b<y.bA.length/\RA y.bA b.aN=I0 y b:=
 ⟨(yN (λx:nM=>bE x.aN b.aN) y.bA 0 h0).2.1,by show zO y.bA b.aN=_;unfold I0;omega⟩
def nj(y:gK)(b:Tc):Int:=Int.tmod (R2 y b) (y.bA.getD (I0 y b) default).den
def yb4(y:gK)(b:Tc)(hl:y.bA.length<=1000000)(h0:0<=zO y.bA b.aN)(hd:(y.bA.getD (I0 y b) default).den≠0):
  aF prog 109 [tD y,ni b,vI (y.carry.getD (I0 y b) 0)] (.t [.s (.d (dI (q8 y b))),.s (.d (dI (nj y b)))]):=by
 obtain⟨fZ,hN⟩:=il h0
 refine eP func109 rfl rfl call109 rfl rfl λR J=>?_
 refine aB (wm y.bA b.aN O) ?_
 rw[hN]
 have e1:q8 y b=aW (Int.tdiv (R2 y b) (y.bA.getD (I0 y b) default).den):=rfl
 have e2:nj y b=Int.tmod (R2 y b) (y.bA.getD (I0 y b) default).den:=rfl
 have e3:R2 y b=aW (aW (aW (b.aT-b.over)*(y.bA.getD (I0 y b) default).num)+y.carry.getD (I0 y b) 0):=rfl
 rw[e1,e2,e3]
 generalize I0 y b=i at fZ hd
 apply oi Ha
 refine aD ?_
 apply oi hd
 apply oi hd
 refine aD ?_
 exact fb _
def yc0(p:uF)(x:Int)(hl:p.aV.length<=1000000):aF prog 176 [G1 p,vI x] (vB (p.aV.contains x)):=by
 have hc:p.aV.contains x=p.aV.any λd=>d==x:=by rw[List.any_beq']
 rw[hc];refine eP func176 rfl rfl call176 rfl rfl λR J=>Eb (λi:Nat=>⟨[(1,vI x),(2,.s (.ptr 2 0)),(5,vI i),(4,.s (.d (.lit false)))],[(2,some (.cells [.d (dS p.name),.d (dI p.OE),.d (dI p.base),.d (dI p.mb),.d (b5 p.aV),.d (dI p.GZ)]))]⟩) (λi=>i<=p.aV.length/\(p.aV.any λd=>d==x)=(p.aV.drop i).any λd=>d==x) (λi=>p.aV.length-i) 0 ⟨Oa _,rfl⟩ ?_ ?_
 ·refine Kb J Ga Ga
 rintro i ⟨hi,he⟩;apply eX J;apply aI<;>intro h
 ·have h:(i:Int)<p.aV.length:=bG h;have bC:i<p.aV.length:=O;have hd:p.aV.drop i=p.aV[i]::p.aV.drop (i+1):=De bC;have hg:p.aV.getD i 0=p.aV[i]:=by simp[bC]
  apply oi Ha;rw[hd,cg,<-hg]at he;apply aI<;>intro h
  ·have h:(p.aV.getD i 0==x)=true:=h;exact oc (by rw[he,h];rfl)
  have h:(p.aV.getD i 0==x)=false:=h;refine⟨i+1,⟨O,by rw[he,h];rfl⟩,O,?_⟩;exact Kb J Ga ⟨rQ,rQ,⟨rfl,Ua vI (aG O O)⟩,rQ,oO⟩
 have h:¬(i:Int)<p.aV.length:=bF h;have bC:i=p.aV.length:=O;subst bC;exact oc (by rw[he,Jg];rfl)
def ydJ(y:gK)(k:Nat)(hk:k<y.aQ.length)(hl:y.bH.length<=9223372036854775807):aF prog 177 [tD y,vI k] (vI (GL y (y.aQ.getD k default))):=by
 refine eP func177 rfl rfl call177 rfl rfl λR J=>oi Ha (aB (XX (y.aQ.getD k default)) ?_)
 exact aB (aIA y k hk hl) (aD (fb _))
def yc2(y:gK)(b:Tc)(k:Nat)(hk:k<y.aQ.length)(hy:y.small)(hl:y.bH.length<=9223372036854775807)(h0:0<=zO y.bA b.aN)(vA:y.carry.length=y.bA.length)(hd:(y.bA.getD (I0 y b) default).den≠0):
  aF prog 108 [tD y,ni b,vI k] (vI (JL y (y.aQ.getD k default) b.wb (q8 y b))):=by
 obtain⟨fZ,hN⟩:=il h0
 have hb:=yb4 y b hy.bA h0 hd
 have hA:=yc0 (y.aQ.getD k default) b.wb (hy.aV _ (bP hk))
 refine eP func108 rfl rfl call108 rfl rfl λR J=>?_
 apply oi Ha
 apply aB hA
 refine aD ?_
 apply aI<;>intro h1
 ·have h1:(!(y.aQ.getD k default).aV.contains b.wb)=true:=h1;exact Ia (by unfold JL;rw[h1];rfl)
 have h1:(!(y.aQ.getD k default).aV.contains b.wb)=false:=h1
 refine aB (wm y.bA b.aN (by have:=hy.bA;omega)) ?_
 rw[hN]
 generalize I0 y b=i at fZ hb
 apply oi Ha
 apply aB hb
 refine aD ?_
 refine aB (ydJ y k hk hl) ?_
 apply aI<;>intro h2
 ·have h2:decide (q8 y b>GL y (y.aQ.getD k default))=true:=h2;exact Ia (by unfold JL;rw[h1,show decide (GL y (y.aQ.getD k default)<q8 y b)=true from h2];rfl)
 ·have h2:decide (q8 y b>GL y (y.aQ.getD k default))=false:=h2;exact Ia (by unfold JL;rw[h1,show decide (GL y (y.aQ.getD k default)<q8 y b)=false from h2];rfl)
def Pf(y:gK)(b:Tc)(dN:ta):Int:=
 bif NX y b.number then 5 else bif decide (lU y.aQ dN<0)then 6
 else bif JL y (y.aQ.getD (lU y.aQ dN).toNat default) b.wb (q8 y b) !=0 then JL y (y.aQ.getD (lU y.aQ dN).toNat default) b.wb (q8 y b)
 else bif decide ((y.bH.length:Int)>=200)then 8 else 0
def ycD(y:gK)(b:Tc)(dN:ta)(hy:y.small)(hp:y.aQ.length<=9223372036854775807)(hl:y.bH.length<=9223372036854775807)(h0:0<=zO y.bA b.aN)(vA:y.carry.length=y.bA.length)(hd:(y.bA.getD (I0 y b) default).den≠0):
  aF prog 54 [tD y,ni b,vS dN] (vI (Pf y b dN)):=by
 refine eP func54 rfl rfl call54 rfl rfl λR J=>?_
 refine aB (S9 y.bH b.number hl) ?_
 apply aI<;>intro h1
 ·have h1:NX y b.number=true:=h1;exact Ia (by unfold Pf;rw[h1];rfl)
 have h1:NX y b.number=false:=h1
 refine aB (Nu y.aQ dN hp) ?_
 apply aI<;>intro h2
 ·have h2:decide (lU y.aQ dN<0)=true:=h2;exact Ia (by unfold Pf;rw[h1,h2];rfl)
 have h2:decide (lU y.aQ dN<0)=false:=h2
 have hp0:0<=lU y.aQ dN:=by
  have:¬lU y.aQ dN<0:=by simpa using h2
  omega
 have hpl:(lU y.aQ dN).toNat<y.aQ.length:=(yN (λx:uF=>bE x.name dN) y.aQ 0 hp0).2.1
 have hR:=yc2 y b (lU y.aQ dN).toNat hpl hy hl h0 vA hd
 rw[Int.toNat_of_nonneg hp0]at hR
 apply aB hR
 apply aI<;>intro h3
 ·have h3:(JL y (y.aQ.getD (lU y.aQ dN).toNat default) b.wb (q8 y b) !=0)=true:=h3;exact Ia (by unfold Pf;rw[h1,h2,h3];rfl)
 have h3:(JL y (y.aQ.getD (lU y.aQ dN).toNat default) b.wb (q8 y b) !=0)=false:=h3
 apply aI<;>intro h4
 ·have h4:decide ((y.bH.length:Int)>=200)=true:=h4;exact Ia (by unfold Pf;rw[h1,h2,h3,h4];rfl)
 ·have h4:decide ((y.bH.length:Int)>=200)=false:=h4;exact Ia (by unfold Pf;rw[h1,h2,h3,h4];rfl)
def ydz(y:gK)(b:Tc)(dN:ta)(hy:y.small)(hl:y.bH.length<=200)(h0:0<=zO y.bA b.aN)(vA:y.carry.length=y.bA.length)(hd:(y.bA.getD (I0 y b) default).den≠0):
  aF prog 55 [tD y,ni b,vS dN] (tD (PO y b dN)):=by
 obtain⟨fZ,hN⟩:=il h0
 have hb:=yb4 y b hy.bA h0 hd
 have qT:=hy.bA
 have hcy:=TA y.carry O
 have hC:oZ y b=y.carry.set (I0 y b) (nj y b):=rfl
 have aI5:(oZ y b).length=y.carry.length:=by unfold oZ;simp
 refine eW func55 rfl rfl call55 rfl rfl (λR J=>?_)
 apply sX J
 apply sX J
 refine aB (wm y.bA b.aN O) ?_
 rw[hN]
 generalize I0 y b=i at fZ hb hC
 apply sX J
 apply oi Ha
 apply aB hb
 refine aD ?_
 refine Qa (Mb (rc:=[62]) aJ mix J _ ?_)
 refine⟨[(5,600)],_,_,_,_,hcy,rfl,trivial,rfl,?_⟩
 apply sX J
 apply oi Ha
 refine ob (show((i:Nat):Int).toNat<y.carry.length by omega) ?_
 refine Ib (I':=⟨[(2,vS dN),(3,.s (.ptr 3 0)),(4,.s (.ptr 4 0)),(6,.s (.ptr 6 0)),(8,vI (q8 y b))],[(3,some (.cells [.d (q7 y.aQ),.d (oY y.bA),.d (LU y.bH),.own 600])),(4,some (.cells (Sp b))),(6,some (.cells (iB ae.zero))),(600,some (.row 3 (oZ y b).length 1 (cP (oZ y b))))]⟩) (Ka J [] rfl ⟨bQ,bQ,bQ,⟨rfl,Wb aI5.symm λa c ha hc=>Za ?_⟩,oO⟩ Fa) ?_
 ·obtain rfl:c=0:=O;show eT (cP y.carry) i 0 [.d (dI (nj y b))] a 0=dI ((oZ y b).getD a 0);rw[hC];by_cases h2:a=i
  ·subst h2;rw[oP];simp[show a<y.carry.length by omega]
  rw[tG h2];show dI (y.carry.getD a 0)=_;simp[Ne.symm h2]
 apply sX J
 refine ob (show(0+y.bH.length)*32<=140737488355328 by omega) ?_
 refine ob (λa c ha hc=>by match c,hc with|0,_|1,_|2,_=>rfl) ?_
 refine ob (show(0+y.bH.length+1)*32<=140737488355328 by omega) ?_
 refine ob (λa c ha hc=>by match a,ha,c,hc with|0,_,0,_|0,_,1,_|0,_,2,_=>rfl) ?_
 refine aD ?_
 apply eX J
 refine bf (x:=.g _) (y:=.g _) ⟨Ja _,Ja _,?_,Ja _,oO⟩
 refine Ae (show 0+y.bH.length+1=(y.bH++ [(⟨b.number,dN,q8 y b⟩:OQ)]).length by simp) λx c hx hc=>Za ?_
 have hc:c<3:=hc
 have hx:x<0+y.bH.length+1:=hx
 unfold jM
 by_cases h1:x<y.bH.length
 ·rw[Na O,La (Cc x)];show Qj (y.bH.getD (x-0) default) c=Qj ((y.bH++ [(⟨b.number,dN,q8 y b⟩:OQ)]).getD x default) c;rw[Xi,Gb,Gb,Hc h1]
 ·obtain rfl:x=y.bH.length:=O;rw[La O,show y.bH.length-(0+y.bH.length)=0 by omega];show _=Qj ((y.bH++ [(⟨b.number,dN,q8 y b⟩:OQ)]).getD y.bH.length default) c;rw[Gb,Ew]
  match c,hc with|0,_|1,_|2,_=>rfl
def rl{f:Nat->Int}:∀{n i:Nat},(∀j,i<=j->j<i+n->f j=0)->aO f n i=0
 |0,_,_=>rfl
 |n+1,i,h=>by rw[aO,h i (db _) O];exact rl λj h1 h2=>h j O O
structure gf(y:gK):Prop where
 np:y.aQ.length<=8
 aQ:∀j,j<y.aQ.length->tK y.aQ j=0
 nb:y.bA.length<=20
 bA:∀j,j<y.bA.length->rN y.bA j=0
 nc:y.carry.length=y.bA.length
 carry:∀j,j<y.carry.length->D0 y j=0
 nd:y.bH.length<=200
 bH:∀j,j<y.bH.length->pF y j=0
 cap:∀j,j<y.aQ.length->D1 y j=0
def gf.of{y:gK}(h:kX y=0):gf y:=by
 unfold kX at h;obtain⟨h1,h⟩:=dF dC h;obtain⟨h2,h⟩:=dU h;obtain⟨hb,hd⟩:=dU h;unfold o4 at hb;obtain⟨h3,hb⟩:=dF dC hb;obtain⟨h4,hb⟩:=dU hb;obtain⟨h5,h6⟩:=dF dC hb;unfold pM at hd;obtain⟨h7,hd⟩:=dF dC hd;obtain⟨h8,h9⟩:=dU hd;simp only[ic]at h1 h3 h7;have h5:(y.carry.length:Int)=y.bA.length:=by simpa using h5
 exact⟨O,λj hj=>lQ h2 j (Oa _) O,O,λj hj=>lQ h4 j (Oa _) O,O,
  λj hj=>lQ h6 j (Oa _) O,O,λj hj=>lQ h8 j (Oa _) O,λj hj=>lQ h9 j (Oa _) O⟩
def gf.zero{y:gK}(h:gf y):kX y=0:=by
 have e1:o4 y=0:=by unfold o4;rw[rl λj _ hj=>h.bA j O,rl λj _ hj=>h.carry j O,h.nc,show decide ((y.bA.length:Int)>20)=false by have:=h.nb;simp only[ic];omega];simp
 have e2:pM y=0:=by unfold pM;rw[rl λj _ hj=>h.bH j O,rl λj _ hj=>h.cap j O,show decide ((y.bH.length:Int)>200)=false by have:=h.nd;simp only[ic];omega];rfl
 unfold kX;rw[e1,e2,rl λj _ hj=>h.aQ j O,show decide ((y.aQ.length:Int)>8)=false by have:=h.np;simp only[ic];omega];rfl
def sv(l:List OQ)(n:ta):∀k i s,JG l n (k+1) i s=bif bE (l.getD (i+k) default).dN n then aW (JG l n k i s+(l.getD (i+k) default).iZ)else JG l n k i s
 |0,i,s=>by simp[JG]
 |k+1,i,s=>by rw[JG,sv l n k,show i+1+k=i+(k+1) by omega];conv=>rhs;rw[JG]
def ybR(l:List OQ)(d:OQ)(n:ta):∀k i s,i+k<=l.length->JG (l++ [d]) n k i s=JG l n k i s
 |0,_,_,_=>rfl
 |k+1,i,s,h=>by
  have e:(l++ [d]).getD i default=l.getD i default:=by rw[Gb,Gb,Hc O]
  rw[JG,JG,e,ybR l d n k (i+1) _ O]
def yc7(y:gK)(d:OQ)(c:List Int)(n:ta):JF {y with bH:=y.bH++ [d],carry:=c} n=bif bE d.dN n then aW (JF y n+d.iZ)else JF y n:=by
 unfold JF;have e:(y.bH++ [d]).getD (0+y.bH.length) default=d:=by rw[Oc,Gb,Ew];rfl
 show JG (y.bH++ [d]) n (y.bH++ [d]).length 0 0=_;rw[Jc];show JG (y.bH++ [d]) n (y.bH.length+1) 0 0=_;rw[sv,ybR _ _ _ _ _ _ O,e]
def ybS(l:List OQ)(n:ta)(hv:∀j,j<l.length->0<=(l.getD j default).iZ/\(l.getD j default).iZ<=100000000000000):∀k,k<=l.length->k<=200->0<=JG l n k 0 0/\JG l n k 0 0<=100000000000000*k
 |0,_,_=>⟨Kc _,Kc _⟩
 |k+1,h,h2=>by
  obtain⟨a,b⟩:=ybS l n hv k O O;obtain⟨c,d⟩:=hv k O;rw[sv,Oc]
  cases bE (l.getD k default).dN n with
  |false=>show 0<=JG l n k 0 0/\JG l n k 0 0<=_;omega
  |true=>show 0<=aW _/\aW _<=_;rw[aG O O];omega
def ycR{y:gK}{j:Nat}(h:pF y j=0):0<=(y.bH.getD j default).iZ/\(y.bH.getD j default).iZ<=100000000000000:=by unfold pF at h;obtain⟨_,h⟩:=dF dC h;obtain⟨_,h⟩:=dF dC h;obtain⟨_,h⟩:=dF dC h;obtain⟨h,_⟩:=dF dC h;exact within_iff.1 (by simpa using h)
def gf.tak{y:gK}(h:gf y)(n:ta):0<=JF y n/\JF y n<=20000000000000000:=by have:=ybS y.bH n (λj hj=>ycR (h.bH j hj)) y.bH.length (db _) h.nd;have:=h.nd;unfold JF;omega
def ycY{p:uF}(h:qI p=0):0<=N8 p/\N8 p<=40000000000000:=by unfold qI at h;obtain⟨h1,h⟩:=dF dC h;obtain⟨h2,h⟩:=dF dC h;simp only[sc,Yg,within,Ya,lc,ic]at h1 h2;unfold N8;rw[aG (n:=p.mb-p.base) O O];have a:=pf (a:=p.OE) (b:=p.mb-p.base) O O;have b:=Fj (a:=p.OE) (b:=p.mb-p.base) (c:=1000000000) (d:=40000) O O O O;rw[aG O O];omega
def ybN{l:List uF}{j:Nat}(h:tK l j=0):(l.take j).any (λy=>bE y.name (l.getD j default).name)=false/\qI (l.getD j default)=0:=by unfold tK at h;obtain⟨_,h⟩:=dF dC h;exact dF dC h
def gf.ydk{y:gK}(h:gf y){i j:Nat}(hi:i<y.aQ.length)(hj:j<y.aQ.length)(he:bE (y.aQ.getD i default).name (y.aQ.getD j default).name=true):i=j:=by
 have key:∀a b,a<b->b<y.aQ.length->bE (y.aQ.getD a default).name (y.aQ.getD b default).name=true->False:=λa b JW hb hs=>by
  have hn:=(ybN (h.aQ b hb)).1;have:(y.aQ.take b).any (λz=>bE z.name (y.aQ.getD b default).name)=true:=
   pk.2 ⟨y.aQ.getD a default,by rw[List.mem_iff_getElem?];exact⟨a,by rw[Mh JW,Ab O,aX O]⟩,hs⟩
  rw[this]at hn;cases hn
 have hsym:bE (y.aQ.getD j default).name (y.aQ.getD i default).name=true:=by unfold bE at he⊢;simp only[Dd]at he⊢;exact he.symm
 rcases Ox i j with hl|hl|hl
 ·exact(key i j hl hj he).elim
 ·exact hl
 exact(key j i hl hi hsym).elim
def yb3{y:gK}(h:kX y=0)(b:Tc)(dN:ta):oS y b dN=bif R6 y b !=0 then R6 y b else Pf y b dN:=by unfold oS Pf yD;rw[h];rfl
def Ft{y:gK}(h:gf y){j:Nat}(hj:j<y.bA.length):1<=(y.bA.getD j default).den/\(y.bA.getD j default).den<=1000/\1<=(y.bA.getD j default).num/\(y.bA.getD j default).num<=10*(y.bA.getD j default).den:=by have hb:=h.bA j hj;unfold rN at hb;obtain⟨_,hb⟩:=dF dC hb;obtain⟨_,hb⟩:=dF dC hb;unfold JZ at hb;obtain⟨hb,_⟩:=dF dC hb;simp only[sc,Yg,within,Ya,lc]at hb;rw[aG O O]at hb;omega
def Yr{y:gK}{b:Tc}(h:R6 y b=0):1<=b.number/\b.number<=1000000/\0<=b.aT/\b.aT<=1000000000000/\0<=b.over/\b.over<=b.aT/\0<=zO y.bA b.aN:=by unfold R6 at h;obtain⟨h1,h⟩:=dF dC h;obtain⟨h2,h⟩:=dF dC h;simp only[sc,Yg,within,Ya,lc,ic]at h1 h2;omega
def ycQ{y:gK}(h:gf y){b:Tc}(hb:R6 y b=0):0<=q8 y b/\q8 y b<=100000000000000/\0<=nj y b/\nj y b<=(y.bA.getD (I0 y b) default).den-1:=by
 obtain⟨_,_,h1,h2,h3,h4,h0⟩:=Yr hb;have fZ:=(il h0).1;obtain⟨d1,d2,n1,n2⟩:=Ft h fZ;have hc:0<=y.carry.getD (I0 y b) 0/\y.carry.getD (I0 y b) 0<=(y.bA.getD (I0 y b) default).den-1:=by have:=h.carry (I0 y b) (by have:=h.nc;omega);unfold D0 at this;obtain⟨this,_⟩:=dF dC this;rw[aG O O]at this;exact within_iff.1 (by simpa using this)
 have e1:q8 y b=aW (Int.tdiv (R2 y b) (y.bA.getD (I0 y b) default).den):=rfl;have e2:nj y b=Int.tmod (R2 y b) (y.bA.getD (I0 y b) default).den:=rfl;have e3:R2 y b=aW (aW (aW (b.aT-b.over)*(y.bA.getD (I0 y b) default).num)+y.carry.getD (I0 y b) 0):=rfl;generalize y.bA.getD (I0 y b) default=B at*;generalize y.carry.getD (I0 y b) 0=c at*;have p1:=pf (a:=b.aT-b.over) (b:=B.num) O O;have p2:=Fj (a:=b.aT-b.over) (b:=B.num) (c:=1000000000000) (d:=10*B.den) O O O O;rw[aG (n:=b.aT-b.over) O O]at e3;generalize (b.aT-b.over)*B.num=m at*;rw[aG (n:=m) O O,aG (n:=m+c) O O]at e3;rw[e3]at e1 e2;rw[Lh O]at e1;rw[Ug O]at e2;have q1:0<=(m+c) / B.den:=Ll O O;have q2:(m+c) / B.den<=10000000000001:=Int.ediv_le_of_le_mul O O;have q3:=Wq (m+c) (b:=B.den) O;have q4:=Tq (m+c) (b:=B.den) O;rw[aG O O]at e1;omega
def gf.Ev{y:gK}(h:gf y){b:Tc}{dN:ta}(hb:R6 y b=0)(hp:Pf y b dN=0):gf (PO y b dN):=by
 obtain⟨b1,b2,_,_,_,_,h0⟩:=Yr hb;obtain⟨v1,v2,m1,m2⟩:=ycQ h hb;have fZ:=(il h0).1;obtain⟨d1,d2,_,_⟩:=Ft h fZ;unfold Pf at hp;obtain⟨p1,hp⟩:=dF dC hp;obtain⟨p2,hp⟩:=dF dC hp;obtain⟨p3,hp⟩:=dU hp;obtain⟨p4,_⟩:=dF dC hp;simp only[ic]at p2 p4;have hpi:=yN (λx:uF=>bE x.name dN) y.aQ 0 (show 0<=lU y.aQ dN by omega);have hpl:(lU y.aQ dN).toNat<y.aQ.length:=hpi.2.1;have hps:bE (y.aQ.getD (lU y.aQ dN).toNat default).name dN=true:=hpi.2.2;unfold JL at p3;obtain⟨_,p3⟩:=dF dC p3;obtain⟨p3,_⟩:=dF dC p3;simp only[ic]at p3;have vA:(oZ y b).length=y.carry.length:=by unfold oZ;simp
 have wI:∀j,j<y.aQ.length->0<=N8 (y.aQ.getD j default)/\N8 (y.aQ.getD j default)<=40000000000000:=λj hj=>ycY (ybN (h.aQ j hj)).2
 have rY:∀j,j<y.aQ.length->GL y (y.aQ.getD j default)=N8 (y.aQ.getD j default)-JF y (y.aQ.getD j default).name:=λj hj=>by have:=wI j hj;have:=h.tak (y.aQ.getD j default).name;unfold GL;rw[aG O O]
 refine⟨h.np,h.aQ,h.nb,h.bA,vA.trans h.nc,λj hj=>?_,?_,λj hj=>?_,λj hj=>?_⟩
 ·have hj:j<y.carry.length:=by rw[<-vA];exact hj
  show(bif !within ((oZ y b).getD j 0) 0 (aW ((y.bA.getD j default).den-1))then(2:Int)else 0)=0;by_cases e:j=I0 y b
  ·subst e;have:(oZ y b).getD (I0 y b) 0=nj y b:=by unfold oZ;rw[Gb,List.getElem?_set_self O];rfl
   rw[this,aG O O,within_iff.2 ⟨m1,m2⟩];rfl
  have:(oZ y b).getD j 0=y.carry.getD j 0:=by unfold oZ;rw[Gb,List.getElem?_set_ne (Ne.symm e),Gb]
  rw[this];exact h.carry j hj
 ·show(y.bH++_).length<=_;rw[Jc];simp only[Kq];omega
 ·have hj:j<y.bH.length+1:=by simpa[PO]using hj
  show(bif !within ((y.bH++ [(⟨b.number,dN,q8 y b⟩:OQ)]).getD j default).Yc 1 1000000 then(2:Int)
   else bif ((y.bH++ [(⟨b.number,dN,q8 y b⟩:OQ)]).take j).any (λd=>d.Yc==((y.bH++ [(⟨b.number,dN,q8 y b⟩:OQ)]).getD j default).Yc)then 5
   else bif decide (lU y.aQ ((y.bH++ [(⟨b.number,dN,q8 y b⟩:OQ)]).getD j default).dN<0)then 6
   else bif !within ((y.bH++ [(⟨b.number,dN,q8 y b⟩:OQ)]).getD j default).iZ 0 100000000000000 then 2 else 0)=0
  by_cases e:j<y.bH.length
  ·have e1:(y.bH++ [(⟨b.number,dN,q8 y b⟩:OQ)]).getD j default=y.bH.getD j default:=by rw[Gb,Gb,Hc e]
   have e2:(y.bH++ [(⟨b.number,dN,q8 y b⟩:OQ)]).take j=y.bH.take j:=List.take_append_of_le_length O;rw[e1,e2];exact h.bH j e
  obtain rfl:j=y.bH.length:=O;have e1:(y.bH++ [(⟨b.number,dN,q8 y b⟩:OQ)]).getD y.bH.length default=⟨b.number,dN,q8 y b⟩:=by rw[Gb,Ew];rfl
  have e2:(y.bH++ [(⟨b.number,dN,q8 y b⟩:OQ)]).take y.bH.length=y.bH:=sM;rw[e1,e2,within_iff.2 ⟨b1,b2⟩,within_iff.2 ⟨v1,v2⟩,show y.bH.any (λd=>d.Yc==b.number)=false from p1,show decide (lU y.aQ dN<0)=false by simpa using p2];rfl
 have hj:j<y.aQ.length:=hj;show(bif decide (aW (N8 (y.aQ.getD j default)-JF {y with bH:=y.bH++ [(⟨b.number,dN,q8 y b⟩:OQ)],carry:=oZ y b} (y.aQ.getD j default).name)<0)then(19:Int)else 0)=0;rw[yc7]
 cases hs:bE dN (y.aQ.getD j default).name with
 |false=>have:=h.cap j hj;exact this
 |true=>have ej:j=(lU y.aQ dN).toNat:=h.ydk hj hpl (by unfold bE at hs hps⊢;simp only[Dd]at hs hps⊢;rw[<-hs,hps]);have c1:=wI j hj;have t1:=h.tak (y.aQ.getD j default).name;have r1:=rY j hj;rw[<-ej]at p3;show(bif decide (aW (N8 (y.aQ.getD j default)-aW (JF y (y.aQ.getD j default).name+q8 y b))<0)then(19:Int)else 0)=0;rw[aG (n:=JF y (y.aQ.getD j default).name+q8 y b) O O,aG O O,Je O];rfl
def ybJ{l:List Fact}(hv:∀f∈l,fR f=0){k:bJ}(hk:k∈pS l):∃g∈l,rU (zH (pT l) k)=jE g/\bT g=k:=by
 obtain⟨j,e,uZ,he⟩:=KO hk;obtain⟨hl1,_⟩:=O0 he;obtain⟨e',DT,y5,_,hp,_⟩:=A4 he;have qP:zH (pT l) k=e.2.1.getD (e.2.1.length-1) []:=by unfold zH;rw[uZ]
 have kK:zH (pT l) k∈e.2.1:=by rw[qP,aX O];exact se _
 rw[hp]at kK;obtain⟨g,hg,ht,tR⟩:=yP DT _ (XZ kK);refine⟨g,hg,?_,?_⟩
 ·rw[ht];exact LZ (hv g hg)
 rw[tR,<-y5];exact(xU uZ).2.2
def ydg{l:List Fact}(hv:∀f∈l,fR f=0):(cntF l).Pairwise λa b=>a.kind=1->b.kind=1->a.number≠b.number:=by
 unfold cntF;rw[iy];have hn:(pS l).Nodup:=(Nh _ _).nodup_iff.2 (C9 l);refine iz ?_ hn;intro k1 k2 h1 h2 fJ a1 a2 hnum;obtain⟨g1,hg1,c1,q1⟩:=ybJ hv h1;obtain⟨g2,hg2,c2,q2⟩:=ybJ hv h2;rw[c1]at a1 hnum;rw[c2]at a2 hnum;have t1:g1.kind=1:=a1;have t2:g2.kind=1:=a2;have n1:(jE g1).number=g1.number:=by unfold jE fW;simp[t1]
 have n2:(jE g2).number=g2.number:=by unfold jE fW;simp[t2]
 apply fJ;rw[<-q1,<-q2,lq t1 (kN (hv g1 hg1)).1,lq t2 (kN (hv g2 hg2)).1,<-n1,<-n2,hnum]
def ycK{l:List Fact}(hv:∀f∈l,fR f=0)(m:Int):(j8 (cntF l) m).Pairwise λa b=>a.month<b.month\/(a.month=b.month/\a.number<b.number):=by
 have h1:(tO (cntF l) m).Pairwise λa b=>a.number≠b.number:=by unfold tO;refine iz ?_ ((ydg hv).filter _);intro a b ha hb h;have ha:=(Yd.1 ha).2;have hb:=(Yd.1 hb).2;simp only[Ya,Dd]at ha hb;exact h ha.1 hb.1
 have h2:(j8 (cntF l) m).Pairwise λa b=>a.number≠b.number:=(Nh _ _).symm.pairwise h1 λh=>h.symm
 have h3:=Jv (le:=λx y:Fact=> !(ltOf Og y x)) (λa b c h1 h2=>by
   simp only[si,Xg,ic]at*;omega) (λa b=>by
   simp only[si,Uf,Xg,ic];omega) (tO (cntF l) m)
 have h3:(j8 (cntF l) m).Pairwise λx y=>(!(ltOf Og y x))=true:=h3
 refine(h2.and h3).imp ?_;intro a b ⟨hn,h⟩;simp only[si,Xg,ic]at h;omega
def bg(l:List Fact)(m last:Int)(j:Nat):Bool:=(l.getD j default).kind==1&&(l.getD j default).month==m&&decide ((l.getD j default).number>last)
def ac(l:List Fact)(m last:Int):Nat->Int
 |0=> -1
 |i+1=>bif bg l m last i&&(decide (ac l m last i<0)||decide ((l.getD i default).number<(l.getD (ac l m last i).toNat default).number))then(i:Int)else ac l m last i
def Kp(l:List Fact)(m last:Int):∀i, -1<=ac l m last i/\ac l m last i<i
 |0=>⟨Kc _,by show(-1:Int)<((0:Nat):Int);decide⟩
 |i+1=>by
  have ih:=Kp l m last i;rw[ac]
  cases(bg l m last i&&(decide (ac l m last i<0)||decide ((l.getD i default).number<(l.getD (ac l m last i).toNat default).number)))with
  |true=>show -1<=(i:Int)/\(i:Int)<_;omega
  |false=>show -1<=ac l m last i/\ac l m last i<_;omega
def Zo(l:List Fact)(m last:Int):∀i,ac l m last i<0->∀j,j<i->bg l m last j=false
 |0,_,j,hj=>by omega
 |i+1,h,j,hj=>by
  rw[ac]at h
  cases hc:(bg l m last i&&(decide (ac l m last i<0)||decide ((l.getD i default).number<(l.getD (ac l m last i).toNat default).number)))with
  |true=>rw[hc]at h;have h:(i:Int)<0:=h;omega
  |false=>
   rw[hc]at h;have h:ac l m last i<0:=h;by_cases e:j=i
   ·subst e;rw[cd h]at hc;simpa using hc
   exact Zo l m last i h j O
def Us(l:List Fact)(m last:Int):∀i,0<=ac l m last i->bg l m last (ac l m last i).toNat=true/\∀j,j<i->bg l m last j=true->(l.getD (ac l m last i).toNat default).number<=(l.getD j default).number
 |0,h=>by simp[ac]at h
 |i+1,h=>by
  rw[ac]at h⊢
  cases hc:(bg l m last i&&(decide (ac l m last i<0)||decide ((l.getD i default).number<(l.getD (ac l m last i).toNat default).number)))with
  |true=>
   have JA:=hc;simp only[Ya,Uf,lc]at JA;show bg l m last ((i:Int).toNat)=true/\∀j,j<i+1->_->(l.getD ((i:Int).toNat) default).number<=_;rw[Ue];refine⟨JA.1,λj hj hcj=>?_⟩;by_cases e:j=i
   ·subst e;exact Kc _
   rcases JA.2 with hn|hl
   ·rw[Zo l m last i hn j O]at hcj;cases hcj
   by_cases hn:ac l m last i<0
   ·rw[Zo l m last i hn j O]at hcj;cases hcj
   have:=(Us l m last i O).2 j O hcj;omega
  |false=>
   rw[hc]at h;have h:0<=ac l m last i:=h;obtain⟨h1,h2⟩:=Us l m last i h;refine⟨h1,λj hj hcj=>?_⟩;show(l.getD (ac l m last i).toNat default).number<=_;by_cases e:j=i
   ·subst e;rw[hcj,Je O]at hc;simp at hc;exact hc
   exact h2 j O hcj
structure Rf(S:List Fact)(m last:Int)(k:Nat):Prop where
 le:k<=S.length
 past:∀j,j<k->(S.getD j default).month<m\/((S.getD j default).month=m/\(S.getD j default).number<=last)
 rest:∀j,k<=j->j<S.length->m<(S.getD j default).month\/((S.getD j default).month=m/\last<(S.getD j default).number)
abbrev Qm(a b:Fact):Prop:=a.month<b.month\/(a.month=b.month/\a.number<b.number)
def yb2{S:List Fact}(h:S.Pairwise Qm){i j:Nat}(Z5:i<j)(hj:j<S.length):Qm (S.getD i default) (S.getD j default):=by have:=sq.1 h i j O hj Z5;rw[aX hj,aX (show i<S.length by omega)];exact this
structure yj(Y S:List Fact)(M:Int):Prop where
 mem:∀{f},f∈S->f∈Y/\f.kind=1/\f.month<=M
 sub:∀{f},f∈Y->f.kind=1->f.month<=M->f∈S
 pair:S.Pairwise Qm
def ycA{Y:List Fact}{m last:Int}{f:Fact}(h:f∈Y)(hk:f.kind=1):∃i,i<Y.length/\Y.getD i default=f/\bg Y m last i=decide (f.month=m/\f.number>last):=by
 obtain⟨i,hi,he⟩:=Dl h;have hg:Y.getD i default=f:=by rw[aX hi];exact he
 refine⟨i,hi,hg,?_⟩;unfold bg;rw[hg,hk,Bool.decide_and];rfl
def Rf.none{Y S:List Fact}{M m last:Int}{k:Nat}(h:Rf S m last k)(hS:yj Y S M)(hn:ac Y m last Y.length<0)(h1:∀f∈Y,f.kind=1->1<=f.number/\1<=f.month):Rf S (m+1) 0 k:=by
 refine⟨h.le,λj hj=>?_,λj hj hl=>?_⟩
 ·have:=h.past j hj;omega
 have hm:=hS.mem (bP hl);have hr:=h.rest j hj hl;have hn1:=h1 _ hm.1 hm.2.1;obtain⟨i,hi,_,hg⟩:=ycA (m:=m) (last:=last) hm.1 hm.2.1;rw[Zo Y m last Y.length hn i hi]at hg;have:=Ph hg.symm;omega
def Rf.some{Y S:List Fact}{M m last:Int}{k:Nat}(h:Rf S m last k)(hS:yj Y S M)(hm:m<=M)(hn:0<=ac Y m last Y.length):
  k<S.length/\Y.getD (ac Y m last Y.length).toNat default=S.getD k default/\Rf S m (S.getD k default).number (k+1):=by
 obtain⟨hc,aIY⟩:=Us Y m last Y.length hn
 have hb:=(Kp Y m last Y.length).2
 have fZ:(ac Y m last Y.length).toNat<Y.length:=O
 generalize (ac Y m last Y.length).toNat=a at hc aIY fZ
 unfold bg at hc
 simp only[Ya,Dd,lc]at hc
 obtain⟨j,hj,he⟩:=Dl (hS.sub (bP fZ) hc.1.1 O)
 have he:S.getD j default=Y.getD a default:=by rw[aX hj];exact he
 have hkj:k<=j:=by have:=h.past j;rw[he]at this;omega
 have hkm:=hS.mem (bP (show k<S.length by omega))
 have hr:=h.rest k (db _) O
 have SL:j=k:=by
  by_cases e:k<j
  ·have hl:=yb2 hS.pair e hj;obtain⟨i,hi,hg,hci⟩:=ycA (m:=m) (last:=last) hkm.1 hkm.2.1;unfold Qm at hl;rw[he]at hl;have:=aIY i hi (hci.trans (cd O));rw[hg]at this;omega
  omega
 subst SL
 refine⟨hj,he.symm,hj,λi hi=>?_,λi hi hl=>?_⟩
 ·by_cases e:i=j
  ·subst e;rw[he];omega
  have:=h.past i O;rw[he];omega
 ·have:=yb2 hS.pair (show j<i by omega) hl;unfold Qm at this;rw[he]at this⊢;omega
def Rf.done{Y S:List Fact}{M:Int}{k:Nat}(h:Rf S (M+1) 0 k)(hS:yj Y S M):k=S.length:=by
 have hle:=h.le;by_cases e:k<S.length
 ·have:=(hS.mem (bP e)).2.2;have:=h.rest k (db _) e;omega
 omega
def Rf.start{Y S:List Fact}{M:Int}(hS:yj Y S M)(h1:∀f∈Y,f.kind=1->1<=f.number/\1<=f.month):Rf S 1 0 0:=
 ⟨Oa _,λj hj=>by omega,λj _ hl=>by have hm:=hS.mem (bP hl);have:=h1 _ hm.1 hm.2.1;omega⟩
def yj.of{l:List Fact}(hv:∀f∈l,fR f=0)(M:Int):yj (cntF l) (j8 (cntF l) M) M:=
 ⟨Pu,λh hk hm=>by refine(Nh _ _).mem_iff.2 ?_;unfold tO;exact Yd.2 ⟨h,by simp[hk,hm]⟩,ycK hv M⟩
def Ht{p:Proj}{S:List Fact}(hz:PW p.aQ p.bA=0):∀k,gf (iM p S k).2
 |0=>by show gf (G7 p.aQ p.bA);rw[show G7 p.aQ p.bA=BL p.aQ p.bA by unfold G7;rw[hz];rfl];exact gf.of hz
 |k+1=>by
  have ih:=Ht (S:=S) hz k;rw[iM]
  cases he:(oS (iM p S k).2 (zC (S.getD k default)) (S.getD k default).dN==0)with
  |false=>exact ih
  |true=>
   have he:oS (iM p S k).2 (zC (S.getD k default)) (S.getD k default).dN=0:=by simpa using he
   rw[yb3 ih.zero]at he;obtain⟨e1,e2⟩:=dU he;exact ih.Ev e1 e2
def bzz(a b:Int):((bif a !=0 then a else b)==0)=(a==0&&b==0):=by cases h:(a==0) <;> simp[bne,h]
def ycv{p:Proj}{S:List Fact}(hz:PW p.aQ p.bA=0){k:Nat}{H:List Fact}{y:gK}{f:Fact}(e:iM p S k=(H,y))(hf:S.getD k default=f):iM p S (k+1)=bif R6 y (zC f)==0&&Pf y (zC f) f.dN==0 then(H++ [f],PO y (zC f) f.dN)else(H,y):=by have h:=(Ht (S:=S) hz k).zero;rw[iM,hf];rw[e]at h⊢;rw[yb3 h,bzz]
def yby{p:Proj}{S:List Fact}(hz:PW p.aQ p.bA=0):∀k,(iM p S k).2.aQ=p.aQ/\(iM p S k).2.bA=p.bA
 |0=>by show(G7 p.aQ p.bA).aQ=_/\(G7 p.aQ p.bA).bA=_;rw[show G7 p.aQ p.bA=BL p.aQ p.bA by unfold G7;rw[hz];rfl];exact⟨rfl,rfl⟩
 |k+1=>by
  have ih:=yby (S:=S) hz k;rw[iM]
  cases(oS (iM p S k).2 (zC (S.getD k default)) (S.getD k default).dN==0)with
  |false=>exact ih
  |true=>exact ih
abbrev Wj(Y H:List Fact)(y:gK)(M m:Int)(r:List (Nat×AV))(b:List (Nat×Da jK)):St:=⟨[(1,cJ Y),(2,vI M),(7,.s (.ptr 7 0)),(8,.s (.ptr 8 0)),(9,.s (.mo H.isEmpty 100)),(10,vI m)]++r,[(7,some (.cells (iB ae.zero))),(8,some (.cells (uH y))),(100,some (.b8 69 H.length 13 (nE H)))]++b⟩
def ydn(p:Proj)(Y S:List Fact)(M:Nat)(hs:(BL p.aQ p.bA).small)(hz:PW p.aQ p.bA=0)(hl:Y.length<=200)(hM:M<=24)(hS:yj Y S M)(hSl:S.length<=200)
  (h1:∀f∈Y,f.kind=1->1<=f.number/\1<=f.month):
  aF prog 26 [oR p,cJ Y,vI M] (.t [.s (.d (RN (iM p S S.length).1)),.g (uH (iM p S S.length).2)]):=by
 have hSt:=Rf.start hS h1
 have hN:G7 p.aQ p.bA=BL p.aQ p.bA:=by unfold G7;rw[hz];rfl
 have hYV:=Ht (S:=S) hz
 have hsm:∀k,(iM p S k).2.small:=λk=>by have h2:=hYV k;have h3:=h2.nd;have h4:=h2.nc;have h5:=h2.nb;have h6:=h2.np;refine⟨O,O,O,O,?_⟩;rw[(yby (S:=S) hz k).1];exact hs.aV
 refine eW func26 rfl rfl call26 rfl rfl (λR J=>?_)
 apply sX J
 apply sX J
 refine aB (aH5 p hs) ?_
 apply sX J
 refine Qa (sX J ?_)
 apply Wa
 refine pb (λs:Nat×Nat=>Wj Y (iM p S s.2).1 (iM p S s.2).2 M s.1 [] []) (λs=>1<=s.1/\s.1<=M+1/\Rf S s.1 0 s.2) (λs=>M+1-s.1) (1,0) ⟨db _,by show 1<=M+1;omega,hSt⟩ ?_ ?_
 ·refine Ka J [(100,1000)] rfl ⟨bQ,⟨rfl,Sc ?_⟩,⟨rfl,rfl⟩,oO⟩ ⟨Z,Z,Z,Z,⟨rfl,Nd rfl⟩,Fa⟩;show ZW _ (mC [(100,1000)] (uH (G7 p.aQ p.bA)));rw[hN];exact⟨Ta,Ta,Ta,Ta,oO⟩
 rintro⟨m,k⟩ ⟨hm1,hm2,hw⟩
 dsimp only at hm1 hm2 hw
 apply sX J
 apply aI<;>intro h2
 ·have h2:(m:Int)<=M:=bG h2;refine Qa (Wa (sX J ?_));refine Wa (pb (λs:Nat×Int=>Wj Y (iM p S s.1).1 (iM p S s.1).2 M m [(11,vI s.2)] []) (λs=>Rf S m s.2 s.1) (λs=>S.length-s.1) (k,0) hw (Ka J [] rfl Fa Fa) ?_);rintro⟨k,last⟩ hw;dsimp only at hw;refine Wa (sX J ?_);refine mc (I':=Wj Y (iM p S k).1 (iM p S k).2 M m [(12,vI (ac Y m last Y.length))] []) ?_ ?_
  ·refine sX J (Wa ?_);refine pb (λi:Nat=>Wj Y (iM p S k).1 (iM p S k).2 M m [(11,vI last),(12,vI (ac Y m last i)),(13,vI i)] []) (λi=>i<=Y.length) (λi=>Y.length-i) 0 (Oa _) (Ka J [] rfl Fa Fa) ?_;intro i hi;apply sX J;apply aI<;>intro h3
   ·have h3:(i:Int)<Y.length:=bG h3;have hmb:=Kp Y m last i;refine Qa (Wa (sX J ?_));apply oi Ha;repeat refine aR ?_
    refine og (λ_=>Ha) ?_;repeat refine aR ?_
    refine og (λ_=>Ha) ?_;repeat refine aR ?_
    refine og (λ_=>Ha) ?_;repeat refine aR ?_
    refine og (λh4=>?_) ?_
    ·simp[rL]at h4;omega
    repeat refine aR ?_
    refine aD ?_;have ew:aW ((i:Int)+1)=((i+1:Nat):Int):=aG O O;refine Xa (aI (λh4=>?_) (λh4=>lb ?_))
    ·have h4:(bg Y m last i&&(decide (ac Y m last i<0)||decide ((Y.getD i default).number<(Y.getD (ac Y m last i).toNat default).number)))=true:=h4;have hA4:(i:Int)=ac Y m last (i+1):=by rw[ac,h4];rfl
     refine eX J (eX J ?_);exact⟨i+1,O,O,Ka J [] rfl Fa ⟨Z,Z,Z,Z,Z,Z,Z,⟨rfl,Ra hA4⟩,⟨rfl,Ra ew⟩,oO⟩⟩
    have h4:(bg Y m last i&&(decide (ac Y m last i<0)||decide ((Y.getD i default).number<(Y.getD (ac Y m last i).toNat default).number)))=false:=h4;have hA4:ac Y m last i=ac Y m last (i+1):=by rw[ac,h4];rfl
    exact eX J ⟨i+1,O,O,Ka J [] rfl Fa ⟨Z,Z,Z,Z,Z,Z,Z,⟨rfl,Ra hA4⟩,⟨rfl,Ra ew⟩,oO⟩⟩
   have h3:¬(i:Int)<Y.length:=bF h3;obtain rfl:i=Y.length:=O;exact⟨rfl,Ka J [] rfl Fa Fa⟩
  apply sX J;apply aI<;>intro h3
  ·have h3:ac Y m last Y.length<0:=bG h3;have V6:=hw.none hS h3 h1;have ew:aW ((m:Int)+1)=((m+1:Nat):Int):=aG O O;have em:((m+1:Nat):Int)=(m:Int)+1:=O;apply eX J;refine⟨(m+1,k),⟨by show 1<=m+1;omega,by show m+1<=M+1;omega,by show Rf _ ((m+1:Nat):Int) 0 k;rw[em];exact V6⟩,by show M+1-(m+1)<M+1-m;omega,?_⟩;exact Ka J [] rfl Fa ⟨Z,Z,Z,Z,Z,⟨rfl,Ra ew⟩,oO⟩
  have h3:¬ac Y m last Y.length<0:=bF h3;obtain⟨hk,oL,V6⟩:=hw.some hS h2 O;have hmb:=Kp Y m last Y.length;refine sX J (oi Ha ?_);refine sX J (sX J ?_);generalize hf:S.getD k default=f at oL V6;obtain⟨H,y,e⟩:∃H y,iM p S k=(H,y):=⟨_,_,rfl⟩;have hsu:=ycv hz e hf;have hHk:=BY p S k;have hy:=hYV k;have hys:=hsm k;rw[e]at hHk hy hys;dsimp only at hHk hy hys;refine Ib (I':=Wj Y H y M m [(11,vI f.number),(14,.s (.ptr 14 0)),(15,.s (.ptr 15 0))] [(14,some (.cells (xT f))),(15,some (.cells (Sp (zC f))))]) ?_ ?_
  ·rw[e];refine Ka J [] rfl ⟨bQ,bQ,bQ,⟨rfl,Sc ⟨?_,?_,?_,?_,?_,?_,?_,?_,?_,?_,?_,?_,?_,oO⟩⟩,⟨rfl,Sc ⟨?_,?_,?_,?_,?_,oO⟩⟩,oO⟩ ⟨Z,Z,Z,Z,Z,Z,⟨rfl,?_⟩,Fa⟩;all_goals exact Qb (by rw[<-oL];rfl)
  apply sX J;refine aB (ycC y (zC f) (by have:=hys.bA;omega)) ?_;repeat refine aR ?_
  have hgo:R6 y (zC f)=0->0<=zO y.bA f.aN/\(y.bA.getD (I0 y (zC f)) default).den≠0:=λhb=>by have h0:=(Yr hb).2.2.2.2.2.2;have:=(Ft hy (il h0).1).1;exact⟨h0,O⟩
  have hnp:=hys.aQ;have YP:=hy.nd;refine yds (r:=vI (Pf y (zC f) f.dN)) (λhb=>?_) ?_
  ·have hb:R6 y (zC f)=0:=by simpa[rL]using hb
   exact ycD y (zC f) f.dN hys O O (hgo hb).1 hy.nc (hgo hb).2
  repeat refine aR ?_
  refine Xa (aI (λh4=>?_) (λh4=>lb ?_))
  ·have h4:(R6 y (zC f)==0&&Pf y (zC f) f.dN==0)=true:=h4;rw[h4]at hsu;simp only[Ya,Dd]at h4;obtain⟨g1,g2⟩:=hgo h4.1;refine sX J (aB (ydz y (zC f) f.dN hys YP g1 hy.nc g2) ?_);refine eX J (ob dC ?_);refine ob (by rw[dK];show(H.length+1)*144<=_;omega) ?_;refine ob (λa c ha hc=>by match a,ha,c,hc with|0,_,0,_|0,_,1,_|0,_,2,_|0,_,3,_|0,_,4,_|0,_,5,_|0,_,6,_|0,_,7,_|0,_,8,_|0,_,9,_|0,_,10,_|0,_,11,_|0,_,12,_=>rfl) ?_;refine⟨(k+1,f.number),V6,by show S.length-(k+1)<S.length-k;omega,?_⟩;show aM _ _ _ (Wj Y (iM p S (k+1)).1 (iM p S (k+1)).2 M m [(11,vI f.number)] []);rw[hsu];refine Ka J [(100,110)] rfl ⟨bQ,bQ,⟨rfl,?_⟩,oO⟩ ⟨Z,Z,Z,Z,⟨rfl,Rc (cA _ _)⟩,Fa⟩;exact sd (el:=J0) (x:=f) λc hc=>by match c,hc with|0,_|1,_|2,_|3,_|4,_|5,_|6,_|7,_|8,_|9,_|10,_|11,_|12,_=>rfl
  have h4:(R6 y (zC f)==0&&Pf y (zC f) f.dN==0)=false:=h4;rw[h4]at hsu;refine⟨(k+1,f.number),V6,by show S.length-(k+1)<S.length-k;omega,?_⟩;show aM _ _ _ (Wj Y (iM p S (k+1)).1 (iM p S (k+1)).2 M m [(11,vI f.number)] []);rw[hsu];exact Ka J [] rfl Fa Fa
 ·have h2:¬(m:Int)<=M:=bF h2;obtain rfl:m=M+1:=O;have em:((M+1:Nat):Int)=(M:Int)+1:=O;rw[em]at hw;obtain rfl:=hw.done hS;have hHk:=BY p S S.length;generalize iM p S S.length=r at*;refine eX J (aD ?_);exact Pe ⟨Za (show DV.fU (bif r.1.isEmpty then 0 else r.1.length) 13 (nE r.1)=RN r.1 by rw[dK];rfl),⟨Ja _,Ja _,Ja _,Ja _,oO⟩,oO⟩
def Ff(g:bJ->Nat×List Room)(k:bJ)(v:Nat×List Room):bJ->Nat×List Room:=λk'=>if k'=k then v else g k'
def cn(g:bJ->Nat×List Room)(k:bJ)(v:Nat×List Room):Ff g k v k=v:=Na rfl
def Ym{g:bJ->Nat×List Room}{k k':bJ}{v:Nat×List Room}(h:k'≠k):Ff g k v k'=g k':=La h
def Gh(e:mF)(r:List mF)(k:bJ):B1 (e::r) k=bif k==e.1 then e.2.1 else B1 r k:=by
 have sh:∀(l:List mF) (i:Nat),(fP l k (i+1)).map (·.2)=(fP l k i).map (·.2):=by
  intro l;induction l with
  |nil=>intro i;rfl
  |cons x r ih=>
   intro i;rw[fP,fP]
   cases k==x.1 with
   |true=>rfl
   |false=>exact ih (i+1)
 unfold B1;rw[fP]
 cases k==e.1 with
 |true=>rfl
 |false=>
  have:=sh r 0;show(match fP r k (0+1)with|some (_,e)=>e.2.1|none=>(0,[]))=(match fP r k 0 with|some (_,e)=>e.2.1|none=>(0,[]))
  cases h1:fP r k (0+1) <;> cases h2:fP r k 0 <;> rw[h1,h2]at this <;> simp_all
def ybK{k:bJ}:∀{E:List mF} {i j:Nat} {e:mF},fP E k i=some (j,e)->∃a b,E=a++e::b/\j=i+a.length/\e.1=k/\∀x∈a,(k==x.1)=false
 |[],_,_,_,h=>by cases h
 |x::r,i,j,e,h=>by
  rw[fP]at h
  cases hk:(k==x.1)with
  |true=>rw[hk]at h;obtain⟨rfl,rfl⟩:=Cw (Vc h);exact⟨[],r,rfl,rfl,(eq_of_beq hk).symm,λy hy=>by cases hy⟩
  |false=>
   rw[hk]at h;obtain⟨a,b,rfl,hj,he,ha⟩:=ybK (E:=r) h;refine⟨x::a,b,rfl,by rw[hj,Pb];omega,he,λy hy=>?_⟩;rcases Bb.1 hy with rfl|hy
   ·exact hk
   exact ha y hy
def ybY{k:bJ}:∀{E:List mF} {i:Nat},fP E k i=none->∀x∈E,(k==x.1)=false
 |[],_,_,x,hx=>by cases hx
 |y::r,i,h,x,hx=>by
  rw[fP]at h
  cases hk:(k==y.1)with
  |true=>rw[hk]at h;cases h
  |false=>
   rw[hk]at h;rcases Bb.1 hx with rfl|hx
   ·exact hk
   exact ybY h x hx
def Cv{k:bJ}(b:List mF):∀(a:List mF),(∀x∈a,(k==x.1)=false)->B1 (a++b) k=B1 b k
 |[],_=>rfl
 |x::r,h=>by rw[Ke,Gh,h x (Fc),Va];exact Cv b r λy hy=>h y (Vb _ hy)
def ybx{k k':bJ}{x y:mF}(b:List mF)(hx:x.1=k)(hy:y.1=k)(hk:k'≠k):∀(a:List mF),B1 (a++x::b) k'=B1 (a++y::b) k'
 |[]=>by have h:(k'==k)=false:=Ih.2 hk;rw[Wg,Wg,Gh,Gh,hx,hy,h];rfl
 |z::r=>by rw[Ke,Ke,Gh,Gh,ybx b hx hy hk r]
def Bt(E:List mF)(k:bJ)(v:Nat×List Room):B1 (Zf E k v)=Ff (B1 E) k v:=by
 funext k';unfold Zf
 cases hf:fP E k 0 with
 |none=>
  have hn:=ybY hf;by_cases he:k'=k
  ·subst he;rw[cn];show B1 (E++ [(k',v,E.length)]) k'=v;rw[Cv _ _ hn,Gh,BEq.rfl];rfl
  rw[Ym he];show B1 (E++ [(k,v,E.length)]) k'=B1 E k';have:∀a:List mF,B1 (a++ [(k,v,E.length)]) k'=B1 a k':=by
   intro a;induction a with
   |nil=>rw[Wg,Gh,show(k'==k)=false from Ih.2 he];rfl
   |cons x r ih=>rw[Ke,Gh,Gh,ih]
  exact this E
 |some p=>
  obtain⟨i,e⟩:=p;obtain⟨a,b,rfl,hi,hek,ha⟩:=ybK hf;obtain rfl:i=a.length:=O;show B1 ((a++e::b).modify a.length λe=>(e.1,v,e.2.2)) k'=_;have hm:(a++e::b).modify a.length (λe=>(e.1,v,e.2.2))=a++(e.1,v,e.2.2)::b:=by
   clear hf ha hi;induction a with
   |nil=>rfl
   |cons x r ih=>simpa[Lv]using ih
  rw[hm];by_cases he:k'=k
  ·subst he;rw[cn,Cv _ _ ha,Gh,<-hek,BEq.rfl];rfl
  rw[Ym he];exact ybx (x:=(e.1,v,e.2.2)) (y:=e) b hek hek he a
def Zp(x y:Int):mm true x y=max x y:=by unfold mm;simp only;split <;> omega
def ydr{g:Ground}(h:dX g=0){b:fS}(hb:b∈g.cC):vN g.bK b=0:=by unfold dX at h;obtain⟨_,h⟩:=dU h;obtain⟨_,h⟩:=dF dC h;obtain⟨_,h⟩:=dF dC h;obtain⟨i,hi,rfl⟩:=Dl hb;have h2:=lQ h i (Oa _) O;unfold uC at h2;obtain⟨_,h2⟩:=dF dC h2;obtain⟨_,h2⟩:=dF dC h2;rw[aX hi]at h2;exact h2
def ydj{p:Proj}{m:Int}{i:Nat}{x:Part}(hv:PV p)(hx:AQ x):(bN p m i x).iZ=(x.mb-x.bot)*dH p:=by obtain⟨a1,a2⟩:=Js hv;have h1:=hx.lt;have h2:=hx.lo;have h3:=hx.hi;have h4:=pf (a:=x.mb-x.bot) (b:=dH p) O O;have h5:(x.mb-x.bot)*dH p<=40000*1000000:=Fj O a2 O dC;show aW (aW (x.mb-x.bot)*dH p)=_;rw[show aW (x.mb-x.bot)=x.mb-x.bot from aG O O,aG O O]
def ycU{p:Proj}(hv:PV p){i:Nat}(hi:i<p.aT.levels.length):P2 p i=30000\/(-20000<=P2 p i/\P2 p i<=20000):=by
 unfold P2;rw[ych _ _ _ hi];unfold L0
 cases hd:(UI p.chan (dP p.aT i)).2 with
 |false=>exact .inl rfl
 |true=>have h1:=ydh hv.val (RY hv.gv hi).1 hd;have h2:=hv.val.over;refine .inr ?_;show -20000<=aW _/\aW _<=20000;rw[aG O O];omega
def ycB{p:Proj}{m:Int}{i:Nat}{x:Part}(hv:PV p)(hi:i<p.aT.levels.length)(hx:AQ x):0<=(bN p m i x).gV/\(bN p m i x).gV<=(bN p m i x).iZ:=by
 obtain⟨a1,a2⟩:=Js hv;have h1:=hx.lt;have h2:=hx.lo;have h3:=hx.hi;rw[ydj hv hx];have h4:=pf (a:=x.mb-x.bot) (b:=dH p) O O;show 0<=(bif P2 p i !=30000 then aW (mm true 0 (aW (x.mb-mm true x.bot (P2 p i)))*dH p)else 0)/\(bif P2 p i !=30000 then aW (mm true 0 (aW (x.mb-mm true x.bot (P2 p i)))*dH p)else 0)<=_
 cases hl:(P2 p i !=30000)with
 |false=>exact⟨Kc _,h4⟩
 |true=>
  have hb:=ycU hv hi;have hl:P2 p i≠30000:=by simpa using hl
  show 0<=aW _/\aW _<=_;rw[Zp,Zp,aG (n:=x.mb-max x.bot (P2 p i)) O O];have q1:=pf (a:=max 0 (x.mb-max x.bot (P2 p i))) (b:=dH p) O O;have q2:=Si (a:=max 0 (x.mb-max x.bot (P2 p i))) (b:=x.mb-x.bot) (c:=dH p) O O;have q3:(x.mb-x.bot)*dH p<=40000*1000000:=Fj O a2 O dC;rw[aG O O];exact⟨q1,q2⟩
section
variable{l:List Fact}{f:Fact}(h0:f.kind=0)
include h0
end
def Uk(x:Int):Prop:=x=30000\/(-20000<=x/\x<=20000)
def Pm{n:Int}(h: -1000000<=n)(k:n<=1000000):aW n=n:=aG O O
def yb6{p:Proj}{Y:List Fact}(hS:Qg p Y)(hv:rj Y)(m:Int){i:Nat}(hi:i<p.aT.levels.length):Uk (fF p Y m i).1:=by
 have ha:=GD hv 0 m hi hS.shape;have hb:=GD hv 1 m hi hS.shape;have hc:=GD hv 2 m hi hS.shape;unfold fF;generalize lT Y 0 m i=a at ha;generalize lT Y 1 m i=b at hb;generalize lT Y 2 m i=c at hc;dsimp only
 cases h1:(a==30000)with
 |true=>exact hb
 |false=>
  have h1:a≠30000:=by simpa using h1
  cases h2:(b==30000)with
  |true=>exact ha
  |false=>
   have h2:b≠30000:=by simpa using h2
   cases decide (aW (mm true a b-mm false a b)<=p.agree)with
   |true=>show Uk (aW (aW (Int.tdiv (aW (aW (aW (a+b)+40000)+1)) 2)-20000));rw[Pm (n:=a+b) O O,Pm (n:=a+b+40000) O O,Pm (n:=a+b+40000+1) O O,Lh O,Pm (n:=(a+b+40000+1) / 2) O O,Pm O O];exact .inr O
   |false=>
    cases h3:(c==30000)with
    |true=>exact hc
    |false=>
     have h3:c≠30000:=by simpa using h3
     show Uk (X4 a b c);unfold X4;rw[Zp,pg,pg,Zp];exact .inr O
def Uu{p:Proj}{Y:List Fact}(hp:PV p)(hS:Qg p Y)(hv:rj Y){i:Nat}(hi:i<p.aT.levels.length):∀M,Uk (iL p Y M i)
 |0=>by
  rw[iL]
  cases h:((fF p Y ((0:Nat):Int) i).1==30000)with
  |true=>exact hp.gv.Zt _ (by rw[Gb,Ab hi];exact se _)
  |false=>exact yb6 hS hv _ hi
 |M+1=>by have h1:=Uu hp hS hv hi M;have h2:=yb6 hS hv ((M+1:Nat):Int) hi;rw[iL,pg];unfold Uk at*;omega
def ydq{p:Proj}(hv:PV p){i:Nat}(hi:i<p.aT.levels.length){a b:Int}(ha: -20000<=a/\a<=20000)(hb: -20000<=b/\b<=20000)(h:b<=a):
  (Td (Wd (dP p.aT i)) p.gr.cC p.gr.cC.length).1<p.gr.cC.length/\vP p.gr (dP p.aT i) a b=nL (p.gr.cC.getD (Td (Wd (dP p.aT i)) p.gr.cC p.gr.cC.length).1 default).bB a b (p.gr.cC.getD (Td (Wd (dP p.aT i)) p.gr.cC p.gr.cC.length).1 default).bB.length:=by
 have hg:=(RY hv.gv hi).1
 have he:FQ p.gr (dP p.aT i) a b=0:=by
  have e1:FN p.gr (dP p.aT i) [a,b]=0:=by unfold FN;rw[hv.gr,hg];have w1:=within_iff.2 ha;have w2:=within_iff.2 hb;simp[L2,w1,w2]
  unfold FQ;rw[e1,Je O];rfl
 have hbo:∀x∈p.gr.cC,fB (Gf x)=true:=λx hx=>by have h1:=ydr hv.gr hx;unfold vN at h1;obtain⟨h1,_⟩:=dF dC h1;show fB ⟨x.x,x.y⟩=true;simpa using h1
 rw[ycG hg hbo _ (db _)]
 refine⟨MS _ _ _ (EX hv.gr).1,?_⟩
 unfold vP
 rw[he]
 rfl
def ydI{p:Proj}(hv:PV p){i:Nat}(hi:i<p.aT.levels.length){a b:Int}(ha: -20000<=a/\a<=20000)(hb: -20000<=b/\b<=20000)(h:b<=a):
  aF prog 65 [T7 p.gr,pt (dP p.aT i),vI a,vI b] (iC (vP p.gr (dP p.aT i) a b)):=by
 obtain⟨h1,h2⟩:=ydq hv hi ha hb h
 rw[h2]
 have h3:=hv.aBZ _ (bP h1)
 exact ydl p.gr _ a b h1 (by have:=(EX hv.gr).2;omega) O
def Aj(p:Proj)(Y:List Fact)(k i:Nat):List Sa:=
 bif iL p Y k i==30000||decide (iL p Y (k+1) i>=iL p Y k i)then []else(vP p.gr (dP p.aT i) (iL p Y k i) (iL p Y (k+1) i)).map (bN p (k+1:Nat) i)
def ee(p:Proj)(Y:List Fact)(k n:Nat):List Sa:=(List.range n).flatMap (Aj p Y k)
def pu(p:Proj)(Y:List Fact)(k n:Nat):ee p Y k (n+1)=ee p Y k n++Aj p Y k n:=by unfold ee;rw[wk,Sv];simp
def Es{p:Proj}(hv:PV p)(Y:List Fact)(k:Nat):∀n,(ee p Y k n).length<=12*n
 |0=>db _
 |n+1=>by
  have h1:=Es hv Y k n;have h2:(Aj p Y k n).length<=12:=by
   unfold Aj
   cases iL p Y k n==30000||decide (iL p Y (k+1) n>=iL p Y k n)with
   |true=>exact Oa _
   |false=>rw[Va,Me];exact I6 hv
  rw[pu,Jc];omega
abbrev Xj(p:Proj)(Y:List Fact)(k:Nat)(out:List Sa)(r:List (Nat×AV))(b:List (Nat×Da jK)):St:=⟨[(1,cJ Y),(2,vI (k+1:Nat)),(3,.s (.ptr 3 0)),(7,.s (.ptr 7 0)),(8,.s (.ptr 8 0)),(9,.s (.ptr 9 0)),(10,vI (dH p)),(11,.s (.mo out.isEmpty 100))]++r,[(3,some (.cells (qH p))),(7,some (.cells (C3 p.aT (.d (b5 (lE p Y k)))))),(8,some (.cells (C3 p.aT (.d (b5 (lE p Y (k+1))))))),(9,some (.cells (kQ p))),(100,some (.b8 96 out.length 7 (eJ out)))]++b⟩
def ydB(p:Proj)(Y:List Fact)(k:Nat)(hp:PV p)(h:Qg p Y)(hv:rj Y)(hk:k+1<=24):aF prog 31 [oR p,cJ Y,vI (k+1:Nat)] (iD (ee p Y k p.aT.levels.length)):=by
 obtain⟨hn0,hn1⟩:=h.n;have hL0:aF prog 63 [oR p,cJ Y,vI (aW (((k+1:Nat):Int)-1))] (rK (sK p Y k)):=by rw[show aW (((k+1:Nat):Int)-1)=((k:Nat):Int) by rw[aG O O];omega];exact aEY p Y k h hv O
 have hL1:=aEY p Y (k+1) h hv hk;refine eW func31 rfl rfl call31 rfl rfl (λR J=>?_);refine sX J (sX J ?_);refine aB hL0 (aB hL1 ?_);refine aD (sX J ?_);refine aB (ybU p.chan p.aT p.chan.over hp.val hp.gv) (sX J ?_);refine sX J (Qa (sX J ?_));refine Wa (pb (λi:Nat=>Xj p Y k (ee p Y k i) [(12,vI i)] []) (λi=>i<=p.aT.levels.length) (λi=>p.aT.levels.length-i) 0 (Oa _) (Ka J [(100,1000)] rfl ⟨bQ,bQ,bQ,bQ,⟨rfl,rfl⟩,oO⟩ ⟨Z,Z,Z,Z,Z,Z,Z,⟨rfl,Nd rfl⟩,Fa⟩) ?_);intro i hi;refine Qa (sX J ?_);refine Xa (aI (λh1=>lb ?_) (λh1=>cc ?_))
 ·have h1:(i:Int)<(lE p Y k).length:=bG h1;rw[P0]at h1;have bC:i<p.aT.levels.length:=O;have hsu:=pu p Y k i;have hle:=Es hp Y k i;have l0:=Uu hp h hv bC k;have l1:=Uu hp h hv bC (k+1);unfold Uk at l0 l1;have hmm:iL p Y (k+1) i<=iL p Y k i:=by show mm false _ _<=_;rw[pg];omega
  refine mc (I':=Xj p Y k (ee p Y k (i+1)) [(12,vI i)] []) ?_ ?_
  ·refine Wa (sX J ?_);refine oi (show 0<=(i:Int)/\(i:Int)<(lE p Y k).length by rw[P0];omega) ?_;refine oi (show 0<=(i:Int)/\(i:Int)<(lE p Y (k+1)).length by rw[P0];omega) ?_;refine aD (Ib (I':=Xj p Y k (ee p Y k i) [(12,vI i),(13,vI (iL p Y k i)),(14,vI (iL p Y (k+1) i))] []) (Ka J [] rfl Fa ⟨Z,Z,Z,Z,Z,Z,Z,Z,Z,⟨rfl,Ra (uS bC)⟩,⟨rfl,Ra (uS bC)⟩,oO⟩) ?_);refine Qa (sX J ?_);repeat refine aR ?_
   refine Xa (aI (λh2=>cc ?_) (λh2=>lb ?_))
   ·have h2:((iL p Y k i==30000||iL p Y (k+1) i==30000)||decide (iL p Y (k+1) i>=iL p Y k i))=true:=h2;have h3:(iL p Y k i==30000||decide (iL p Y (k+1) i>=iL p Y k i))=true:=by simp only[Uf,lc,Dd]at h2⊢;omega
    have e:ee p Y k (i+1)=ee p Y k i:=by rw[hsu];unfold Aj;rw[h3];exact dd _
    rw[e];exact⟨rfl,Ka J [] rfl Fa Fa⟩
   have h2:((iL p Y k i==30000||iL p Y (k+1) i==30000)||decide (iL p Y (k+1) i>=iL p Y k i))=false:=h2;have h3:(iL p Y k i==30000||decide (iL p Y (k+1) i>=iL p Y k i))=false:=by simp only[sc]at h2⊢;exact⟨h2.1.1,h2.2⟩
   simp only[sc,Ih,ne_eq,ic]at h2;have hC:=ydI hp bC (a:=iL p Y k i) (b:=iL p Y (k+1) i) O O hmm;have hl12:=I6 (c:=dP p.aT i) (hi:=iL p Y k i) (lo:=iL p Y (k+1) i) hp;have e:ee p Y k (i+1)=ee p Y k i++(vP p.gr (dP p.aT i) (iL p Y k i) (iL p Y (k+1) i)).map (bN p (k+1:Nat) i):=by rw[hsu];unfold Aj;rw[h3];rfl
   rw[e];generalize vP p.gr (dP p.aT i) (iL p Y k i) (iL p Y (k+1) i)=xs at hC hl12;generalize ee p Y k i=out at hle;apply sX J;refine aB (yco p.aT i (by have:=hp.gv.dO;omega)) ?_;refine aB hC (aD ?_);refine sX J (Wa ?_);refine pb (λj:Nat=>Xj p Y k (out++(xs.take j).map (bN p (k+1:Nat) i)) [(12,vI i),(15,iC xs),(16,vI j)] []) (λj=>j<=xs.length) (λj=>xs.length-j) 0 (Oa _) ?_ ?_
   ·exact Ka J [] rfl ⟨bQ,bQ,bQ,bQ,⟨rfl,Zb (by rw[mw,tw,dd];rfl)⟩,oO⟩ ⟨Z,Z,Z,Z,Z,Z,Z,⟨rfl,Qb (by rw[mw,tw,dd];rfl)⟩,Fa⟩
   intro j hj;refine Qa (sX J ?_);refine Xa (aI (λh4=>lb ?_) (λh4=>cc ?_))
   ·have h4:(j:Int)<xs.length:=bG h4;have qR:j<xs.length:=O;have HW:(out++(xs.take j).map (bN p (k+1:Nat) i)).length<=12*i+12:=by rw[Jc,Me,Le];omega
    have eS:out++(xs.take (j+1)).map (bN p (k+1:Nat) i)=(out++(xs.take j).map (bN p (k+1:Nat) i))++ [bN p (k+1:Nat) i (xs.getD j default)]:=by rw[Bd,Ab qR,aX qR,Sh,Ee];rfl
    generalize out++(xs.take j).map (bN p (k+1:Nat) i)=ot at HW eS;refine Qa (Wa ?_);refine sX J (oi Ha ?_);refine oi Ha (oi Ha ?_);refine aD (mc (I':=Xj p Y k ot [(12,vI i),(15,iC xs),(16,vI j),(17,.s (.ptr 17 0))] [(17,some (.cells (Ag (bN p (k+1:Nat) i (xs.getD j default)))))]) ?_ ?_)
    ·apply sX J;refine oi (show 0<=(i:Int)/\(i:Int)<(mM p.chan p.aT p.chan.over).levels.length by rw[E6];omega) ?_;have hvol:aW (dH p*aW ((xs.getD j default).mb-(xs.getD j default).bot))=(bN p (k+1:Nat) i (xs.getD j default)).iZ:=by show _=aW (aW ((xs.getD j default).mb-(xs.getD j default).bot)*dH p);rw[Il]
     refine sX J (Xa ?_);refine aI (λh5=>?_) (λh5=>lb ?_)
     ·have h5:(P2 p i !=30000)=true:=h5;have hpd:aW (dH p*mm true 0 (aW ((xs.getD j default).mb-mm true (xs.getD j default).bot (P2 p i))))=(bN p (k+1:Nat) i (xs.getD j default)).gV:=by show _=bif P2 p i !=30000 then _ else _;rw[h5,Il];rfl
      refine eX J (oi Ha ?_);exact oi Ha (aD ⟨rfl,Ka J [] rfl ⟨bQ,bQ,bQ,bQ,bQ,⟨rfl,Sc ⟨Ta,Ta,Ta,Ra hvol,Ra hpd,Ta,Ta,oO⟩⟩,oO⟩ Fa⟩)
     have h5:(P2 p i !=30000)=false:=h5;have hpd:(0:Int)=(bN p (k+1:Nat) i (xs.getD j default)).gV:=by show _=bif P2 p i !=30000 then _ else _;rw[h5];rfl
     exact⟨rfl,Ka J [] rfl ⟨bQ,bQ,bQ,bQ,bQ,⟨rfl,Sc ⟨Ta,Ta,Ta,Ra hvol,Ra hpd,Ta,Ta,oO⟩⟩,oO⟩ Fa⟩
    refine eX J (ob dC ?_);refine ob (by rw[dK];show(ot.length+1)*72<=_;omega) ?_;refine ob (nJ λc hc=>by match c,hc with|0,_|1,_|2,_|3,_|4,_|5,_|6,_=>rfl) (eX J ?_);refine⟨j+1,O,O,?_⟩;rw[eS];refine Ka J [(100,134)] rfl ⟨bQ,bQ,bQ,bQ,⟨rfl,?_⟩,oO⟩ ⟨Z,Z,Z,Z,Z,Z,Z,⟨rfl,Rc (cA _ _)⟩,Fa⟩;refine sd (el:=Pk) (x:=bN p (k+1:Nat) i (xs.getD j default)) (λc hc=>?_);have hc:c<7:=hc
    match c,hc with|0,_|1,_|2,_|3,_|4,_|5,_|6,_=>rfl
   have h4:¬(j:Int)<xs.length:=bF h4;obtain rfl:j=xs.length:=O;exact⟨rfl,Ka J [] rfl ⟨bQ,bQ,bQ,bQ,⟨rfl,Zb (by rw[Ic];rfl)⟩,oO⟩ ⟨Z,Z,Z,Z,Z,Z,Z,⟨rfl,Qb (by rw[Ic];rfl)⟩,Fa⟩⟩
  exact eX J ⟨i+1,O,O,Ka J [] rfl Fa Fa⟩
 have h1:¬(i:Int)<(lE p Y k).length:=bF h1;rw[P0]at h1;obtain rfl:i=p.aT.levels.length:=O;exact eX J gj
end Go.Pj
namespace Go.Ax
def AW.Zj{P:Ba}{R:Cx}{N:Nat}{I:St}{c:Code}{K:Exit->St->Prop}(zs:List Nat)(J:R.ref=[])(h:AW P R N c (CB zs I) K):AW P R N c I K:=λM V a w i=>by obtain⟨M',i',g⟩:=i.CB J zs;exact lg (h M' V a w i') λ_ _ _ ⟨s,M2,ia,k,r,g2,kp⟩=>⟨s,M2,ia,k,r,g.trans g2,kp⟩
end Go.Ax
namespace Go.Pj
open Go Go.Ax Go.Ch Go.Proofs Go.Proofs.Tryz
def Ud(H:List Fact)(m:Int)(n:Nat):List Fact:=(H.take n).filter λf=>f.month==m
def ycy{H:List Fact}{m:Int}{n:Nat}(h:n<H.length):Ud H m (n+1)=Ud H m n++bif (H.getD n default).month==m then [H.getD n default]else []:=by
 unfold Ud;rw[Bd,Ab h,aX h,rk]
 cases hh:(H[n]).month==m <;> simp[hh]
abbrev Ie:=List Int×Sa×List Sa
def Pc(s:Ie)(k:Nat):Int:=mm false (s.1.getD k 0) s.2.1.iZ
def Dh(ld:List Fact)(s:Ie)(k:Nat):Ie:=
 bif !bE (ld.getD k default).aN s.2.1.aN||Pc s k==0 then s
 else(s.1.set k (aW (s.1.getD k 0-Pc s k)),Od s.2.1 (Pc s k),s.2.2++ [Bg s.2.1 (Pc s k) (ld.getD k default)])
def pc(ld:List Fact)(s:Ie)(n:Nat):Ie:=(List.range n).foldl (Dh ld) s
def ln(ld:List Fact)(s:Ie)(n:Nat):pc ld s (n+1)=Dh ld (pc ld s n) n:=by unfold pc;rw[wk,Cj];rfl
structure Sg(n:Nat)(s:Ie):Prop where
 len:s.1.length=n
 left:∀i,i<n->0<=s.1.getD i 0/\s.1.getD i 0<=1000000000000000
 iZ:0<=s.2.1.iZ/\s.2.1.iZ<=1000000000000000
def tu{n:Nat}{s:Ie}(h:Sg n s){k:Nat}(hk:k<n):0<=Pc s k/\Pc s k<=s.1.getD k 0/\Pc s k<=s.2.1.iZ:=by have h1:=(h.left k hk).1;have h2:=h.iZ.1;unfold Pc;rw[pg];omega
def Sg.step{n:Nat}{s:Ie}(h:Sg n s)(ld:List Fact){k:Nat}(hk:k<n):Sg n (Dh ld s k):=by
 obtain⟨h1,h2,h3⟩:=tu h hk;have h4:=h.left k hk;have h5:=h.iZ;unfold Dh
 cases !bE (ld.getD k default).aN s.2.1.aN||Pc s k==0 with
 |true=>exact h
 |false=>
  refine⟨by show(s.1.set k _).length=n;rw[An];exact h.len,λi hi=>?_,?_⟩
  ·show 0<=(s.1.set k _).getD i 0/\(s.1.set k _).getD i 0<=_;rw[aG O O,Gb,List.getElem?_set];by_cases e:k=i
   ·rw[Na e,Na (by have:=h.len;omega)];show 0<=s.1.getD k 0-Pc s k/\s.1.getD k 0-Pc s k<=_;omega
   rw[La e,<-List.getD_eq_getElem?_getD];exact h.left i hi
  show 0<=aW (s.2.1.iZ-Pc s k)/\aW (s.2.1.iZ-Pc s k)<=_;rw[aG O O];omega
def Sg.all{n:Nat}{s:Ie}(h:Sg n s)(ld:List Fact):∀k,k<=n->Sg n (pc ld s k)
 |0,_=>h
 |k+1,hk=>by rw[ln];exact(Sg.all h ld k O).step ld O
def yc6{n:Nat}{s:Ie}(h:Sg n s)(ld:List Fact){k:Nat}(hk:k<n)(hv:s.2.1.iZ=0):Dh ld s k=s:=by obtain⟨h1,_,h3⟩:=tu h hk;unfold Dh;rw[show(Pc s k==0)=true by rw[Dd];omega,Ty];rfl
def ybP{n:Nat}{s:Ie}(h:Sg n s)(ld:List Fact){k:Nat}(hv:(pc ld s k).2.1.iZ=0):∀d,k+d<=n->pc ld s (k+d)=pc ld s k
 |0,_=>rfl
 |d+1,hd=>by have ih:=ybP h ld hv d O;rw[<-Nat.add_assoc,ln,ih];have h2:=h.all ld k O;exact yc6 h2 ld O hv
def Bu(ld:List Fact)(s:Ie):∀k,(pc ld s k).2.2.length<=s.2.2.length+k
 |0=>db _
 |k+1=>by
  have ih:=Bu ld s k;rw[ln];unfold Dh
  cases !bE (ld.getD k default).aN (pc ld s k).2.1.aN||Pc (pc ld s k) k==0 with
  |true=>show(pc ld s k).2.2.length<=_;omega
  |false=>show((pc ld s k).2.2++ [_]).length<=_;rw[Jc,Kq];omega
def Hf(ld:List Fact)(s:List Int×List Sa)(x:Sa):List Int×List Sa:=
 ((pc ld (s.1,x,s.2) ld.length).1,bif decide ((pc ld (s.1,x,s.2) ld.length).2.1.iZ>0)then(pc ld (s.1,x,s.2) ld.length).2.2++ [(pc ld (s.1,x,s.2) ld.length).2.1]else(pc ld (s.1,x,s.2) ld.length).2.2)
def Dg(ld:List Fact)(xs:List Sa)(n:Nat):List Int×List Sa:=(xs.take n).foldl (Hf ld) (ld.map Fact.aT,[])
def ybz{ld:List Fact}{xs:List Sa}{n:Nat}(h:n<xs.length):Dg ld xs (n+1)=Hf ld (Dg ld xs n) (xs.getD n default):=by unfold Dg;rw[Bd,Ab h,aX h,Cj];rfl
structure Hi(n:Nat)(s:List Int×List Sa)(m:Nat):Prop where
 len:s.1.length=n
 left:∀i,i<n->0<=s.1.getD i 0/\s.1.getD i 0<=1000000000000000
 out:s.2.length<=m
def Hi.sp{n:Nat}{s:List Int×List Sa}{m:Nat}(h:Hi n s m){x:Sa}(hx:0<=x.iZ/\x.iZ<=1000000000000000):Sg n (s.1,x,s.2):=⟨h.len,h.left,hx⟩
def Hi.step{ld:List Fact}{s:List Int×List Sa}{m:Nat}(h:Hi ld.length s m){x:Sa}(hx:0<=x.iZ/\x.iZ<=1000000000000000):Hi ld.length (Hf ld s x) (m+(ld.length+1)):=by
 have h1:=(h.sp hx).all ld ld.length (db _);have h2:=Bu ld (s.1,x,s.2) ld.length;have h3:=h.out;have h2:(pc ld (s.1,x,s.2) ld.length).2.2.length<=s.2.length+ld.length:=h2;refine⟨h1.len,h1.left,?_⟩;unfold Hf
 cases decide ((pc ld (s.1,x,s.2) ld.length).2.1.iZ>0)with
 |true=>show(_++ [_]).length<=_;rw[Jc,Kq];omega
 |false=>show(pc ld (s.1,x,s.2) ld.length).2.2.length<=_;omega
def Hi.all{ld:List Fact}{xs:List Sa}(hb:∀f∈ld,0<=f.aT/\f.aT<=1000000000000000)(hx:∀x∈xs,0<=x.iZ/\x.iZ<=1000000000000000):∀n,n<=xs.length->Hi ld.length (Dg ld xs n) (n*(ld.length+1))
 |0,_=>by refine⟨by show(ld.map Fact.aT).length=_;rw[Me],λi hi=>?_,Oa _⟩;show 0<=(ld.map Fact.aT).getD i 0/\(ld.map Fact.aT).getD i 0<=_;rw[Gb,de,Ab hi];exact hb _ (se hi)
 |n+1,hn=>by rw[ybz O,Qd,Nat.one_mul];exact(Hi.all hb hx n O).step (hx _ (bP O))
def Ku(ld:List Fact)(i a:Nat):Int:=if a<i then(ld.getD a default).aT else 0
abbrev Ii(ld:List Fact)(xs:List Sa)(left:List Int)(out:List Sa)(r:List (Nat×AV))(b:List (Nat×Da jK)):St:=⟨[(9,cJ ld),(11,.s (.own 600)),(13,.s (.mo out.isEmpty 100)),(14,iD xs)]++r,[(600,some (.row 3 ld.length 1 (cP left))),(100,some (.b8 96 out.length 7 (eJ out)))]++b⟩
def ydp(p:Proj)(Y H:List Fact)(y:gK)(xs:List Sa)(M:Nat)
  (hH:aF prog 26 [oR p,cJ Y,vI M] (.t [.s (.d (RN H)),.g (uH y)]))
  (hP:aF prog 31 [oR p,cJ Y,vI M] (iD xs)) (hl:H.length<=200) (hxl:xs.length<=1200)
  (hb:∀f∈H,0<=f.aT/\f.aT<=1000000000000000) (hx:∀x∈xs,0<=x.iZ/\x.iZ<=1000000000000000):
  aF prog 13 [oR p,cJ Y,vI M] (iD (Dg (Ud H M H.length) xs xs.length).2):=by
 have TW:∀n,(Ud H M n).length<=200:=λn=>by have h1:=Vg (λf:Fact=>f.month==(M:Int)) (H.take n);rw[Le]at h1;unfold Ud;omega
 have hlb:∀f∈Ud H M H.length,0<=f.aT/\f.aT<=1000000000000000:=λf hf=>by unfold Ud at hf;rw[Ic]at hf;exact hb f (Yd.1 hf).1
 refine eW func13 rfl rfl call13 rfl rfl (λR J=>?_)
 apply sX J
 apply sX J
 apply aB hH
 apply sX J
 refine mc (I':=⟨[(1,cJ Y),(2,vI M),(3,.s (.ptr 3 0)),(9,.s (.mo (Ud H M H.length).isEmpty 100))],[(3,some (.cells (qH p))),(100,some (.b8 69 (Ud H M H.length).length 13 (nE (Ud H M H.length))))]⟩) ?_ ?_
 ·refine sX J (Wa ?_);refine pb (λi:Nat=>⟨[(1,cJ Y),(2,vI M),(3,.s (.ptr 3 0)),(7,cJ H),(9,.s (.mo (Ud H M i).isEmpty 100)),(10,vI i)],[(3,some (.cells (qH p))),(100,some (.b8 69 (Ud H M i).length 13 (nE (Ud H M i))))]⟩) (λi=>i<=H.length) (λi=>H.length-i) 0 (Oa _) (Ka J [(100,1000)] rfl ⟨bQ,⟨rfl,rfl⟩,oO⟩ ⟨Z,Z,Z,Z,⟨rfl,Nd rfl⟩,Fa⟩) ?_;intro i hi;refine Qa (sX J ?_);refine Xa (aI (λh1=>lb ?_) (λh1=>cc ?_))
  ·have h1:(i:Int)<H.length:=bG h1;have bC:i<H.length:=O;have hsu:=ycy (m:=M) bC;have hle:=TW i;refine Qa (Wa (sX J ?_));refine oi Ha (Xa ?_);refine aI (λh2=>?_) (λh2=>lb ?_)
   ·have h2:((H.getD i default).month==(M:Int))=true:=h2;rw[h2,Ma]at hsu;refine eX J (oi Ha ?_);apply ob dC;refine ob (by rw[dK];show((Ud H M i).length+1)*144<=_;omega) ?_;refine ob (nJ λc hc=>by match c,hc with|0,_|1,_|2,_|3,_|4,_|5,_|6,_|7,_|8,_|9,_|10,_|11,_|12,_=>rfl) (eX J ?_);refine⟨i+1,O,O,?_⟩;rw[hsu];refine Ka J [(100,46)] rfl ⟨bQ,⟨rfl,?_⟩,oO⟩ ⟨Z,Z,Z,Z,⟨rfl,Rc (cA _ _)⟩,Fa⟩;refine sd (el:=J0) (x:=H.getD i default) (λc hc=>?_);have hc:c<13:=hc
    match c,hc with|0,_|1,_|2,_|3,_|4,_|5,_|6,_|7,_|8,_|9,_|10,_|11,_|12,_=>rfl
   have h2:((H.getD i default).month==(M:Int))=false:=h2;rw[h2,Va,dd]at hsu;refine eX J ⟨i+1,O,O,?_⟩;rw[hsu];exact Ka J [] rfl Fa Fa
  have h1:¬(i:Int)<H.length:=bF h1;obtain rfl:i=H.length:=O;exact⟨rfl,Ka J [] rfl Fa Fa⟩
 have hl2:=TW H.length
 generalize Ud H M H.length=ld at hl2 hlb
 refine AW.Zj [100] J ?_
 refine Ib (I':=⟨[(1,cJ Y),(2,vI M),(3,.s (.ptr 3 0)),(9,cJ ld)],[(3,some (.cells (qH p)))]⟩) ?_ ?_
 ·refine Ka J [] rfl Fa ⟨Z,Z,Z,⟨rfl,?_⟩,oO⟩;exact Qb (show AV.s (SV.d (DV.fU (bif ld.isEmpty then 0 else ld.length) 13 (nE ld)))=cJ ld by rw[dK];rfl)
 apply sX J
 refine ob (show(0:Int)<=(ld.length:Int) by omega) ?_
 refine ob (Kc _) ?_
 refine ob (show(8:Int)*(ld.length:Int)<=281474976710656 by omega) ?_
 refine mc (I':=⟨[(1,cJ Y),(2,vI M),(3,.s (.ptr 3 0)),(9,cJ ld),(11,.s (.own 600))],[(3,some (.cells (qH p))),(600,some (.row 3 ld.length 1 (cP (ld.map Fact.aT))))]⟩) ?_ ?_
 ·refine sX J (Wa ?_);refine pb (λi:Nat=>⟨[(1,cJ Y),(2,vI M),(3,.s (.ptr 3 0)),(9,cJ ld),(11,.s (.own 600)),(12,vI i)],[(3,some (.cells (qH p))),(600,some (.row 3 ld.length 1 (λa _=>dI (Ku ld i a))))]⟩) (λi=>i<=ld.length) (λi=>ld.length-i) 0 (Oa _) ?_ ?_
  ·refine Ka J [(600,49)] rfl ⟨bQ,⟨rfl,Wb (Ue _) λa c ha hc=>Za ?_⟩,oO⟩ Fa;obtain rfl:c=0:=by have hc:c<1:=hc;omega
   rfl
  intro i hi;refine Qa (sX J ?_);refine Xa (aI (λh1=>lb ?_) (λh1=>cc ?_))
  ·have h1:(i:Int)<ld.length:=bG h1;have bC:i<ld.length:=O;refine Qa (Wa (eX J ?_));refine oi Ha (oi Ha ?_);refine ob (show((i:Nat):Int).toNat<ld.length by omega) (eX J ?_);refine⟨i+1,O,O,?_⟩;refine Ka J [] rfl ⟨bQ,⟨rfl,Wb rfl λa c ha hc=>Za ?_⟩,oO⟩ Fa;obtain rfl:c=0:=by have hc:c<1:=hc;omega
   show eT (λa _=>dI (Ku ld i a)) i 0 [.d (dI (ld.getD i default).aT)] a 0=dI (Ku ld (i+1) a);by_cases h4:a=i
   ·subst h4;rw[oP];show _=dI (if a<a+1 then(ld.getD a default).aT else 0);rw[Na (Qh a)]
   rw[tG h4];show dI (if a<i then(ld.getD a default).aT else 0)=dI (if a<i+1 then(ld.getD a default).aT else 0);by_cases h5:a<i
   ·rw[Na h5,Na O]
   rw[La h5,La O]
  have h1:¬(i:Int)<ld.length:=bF h1;obtain rfl:i=ld.length:=O;refine⟨rfl,Ka J [] rfl ⟨bQ,⟨rfl,Wb rfl λa c ha hc=>Za ?_⟩,oO⟩ Fa⟩;show dI (if a<ld.length then(ld.getD a default).aT else 0)=dI ((ld.map Fact.aT).getD a 0);have ha:a<ld.length:=ha;rw[Na ha,aX ha,Gb,de,Ab ha];rfl
 apply sX J
 apply sX J
 apply aB hP
 refine Qa (sX J ?_)
 apply Wa
 refine pb (λi:Nat=>Ii ld xs (Dg ld xs i).1 (Dg ld xs i).2 [(15,vI i)] []) (λi=>i<=xs.length) (λi=>xs.length-i) 0 (Oa _) ?_ ?_
 ·exact Ka J [(100,1000)] rfl ⟨bQ,⟨rfl,rfl⟩,oO⟩ ⟨Z,Z,⟨rfl,Nd rfl⟩,Fa⟩
 intro i hi
 have hI:=Hi.all hlb hx i hi
 refine Qa (sX J ?_)
 apply Xa
 refine aI (λh1=>lb ?_) (λh1=>cc ?_)
 ·have h1:(i:Int)<xs.length:=bG h1;have bC:i<xs.length:=O;have hsu:=ybz (ld:=ld) bC;have hm:i*(ld.length+1)<=1200*201:=Nat.mul_le_mul O O;have hxi:=hx _ (bP bC);refine mc (I':=Ii ld xs (Dg ld xs (i+1)).1 (Dg ld xs (i+1)).2 [(15,vI i)] []) ?_ ?_
  ·rw[hsu];unfold Hf;have hsp:=hI.sp hxi;have aCF:=hI.out;generalize Dg ld xs i=rr at hsp aCF;obtain⟨left0,out0⟩:=rr;dsimp only at hsp aCF⊢;generalize hxe:xs.getD i default=x at hsp;refine Wa (sX J ?_);apply oi Ha;refine Ib (I':=Ii ld xs ((left0,x,out0):Ie).1 ((left0,x,out0):Ie).2.2 [(15,vI i),(16,.s (.ptr 16 0))] [(16,some (.cells (Ag ((left0,x,out0):Ie).2.1)))]) (Ka J [] rfl ⟨bQ,bQ,⟨rfl,Zb (by rw[<-hxe];rfl)⟩,oO⟩ Fa) ?_;have hso:=Bu ld (left0,x,out0);have aCF:((left0,x,out0):Ie).2.2.length<=i*(ld.length+1):=aCF;generalize ((left0,x,out0):Ie)=s0 at hsp hso aCF⊢;refine mc (I':=Ii ld xs (pc ld s0 ld.length).1 (pc ld s0 ld.length).2.2 [(15,vI i),(16,.s (.ptr 16 0))] [(16,some (.cells (Ag (pc ld s0 ld.length).2.1)))]) ?_ ?_
   ·refine sX J (Wa ?_);refine pb (λk:Nat=>Ii ld xs (pc ld s0 k).1 (pc ld s0 k).2.2 [(15,vI i),(16,.s (.ptr 16 0)),(17,vI k)] [(16,some (.cells (Ag (pc ld s0 k).2.1)))]) (λk=>k<=ld.length) (λk=>ld.length-k) 0 (Oa _) (Ka J [] rfl Fa Fa) ?_;intro k hk;have hS:=hsp.all ld k hk;refine Qa (sX J ?_);repeat refine aR ?_
    refine Xa (aI (λh2=>lb ?_) (λh2=>cc ?_))
    ·have h2:(decide ((k:Int)<ld.length)&&decide ((pc ld s0 k).2.1.iZ>0))=true:=h2;simp only[Ya,lc]at h2;have y5:k<ld.length:=O;refine mc (I':=Ii ld xs (pc ld s0 (k+1)).1 (pc ld s0 (k+1)).2.2 [(15,vI i),(16,.s (.ptr 16 0)),(17,vI k)] [(16,some (.cells (Ag (pc ld s0 (k+1)).2.1)))]) ?_ ?_
     ·rw[ln];have hso:=hso k;generalize pc ld s0 k=s at hS hso⊢;have hN:=tu hS y5;have hlf:=hS.left k y5;have hlen:=hS.len;refine Wa (sX J ?_);refine oi Ha (oi (show((k:Nat):Int).toNat<ld.length by omega) ?_);refine aD (Ib (I':=Ii ld xs s.1 s.2.2 [(15,vI i),(16,.s (.ptr 16 0)),(17,vI k),(18,vI (Pc s k))] [(16,some (.cells (Ag s.2.1)))]) (Ka J [] rfl Fa Fa) ?_);refine Qa (sX J ?_);apply oi Ha;repeat refine aR ?_
      refine aD (Xa ?_);refine aI (λh3=>cc ?_) (λh3=>lb ?_)
      ·have h3:(!bE (ld.getD k default).aN s.2.1.aN||Pc s k==0)=true:=h3;unfold Dh;rw[h3];exact⟨rfl,Ka J [] rfl Fa Fa⟩
      have h3:(!bE (ld.getD k default).aN s.2.1.aN||Pc s k==0)=false:=h3;unfold Dh;rw[h3];dsimp only [cond_false];refine sX J (sX J ?_);refine oi Ha (aB (ydC s.2.1 (Pc s k) (ld.getD k default)) ?_);refine aD (Ib (I':=Ii ld xs s.1 s.2.2 [(15,vI i),(16,.s (.ptr 16 0)),(17,vI k),(18,vI (Pc s k)),(19,.s (.ptr 19 0))] [(16,some (.cells (Ag (Od s.2.1 (Pc s k))))),(19,some (.cells (Ag (Bg s.2.1 (Pc s k) (ld.getD k default)))))]) (Ka J [] rfl Fa Fa) ?_);refine sX J (oi Ha ?_);refine oi (show((k:Nat):Int).toNat<ld.length by omega) (oi Ha ?_);refine ob (show((k:Nat):Int).toNat<ld.length by omega) (Ib (I':=Ii ld xs (s.1.set k (aW (s.1.getD k 0-Pc s k))) s.2.2 [(15,vI i),(16,.s (.ptr 16 0)),(17,vI k),(19,.s (.ptr 19 0))] [(16,some (.cells (Ag (Od s.2.1 (Pc s k))))),(19,some (.cells (Ag (Bg s.2.1 (Pc s k) (ld.getD k default)))))]) (Ka J [] rfl ⟨⟨rfl,Wb rfl λa c ha hc=>Za ?_⟩,Fa⟩ Fa) ?_)
      ·obtain rfl:c=0:=by have hc:c<1:=hc;omega
       show eT (cP s.1) k 0 [.d (dI (aW (s.1.getD k 0-Pc s k)))] a 0=dI ((s.1.set k (aW (s.1.getD k 0-Pc s k))).getD a 0);have ha:a<ld.length:=ha;rw[Gb (l:=s.1.set _ _),List.getElem?_set];by_cases h4:a=k
       ·subst h4;rw[oP,Na rfl,Na O];rfl
       rw[tG h4,La (λe=>h4 e.symm),<-List.getD_eq_getElem?_getD];rfl
      refine eX J (ob dC ?_);refine ob (by rw[dK];show(s.2.2.length+1)*72<=_;omega) ?_;refine ob (nJ λc hc=>by match c,hc with|0,_|1,_|2,_|3,_|4,_|5,_|6,_=>rfl) ⟨rfl,Ka J [(100,130)] rfl ⟨bQ,⟨rfl,?_⟩,Fa⟩ ⟨Z,Z,⟨rfl,Rc (cA _ _)⟩,Fa⟩⟩;refine sd (el:=Pk) (x:=Bg s.2.1 (Pc s k) (ld.getD k default)) (λc hc=>?_);have hc:c<7:=hc
      match c,hc with|0,_|1,_|2,_|3,_|4,_|5,_|6,_=>rfl
     exact eX J ⟨k+1,O,O,Ka J [] rfl Fa Fa⟩
    have h2:(decide ((k:Int)<ld.length)&&decide ((pc ld s0 k).2.1.iZ>0))=false:=h2;have e:pc ld s0 ld.length=pc ld s0 k:=by
     by_cases ND:k=ld.length
     ·rw[ND]
     have h3:(pc ld s0 k).2.1.iZ=0:=by have:=hS.iZ;rw[cd O,Pq,ic]at h2;omega
     have h4:=ybP hsp ld h3 (ld.length-k) O;rw[Nat.add_sub_cancel' hk]at h4;exact h4
    rw[e];exact⟨rfl,Ka J [] rfl Fa Fa⟩
   have hse:=hso ld.length;generalize pc ld s0 ld.length=s at hse⊢;refine sX J (Xa ?_);refine aI (λh2=>?_) (λh2=>lb ?_)
   ·have h2:decide (s.2.1.iZ>0)=true:=h2;rw[h2,Ma];refine eX J (ob dC ?_);refine ob (by rw[dK];show(s.2.2.length+1)*72<=_;omega) ?_;refine ob (nJ λc hc=>by match c,hc with|0,_|1,_|2,_|3,_|4,_|5,_|6,_=>rfl) ⟨rfl,Ka J [(100,137)] rfl ⟨bQ,⟨rfl,?_⟩,oO⟩ ⟨Z,Z,⟨rfl,Rc (cA _ _)⟩,Fa⟩⟩;refine sd (el:=Pk) (x:=s.2.1) (λc hc=>?_);have hc:c<7:=hc
    match c,hc with|0,_|1,_|2,_|3,_|4,_|5,_|6,_=>rfl
   have h2:decide (s.2.1.iZ>0)=false:=h2;rw[h2,Va];exact⟨rfl,Ka J [] rfl Fa Fa⟩
  exact eX J ⟨i+1,O,O,Ka J [] rfl Fa Fa⟩
 ·have h1:¬(i:Int)<xs.length:=bF h1;obtain rfl:i=xs.length:=O;exact eX J gj
def drop_cons{α:Type} [Inhabited α] {l:List α}{i:Nat}(h:i<l.length):l.drop i=l.getD i default::l.drop (i+1):=by rw[De h,aX h]
def Zk(l:List Sa):Nat->Int
 |0=>0
 |i+1=>aW (aW (Zk l i+(l.getD i default).iZ)-(l.getD i default).gV)
def ycV{l:List Fact}(hv:∀f∈l,fR f=0):∀f∈cntF l,f.kind=1->1<=f.number/\1<=f.month:=by
 intro f hf hk;obtain⟨k,_,_,g,hg,rfl,_⟩:=N4 hv hf;have hk:g.kind=1:=hk;have hz:=kN (hv g hg);have h1:=within_iff.1 (mQ hz.2 (by rw[hk];rfl)).1.1;have e1:(jE g).month=g.month:=by unfold jE;rw[hk];rfl
 have e2:(jE g).number=g.number:=by unfold jE fW;simp[hk]
 rw[e1,e2];have h2:=hz.1;unfold nZ cK at h2;rw[hk]at h2
 cases hw:within g.number 1 1000000 with
 |true=>exact⟨(within_iff.1 hw).1,h1.1⟩
 |false=>rw[hw]at h2;cases h2
def Qe:List Sa->Int
 |[]=>0
 |x::r=>x.iZ+Qe r
def Wt(b:List Sa):∀a,Qe (a++b)=Qe a+Qe b
 |[]=>by show Qe b=0+_;omega
 |x::r=>by show _+Qe (r++b)=_+Qe r+_;rw[Wt b r];omega
def tj(e:Rm.gL):mF:=(e.1,(0,e.2.1),e.2.2)
def Im(E:List Rm.gL):qD E=E.map tj:=rfl
def yb(k:bJ):∀(E:List Rm.gL) (i:Nat),fP (qD E) k i=(Rm.fE E k i).map λx=>(x.1,tj x.2)
 |[],_=>rfl
 |e::r,i=>by
  show(bif k==e.1 then some (i,tj e)else fP (qD r) k (i+1))=_;rw[Rm.fE,yb k r (i+1)]
  cases k==e.1 <;> rfl
def ycn(E:List Rm.gL)(k:bJ)(t:Room):qD (Rm.o6 E k t)=Zf (qD E) k (0,(B1 (qD E) k).2++ [t]):=by
 have h:=yb k E 0;unfold Rm.o6 Zf B1
 cases hf:Rm.fE E k 0 with
 |none=>rw[hf]at h;have h:fP (qD E) k 0=none:=h;rw[h];show qD (E++ [(k,[t],E.length)])=qD E++ [(k,(0,[]++ [t]),(qD E).length)];rw[Im,Im,Sh,Me];rfl
 |some x=>
  obtain⟨i,e⟩:=x;rw[hf]at h;have h:fP (qD E) k 0=some (i,tj e):=h;rw[h];obtain⟨_,h2,_⟩:=NQ h;have h2:(qD E)[i]? =some (tj e):=h2;rw[Im,de]at h2;show qD (E.modify i λe=>(e.1,e.2.1++ [t],e.2.2))=(qD E).modify i λy=>(y.1,(0,e.2.1++ [t]),y.2.2)
  rw[Im,Im];apply Wi;intro j;rw[de,Xd,Xd,de];by_cases hj:i=j
  ·subst hj
   cases hE:E[i]? with
   |none=>rw[hE]at h2;cases h2
   |some y=>rw[hE]at h2;have h2:tj y=tj e:=Vc h2;have h3:y.2.1=e.2.1:=Ua (λz:mF=>z.2.1.2) h2;simp[tj,h3]
  simp[hj]
def Mi(H:List Fact)(m:Int)(k:bJ):List Fact:=H.filter λf=>f.month==m&&Rm.kS f==k
def yt(H:List Fact)(m:Int)(k:bJ):∀i,i<=H.length->B1 (qD (Rm.kU H m i)) k=(0,(Mi (H.take i) m k).map λf=>(f,f.aT))
 |0,_=>rfl
 |i+1,hi=>by
  have ih:=λk'=>yt H m k' i O
  have bC:i<H.length:=O;have ht:H.take (i+1)=H.take i++ [H.getD i default]:=by rw[Bd,Ab bC,aX bC];rfl
  rw[Rm.DW bC,ht];unfold Rm.KM Mi;rw[rk,Sh];clear ht;generalize H.getD i default=f
  cases hm:(f.month==m)with
  |false=>
   have:([f].filter λx=>x.month==m&&Rm.kS x==k)=[]:=by simp[hm]
   rw[this];show B1 (qD (Rm.kU H m i)) k=_;rw[ih k];exact Ua (Prod.mk 0) (dd _).symm
  |true=>
   show B1 (qD (Rm.o6 _ _ _)) k=_;rw[ycn,Bt];by_cases hk:k=Rm.kS f
   ·subst hk;rw[cn,ih];have:([f].filter λx=>x.month==m&&Rm.kS x==Rm.kS f)=[f]:=by simp[hm]
    rw[this];rfl
   rw[Ym hk,ih k];have:([f].filter λx=>x.month==m&&Rm.kS x==k)=[]:=by have:(Rm.kS f==k)=false:=Ih.2 (Ne.symm hk);simp[this]
   rw[this];exact Ua (Prod.mk 0) (dd _).symm
structure He(x:Sa):Prop where
 iZ:0<=x.iZ/\x.iZ<=1000000000000000
 gV:0<=x.gV/\x.gV<=x.iZ
def nR(x:Sa)(r:Room):Int:=mm false r.2 x.iZ
def Ni(x:Sa):List Room->Sa
 |[]=>x
 |r::rs=>bif decide (x.iZ>0)then Ni (Od x (nR x r)) rs else x
def ai(x:Sa):List Room->List Sa
 |[]=>[]
 |r::rs=>bif decide (x.iZ>0)then Bg x (nR x r) r.1::ai (Od x (nR x r)) rs else []
def pj(x:Sa):List Room->List Room
 |[]=>[]
 |r::rs=>bif decide (x.iZ>0)then(bif r.2-nR x r==0 then pj (Od x (nR x r)) rs else(r.1,r.2-nR x r)::rs)else r::rs
def Am{x:Sa}(hx:He x){r:Room}(hr:0<=r.2):0<=nR x r/\nR x r<=r.2/\nR x r<=x.iZ/\(nR x r=r.2\/nR x r=x.iZ):=by have:=hx.iZ;unfold nR;rw[pg];omega
def lp{x:Sa}(hx:He x){v:Int}(h0:0<=v)(hv:v<=x.iZ):(Od x v).iZ=x.iZ-v:=by have:=hx.iZ;exact aG O O
def mu{x:Sa}(hx:He x){v:Int}(h0:0<=v)(hv:v<=x.iZ):He (Od x v):=by
 have h1:=hx.iZ;have h2:=hx.gV;have e:(Od x v).gV=x.gV-mm false v x.gV:=by show aW (x.gV-mm false v x.gV)=_;rw[pg];exact aG O O
 refine⟨by rw[lp hx h0 hv];omega,?_⟩;rw[lp hx h0 hv,e,pg];omega
def div_zero{x:Sa}(h:x.iZ=0)(rs:List Room):Ni x rs=x/\ai x rs=[]/\pj x rs=rs:=by
 have h1:decide (x.iZ>0)=false:=Je O
 cases rs with
 |nil=>exact⟨rfl,rfl,rfl⟩
 |cons r rs=>exact⟨by rw[Ni,h1];rfl,by rw[ai,h1];rfl,by rw[pj,h1];rfl⟩
def Pd(k:bJ)(r:Room):Bool:=Rm.kS r.1==k&&r.2 !=0
def wg(x:Sa)(r:Room):Room:=bif !bE r.1.aN x.aN||nR x r==0 then r else(r.1,r.2-nR x r)
def Se(x:Sa)(r:Room):Sa:=bif !bE r.1.aN x.aN||nR x r==0 then x else Od x (nR x r)
def ph(x:Sa)(r:Room):List Sa:=bif !bE r.1.aN x.aN||nR x r==0 then []else [Bg x (nR x r) r.1]
def Re(x:Sa):List Room->Sa
 |[]=>x
 |r::rs=>Re (Se x r) rs
def ng(x:Sa):List Room->List Sa
 |[]=>[]
 |r::rs=>ph x r++ng (Se x r) rs
def Zd(x:Sa):List Room->List Room
 |[]=>[]
 |r::rs=>wg x r::Zd (Se x r) rs
def ycF(b:List Room):∀(a:List Room) (x:Sa),Re x (a++b)=Re (Re x a) b/\ng x (a++b)=ng x a++ng (Re x a) b/\Zd x (a++b)=Zd x a++Zd (Re x a) b
 |[],x=>⟨rfl,rfl,rfl⟩
 |r::a,x=>by
  obtain⟨h1,h2,h3⟩:=ycF b a (Se x r);refine⟨h1,?_,?_⟩
  ·show ph x r++ng (Se x r) (a++b)=_;rw[h2,<-List.append_assoc];rfl
  show wg x r::Zd (Se x r) (a++b)=_;rw[h3];rfl
def Tt{a b:ta}:bE a b=(a.data.toList==b.data.toList):=by unfold bE;rw[lk,lk]
def Co{x:Sa}(hx:He x):∀{z:List Room},(∀r∈z,0<=r.2)->
  Re x z=Ni x (z.filter (Pd x.aN.data.toList))/\ng x z=ai x (z.filter (Pd x.aN.data.toList))/\
  (Zd x z).filter (Pd x.aN.data.toList)=pj x (z.filter (Pd x.aN.data.toList))/\
  ∀k,k≠x.aN.data.toList->(Zd x z).filter (Pd k)=z.filter (Pd k)
 |[],_=>⟨rfl,rfl,rfl,λ_ _=>rfl⟩
 |r::z,h=>by
  have hr:=h r (Fc ..);have hz:∀y∈z,0<=y.2:=λy hy=>h y (Vb _ hy)
  obtain⟨n0,n1,n2,n3⟩:=Am hx hr;have hvol:=hx.iZ
  cases hs:bE r.1.aN x.aN with
  |false=>
   have e1:Se x r=x:=by unfold Se;rw[hs];rfl
   have e2:ph x r=[]:=by unfold ph;rw[hs];rfl
   have e3:wg x r=r:=by unfold wg;rw[hs];rfl
   have ea:Pd x.aN.data.toList r=false:=by unfold Pd Rm.kS;rw[<-Tt,hs];rfl
   obtain⟨i1,i2,i3,i4⟩:=Co hx hz;rw[Re,ng,Zd,e1,e2,e3,ye,ye,ea];refine⟨i1,i2,i3,λk hk=>?_⟩;rw[ye,ye,i4 k hk]
  |true=>
   have ek:Rm.kS r.1=x.aN.data.toList:=by rw[Tt]at hs;simpa[Rm.kS]using hs
   have fJ:∀k,k≠x.aN.data.toList->∀v:Int,Pd k (r.1,v)=false:=λk hk v=>by unfold Pd;rw[show(Rm.kS r.1==k)=false by rw[ek,Ih];exactλe=>hk e.symm];rfl
   by_cases hn:nR x r=0
   ·have e1:Se x r=x:=by unfold Se;rw[hn];simp
    have e2:ph x r=[]:=by unfold ph;rw[hn];simp
    have e3:wg x r=r:=by unfold wg;rw[hn];simp
    obtain⟨i1,i2,i3,i4⟩:=Co hx hz;rw[Re,ng,Zd,e1,e2,e3];by_cases h0:r.2=0
    ·have ea:Pd x.aN.data.toList r=false:=by unfold Pd;rw[h0];simp
     rw[ye,ye,ea];refine⟨i1,i2,i3,λk hk=>?_⟩;rw[ye,ye,i4 k hk]
    have ea:Pd x.aN.data.toList r=true:=by unfold Pd;rw[ek];simp[h0]
    have hv0:x.iZ=0:=O;obtain⟨d1,d2,d3⟩:=div_zero hv0 (r::z.filter (Pd x.aN.data.toList));obtain⟨c1,c2,c3⟩:=div_zero hv0 (z.filter (Pd x.aN.data.toList));rw[ye,ye,Na ea,Na ea,d1,d2,d3,i1,i2,i3,c1,c2,c3];refine⟨rfl,rfl,rfl,λk hk=>?_⟩;rw[ye,ye,i4 k hk]
   have hnb:(!bE r.1.aN x.aN||nR x r==0)=false:=by rw[hs];simpa using hn
   have e1:Se x r=Od x (nR x r):=by unfold Se;rw[hnb];rfl
   have e2:ph x r=[Bg x (nR x r) r.1]:=by unfold ph;rw[hnb];rfl
   have e3:wg x r=(r.1,r.2-nR x r):=by unfold wg;rw[hnb];rfl
   have ea:Pd x.aN.data.toList r=true:=by unfold Pd;rw[ek];have:r.2≠0:=O;simp[this]
   have hv:decide (x.iZ>0)=true:=cd O;have hxr:=mu hx n0 n2;have es:(Od x (nR x r)).aN=x.aN:=rfl;obtain⟨i1,i2,i3,i4⟩:=Co hxr hz;rw[es]at i1 i2 i3 i4;rw[Re,ng,Zd,e1,e2,e3,ye,ye,Na ea,Ni,ai,pj,hv,i1,i2];refine⟨rfl,rfl,?_,λk hk=>?_⟩
   ·rw[Ma];by_cases h5:r.2-nR x r=0
    ·rw[show(r.2-nR x r==0)=true by simpa using h5,Ma,La (by unfold Pd;rw[h5];simp),i3]
    rw[show(r.2-nR x r==0)=false by simpa using h5,Va,Na (by unfold Pd;rw[ek];simp[h5]),i3];have hv0:(Od x (nR x r)).iZ=0:=by rw[lp hx n0 n2];omega
    rw[(div_zero hv0 _).2.2]
   rw[ye,ye,fJ k hk,i4 k hk,show Pd k r=false from fJ k hk r.2];simp
def yb1(a b:Int):mm false a b=mm false b a:=by rw[pg,pg];omega
def ya(pt:Sa)(s:DS):Sa:=⟨pt.month,pt.cell,pt.aN,s.v,s.p,pt.load,pt.dN⟩
def Oi(x:Sa):List Sa:=bif decide (x.iZ>0)then [x]else []
def Lu{pt:Sa}{s:DS}(h:¬s.v>0):∀k,pB pt k s=s
 |0=>rfl
 |k+1=>by rw[pB,Je h];rfl
def drop_at{α:Type} [Inhabited α] {l rs:List α}{r:α}{i:Nat}(h:l.drop i=r::rs):i<l.length/\l.getD i default=r/\l.drop (i+1)=rs:=by
 have hi:i<l.length:=by
  by_cases hi:i<l.length
  ·exact hi
  rw[Iv O]at h;cases h
 rw[drop_cons hi]at h;injection h with h1 h2;exact⟨hi,h1,h2⟩
def yca{pt:Sa}:∀(k:Nat) (s:DS) (rs:List Room),s.cur.drop s.lo=rs->s.lo<=s.cur.length->rs.length<k->He (ya pt s)->(∀r∈rs,1<=r.2/\r.2<=1000000000000000)->
  (pB pt k s).out=s.out++(ai (ya pt s) rs++Oi (Ni (ya pt s) rs))/\
  (pB pt k s).cur.drop (pB pt k s).lo=pj (ya pt s) rs/\(pB pt k s).lo<=(pB pt k s).cur.length
 |0,_,_,_,_,h,_,_=>absurd h (Cc _)
 |k+1,s,rs,hd,hl,hk,hb,hr=>by
  have hv:=hb.iZ;have hp:=hb.gV;have ev:(ya pt s).iZ=s.v:=rfl;have ep:(ya pt s).gV=s.p:=rfl;rw[ev]at hv;rw[ev,ep]at hp;by_cases h0:s.v>0
  ·have hr1:pB pt (k+1) s=pB pt k (a6 pt s):=by rw[pB,cd h0];rfl
   rw[hr1]
   cases rs with
   |nil=>
    have DR:¬s.lo<s.cur.length:=λhh=>by rw[drop_cons hh]at hd;cases hd
    have e:a6 pt s= {s with out:=s.out++ [⟨pt.month,pt.cell,pt.aN,s.v,mm false s.p s.v,pt.load,pt.dN⟩],v:=aW (s.v-s.v),p:=aW (s.p-mm false s.p s.v)}:=by unfold a6;rw[Je DR];rfl
    have e0:aW (s.v-s.v)=0:=by rw[yw];rfl
    have em:mm false s.p s.v=s.p:=by rw[pg];omega
    rw[e,Lu (by show ¬aW (s.v-s.v)>0;rw[e0];omega)];refine⟨?_,hd,hl⟩;show s.out++ [⟨pt.month,pt.cell,pt.aN,s.v,mm false s.p s.v,pt.load,pt.dN⟩]=s.out++([]++Oi (ya pt s));rw[em];unfold Oi;rw[ev,cd h0];rfl
   |cons r rs=>
    obtain⟨hi,hg,hd'⟩:=drop_at hd;have YL:=hr r (Fc ..);have en:mm false s.v r.2=nR (ya pt s) r:=yb1 _ _;obtain⟨n0,n1,n2,n3⟩:=Am hb (r:=r) O;rw[ev]at n2 n3;have e:a6 pt s=⟨s.out++ [Bg (ya pt s) (nR (ya pt s) r) r.1],bif r.2-nR (ya pt s) r==0 then s.lo+1 else s.lo,(Od (ya pt s) (nR (ya pt s) r)).iZ,(Od (ya pt s) (nR (ya pt s) r)).gV,s.cur.set s.lo (r.1,r.2-nR (ya pt s) r)⟩:=by unfold a6;rw[cd hi,Ma,hg,en,aG (n:=r.2-nR (ya pt s) r) O O,yb1 s.p];rfl
    rw[e];have hx:=mu hb n0 (by rw[ev];exact n2);have hvr:=lp hb n0 (by rw[ev];exact n2);rw[ev]at hvr;have hgt:decide ((ya pt s).iZ>0)=true:=cd h0;rw[ai,Ni,pj,hgt,Ma,Ma,Ma];by_cases h5:r.2-nR (ya pt s) r=0
    ·have h5':(r.2-nR (ya pt s) r==0)=true:=by simpa using h5
     rw[h5',Ma,Ma];have ih:=yca (pt:=pt) k ⟨s.out++ [Bg (ya pt s) (nR (ya pt s) r) r.1],s.lo+1,(Od (ya pt s) (nR (ya pt s) r)).iZ,(Od (ya pt s) (nR (ya pt s) r)).gV,s.cur.set s.lo (r.1,r.2-nR (ya pt s) r)⟩ rs
      (by show(s.cur.set s.lo _).drop (s.lo+1)=rs;rw[ay (Qh _)];exact hd')
      (by show s.lo+1<=(s.cur.set s.lo _).length;rw[An];exact hi)
      (by simp only[Pb]at hk;omega) hx (λy hy=>hr y (Vb _ hy))
     obtain⟨i1,i2,i3⟩:=ih;refine⟨?_,i2,i3⟩;rw[i1];show(s.out++ [Bg (ya pt s) (nR (ya pt s) r) r.1])++(ai (Od (ya pt s) (nR (ya pt s) r)) rs++Oi (Ni (Od (ya pt s) (nR (ya pt s) r)) rs))=_;rw[Ee];rfl
    have h5':(r.2-nR (ya pt s) r==0)=false:=by simpa using h5
    rw[h5',Va,Va];have hv0:(Od (ya pt s) (nR (ya pt s) r)).iZ=0:=by rw[hvr];omega
    obtain⟨c1,c2,_⟩:=div_zero hv0 rs;rw[Lu (by show ¬(Od (ya pt s) (nR (ya pt s) r)).iZ>0;omega),c1,c2];refine⟨?_,?_,?_⟩
    ·unfold Oi;rw[Je O];rfl
    ·show(s.cur.set s.lo _).drop s.lo=_;rw[drop_cons (by rw[An];exact hi),ay (Qh _),hd',Gb,List.getElem?_set_self hi];rfl
    show s.lo<=(s.cur.set s.lo _).length;rw[An];exact hl
  have h0':s.v=0:=O;obtain⟨c1,c2,c3⟩:=div_zero (x:=ya pt s) h0' rs;rw[Lu h0,c1,c2,c3];refine⟨?_,hd,hl⟩;unfold Oi;rw[ev,Je h0];exact(dd _).symm
def ycS{pt:Sa}(hb:He pt){lo:Nat}{l:List Room}(hl:lo<=l.length)(hr:∀r∈l.drop lo,1<=r.2/\r.2<=1000000000000000):
  (cH pt lo l).out=ai pt (l.drop lo)++Oi (Ni pt (l.drop lo))/\(cH pt lo l).cur.drop (cH pt lo l).lo=pj pt (l.drop lo)/\(cH pt lo l).lo<=(cH pt lo l).cur.length:=
 yca (pt:=pt) (l.length-lo+1) (qE pt lo l) (l.drop lo) rfl hl (by rw[nk];omega) hb hr
def yde{x:Sa}(hx:He x){r:Room}(hr:0<=r.2):He (Se x r):=by
 unfold Se
 cases !bE r.1.aN x.aN||nR x r==0 with
 |true=>exact hx
 |false=>obtain⟨h1,_,h3,_⟩:=Am hx hr;exact mu hx h1 h3
def ydc:∀{z:List Room} {x:Sa},He x->(∀r∈z,0<=r.2)->He (Re x z)
 |[],_,hx,_=>hx
 |r::z,x,hx,h=>by show He (Re (Se x r) z);exact ydc (yde hx (h r (Fc ..))) λy hy=>h y (Vb _ hy)
def du:∀(z:List Room) (x:Sa),(Zd x z).map Prod.fst=z.map Prod.fst
 |[],_=>rfl
 |r::z,x=>by
  rw[Zd,Oe,Oe,du z];unfold wg
  cases !bE r.1.aN x.aN||nR x r==0 <;> rfl
def ydb:∀{z:List Room} {x:Sa},He x->(∀r∈z,0<=r.2/\r.2<=1000000000000000)->∀r∈Zd x z,0<=r.2/\r.2<=1000000000000000
 |[],_,_,_=>λ_ h=>by cases h
 |r::z,x,hx,h=>λy hy=>by
  have hr:=h r (Fc ..);rw[Zd,Bb]at hy;rcases hy with rfl|hy
  ·unfold wg;obtain⟨h1,h2,_,_⟩:=Am hx hr.1
   cases !bE r.1.aN x.aN||nR x r==0 with
   |true=>exact hr
   |false=>show 0<=r.2-nR x r/\r.2-nR x r<=_;omega
  exact ydb (yde hx hr.1) (λy hy=>h y (Vb _ hy)) y hy
def yb5(z:List Room)(x:Sa):(Zd x z).length=z.length:=by have h:=Ua List.length (du z x);rwa [Me,Me]at h
def ycJ{ld:List Fact}{left:List Int}{x:Sa}{out:List Sa}(hx:He x)(hlen:left.length=ld.length)(hb:∀r∈ld.zip left,0<=r.2/\r.2<=1000000000000000):∀n,n<=ld.length->
  pc ld (left,x,out) n=((Zd x ((ld.zip left).take n)).map Prod.snd++left.drop n,Re x ((ld.zip left).take n),out++ng x ((ld.zip left).take n))
 |0,_=>by show(left,x,out)=([]++left.drop 0,x,out++ []);rw[dd];rfl
 |n+1,hn=>by
  have ih:=ycJ (out:=out) hx hlen hb n O;have hzl:(ld.zip left).length=ld.length:=by rw[Gy,hlen,Yi]
  rw[ln,ih];have hr:(ld.zip left)[n]'O=(ld.getD n default,left.getD n 0):=by rw[List.getElem_zip,aX O,Gb,Ab O];rfl
  have hz:(ld.zip left).take (n+1)=(ld.zip left).take n++ [(ld.getD n default,left.getD n 0)]:=by rw[Bd,Ab O,hr];rfl
  have hm:((ld.getD n default,left.getD n 0):Room)∈ld.zip left:=hr▸se _;have hbr:=hb _ hm;have hX:He (Re x ((ld.zip left).take n)):=ydc hx λr hr=>(hb r (Ov hr)).1
  obtain⟨a1,a2,a3⟩:=ycF [(ld.getD n default,left.getD n 0)] ((ld.zip left).take n) x;rw[hz,a1,a2,a3];have hA:((Zd x ((ld.zip left).take n)).map Prod.snd).length=n:=by rw[Me,yb5,Le];omega
  have hd:left.drop n=left.getD n 0::left.drop (n+1):=drop_cons (show n<left.length by omega);rw[Sh];generalize (Zd x ((ld.zip left).take n)).map Prod.snd=A at hA;generalize Re x ((ld.zip left).take n)=X at hX;generalize ng x ((ld.zip left).take n)=P;have hg:(A++left.drop n).getD n 0=left.getD n 0:=by rw[Gb,Jd O,hA,Kd,hd];rfl
  have eN:Pc (A++left.drop n,X,out++P) n=nR X (ld.getD n default,left.getD n 0):=by unfold Pc nR;show mm false ((A++left.drop n).getD n 0) X.iZ=_;rw[hg]
  obtain⟨n0,n1,_,_⟩:=Am hX hbr.1;unfold Dh;rw[eN];show(bif !bE (ld.getD n default).aN X.aN||nR X (ld.getD n default,left.getD n 0)==0 then _ else _)=(A++ [wg X (ld.getD n default,left.getD n 0)].map Prod.snd++left.drop (n+1),Se X (ld.getD n default,left.getD n 0),out++(P++(ph X (ld.getD n default,left.getD n 0)++ [])));unfold wg Se ph;rw[dd]
  cases hc:(!bE (ld.getD n default).aN X.aN||nR X (ld.getD n default,left.getD n 0)==0)with
  |true=>rw[Ma,Ma,Ma,Ma,dd,hd];simp
  |false=>rw[Va,Va,Va,Va];show((A++left.drop n).set n (aW ((A++left.drop n).getD n 0-nR X (ld.getD n default,left.getD n 0))),Od X (nR X (ld.getD n default,left.getD n 0)),(out++P)++ [Bg X (nR X (ld.getD n default,left.getD n 0)) (ld.getD n default)])=_;have hbr2:=hbr.2;dsimp only at n1 hbr2;rw[hg,aG O O,List.set_append_right _ _ O,hA,Kd,hd,Ee out];simp
def ydw{ld:List Fact}{left:List Int}{x:Sa}{out:List Sa}(hx:He x)(hlen:left.length=ld.length)(hb:∀r∈ld.zip left,0<=r.2/\r.2<=1000000000000000):
  Hf ld (left,out) x=((Zd x (ld.zip left)).map Prod.snd,out++(ng x (ld.zip left)++Oi (Re x (ld.zip left)))):=by
 have h:=ycJ (out:=out) hx hlen hb ld.length (db _)
 have hzl:(ld.zip left).length=ld.length:=by rw[Gy,hlen,Yi]
 rw[El O,Iv O,dd]at h
 unfold Hf Oi
 rw[h]
 dsimp only
 cases decide ((Re x (ld.zip left)).iZ>0)with
 |true=>rw[Ma,Ma,Ee]
 |false=>rw[Va,Va,dd]
structure sj(ld:List Fact)(E:List mF)(left:List Int):Prop where
 len:left.length=ld.length
 Bf:∀r∈ld.zip left,0<=r.2/\r.2<=1000000000000000
 lo:∀k,(B1 E k).1<=(B1 E k).2.length
 av:∀k,(B1 E k).2.drop (B1 E k).1=(ld.zip left).filter (Pd k)
def yc5{ld:List Fact}{p:Proj}{m:Int}{i:Nat}{x:Part}{s:PS}{left:List Int}(h:sj ld s.1 left)(hb:He (bN p m i x)):
  sj ld (oN p m i s x).1 (Hf ld (left,s.2) (bN p m i x)).1/\(oN p m i s x).2=(Hf ld (left,s.2) (bN p m i x)).2:=by
 rw[ydw hb h.len h.Bf]
 have hk:(bN p m i x).aN.data.toList=x.aN.data.toList:=rfl
 obtain⟨r1,r2,r3,r4⟩:=Co hb (z:=ld.zip left) λr hr=>(h.Bf r hr).1
 rw[hk]at r1 r2 r3 r4
 have hav:=h.av x.aN.data.toList
 have hr:∀r∈(B1 s.1 x.aN.data.toList).2.drop (B1 s.1 x.aN.data.toList).1,1<=r.2/\r.2<=1000000000000000:=λr hr=>by rw[hav]at hr;obtain⟨h1,h2⟩:=Yd.1 hr;have h3:=h.Bf r h1;unfold Pd at h2;simp only[Ya,Iy,ne_eq]at h2;omega
 obtain⟨e1,e2,e3⟩:=ycS hb (h.lo x.aN.data.toList) hr
 rw[hav,<-r1,<-r2]at e1
 rw[hav,<-r3]at e2
 have hz:ld.zip ((Zd (bN p m i x) (ld.zip left)).map Prod.snd)=Zd (bN p m i x) (ld.zip left):=by refine(List.zip_of_prod ?_ rfl).symm;rw[du,List.map_fst_zip (by have:=h.len;omega)]
 refine⟨⟨?_,?_,λk=>?_,λk=>?_⟩,?_⟩
 ·rw[Me,yb5,Gy,h.len,Yi]
 ·rw[hz];exact ydb hb h.Bf
 ·show(B1 (Zf s.1 _ _) k).1<=(B1 (Zf s.1 _ _) k).2.length;rw[Bt];by_cases hkk:k=x.aN.data.toList
  ·rw[hkk,cn];exact e3
  rw[Ym hkk];exact h.lo k
 ·show(B1 (Zf s.1 _ _) k).2.drop (B1 (Zf s.1 _ _) k).1=_;rw[Bt,hz];by_cases hkk:k=x.aN.data.toList
  ·rw[hkk,cn];exact e2
  rw[Ym hkk,r4 k hkk];exact h.av k
 ·show s.2++_=_;rw[e1]
def ybB{ld:List Fact}{p:Proj}{m:Int}{i:Nat}:∀(xs:List Part) (s:PS) (left:List Int),sj ld s.1 left->(∀x∈xs,He (bN p m i x))->
  sj ld (xs.foldl (oN p m i) s).1 ((xs.map (bN p m i)).foldl (Hf ld) (left,s.2)).1/\(xs.foldl (oN p m i) s).2=((xs.map (bN p m i)).foldl (Hf ld) (left,s.2)).2
 |[],_,_,h,_=>⟨h,rfl⟩
 |x::xs,s,left,h,hx=>by
  obtain⟨h1,h2⟩:=yc5 h (hx x (Fc ..));have ih:=ybB xs (oN p m i s x) (Hf ld (left,s.2) (bN p m i x)).1 h1 λy hy=>hx y (Vb _ hy)
  rw[h2]at ih;exact ih
def ybA{ld:List Fact}{p:Proj}{Y:List Fact}{k:Nat}(hp:PV p){E:List mF}{left:List Int}(h:sj ld E left):∀n,n<=p.aT.levels.length->
  sj ld ((List.range n).foldl (wZ p Y (k+1)) (E,[])).1 ((ee p Y k n).foldl (Hf ld) (left,[])).1/\((List.range n).foldl (wZ p Y (k+1)) (E,[])).2=((ee p Y k n).foldl (Hf ld) (left,[])).2
 |0,_=>⟨h,rfl⟩
 |n+1,hn=>by
  obtain⟨i1,i2⟩:=ybA hp h n O;rw[wk,Cj,pu,Cj];generalize (List.range n).foldl (wZ p Y (k+1)) (E,[])=s at i1 i2;generalize (ee p Y k n).foldl (Hf ld) (left,[])=t at i1 i2;obtain⟨t1,t2⟩:=t;dsimp only at i1 i2;show sj ld (wZ p Y (k+1) s n).1 _/\(wZ p Y (k+1) s n).2=_;unfold wZ Aj;simp only[Nat.add_sub_cancel]
  cases iL p Y k n==30000||decide (iL p Y (k+1) n>=iL p Y k n)with
  |true=>exact⟨i1,i2⟩
  |false=>
   rw[Va,Va,<-i2];refine ybB _ s t1 i1 λx hx=>?_
   have hpx:=D7 hx;have h1:=BK (m:=((k+1:Nat):Int)) (i:=n) hp hpx;have h2:=ycB (m:=((k+1:Nat):Int)) hp (show n<p.aT.levels.length by omega) hpx;exact⟨⟨O,h1.2⟩,h2⟩
def Qt:∀l:List Fact,l.zip (l.map Fact.aT)=l.map λf=>(f,f.aT)
 |[]=>rfl
 |f::l=>by rw[Oe,Oe,List.zip_cons_cons,Qt l]
def ycI{H:List Fact}{m:Int}(hb:∀f∈H,1<=f.aT/\f.aT<=1000000000000000):sj (Ud H m H.length) (qD (Rm.kU H m H.length)) ((Ud H m H.length).map Fact.aT):=by
 have hl:Ud H m H.length=H.filter λf=>f.month==m:=by unfold Ud;rw[Ic]
 have hg:∀k,B1 (qD (Rm.kU H m H.length)) k=(0,(Mi H m k).map λf=>(f,f.aT)):=λk=>by have h:=yt H m k H.length (db _);rwa [Ic]at h
 have hm:∀f∈Ud H m H.length,1<=f.aT/\f.aT<=1000000000000000:=λf hf=>by rw[hl]at hf;exact hb f (Yd.1 hf).1
 refine⟨Me ..,λr hr=>?_,λk=>by rw[hg];exact Oa _,λk=>?_⟩
 ·rw[Qt]at hr;obtain⟨f,hf,rfl⟩:=Dc.1 hr;have:=hm f hf;show 0<=f.aT/\f.aT<=_;omega
 rw[hg,Qt,List.filter_map];show(Mi H m k).map _=_;congr 1;unfold Mi;rw[hl,Hq];refine Zv λf hf=>?_
 have h1:=hb f hf;show(f.month==m&&Rm.kS f==k)=((Rm.kS f==k&&f.aT !=0)&&f.month==m);rw[show(f.aT !=0)=true by rw[Iy];omega,Kg,Fw]
def ycX{p:Proj}{Y:List Fact}{k:Nat}(hp:PV p)(hb:∀f∈(iM p (j8 Y (k+1:Nat)) (j8 Y (k+1:Nat)).length).1,1<=f.aT/\f.aT<=1000000000000000):
  (Dg (Ud (iM p (j8 Y (k+1:Nat)) (j8 Y (k+1:Nat)).length).1 (k+1:Nat) (iM p (j8 Y (k+1:Nat)) (j8 Y (k+1:Nat)).length).1.length) (ee p Y k p.aT.levels.length) (ee p Y k p.aT.levels.length).length).2=G3 p Y (k+1):=by
 have h:=(ybA (Y:=Y) (k:=k) hp (ycI (m:=((k+1:Nat):Int)) hb) p.aT.levels.length (db _)).2
 unfold Dg G3
 rw[Ic]
 exact h.symm
def ybv{l:List Sa}{i:Nat}(h:i<l.length):Qe (l.take (i+1))=Qe (l.take i)+(l.getD i default).iZ:=by rw[Bd,Ab h,aX h,Wt];show _+(_+0)=_;omega
def ydf{l:List Sa}(h:∀x∈l,0<x.iZ):0<=Qe l:=by
 induction l with
 |nil=>exact Kc _
 |cons x l ih=>
  show 0<=x.iZ+Qe l;have h1:=h x (Fc ..);have h2:=ih λy hy=>h y (Vb _ hy)
  omega
def ybW{l:List Sa}(h:∀x∈l,0<x.iZ)(i:Nat):Qe (l.take i)<=Qe l:=by
 have h1:=Wt (l.drop i) (l.take i);rw[Aq]at h1;have h2:0<=Qe (l.drop i):=ydf λx hx=>h x (Pv hx)
 omega
structure ll(l:List Sa):Prop where
 pos:∀x∈l,0<x.iZ
 gV:∀x∈l,0<=x.gV/\x.gV<=x.iZ
 sum:Qe l<=5000000000000
def ll.wL{l:List Sa}(h:ll l)(s:ta):∀i,i<=l.length->0<=wL l s i/\wL l s i<=Qe (l.take i)
 |0,_=>⟨Kc _,Kc _⟩
 |i+1,hi=>by
  obtain⟨h1,h2⟩:=ll.wL h s i O;have hm:=bP (show i<l.length by omega);have h3:=h.pos _ hm;have h4:=h.gV _ hm;have h5:=ybv (show i<l.length by omega);have h6:=ybW h.pos (i+1);have h7:=h.sum;rw[Go.Pj.wL]
  cases bE (l.getD i default).aN s&&decide ((l.getD i default).load>0)with
  |true=>rw[Ma,aG O O];omega
  |false=>rw[Va];omega
def ll.rov{l:List Sa}(h:ll l):∀i,i<=l.length->Zk l i=G5 l i/\0<=Zk l i/\Zk l i<=Qe (l.take i)
 |0,_=>⟨rfl,Kc _,Kc _⟩
 |i+1,hi=>by obtain⟨h0,h1,h2⟩:=ll.rov h i O;have hm:=bP (show i<l.length by omega);have h3:=h.pos _ hm;have h4:=h.gV _ hm;have h5:=ybv (show i<l.length by omega);have h6:=ybW h.pos (i+1);have h7:=h.sum;rw[Zk,G5,<-h0,aG (n:=Zk l i+(l.getD i default).iZ) O O,aG (n:=(l.getD i default).iZ-(l.getD i default).gV) O O,aG O O,aG O O];omega
def ycZ{p:Proj}(hp:PV p)(Y:List Fact)(k n:Nat):∀x∈ee p Y k n,0<=x.iZ/\x.iZ<=1000000000000000:=λx hx=>by
 unfold ee at hx;obtain⟨i,_,hx⟩:=List.mem_flatMap.1 hx;unfold Aj at hx
 cases hc:iL p Y k i==30000||decide (iL p Y (k+1) i>=iL p Y k i)with
 |true=>rw[hc]at hx;cases hx
 |false=>rw[hc,Va]at hx;obtain⟨y,hy,rfl⟩:=Dc.1 hx;have:=BK (m:=((k+1:Nat):Int)) (i:=i) hp (D7 hy);omega
def ydi{p:Proj}{l:List Fact}{M:Int}(hk:rh p l):∀f∈(iM p (j8 (cntF l) M) (j8 (cntF l) M).length).1,1<=f.aT/\f.aT<=1000000000000000:=λf hf=>by obtain⟨h1,h2,_⟩:=Pu (HZ (db _) f hf);have:=aNV hk.fmt f h1 h2;omega
def Du{p:Proj}{l:List Fact}{M:Int}(hk:rh p l):(j8 (cntF l) M).length<=200/\(iM p (j8 (cntF l) M) (j8 (cntF l) M).length).1.length<=200:=by
 have h2:(j8 (cntF l) M).length<=(cntF l).length:=by unfold j8;rw[A5];exact Vg _ _
 have h3:=(x4 hk).len;have h4:=BY p (j8 (cntF l) M) (j8 (cntF l) M).length;omega
def ydx{p:Proj}{l:List Fact}{M:Nat}(oW:p.fits)(hk:rh p l)(hM:M<=24):
  aF prog 26 [oR p,cJ (cntF l),vI M] (.t [.s (.d (RN (iM p (j8 (cntF l) M) (j8 (cntF l) M).length).1)),.g (uH (iM p (j8 (cntF l) M) (j8 (cntF l) M).length).2)]):=
 ydn p (cntF l) _ M oW.small (cj hk.proj).new (x4 hk).len hM (yj.of hk.fmt M) (Du hk).1 (ycV hk.fmt)
def ydy{p:Proj}{l:List Fact}{j:Nat}(oW:p.fits)(hk:rh p l)(hj:j+1<=24):
  aF prog 13 [oR p,cJ (cntF l),vI (j+1:Nat)] (iD (G3 p (cntF l) (j+1))):=by
 have hp:=cj hk.proj
 have hn:=hp.cells
 have hbed:=ydi (M:=((j+1:Nat):Int)) hk
 have hX:=ydp p (cntF l) _ _ _ (j+1) (ydx oW hk hj) (ydB p (cntF l) j hp (x4 hk) (aGB hk.fmt) hj) (Du hk).2 (by have:=Es hp (cntF l) j p.aT.levels.length;omega) (λf hf=>by have:=hbed f hf;omega) (ycZ hp _ _ _)
 rwa [ycX hp hbed]at hX
end Go.Pj
namespace Go.Ax
def bS.ydE{P:Ba}{R:Cx}{N:Nat}{I:St}{c:Code}{K:Exit->St->Prop}(h:AW P R N c I K):bS P R N c I Hid.none λe s _=>K e s:=λM V a w i _=>
 lg (h M V a w i) λ_ _ _ ⟨s,M',V',k,i',g,kp⟩=>⟨s,M',V',Hid.none,k,i',Jk,g,kp⟩
end Go.Ax
namespace Go.Pj
open Go Go.Ax Go.Ch Go.Proofs Go.Proofs.Tryz
abbrev Bl(l:List Room):DV:=.fU l.length 14 (j9 l)
def al(E:List Rm.gL):List (ta×Nat×DV):=E.map λe=>(bs e.1,e.2.2,Bl e.2.1)
def ydd:∀{l:List bO} {E:List Rm.gL},Rm.eH l E->lh (Rj 14 l) (al E)
 |[],[],_=>trivial
 |q::r,e::s,h=>by obtain⟨hq,ht⟩:=h;obtain⟨r0,hr,gF⟩:=hq.row;refine⟨hq.key,hq.born,?_,ydd ht⟩;unfold Yj;rw[hr];exact Ae gF.n λi j hi hj=>gF.f i j (by rw[<-gF.n];exact hi) hj
 |[],_::_,h=>h.elim
 |_::_,[],h=>h.elim
def yb8:∀{l:List bO} {E:List Rm.gL},Rm.eH l E->∀q∈l,(∃r,q.row=some r/\r.lo=0)\/(q.row=none/\q.val=.slice none 0 0)
 |[],[],_,q,hq=>by cases hq
 |q::r,e::s,h,x,hx=>by
  rcases Bb.1 hx with rfl|hx
  ·obtain⟨r0,hr,gF⟩:=h.1.row;exact .inl ⟨r0,hr,gF.lo⟩
  exact yb8 h.2 x hx
 |[],_::_,h,_,_=>h.elim
 |_::_,[],h,_,_=>h.elim
def ybL:∀(E:List Rm.gL) (k:bJ) (i:Nat),Qf (al E) (bs k)=(Rm.fE E k i).map λp=>Bl p.2.2.1
 |[],_,_=>rfl
 |e::r,k,i=>by
  show(bif bs k==bs e.1 then some (Bl e.2.1)else Qf (al r) (bs k))=_;rw[show(bs k==bs e.1)=(k==e.1) by rw[Fe,Dd,Dd];exact⟨λh=>by have:=Ua (λb=>b.data.toList) h;simpa[bs]using this,λh=>by rw[h]⟩];unfold Rm.fE
  cases k==e.1 with
  |true=>rfl
  |false=>exact ybL r k (i+1)
def mf(E:List Rm.gL)(s:ta):List Room:=match Rm.fE E s.data.toList 0 with
 |some p=>p.2.2.1
 |none=>[]
def yb9(H:List Fact)(m:Int)(s:ta):mf (Rm.kU H m H.length) s=(Mi H m s.data.toList).map λf=>(f,f.aT):=by
 have h:=yt H m s.data.toList H.length (db _);rw[Ic]at h;have h2:=Ua Prod.snd h;rw[show((0,(Mi H m s.data.toList).map λf=>(f,f.aT)):Nat×List Room).2=(Mi H m s.data.toList).map λf=>(f,f.aT) from rfl]at h2;rw[<-h2];unfold mf B1;rw[yb]
 cases Rm.fE (Rm.kU H m H.length) s.data.toList 0 with
 |none=>rfl
 |some x=>rfl
def ycP(s:ta):bs s.data.toList=s:=by
 cases s
 simp[bs]
def Of(l:List Sa)(s:ta):Nat->Int
 |0=>0
 |i+1=>bif bE (l.getD i default).aN s then aW (Of l s i+(l.getD i default).iZ)else Of l s i
def Tj(t:Int)(l:List Room):Nat->Int
 |0=>t
 |i+1=>aW (Tj t l i-(l.getD i default).1.aT)
def Mm(xs:List Sa)(E:List Rm.gL)(s:ta):Int:=Tj (Of xs s xs.length) (mf E s) (mf E s).length
def sl(p:Proj)(xs:List Sa)(E:List Rm.gL)(i:Nat):Da Ri:=bif Mm xs E (p.gr.bK.getD i default).name !=0 then some ⟨(p.gr.bK.getD i default).name,Mm xs E (p.gr.bK.getD i default).name⟩else none
def Cf(p:Proj)(xs:List Sa)(E:List Rm.gL)(n:Nat):List Ri:=(List.range n).filterMap (sl p xs E)
def yc9(p:Proj)(xs:List Sa)(E:List Rm.gL)(n:Nat):Cf p xs E (n+1)=Cf p xs E n++(sl p xs E n).toList:=by unfold Cf;rw[c8]
def ycc(p:Proj)(xs:List Sa)(E:List Rm.gL)(n:Nat):(Cf p xs E n).length<=n:=by have:=Sf (sl p xs E) (List.range n);rw[Yv]at this;exact this
abbrev lj(p:Proj)(xs:List Sa)(E:List Rm.gL)(c:Nat)(out:List Ri)(i:Nat)(r:List (Nat×AV))(b:List (Nat×Da jK)):St:=⟨[(10,iD xs),(11,.s (.mp 99)),(12,.s (.mo out.isEmpty 100)),(41,jQ p.gr.bK),(42,vI p.gr.bK.length),(43,vI i)]++r,[(99,some (.dm (al E) c)),(100,some (.b8 56 out.length 2 (cp out)))]++b⟩
def ybI(p:Proj)(l:List Fact)(M:Nat)(hp:p.fits)(hf:∀f∈l,f.fits)(hl:l.length<=9223372036854775807)(he:j6 p l M 1=0):
  aF prog 8 [oR p,cJ l,vI M] (.t [.s (.d (ck (Cf p (G3 p (cntF l) M) (Rm.kU (iM p (j8 (cntF l) M) (j8 (cntF l) M).length).1 M (iM p (j8 (cntF l) M) (j8 (cntF l) M).length).1.length) p.gr.bK.length))),.s (.d (dI 0))]):=by
 obtain⟨hk,hw⟩:=tL he
 have hw:=within_iff.1 hw
 have hv:=cj hk.proj
 have hS:=x4 hk
 have hO:=MP p l M 1 hp hf hl he
 have hs:=oo hk M
 obtain⟨hP,hxl⟩:=Gm (M:=M) hp hk Ha hs
 have hR:=Rm.aKV p (cntF l) M hp hv hS.len hs
 have hLo:=lowest p (cntF l) M hS O
 have hHl:(iM p (j8 (cntF l) M) (j8 (cntF l) M).length).1.length<=200:=by refine Sb (BY p _ _) ?_;unfold j8;rw[A5];exact Sb (Vg _ _) hS.len
 have HV:p.gr.bK.length<=1000000:=by have h:=hv.gr;unfold dX mO at h;obtain⟨h,_⟩:=dU h;obtain⟨_,h⟩:=dF dC h;obtain⟨h,_⟩:=dF dC h;simp only[ic]at h;omega
 generalize G3 p (cntF l) M=xs at hP hxl
 have YJ:∀s,(mf (Rm.kU (iM p (j8 (cntF l) M) (j8 (cntF l) M).length).1 M (iM p (j8 (cntF l) M) (j8 (cntF l) M).length).1.length) s).length<=1000000:=λs=>by rw[yb9,Me];have:=Vg (λf:Fact=>f.month==(M:Int)&&Rm.kS f==s.data.toList) (iM p (j8 (cntF l) M) (j8 (cntF l) M).length).1;unfold Mi;omega
 generalize (iM p (j8 (cntF l) M) (j8 (cntF l) M).length).1=H at hR hHl YJ
 generalize cntF l=Y at hO hP hR hLo
 refine eW func8 rfl rfl call8 rfl rfl (λR J=>?_)
 apply sX J
 apply sX J
 apply aB hO
 refine Qa (sX J ?_)
 apply Xa
 refine aI (λh2=>by cases h2) (λ_=>lb ?_)
 apply sX J
 apply aB hLo
 apply aB hP
 refine aD ?_
 refine Ib (I':=⟨[(2,vI M),(3,.s (.ptr 3 0)),(8,.s (.ptr 8 0)),(10,iD xs)],[(3,some (.cells (qH p))),(8,some (.cells (l0 p Y)))]⟩) (Ka J [] rfl Fa Fa) ?_
 apply Mj
 refine Tb (Ld (Xb (rc:=[]) aJ 2 J [3,8] rfl rfl (Md rfl (Nw (ars:=[SR p Y,vI M]) rfl rfl dC rfl rfl hR ?_))))
 rintro x Hd ⟨h,rfl,rfl,ha,jL,hit⟩
 refine Xb (rc:=[]) aJ 1 J [3,8] rfl rfl (Nc ?_)
 refine wc (Ow (x:=99) (t:=11) (yb8 ha) rfl rfl) ?_
 generalize Rm.kU H M H.length=E at ha jL YJ
 refine wc (I':=⟨[(2,vI M),(3,.s (.ptr 3 0)),(10,iD xs),(11,.s (.mp 99))],[(3,some (.cells (qH p))),(99,some (.dm (al E) E.length))]⟩) (Ob (Nb [] (by rw[J];rfl) rfl ⟨bQ,⟨rfl,aY.dm jL (ydd ha)⟩,oO⟩ Fa)) ?_
 apply bS.ydE
 apply sX J
 refine Qa (sX J ?_)
 apply Wa
 refine pb (λi:Nat=>lj p xs E E.length (Cf p xs E i) i [] []) (λi=>i<=p.gr.bK.length) (λi=>p.gr.bK.length-i) 0 (Oa _) ?_ ?_
 ·exact Ka J [(100,1000)] rfl ⟨bQ,⟨rfl,rfl⟩,oO⟩ ⟨Z,Z,⟨rfl,Nd rfl⟩,Fa⟩
 intro i hi
 have hle:=ycc p xs E i
 have hsu:=yc9 p xs E i
 apply sX J
 refine Qa (Xa ?_)
 refine aI (λh1=>lb ?_) (λh1=>cc ?_)
 ·have h1:(i:Int)<p.gr.bK.length:=bG h1;refine mc (I':=lj p xs E E.length (Cf p xs E (i+1)) i [] []) ?_ ?_
  ·rw[hsu];unfold sl;generalize Cf p xs E i=out at hle;generalize hs:(p.gr.bK.getD i default).name=s;refine Wa (sX J ?_);apply oi Ha;refine Ib (I':=lj p xs E E.length out i [(14,.s (.ptr 14 0))] [(14,some (.cells [.d (dS s),.d .bL,.d .bL,.d .bL,.d .bL]))]) (Ka J [] rfl ⟨bQ,bQ,⟨rfl,Sc ⟨Qb (by rw[<-hs];rfl),Gc λ_ _ _=>trivial,Gc λ_ _ _=>trivial,Gc λ_ _ _=>trivial,Gc λ_ _ _=>trivial,oO⟩⟩,oO⟩ Fa) ?_;refine sX J (mc (I':=lj p xs E E.length out i [(14,.s (.ptr 14 0)),(15,vI (Of xs s xs.length))] [(14,some (.cells [.d (dS s),.d .bL,.d .bL,.d .bL,.d .bL]))]) ?_ ?_)
   ·refine sX J (Wa ?_);refine pb (λj:Nat=>lj p xs E E.length out i [(14,.s (.ptr 14 0)),(15,vI (Of xs s j)),(47,iD xs),(48,vI xs.length),(49,vI j)] [(14,some (.cells [.d (dS s),.d .bL,.d .bL,.d .bL,.d .bL]))]) (λj=>j<=xs.length) (λj=>xs.length-j) 0 (Oa _) (Ka J [] rfl Fa Fa) ?_;intro j hj;refine sX J (Qa (Xa ?_));refine aI (λh2=>lb ?_) (λh2=>cc ?_)
    ·have h2:(j:Int)<xs.length:=bG h2;refine Qa (Wa (sX J ?_));refine oi Ha (sX J ?_);refine Xa (aI (λh3=>?_) (λh3=>lb ?_))
     ·have h3:bE (xs.getD j default).aN s=true:=h3;refine eX J (eX J ?_);refine⟨j+1,O,O,?_⟩;exact Ka J [] rfl Fa ⟨Z,Z,Z,Z,Z,Z,Z,⟨rfl,Ra (by rw[Of,h3];rfl)⟩,Fa⟩
     have h3:bE (xs.getD j default).aN s=false:=h3;refine eX J ⟨j+1,O,O,?_⟩;exact Ka J [] rfl Fa ⟨Z,Z,Z,Z,Z,Z,Z,⟨rfl,Ra (by rw[Of,h3];rfl)⟩,Fa⟩
    have h2:¬(j:Int)<xs.length:=bF h2;obtain rfl:j=xs.length:=O;exact⟨rfl,Ka J [] rfl Fa Fa⟩
   have NA:=YJ s;unfold Mm;generalize Of xs s xs.length=v;refine mc (I':=lj p xs E E.length out i [(14,.s (.ptr 14 0)),(15,vI (Tj v (mf E s) (mf E s).length))] [(14,some (.cells [.d (dS s),.d .bL,.d .bL,.d .bL,.d .bL]))]) ?_ ?_
   ·refine mc (I':=lj p xs E E.length out i [(14,.s (.ptr 14 0)),(15,vI v),(66,.s (.d (Bl (mf E s)))),(67,vI (mf E s).length),(68,vI 0)] [(14,some (.cells [.d (dS s),.d .bL,.d .bL,.d .bL,.d .bL]))]) ?_ ?_
    ·refine eX J (λr hr=>?_);have hr:Qf (al E) s=r:=hr;have hfd:=ybL E s.data.toList 0;rw[ycP,hr]at hfd
     cases uZ:Rm.fE E s.data.toList 0 with
     |none=>
      rw[uZ]at hfd;have hfd:r=none:=hfd;subst hfd;have er:mf E s=[]:=by unfold mf;rw[uZ]
      rw[er];exact⟨rfl,Ka J [] rfl Fa ⟨Z,Z,Z,Z,Z,Z,Z,Z,⟨rfl,Gc pd⟩,Fa⟩⟩
     |some pr=>
      rw[uZ]at hfd;have hfd:r=some (Bl pr.2.2.1):=hfd;subst hfd;have er:mf E s=pr.2.2.1:=by unfold mf;rw[uZ]
      rw[er];exact⟨rfl,Ka J [] rfl Fa Fa⟩
    generalize mf E s=rs at NA;refine Wa (pb (λj:Nat=>lj p xs E E.length out i [(14,.s (.ptr 14 0)),(15,vI (Tj v rs j)),(66,.s (.d (Bl rs))),(67,vI rs.length),(68,vI j)] [(14,some (.cells [.d (dS s),.d .bL,.d .bL,.d .bL,.d .bL]))]) (λj=>j<=rs.length) (λj=>rs.length-j) 0 (Oa _) (Ka J [] rfl Fa Fa) ?_);intro j hj;refine sX J (Qa (Xa ?_));refine aI (λh2=>lb ?_) (λh2=>cc ?_)
    ·have h2:(j:Int)<rs.length:=bG h2;refine Qa (Wa (sX J ?_));refine oi Ha (eX J ?_);exact eX J ⟨j+1,O,O,Ka J [] rfl Fa Fa⟩
    have h2:¬(j:Int)<rs.length:=bF h2;obtain rfl:j=rs.length:=O;exact⟨rfl,Ka J [] rfl Fa Fa⟩
   generalize Tj v (mf E s) (mf E s).length=n;refine sX J (Xa ?_);refine aI (λh2=>?_) (λh2=>lb ?_)
   ·have h2:(n !=0)=true:=h2;rw[h2,Ma,Gn];refine eX J (ob dC ?_);refine ob (by rw[dK];show(out.length+1)*24<=_;omega) ?_;refine ob (nJ (Nk rfl rfl)) ⟨rfl,Ka J [(100,86)] rfl ⟨bQ,⟨rfl,?_⟩,oO⟩ ⟨Z,Z,⟨rfl,Rc (cA _ _)⟩,Fa⟩⟩;refine sd (el:=dt) (x:=⟨s,n⟩) (λc hc=>?_);have hc:c<2:=hc
    match c,hc with|0,_|1,_=>rfl
   have h2:(n !=0)=false:=h2;rw[h2,Va,Option.toList_none,dd];exact⟨rfl,Ka J [] rfl Fa Fa⟩
  exact eX J ⟨i+1,O,O,Ka J [] rfl Fa Fa⟩
 ·have h1:¬(i:Int)<p.gr.bK.length:=bF h1;obtain rfl:i=p.gr.bK.length:=O;apply eX J;exact Pe ⟨Za (show DV.fU (bif (Cf p xs E p.gr.bK.length).isEmpty then 0 else(Cf p xs E p.gr.bK.length).length) 2 (cp (Cf p xs E p.gr.bK.length))=ck _ by rw[dK];rfl),Ja _,oO⟩
def Fh(t:Int)(H:List Fact)(m:Int)(s:ta):Nat->Int
 |0=>t
 |i+1=>bif bE (H.getD i default).aN s&&(H.getD i default).month==m then aW (Fh t H m s i-(H.getD i default).aT)else Fh t H m s i
def runN(xs:List Sa)(H:List Fact)(m:Int)(s:ta):Int:=Fh (Of xs s xs.length) H m s H.length
def Tk(p:Proj)(xs:List Sa)(H:List Fact)(m:Int)(i:Nat):Da Ri:=bif runN xs H m (p.gr.bK.getD i default).name !=0 then some ⟨(p.gr.bK.getD i default).name,runN xs H m (p.gr.bK.getD i default).name⟩else none
def Eh(p:Proj)(xs:List Sa)(H:List Fact)(m:Int)(n:Nat):List Ri:=(List.range n).filterMap (Tk p xs H m)
def ycH(p:Proj)(xs:List Sa)(H:List Fact)(m:Int)(n:Nat):Eh p xs H m (n+1)=Eh p xs H m n++(Tk p xs H m n).toList:=by unfold Eh;rw[c8]
def yc3(p:Proj)(xs:List Sa)(H:List Fact)(m:Int)(n:Nat):(Eh p xs H m n).length<=n:=by have:=Sf (Tk p xs H m) (List.range n);rw[Yv]at this;exact this
abbrev yc(p:Proj)(M:Nat)(xs:List Sa)(H:List Fact)(out:List Ri)(r:List (Nat×AV))(b:List (Nat×Da jK)):St:=⟨[(2,vI M),(3,.s (.ptr 3 0)),(7,iD xs),(8,cJ H),(10,.s (.mo out.isEmpty 100))]++r,[(3,some (.cells (qH p))),(100,some (.b8 56 out.length 2 (cp out)))]++b⟩
def ycj(p:Proj)(Y H:List Fact)(y:gK)(xs:List Sa)(M:Nat)
  (hX:aF prog 13 [oR p,cJ Y,vI M] (iD xs)) (hH:aF prog 26 [oR p,cJ Y,vI M] (.t [.s (.d (RN H)),.g (uH y)]))
  (hxl:xs.length<=1000000) (hHl:H.length<=1000000) (hsl:p.gr.bK.length<=1000000):
  aF prog 10 [oR p,cJ Y,vI M] (.s (.d (ck (Eh p xs H M p.gr.bK.length)))):=by
 refine eW func10 rfl rfl call10 rfl rfl (λR J=>?_)
 apply sX J
 apply sX J
 apply aB hX
 apply sX J
 apply aB hH
 apply sX J
 refine Qa (sX J ?_)
 apply Wa
 refine pb (λi:Nat=>yc p M xs H (Eh p xs H M i) [(11,vI i)] []) (λi=>i<=p.gr.bK.length) (λi=>p.gr.bK.length-i) 0 (Oa _) ?_ ?_
 ·exact Ka J [(100,1000)] rfl ⟨bQ,⟨rfl,rfl⟩,oO⟩ ⟨Z,Z,Z,Z,⟨rfl,Nd rfl⟩,Fa⟩
 intro i hi
 have hle:=yc3 p xs H M i
 have hsu:=ycH p xs H M i
 refine Qa (sX J ?_)
 apply Xa
 refine aI (λh1=>lb ?_) (λh1=>cc ?_)
 ·have h1:(i:Int)<p.gr.bK.length:=bG h1;refine mc (I':=yc p M xs H (Eh p xs H M (i+1)) [(11,vI i)] []) ?_ ?_
  ·rw[hsu];unfold Tk;generalize Eh p xs H M i=out at hle;generalize hs:(p.gr.bK.getD i default).name=s;refine Wa (sX J ?_);refine oi Ha (mc (I':=yc p M xs H out [(11,vI i),(12,.s (.ptr 12 0))] [(12,some (.cells [.d (dS s),.d (dI (Of xs s xs.length))]))]) ?_ ?_)
   ·refine sX J (Wa ?_);refine pb (λj:Nat=>yc p M xs H out [(11,vI i),(12,.s (.ptr 12 0)),(13,vI j)] [(12,some (.cells [.d (dS s),.d (dI (Of xs s j))]))]) (λj=>j<=xs.length) (λj=>xs.length-j) 0 (Oa _) ?_ ?_
    ·exact Ka J [] rfl ⟨bQ,bQ,⟨rfl,Zb (by rw[<-hs];rfl)⟩,oO⟩ Fa
    intro j hj;refine Qa (sX J ?_);refine Xa (aI (λh2=>lb ?_) (λh2=>cc ?_))
    ·have h2:(j:Int)<xs.length:=bG h2;refine Qa (Wa (sX J ?_));refine oi Ha (aD ?_);refine Xa (aI (λh3=>?_) (λh3=>lb ?_))
     ·have h3:bE (xs.getD j default).aN s=true:=h3;refine eX J (oi Ha ?_);refine aD (eX J ?_);refine⟨j+1,O,O,?_⟩;exact Ka J [] rfl ⟨bQ,bQ,⟨rfl,Sc ⟨Ta,Ra (by rw[Of,h3];rfl),oO⟩⟩,oO⟩ Fa
     have h3:bE (xs.getD j default).aN s=false:=h3;refine eX J ⟨j+1,O,O,?_⟩;exact Ka J [] rfl ⟨bQ,bQ,⟨rfl,Sc ⟨Ta,Ra (by rw[Of,h3];rfl),oO⟩⟩,oO⟩ Fa
    have h2:¬(j:Int)<xs.length:=bF h2;obtain rfl:j=xs.length:=O;exact⟨rfl,Ka J [] rfl Fa Fa⟩
   unfold runN;generalize Of xs s xs.length=v;refine mc (I':=yc p M xs H out [(11,vI i),(12,.s (.ptr 12 0))] [(12,some (.cells [.d (dS s),.d (dI (Fh v H M s H.length))]))]) ?_ ?_
   ·refine sX J (Wa ?_);refine pb (λj:Nat=>yc p M xs H out [(11,vI i),(12,.s (.ptr 12 0)),(14,vI j)] [(12,some (.cells [.d (dS s),.d (dI (Fh v H M s j))]))]) (λj=>j<=H.length) (λj=>H.length-j) 0 (Oa _) (Ka J [] rfl Fa Fa) ?_;intro j hj;refine Qa (sX J ?_);refine Xa (aI (λh2=>lb ?_) (λh2=>cc ?_))
    ·have h2:(j:Int)<H.length:=bG h2;refine Qa (Wa (sX J ?_));apply oi Ha;repeat refine aR ?_
     refine og (λ_=>Ha) ?_;repeat refine aR ?_
     refine aD (Xa ?_);refine aI (λh3=>?_) (λh3=>lb ?_)
     ·have h3:(bE (H.getD j default).aN s&&(H.getD j default).month==(M:Int))=true:=h3;refine eX J (oi Ha ?_);refine aD (eX J ?_);refine⟨j+1,O,O,?_⟩;exact Ka J [] rfl ⟨bQ,bQ,⟨rfl,Sc ⟨Ta,Ra (by rw[Fh,h3];rfl),oO⟩⟩,oO⟩ Fa
     have h3:(bE (H.getD j default).aN s&&(H.getD j default).month==(M:Int))=false:=h3;refine eX J ⟨j+1,O,O,?_⟩;exact Ka J [] rfl ⟨bQ,bQ,⟨rfl,Sc ⟨Ta,Ra (by rw[Fh,h3];rfl),oO⟩⟩,oO⟩ Fa
    have h2:¬(j:Int)<H.length:=bF h2;obtain rfl:j=H.length:=O;exact⟨rfl,Ka J [] rfl Fa Fa⟩
   generalize Fh v H M s H.length=n;refine sX J (Xa ?_);refine aI (λh2=>?_) (λh2=>lb ?_)
   ·have h2:(n !=0)=true:=h2;rw[h2,Ma,Gn];refine eX J (ob dC ?_);refine ob (by rw[dK];show(out.length+1)*24<=_;omega) ?_;refine ob (nJ (Nk rfl rfl)) ⟨rfl,Ka J [(100,103)] rfl ⟨bQ,⟨rfl,?_⟩,oO⟩ ⟨Z,Z,Z,Z,⟨rfl,Rc (cA _ _)⟩,Fa⟩⟩;refine sd (el:=dt) (x:=⟨s,n⟩) (λc hc=>?_);have hc:c<2:=hc
    match c,hc with|0,_|1,_=>rfl
   have h2:(n !=0)=false:=h2;rw[h2,Va,Option.toList_none,dd];exact⟨rfl,Ka J [] rfl Fa Fa⟩
  exact eX J ⟨i+1,O,O,Ka J [] rfl Fa Fa⟩
 ·have h1:¬(i:Int)<p.gr.bK.length:=bF h1;obtain rfl:i=p.gr.bK.length:=O;exact eX J gj
def ycs(p:Proj)(l:List Fact)(M:Nat)(hp:p.fits)(hf:∀f∈l,f.fits)(hl:l.length<=9223372036854775807)(he:j6 p l M 1=0):
  aF prog 7 [oR p,cJ l,vI M] (.t [.s (.d (WR (G3 p (cntF l) M))),.s (.d (dI 0))]):=by
 obtain⟨hk,hw⟩:=tL he
 have hw:=within_iff.1 hw
 have hS:=x4 hk
 have hP:=(Gm (M:=M) hp hk Ha (oo hk M)).1
 refine eP func7 rfl rfl call7 rfl rfl λR J=>?_
 refine aB (MP p l M 1 hp hf hl he) ?_
 refine aI (λh=>by cases h) (λ_=>?_)
 refine aB (lowest p (cntF l) M hS O) ?_
 apply aB hP
 refine aD ?_
 exact fb _
def ycl(xs:List Sa)(hl:xs.length<=1000000):aF prog 12 [iD xs,iD xs] (vB true):=by
 refine eW func12 rfl rfl call12 rfl rfl (λR J=>?_);refine sX J (Qa (sX J ?_));refine Xa (aI (λh=>?_) (λ_=>lb ?_))
 ·exfalso;have h:((xs.length:Int) !=xs.length)=true:=h;simp at h
 refine Qa (sX J ?_);refine Wa (pb (λi:Nat=>⟨[(0,iD xs),(1,iD xs),(5,vI i)],[]⟩) (λi=>i<=xs.length) (λi=>xs.length-i) 0 (Oa _) (Ka J [] rfl trivial Fa) ?_);intro i hi;refine Qa (sX J ?_);refine Xa (aI (λh=>lb ?_) (λh=>cc ?_))
 ·have h:(i:Int)<xs.length:=bG h;refine Qa (Wa (sX J ?_));refine oi Ha (oi Ha ?_);refine aD (Xa ?_);refine aI (λg=>?_) (λ_=>lb ?_)
  ·exfalso;have g:(!((xs.getD i default).month==(xs.getD i default).month&&((xs.getD i default).cell==(xs.getD i default).cell&&((xs.getD i default).aN.toList==(xs.getD i default).aN.toList&&((xs.getD i default).iZ==(xs.getD i default).iZ&&((xs.getD i default).gV==(xs.getD i default).gV&&((xs.getD i default).load==(xs.getD i default).load&&((xs.getD i default).dN.toList==(xs.getD i default).dN.toList&&true))))))))=true:=g;simp at g
  exact eX J ⟨i+1,O,O,Ka J [] rfl trivial Fa⟩
 exact eX J (fb _)
def yce(p:Proj)(l:List Fact)(m:Int)(hp:p.fits)(hf:∀f∈l,f.fits)(hl:l.length<=9223372036854775807)(he:j6 p l m 1≠0):
  aF prog 7 [oR p,cJ l,vI m] (.t [.s (.d (WR [])),.s (.d (dI (j6 p l m 1)))]):=by
 have hO:=PR p l m 1 hp hf hl he
 refine eW func7 rfl rfl call7 rfl rfl (λR J=>?_)
 apply sX J
 apply sX J
 apply aB hO
 refine Qa (sX J ?_)
 apply Xa
 apply aI<;>intro h
 ·exact eX J (Pe ⟨pd,Ja _,oO⟩)
 ·have h:(j6 p l m 1 !=0)=false:=h;exact absurd (by simpa using h) he
def ybF(p:Proj)(l:List Fact)(m:Int)(hp:p.fits)(hf:∀f∈l,f.fits)(hl:l.length<=9223372036854775807)(he:j6 p l m 1≠0):
  aF prog 8 [oR p,cJ l,vI m] (.t [.s (.d (ck [])),.s (.d (dI (j6 p l m 1)))]):=by
 have hO:=PR p l m 1 hp hf hl he
 refine eW func8 rfl rfl call8 rfl rfl (λR J=>?_)
 apply sX J
 apply sX J
 apply aB hO
 refine Qa (sX J ?_)
 apply Xa
 apply aI<;>intro h
 ·exact eX J (Pe ⟨pd,Ja _,oO⟩)
 ·have h:(j6 p l m 1 !=0)=false:=h;exact absurd (by simpa using h) he
def ycb(t:Int)(l:List Room):∀i,i<=l.length->Tj t l i=(l.take i).foldl (λt r=>aW (t-r.1.aT)) t
 |0,_=>rfl
 |i+1,h=>by rw[Tj,ycb t l i O,Bd,Ab O,aX O,Cj];rfl
def ybO(t:Int)(H:List Fact)(m:Int)(s:ta):∀i,i<=H.length->Fh t H m s i=((H.take i).filter λf=>f.month==m&&Rm.kS f==s.data.toList).foldl (λt f=>aW (t-f.aT)) t
 |0,_=>rfl
 |i+1,h=>by
  rw[Fh,ybO t H m s i O,Bd,Ab O,<-aX (show i<H.length by omega)];show _=List.foldl _ t (((H.take i)++ [H.getD i default]).filter _);rw[rk,Cj,ye,Dw];have e:(bE (H.getD i default).aN s&&(H.getD i default).month==m)=((H.getD i default).month==m&&Rm.kS (H.getD i default)==s.data.toList):=by rw[Tt,Fw];rfl
  rw[e]
  cases(H.getD i default).month==m&&Rm.kS (H.getD i default)==s.data.toList <;> rfl
def yc8(p:Proj)(xs:List Sa)(H:List Fact)(m:Int)(n:Nat):Cf p xs (Rm.kU H m H.length) n=Eh p xs H m n:=by
 have e:∀s,Mm xs (Rm.kU H m H.length) s=runN xs H m s:=λs=>by unfold Mm runN;rw[ycb _ _ _ (db _),ybO _ _ _ _ _ (db _),Ic,Ic,yb9,List.foldl_map];rfl
 have e2:sl p xs (Rm.kU H m H.length)=Tk p xs H m:=by funext i;unfold sl Tk;rw[e]
 unfold Cf Eh;rw[e2]
def ybC{p:Proj}(hv:PV p):p.gr.bK.length<=1000000:=by have h:=hv.gr;unfold dX mO at h;obtain⟨h,_⟩:=dU h;obtain⟨_,h⟩:=dF dC h;obtain⟨h,_⟩:=dF dC h;simp only[ic]at h;omega
def ydO{p:Proj}{l:List Fact}{j:Nat}(oW:p.fits)(hk:rh p l)(hj:j+1<=24):
  aF prog 10 [oR p,cJ (cntF l),vI (j+1:Nat)] (.s (.d (ck (Cf p (G3 p (cntF l) (j+1)) (Rm.kU (iM p (j8 (cntF l) (j+1:Nat)) (j8 (cntF l) (j+1:Nat)).length).1 (j+1:Nat) (iM p (j8 (cntF l) (j+1:Nat)) (j8 (cntF l) (j+1:Nat)).length).1.length) p.gr.bK.length)))):=by
 have hxl:=(Gm (M:=j+1) oW hk ⟨O,hj⟩ (oo hk _)).2
 have hHl:=(Du (M:=((j+1:Nat):Int)) hk).2
 rw[yc8]
 exact ycj p (cntF l) _ _ _ (j+1) (ydy oW hk hj) (ydx oW hk hj) O O (ybC (cj hk.proj))
def ProjectPieces(p:Proj)(l:List Fact)(m:Int)(hp:p.dq)(hf:∀f∈l,f.fits)(hl:l.length<=9223372036854775807):aF prog 3 [oR p,cJ l,vI m] (vB true):=by
 refine eW func3 rfl rfl call3 rfl rfl (λR J=>?_);refine sX J (Qa (sX J ?_));refine aB (aI9 p) ?_;repeat refine aR ?_
 refine bR (aMW l 25 dC) ?_;repeat refine aR ?_
 refine Xa (aI (λh=>eX J (aB Ps (fb _))) (λh=>lb ?_));have h:(vC p||HD l 25)=false:=h;rw[sc]at h;have oW:=hp.fits h.1;obtain⟨hlen,aPJ⟩:=aBR h.2;by_cases he:j6 p l m 1=0
 ·obtain⟨hk,hw⟩:=tL he;have hwm:=within_iff.1 hw;obtain⟨j,rfl⟩:∃j:Nat,m=(j+1:Nat):=⟨m.toNat-1,O⟩;have hC:=aBC l hf aPJ O;rw[aJO hk.fmt]at hC;have hE:=WH p l (j+1:Nat) 1 oW hf hl;rw[he]at hE;have hA:=ycs p l (j+1) oW hf hl he;have hU:=ybI p l (j+1) oW hf hl he;have hR:=ydy (j:=j) oW hk O;have hRU:=ydO (j:=j) oW hk O;have hxl:=(Gm (M:=j+1) oW hk Ha (oo hk _)).2;have hSP:=ycl (G3 p (cntF l) (j+1)) O;have SG:=ycc p (G3 p (cntF l) (j+1)) (Rm.kU (iM p (j8 (cntF l) (j+1:Nat)) (j8 (cntF l) (j+1:Nat)).length).1 (j+1:Nat) (iM p (j8 (cntF l) (j+1:Nat)) (j8 (cntF l) (j+1:Nat)).length).1.length) p.gr.bK.length;have hsl:=ybC (cj hk.proj);generalize Cf p (G3 p (cntF l) (j+1)) _ p.gr.bK.length=us at hU hRU SG;generalize G3 p (cntF l) (j+1)=xs at hA hR hSP;generalize cntF l=Y at hC hR hRU;refine sX J (aB hA ?_);refine sX J (aB hU ?_);refine Qa (sX J ?_);refine aB hE (sX J ?_);refine Xa (aI (λh2=>by cases h2) (λ_=>lb ?_));refine sX J (aB hC ?_);refine aB hRU (aD ?_);refine Qa (sX J ?_);repeat first|apply oi trivial|apply sk|apply st|apply sg|apply sh|apply su|apply sn1|apply sn0
  apply bR hC;repeat refine aR ?_
  apply bR hR;repeat refine aR ?_
  apply bR hSP;repeat refine aR ?_
  refine aD (Xa ?_);refine aI (λh2=>?_) (λ_=>lb ?_)
  ·exfalso;have h2:((((0:Int) !=0||(0:Int) !=0)||(us.length:Int) !=us.length)|| !true)=true:=h2;simp at h2
  refine mc (I':=⟨[],[]⟩) ?_ ?_
  ·refine sX J (Wa ?_);refine pb (λi:Nat=>⟨[(9,.s (.d (ck us))),(12,.s (.d (ck us))),(13,vI i)],[]⟩) (λi=>i<=us.length) (λi=>us.length-i) 0 (Oa _) (Ka J [] rfl trivial Fa) ?_;intro i hi;refine Qa (sX J ?_);refine Xa (aI (λh=>lb ?_) (λh=>cc ⟨rfl,Ka J [] rfl trivial trivial⟩));have h:(i:Int)<us.length:=bG h;refine Qa (Wa (sX J ?_));refine oi Ha (oi Ha ?_);refine aD (Xa ?_);refine aI (λg=>?_) (λ_=>lb ?_)
   ·exfalso;have g:(!((us.getD i default).aN.toList==(us.getD i default).aN.toList&&((us.getD i default).iZ==(us.getD i default).iZ&&true)))=true:=g;simp at g
   exact eX J ⟨i+1,O,O,Ka J [] rfl trivial Fa⟩
  exact eX J (aB Ps (fb _))
 have hd:(j6 p l m 1 !=0)=true:=by simpa using he
 refine sX J (aB (yce p l m oW hf hl he) ?_);refine sX J (aB (ybF p l m oW hf hl he) ?_);refine Qa (sX J ?_);refine aB (WH p l m 1 oW hf hl) (sX J ?_);refine Xa (aI (λ_=>?_) (λh2=>Bool.noConfusion (hd.symm.trans h2)));apply eX J;repeat refine aR ?_
 apply bR Ps;repeat refine aR ?_
 refine Ia (Ua (λb=>vB b) ?_);simp;rfl
end Go.Pj
