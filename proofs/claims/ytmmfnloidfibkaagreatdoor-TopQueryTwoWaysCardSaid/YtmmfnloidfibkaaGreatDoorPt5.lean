/- Part 5: lemmas that the proofs of this seat share; by itself it claims nothing. -/
import Derived.WalkKit
import Derived.Test.YtmmfnloidfibkaaGreatDoorPt4
set_option maxRecDepth 100000
set_option maxHeartbeats 1000000
set_option linter.defProp false
namespace Go.Ch
open Go Go.Ax Go.Proofs Go.Proofs.Tryz
def mix:prog.follows .mixedOrders=true:=kR
structure Pt where
 x:Int
 y:Int
 deriving DecidableEq,Inhabited
structure Ap where
 x:Int
 y:Int
 half:Int
 level:Int
 run:Int
 deriving DecidableEq,Inhabited
structure zP where
 name:ta
 kind:Int
 lS:List Pt
 deriving Inhabited
structure kE where
 name:ta
 aZ:List Ap
 over:Int
 buffer:Int
 Ya:List zP
 deriving Inhabited
structure eZ where
 x:Int
 y:Int
 side:Int
 dO:Int
 rows:Int
 levels:List Int
 deriving Inhabited
abbrev dS(s:ta):DV:=.val (.string s)
abbrev vS(s:ta):AV:=.s (.d (dS s))
abbrev pt(p:Pt):AV:=.g [.d (dI p.x),.d (dI p.y)]
abbrev ap(p:Ap):AV:=.g [.d (dI p.x),.d (dI p.y),.d (dI p.half),.d (dI p.level),.d (dI p.run)]
def FG(p:Pt):Nat->DV
 |0=>dI p.x
 |1=>dI p.y
 |_=>.bL
def apD(p:Ap):Nat->DV
 |0=>dI p.x
 |1=>dI p.y
 |2=>dI p.half
 |3=>dI p.level
 |4=>dI p.run
 |_=>.bL
def aOS(l:List Pt):Nat->Nat->DV:=λi=>FG (l.getD i default)
def Y9(l:List Pt):DV:=.fU l.length 2 (aOS l)
abbrev w9(l:List Pt):AV:=.s (.d (Y9 l))
def aQC(l:List Ap):Nat->Nat->DV:=λi=>apD (l.getD i default)
def x3(l:List Ap):DV:=.fU l.length 5 (aQC l)
def aKX(p:zP):Nat->DV
 |0=>dS p.name
 |1=>dI p.kind
 |2=>Y9 p.lS
 |_=>.bL
abbrev dj(p:zP):AV:=.g [.d (dS p.name),.d (dI p.kind),.d (Y9 p.lS)]
def Ts(l:List zP):Nat->Nat->DV:=λi=>aKX (l.getD i default)
def zM(l:List zP):DV:=.fU l.length 3 (Ts l)
abbrev GA(l:List zP):AV:=.s (.d (zM l))
abbrev aN5(l:List Ap):AV:=.s (.d (x3 l))
abbrev chan(c:kE):AV:=.g [.d (dS c.name),.d (x3 c.aZ),.d (dI c.over),.d (dI c.buffer),.d (zM c.Ya)]
abbrev rK(g:eZ):AV:=.g [.d (dI g.x),.d (dI g.y),.d (dI g.side),.d (dI g.dO),.d (dI g.rows),.d (b5 g.levels)]
def aX{α:Type} [Inhabited α] {l:List α}{i:Nat}(h:i<l.length){d:α}:l.getD i d=l[i]:=by simp[List.getElem?_eq_getElem h]
def bG{p:Prop} [Decidable p] (h:decide p=true):p:=Nb h
def bF{p:Prop} [Decidable p] (h:decide p=false):¬p:=Wj h
def within(n lo hi:Int):Bool:=decide (n>=lo)&&decide (n<=hi)
def nU(a b c:Pt):Int:=aW (aW (aW (b.x-a.x)*aW (c.y-a.y))-aW (aW (b.y-a.y)*aW (c.x-a.x)))
def af(a b c:Pt):Int:=aW (aW (aW (b.x-a.x)*aW (c.x-a.x))+aW (aW (b.y-a.y)*aW (c.y-a.y)))
def jP(a b p:Pt):Bool:=nU a b p==0&&within p.x (mm false a.x b.x) (mm true a.x b.x)&&within p.y (mm false a.y b.y) (mm true a.y b.y)
def SY(n:Int):Int:=if n<0 then -1 else if n>0 then 1 else 0
def yi(a b c d:Pt):Bool:=
 (((jP a b c||jP a b d)||jP c d a)||jP c d b)||(decide (aW (SY (nU a b c)*SY (nU a b d))<0)&&decide (aW (SY (nU c d a)*SY (nU c d b))<0))
def fB(p:Pt):Bool:=within p.x (-1000000) 1000000&&within p.y (-1000000) 1000000
def Ap.pt(a:Ap):Pt:=⟨a.x,a.y⟩
def eX{R:Cx}{N:Nat}{ref:List Nat}{c:Code}{I:St}{K:Exit->St->Prop}(J:R.ref=ref)(h:ex Tryz.prog tab N ref [] R c I K):AW Tryz.prog R N c I K:=Sb (rc:=[]) aJ mix J _ h
def eP{f N:Nat}{fn:Func}{c:Code}{args:List AV}{r:AV}{rs:List ResultVar}(hf:Tryz.prog.funcs[f]? =some fn)(hb:fn.body=some c)(hN:fn.ntmps=N)(hc:∀vs w, (callFunc f vs).run Tryz.prog w=.ok (.enter f vs) w) (hl:Nat.ble args.length N=true)(hr:fn.results.toList=rs)(h:∀R:Cx,R.ref=[]->ex Tryz.prog tab N [] [] R c (uV args) (XP tab rs r)):aF Tryz.prog f args r:=gI (rc:=[]) hf hb hN hc aJ mix hl hr h
def eW{f N:Nat}{fn:Func}{c:Code}{args:List AV}{r:AV}{rs:List ResultVar}(hf:Tryz.prog.funcs[f]? =some fn)(hb:fn.body=some c)(hN:fn.ntmps=N)(hc:∀vs w, (callFunc f vs).run Tryz.prog w=.ok (.enter f vs) w) (hl:Nat.ble args.length N=true)(hr:fn.results.toList=rs)(h:∀R:Cx,R.ref=[]->AW Tryz.prog R N c (uV args) (XP tab rs r)):aF Tryz.prog f args r:=FA hf hb hN hc aJ hl hr h
def sX{R:Cx}{N:Nat}{ref:List Nat}{x y:Code}{I:St}{K:Exit->St->Prop}(J:R.ref=ref)(h:ex Tryz.prog tab N ref [] R x I (OV (λs=>AW Tryz.prog R N y s K) K)):AW Tryz.prog R N (.seq x y) I K:=Sa (eX J h)
abbrev nC(n:Int):Prop:=(Lit.int .i64 n).wf=true
def rI:Rd prog 3 1 (λn:Int=>[.d (dI n)]) nC:=aH7 underlying3 kR
def rS:Rd prog 9 1 (λs:ta=>[.d (dS s)]) (λs=>s.size<=9223372036854775807):=aH6 underlying9 kR
def Pt.ok(p:Pt):Prop:=nC p.x/\nC p.y
def rPt:Rd prog 127 2 (λp:Pt=>[.d (dI p.x),.d (dI p.y)]) Pt.ok:=
 (fI underlying127 rfl kR (aS rfl rI (aS rfl rI jN))).to (λa=>⟨a.1,a.2.1⟩) (λ_=>rfl) (λ_ h=>⟨h.1,h.2.1⟩)
def Ap.ok(p:Ap):Prop:=nC p.x/\nC p.y/\nC p.half/\nC p.level/\nC p.run
def rAp:Rd prog 103 5 (λp:Ap=>[.d (dI p.x),.d (dI p.y),.d (dI p.half),.d (dI p.level),.d (dI p.run)]) Ap.ok:=
 (fI underlying103 rfl kR (aS rfl rI (aS rfl rI (aS rfl rI (aS rfl rI (aS rfl rI jN)))))).to (λa=>⟨a.1,a.2.1,a.2.2.1,a.2.2.2.1,a.2.2.2.2.1⟩) (λ_=>rfl) (λ_ h=>⟨h.1,h.2.1,h.2.2.1,h.2.2.2.1,h.2.2.2.2.1⟩)
def aOH:Rd prog 155 1 (λl:List Pt=>[.d (Y9 l)]) (λl=>l.length<=9223372036854775807/\∀a∈l,a.ok):=
 kF underlying155 kR rPt dC FG (λ_=>rfl) (λa j hj=>by match j,hj with|0,_=>rfl|1,_=>rfl)
def aOQ:Rd prog 25 1 (λl:List Ap=>[.d (x3 l)]) (λl=>l.length<=9223372036854775807/\∀a∈l,a.ok):=
 kF underlying25 kR rAp dC apD (λ_=>rfl) (λa j hj=>by match j,hj with|0,_=>rfl|1,_=>rfl|2,_=>rfl|3,_=>rfl|4,_=>rfl)
def PL:Rd prog 22 1 (λl:List Int=>[.d (b5 l)]) (λl=>l.length<=9223372036854775807/\∀a∈l,nC a):=
 kF underlying22 kR rI dC (λn _=>dI n) (λ_=>rfl) (λa j hj=>by match j,hj with|0,_=>rfl)
def zP.ok(p:zP):Prop:=p.name.size<=9223372036854775807/\nC p.kind/\p.lS.length<=9223372036854775807/\∀a∈p.lS,a.ok
def aOF:Rd prog 157 3 (λp:zP=>[.d (dS p.name),.d (dI p.kind),.d (Y9 p.lS)]) zP.ok:=
 (fI underlying157 rfl kR (aS rfl rS (aS rfl rI (aS rfl aOH jN)))).to (λa=>⟨a.1,a.2.1,a.2.2.1⟩) (λ_=>rfl) (λ_ h=>⟨h.1,h.2.1,h.2.2.1⟩)
def aK1:Rd prog 26 1 (λl:List zP=>[.d (zM l)]) (λl=>l.length<=9223372036854775807/\∀a∈l,a.ok):=
 kF underlying26 kR aOF dC aKX (λ_=>rfl) (λa j hj=>by match j,hj with|0,_=>rfl|1,_=>rfl|2,_=>rfl)
structure kE.ok(c:kE):Prop where
 name:c.name.size<=9223372036854775807
 aZ:c.aZ.length<=9223372036854775807
 aps:∀a∈c.aZ,a.ok
 over:nC c.over
 buffer:nC c.buffer
 Ya:c.Ya.length<=9223372036854775807
 aKW:∀a∈c.Ya,a.ok
structure eZ.ok(g:eZ):Prop where
 x:nC g.x
 y:nC g.y
 side:nC g.side
 dO:nC g.dO
 rows:nC g.rows
 levels:g.levels.length<=9223372036854775807
 Ju:∀a∈g.levels,nC a
def bs(l:List UInt8):ta:=⟨l.toArray⟩
abbrev dT(l:List UInt8):DV:=.val (.string (bs l))
abbrev vT(l:List UInt8):AV:=.s (.d (dT l))
def cF(l:List UInt8):(bs l).size=l.length:=by simp[bs,ByteArray.size]
def fH(a b:List UInt8):bs a++bs b=bs (a++b):=by apply ByteArray.ext;simp[bs,ByteArray.data_append]
def nF(l:List UInt8):(bs l).toList=l:=by rw[Xq];rfl
open Go.Lib in
def oD:∀(n u:Nat),u<=n->nDigits u<=u / 10+2
 |n,u,h=>by
  by_cases hu:u<10
  ·rw[nDigits_small hu];omega
  rw[nDigits_big hu]
  match n with
  |0=>omega
  |n+1=>have:=oD n (u / 10) O;omega
def pP(d:Nat):UInt8:=UInt8.ofNat (48+d)
abbrev Om:ta:=⟨#[48,49,50,51,52,53,54,55,56,57]⟩
def KJ:∀d:Fin 10,Om.extract d.val (d.val+1)=bs [pP d.val]:=by decide+kernel
def OA(l:List UInt8):((bs l).toList==(bs []).toList)=l.isEmpty:=by rw[nF,nF];cases l <;> rfl
open Go.Lib in
def xY{u:Nat}(h:¬u<10):decDigits u=decDigits (u / 10)++ [pP (u%10)]:=by rw[decDigits,Gr h];rfl
open Go.Lib in
def CD{u:Nat}(h:u<10):decDigits u=[pP u]:=by rw[decDigits,dif_pos h];rfl
open Go.Lib in
def aC8(u:Nat):decDigits u≠[]:=by
 by_cases h:u<10
 ·rw[CD h];simp
 rw[xY h];simp
open Go.Lib in
def aNZ(n0:Int)(q:Int×List UInt8):Prop:=(q.2≠[]/\q.1=0/\q.2=decDigits n0.natAbs)\/((q.1≠0\/q.2=[])/\decDigits q.1.natAbs++q.2=decDigits n0.natAbs/\q.1.natAbs<=n0.natAbs)
def rM(n:Int):Int:=mm true (n.tmod 10) (aW (0-n.tmod 10))
def WN(n:Int):rM n=((n.natAbs%10:Nat):Int):=by
 have h1:=Int.tmod_add_mul_tdiv n 10;have h2:=Int.tmod_lt_of_pos n (show(0:Int)<10 by decide);have h3: -10<n.tmod 10:=by have:=Int.tmod_lt_of_pos (-n) (show(0:Int)<10 by decide);rw[Xy]at this;omega
 unfold rM;rw[aG O O];unfold mm;simp only;rcases Fw 0 n with h|h
 ·rw[sj h]at*;split <;> omega
 have e:n.tmod 10= -((-n)%10):=by rw[<-Int.tmod_eq_emod_of_nonneg (by omega:(0:Int)<= -n),Xy,Int.neg_neg]
 rw[e]at*;split <;> omega
def WM(n:Int):(n.tdiv 10).natAbs=n.natAbs / 10:=by rw[Int.natAbs_tdiv];rfl
open Go.Lib in
def CY(n:Int)(h0: -9223372036854775808<n)(h1:n<=9223372036854775807):aF prog 171 [vI n] (vT (itoa n)):=by
 refine eP func171 rfl rfl call171 rfl rfl λR J=>?_
 apply aI<;>intro h
 ·have h:n<0:=bG h
  refine Gb (λq:Int×List UInt8=>⟨[(0,vI q.1),(3,vT [45]),(4,vT q.2)],[]⟩) (aNZ n) (λq=>q.1.natAbs+(if q.2=[]then 1 else 0)) (n,[]) (.inr ⟨.inr rfl,sM,mb _⟩) ?_ ?_
  ·exact uv
  ·rintro⟨m,s⟩ hJ
   apply eX J
   repeat refine aR ?_
   apply aI<;>intro h2
   ·have h2:(((bs s).toList==(bs []).toList)||(m !=0))=true:=h2
    rw[OA]at h2
    obtain⟨hd,e,hle⟩:(m≠0\/s=[])/\decDigits m.natAbs++s=decDigits n.natAbs/\m.natAbs<=n.natAbs:=by
     rcases hJ with⟨q1,q2,_⟩|h
     ·exfalso
      simp only at q1 q2
      rw[q2]at h2
      cases s with
      |nil=>exact q1 rfl
      |cons _ _=>cases h2
     ·exact h
    have hdg:=WN m
    have hlen:s.length<=n.natAbs / 10+2:=by
     have:=Na List.length e
     rw[ed,decDigits_length n.natAbs]at this
     have:=oD n.natAbs n.natAbs (mb _)
     omega
    have hw:aW (rM m+1)=rM m+1:=aG O O
    have hp:Om.extract (rM m).toNat (aW (rM m+1)).toNat=bs [pP (m.natAbs%10)]:=by
     rw[hw,hdg]
     exact KJ ⟨m.natAbs%10,O⟩
    apply oi dC
    apply oi dC
    refine oi ⟨by show 0<=rM m;omega,by show rM m<=aW (rM m+1);omega,by show aW (rM m+1)<=10;omega⟩ ?_
    refine oi (show(Om.extract (rM m).toNat (aW (rM m+1)).toNat).size+(bs s).size<=9223372036854775807 by rw[hp,cF,cF];simp;omega) ?_
    apply oi dC
    have hdv:=WM m
    have hr:m.tdiv 10=aW (m.tdiv 10):=(aG O O).symm
    refine⟨(m.tdiv 10,pP (m.natAbs%10)::s),?_,?_,?_⟩
    ·by_cases h10:m.natAbs<10
     ·left
      refine⟨sM,by show m.tdiv 10=0;omega,?_⟩
      show pP (m.natAbs%10)::s=_
      rw[<-e,CD h10,Rh h10];rfl
     ·right
      refine⟨.inl (by show m.tdiv 10≠0;omega),?_,by show(m.tdiv 10).natAbs<=_;omega⟩
      show decDigits (m.tdiv 10).natAbs++pP (m.natAbs%10)::s=_
      rw[<-e,xY h10,hdv];simp
    ·show(m.tdiv 10).natAbs+(if pP (m.natAbs%10)::s=[]then 1 else 0)<m.natAbs+(if s=[]then 1 else 0)
     rw[Ka sM,hdv]
     rcases hd with h|h
     ·split <;> omega
     ·rw[La h];omega
    ·exact Qa J [] rfl trivial ⟨⟨rfl,Ra hr.symm⟩,Z,⟨rfl,Wb (Na (λx=>AV.s (.d (.val (.string x)))) ((Na (· ++bs s) hp).trans (fH _ _)))⟩,oO⟩
   ·have h2:(((bs s).toList==(bs []).toList)||(m !=0))=false:=h2
    rw[OA,Ed]at h2
    have hs:s=decDigits n.natAbs:=by
     exact xq
    have hlen:s.length<=n.natAbs / 10+2:=by
     exact zc3
    refine oi (show(bs [45]).size+(bs s).size<=9223372036854775807 by rw[cF,cF];simp;omega) ?_
    refine Ia (Na (λx=>AV.s (.d (.val (.string x)))) ((fH _ _).trans (Na bs ?_)))
    rw[hs]
    unfold itoa
    rw[La h];rfl
 ·have h:¬n<0:=bF h
  refine Gb (λq:Int×List UInt8=>⟨[(0,vI q.1),(3,vT []),(4,vT q.2)],[]⟩) (aNZ n) (λq=>q.1.natAbs+(if q.2=[]then 1 else 0)) (n,[]) (.inr ⟨.inr rfl,sM,mb _⟩) ?_ ?_
  ·exact uv
  ·rintro⟨m,s⟩ hJ
   apply eX J
   repeat refine aR ?_
   apply aI<;>intro h2
   ·have h2:(((bs s).toList==(bs []).toList)||(m !=0))=true:=h2
    rw[OA]at h2
    obtain⟨hd,e,hle⟩:(m≠0\/s=[])/\decDigits m.natAbs++s=decDigits n.natAbs/\m.natAbs<=n.natAbs:=by
     rcases hJ with⟨q1,q2,_⟩|h
     ·exfalso
      simp only at q1 q2
      rw[q2]at h2
      cases s with
      |nil=>exact q1 rfl
      |cons _ _=>cases h2
     ·exact h
    have hdg:=WN m
    have hlen:s.length<=n.natAbs / 10+2:=by
     have:=Na List.length e
     rw[ed,decDigits_length n.natAbs]at this
     have:=oD n.natAbs n.natAbs (mb _)
     omega
    have hw:aW (rM m+1)=rM m+1:=aG O O
    have hp:Om.extract (rM m).toNat (aW (rM m+1)).toNat=bs [pP (m.natAbs%10)]:=by
     rw[hw,hdg]
     exact KJ ⟨m.natAbs%10,O⟩
    apply oi dC
    apply oi dC
    refine oi ⟨by show 0<=rM m;omega,by show rM m<=aW (rM m+1);omega,by show aW (rM m+1)<=10;omega⟩ ?_
    refine oi (show(Om.extract (rM m).toNat (aW (rM m+1)).toNat).size+(bs s).size<=9223372036854775807 by rw[hp,cF,cF];simp;omega) ?_
    apply oi dC
    have hdv:=WM m
    have hr:m.tdiv 10=aW (m.tdiv 10):=(aG O O).symm
    refine⟨(m.tdiv 10,pP (m.natAbs%10)::s),?_,?_,?_⟩
    ·by_cases h10:m.natAbs<10
     ·left
      refine⟨sM,by show m.tdiv 10=0;omega,?_⟩
      show pP (m.natAbs%10)::s=_
      rw[<-e,CD h10,Rh h10];rfl
     ·right
      refine⟨.inl (by show m.tdiv 10≠0;omega),?_,by show(m.tdiv 10).natAbs<=_;omega⟩
      show decDigits (m.tdiv 10).natAbs++pP (m.natAbs%10)::s=_
      rw[<-e,xY h10,hdv];simp
    ·show(m.tdiv 10).natAbs+(if pP (m.natAbs%10)::s=[]then 1 else 0)<m.natAbs+(if s=[]then 1 else 0)
     rw[Ka sM,hdv]
     rcases hd with h|h
     ·split <;> omega
     ·rw[La h];omega
    ·exact Qa J [] rfl trivial ⟨⟨rfl,Ra hr.symm⟩,Z,⟨rfl,Wb (Na (λx=>AV.s (.d (.val (.string x)))) ((Na (· ++bs s) hp).trans (fH _ _)))⟩,oO⟩
   ·have h2:(((bs s).toList==(bs []).toList)||(m !=0))=false:=h2
    rw[OA,Ed]at h2
    have hs:s=decDigits n.natAbs:=by
     exact xq
    have hlen:s.length<=n.natAbs / 10+2:=by
     exact zc3
    refine oi (show(bs []).size+(bs s).size<=9223372036854775807 by rw[cF,cF];simp;omega) ?_
    refine Ia (Na (λx=>AV.s (.d (.val (.string x)))) ((fH _ _).trans (Na bs ?_)))
    rw[hs]
    unfold itoa
    rw[Ka h,show n.natAbs=n.toNat by omega];rfl
def cI(n lo hi:Int):aF prog 5 [vI n,vI lo,vI hi] (vB (within n lo hi)):=by exact eP func5 rfl rfl call5 rfl rfl λR _=>⟨λh=>h,λh=>h,λh=>h,trivial,db _⟩
def aHN(a b c:Pt):aF prog 311 [pt a,pt b,pt c] (vI (nU a b c)):=by exact eP func311 rfl rfl call311 rfl rfl λR _=>db _
def T8(a b c:Pt):aF prog 308 [pt a,pt b,pt c] (vI (nU a b c)):=by exact eP func308 rfl rfl call308 rfl rfl λR _=>db _
def aMY(a b c:Pt):aF prog 298 [pt a,pt b,pt c] (vI (af a b c)):=by exact eP func298 rfl rfl call298 rfl rfl λR _=>db _
def Sign(n:Int):aF prog 346 [vI n] (vI (SY n)):=by
 refine eP func346 rfl rfl call346 rfl rfl λR _=>aI (λh=>?_) (λh=>And.intro (λh'=>?_) (λh'=>?_))
 ·exact Ia (by rw[SY,La (bG h)];rfl)
 ·exact Ia (by rw[SY,Ka (bF h),La (bG h')];rfl)
 exact Ia (by rw[SY,Ka (bF h),Ka (bF h')];rfl)
def OJ(a b c:Pt):aF prog 312 [pt a,pt b,pt c] (vI (SY (nU a b c))):=by exact eP func312 rfl rfl call312 rfl rfl λR _=>aB (aHN a b c) (aB (Sign _) (db _))
def isNaN(n:Int):aF prog 201 [vI n] (vB false):=by
 refine eP func201 rfl rfl call201 rfl rfl λR _=>?_
 exact Ia (by show vB (n !=n)=vB false;simp)
def yV(a b p:Pt):aF prog 224 [pt a,pt b,pt p] (vB (jP a b p)):=by
 refine eP func224 rfl rfl call224 rfl rfl λR _=>aB (aHN a b p) ?_
 repeat first|apply sk|apply st|apply sg
 exact bR (cI _ _ _) zam
def aQE(a b c d:Pt):aF prog 225 [pt a,pt b,pt c,pt d] (vB (yi a b c d)):=by
 refine eP func225 rfl rfl call225 rfl rfl λR _=>?_
 refine aB (yV a b c) ?_
 repeat first|apply sk|apply st|apply sg
 refine bR (yV a b d) ?_
 repeat first|apply sk|apply st|apply sg
 refine bR (yV c d a) ?_
 repeat first|apply sk|apply st|apply sg
 refine bR (yV c d b) ?_
 repeat first|apply sk|apply st|apply sg
 apply aI<;>intro h
 ·exact wc (by rw[yi,h];rfl)
 ·refine aB (OJ a b c) ?_
  refine aB (OJ a b d) ?_
  repeat first|apply sk|apply st|apply sg
  refine bR (OJ c d a) ?_
  repeat first|apply sk|apply st|apply sg
  refine bR (OJ c d b) ?_
  exact zbB
def on(a b p:Pt):aF prog 307 [pt a,pt b,pt p] (vB (jP a b p)):=by
 refine eP func307 rfl rfl call307 rfl rfl λR _=>aB (T8 a b p) ?_
 repeat first|apply sk|apply st|apply sg
 apply Ia;show vB _=vB _;simp only[jP,within,ge_iff_le,Bool.and_assoc]
def Compare(n m:Int):aF prog 138 [vI n,vI m] (vI (SY (n-m))):=by
 refine eP func138 rfl rfl call138 rfl rfl λR _=>aB (isNaN n) (aB (isNaN m) ?_)
 refine aI (λh=>by cases h) (λ_=>And.intro (λh=>by cases h) (λ_=>And.intro (λh=>?_) (λh=>And.intro (λh'=>?_) (λh'=>?_))))
 ·have:=bG h;exact Ia (by rw[SY,La O];rfl)
 ·have:=bG h';exact Ia (by rw[SY,Ka O,La O];rfl)
 have:=bF h;have:=bF h';exact Ia (by rw[SY,Ka O,Ka O];rfl)
def side(a b c:Pt):aF prog 361 [pt a,pt b,pt c] (vI (SY (nU a b c))):=by
 refine eP func361 rfl rfl call361 rfl rfl λR _=>aB (T8 a b c) (aB (Compare _ 0) ?_)
 exact Ia (by show vI _=vI _;rw[Int.sub_zero])
def aMU(p:Pt):aF prog 305 [pt p] (vB (!fB p)):=by
 refine eP func305 rfl rfl call305 rfl rfl λR _=>?_
 repeat first|apply sk|apply st|apply sg
 apply Ia;show vB _=vB _;apply Na vB;rw[Ff];simp[fB,within];omega
def outside(n lo hi:Int):aF prog 176 [vI n,vI lo,vI hi] (vB (!within n lo hi)):=by exact eP func176 rfl rfl call176 rfl rfl λR _=>ja
def aMV(a b c d:Pt):aF prog 344 [pt a,pt b,pt c,pt d] (vB (yi a b c d)):=by
 refine eP func344 rfl rfl call344 rfl rfl λR _=>?_
 refine aB (on a b c) ?_
 repeat first|apply sk|apply st|apply sg
 refine bR (on a b d) ?_
 repeat first|apply sk|apply st|apply sg
 refine bR (on c d a) ?_
 repeat first|apply sk|apply st|apply sg
 refine bR (on c d b) ?_
 repeat first|apply sk|apply st|apply sg
 apply aI<;>intro h
 ·exact wc (by rw[yi,h];rfl)
 ·refine aB (side a b c) ?_
  refine aB (side a b d) ?_
  repeat first|apply sk|apply st|apply sg
  refine bR (side c d a) ?_
  repeat first|apply sk|apply st|apply sg
  refine bR (side c d b) ?_
  exact zbB
def place(a:Ap):aF prog 227 [ap a] (pt a.pt):=by exact eP func227 rfl rfl call227 rfl rfl λR _=>db _
def Place(a:Ap):aF prog 103 [ap a] (pt a.pt):=by exact eP func103 rfl rfl call103 rfl rfl λR _=>db _
def aFQ(p:Pt):aF prog 226 [pt p] (vB (fB p)):=by
 refine eP func226 rfl rfl call226 rfl rfl λR _=>?_
 refine aB (outside _ _ _) ?_
 repeat first|apply sk|apply st|apply sg
 refine bR (outside _ _ _) ?_
 repeat first|apply sk|apply st|apply sg
 apply Ia
 show vB _=vB _
 simp[fB]
def Good(p:Pt):aF prog 102 [pt p] (vB (fB p)):=by exact eP func102 rfl rfl call102 rfl rfl λR _=>aB (cI _ _ _) zam
def down(a b:Int)(hb:b≠0):aF prog 342 [vI a,vI b] (vI (if a.tmod b<0 then aW (aW (a.tdiv b)-1)else aW (a.tdiv b))):=by
 refine eP func342 rfl rfl call342 rfl rfl λR _=>ob hb (ob hb ?_)
 refine aD ?_;apply aI<;>intro h
 ·apply Ia;rw[La (bG h)];rfl
 exact Ia (by rw[Ka (bF h)];rfl)
def lvl(off half rA run:Int):Int×Bool:=
 bif decide (off<=half)then(rA,true)else bif run==0 then(0,false)else(aW (rA+aW (Int.tdiv (aW (off-half)) run)),decide (aW (rA+aW (Int.tdiv (aW (off-half)) run))<=20000))
abbrev part(off half rA run:Int):AV:=.g [.d (dI off),.d (dI half),.d (dI rA),.d (dI run)]
abbrev rIB(r:Int×Bool):AV:=.t [.s (.d (.val (.int .i64 r.1))),.s (.d (.val (.bool r.2)))]
def aC.ib{n m:Int}{b c:Bool}(h:n=m)(k:b=c):aC (.t [.s (.d (.val (.int .i64 n))),.s (.d (.lit b))]) (.t [.s (.d (.val (.int .i64 m))),.s (.d (.val (.bool c)))]):=by subst h;subst k;exact Re ⟨Ja _,λ_ _ r=>r,oO⟩
def level(o h b r:Int):aF prog 209 [part o h b r] (rIB (lvl o h b r)):=by
 refine eP func209 rfl rfl call209 rfl rfl λR _=>aI (λh=>?_) (λh=>?_)
 ·exact aC.ib (by rw[lvl,h];rfl) (by rw[lvl,h];rfl)
 apply aI<;>intro h'
 ·exact aC.ib (by rw[lvl,h,h'];rfl) (by rw[lvl,h,h'];rfl)
 refine oi (by simpa using h') (aD ?_);exact Ia (by rw[lvl,h,h'];rfl)
def F3(g:eZ)(i:Int):Pt:=⟨aW (g.x+aW (i.tmod g.dO*g.side)),aW (g.y+aW (aW (i.tdiv g.dO)*g.side))⟩
def dP(g:eZ)(i:Int):Pt:=⟨aW ((F3 g i).x+aW (g.side.tdiv 2)),aW ((F3 g i).y+aW (g.side.tdiv 2))⟩
def aGG(g:eZ)(i:Int)(h:g.dO≠0):aF prog 145 [rK g,vI i] (pt (F3 g i)):=by
 refine eP func145 rfl rfl call145 rfl rfl λR _=>oi h (oi h ?_)
 refine aD (Ia ?_);rfl
def aGI(g:eZ)(i:Int)(h:g.dO≠0):aF prog 74 [rK g,vI i] (pt (dP g i)):=by
 refine eP func74 rfl rfl call74 rfl rfl λR _=>aB (aGG g i h) (oi dC ?_)
 refine oi dC (Ia ?_);rfl
def alike(a b:eZ):Bool:=a.x==b.x&&a.y==b.y&&a.side==b.side&&a.dO==b.dO&&a.rows==b.rows
def IM(l:List Pt)(i:Nat)(hl:l≠[]):aF prog 223 [w9 l,vI i] (pt (l.getD (i%l.length) default)):=by
 have hlen:0<l.length:=Nh.2 hl;have hm:=Cg i hlen;have e:(i:Int).tmod l.length=((i%l.length:Nat):Int):=by rw[sj O];rfl
 exact eP func223 rfl rfl call223 rfl rfl λR _=>zan
def NM(l:List Pt)(i:Nat)(hl:l≠[]):aF prog 306 [w9 l,vI i] (pt (l.getD (i%l.length) default)):=by
 have hlen:0<l.length:=Nh.2 hl;have hm:=Cg i hlen;have e:(i:Int).tmod l.length=((i%l.length:Nat):Int):=by rw[sj O];rfl
 exact eP func306 rfl rfl call306 rfl rfl λR _=>zan
def cL{α:Type}(p:α->Bool):List α->Nat->Int
 |[],_=> -1
 |x::r,k=>bif p x then k else cL p r (k+1)
def kI{α:Type}(p:α->Bool):∀(l:List α) (k:Nat),decide (cL p l k>=0)=l.any p
 |[],_=>rfl
 |x::r,k=>by
  rw[cL,Vg]
  cases h:p x with
  |true=>simp
  |false=>simpa using kI p r (k+1)
def TN(l:List Int)(hl:l.length<=9223372036854775807)(f k:Nat)(c:Nat->DV)(p:Int->Bool)(hp:∀x∈l,aF prog f (vI x::jF c k 0) (vB (p x))):
  aF prog 124 [iR l,.s (.d (.dZ f k c))] (vI (cL p l 0)):=by
 refine eP func124 rfl rfl call124 rfl rfl λR J=>?_
 refine Hb (λi:Nat=>⟨[(0,iR l),(1,.s (.d (.dZ f k c))),(7,vI l.length),(8,vI i),(4,vI 0)],[]⟩) (λi=>i<=l.length/\cL p l 0=cL p (l.drop i) i) (λi=>l.length-i) 0 ⟨Nat.zero_le _,rfl⟩ ?_ ?_
 ·exact vd
 ·rintro i ⟨hi,he⟩;apply eX J;apply aI<;>intro h
  ·have h:(i:Int)<l.length:=bG h;have bC:i<l.length:=O;have hd:l.drop i=l[i]::l.drop (i+1):=Ve bC;have hg:l.getD i default=l[i]:=aX bC;refine oi Ha (aB ((hp (l.getD i default) Bm).conv (args':=_) ⟨Ja _,bj⟩) ?_);exact zc
  exact zk
def tZ(l:List Int)(hl:l.length<=9223372036854775807)(f k:Nat)(c:Nat->DV)(p:Int->Bool)(hp:∀x∈l,aF prog f (vI x::jF c k 0) (vB (p x))):
  aF prog 67 [iR l,.s (.d (.dZ f k c))] (vB (l.any p)):=by
 refine eP func67 rfl rfl call67 rfl rfl λR J=>?_
 refine aB (TN l hl f k c p hp) ?_
 exact Ia (Na vB (kI p l 0))
def TM(l:List Pt)(hl:l.length<=9223372036854775807)(f k:Nat)(c:Nat->DV)(p:Pt->Bool)(hp:∀x∈l,aF prog f (pt x::jF c k 0) (vB (p x))):
  aF prog 345 [w9 l,.s (.d (.dZ f k c))] (vI (cL p l 0)):=by
 refine eP func345 rfl rfl call345 rfl rfl λR J=>?_
 refine Hb (λi:Nat=>⟨[(0,w9 l),(1,.s (.d (.dZ f k c))),(7,vI l.length),(8,vI i),(4,vI 0)],[]⟩) (λi=>i<=l.length/\cL p l 0=cL p (l.drop i) i) (λi=>l.length-i) 0 ⟨Nat.zero_le _,rfl⟩ ?_ ?_
 ·exact vd
 ·exact ua
def ZB(l:List Pt)(hl:l.length<=9223372036854775807)(f k:Nat)(c:Nat->DV)(p:Pt->Bool)(hp:∀x∈l,aF prog f (pt x::jF c k 0) (vB (p x))):
  aF prog 304 [w9 l,.s (.d (.dZ f k c))] (vB (l.any p)):=by
 refine eP func304 rfl rfl call304 rfl rfl λR J=>?_
 refine aB (TM l hl f k c p hp) ?_
 exact Ia (Na vB (kI p l 0))
def HP(l:List zP)(hl:l.length<=9223372036854775807)(f k:Nat)(c:Nat->DV)(p:zP->Bool)(hp:∀x∈l,aF prog f (dj x::jF c k 0) (vB (p x))):
  aF prog 153 [GA l,.s (.d (.dZ f k c))] (vI (cL p l 0)):=by
 refine eP func153 rfl rfl call153 rfl rfl λR J=>?_
 refine Hb (λi:Nat=>⟨[(0,GA l),(1,.s (.d (.dZ f k c))),(7,vI l.length),(8,vI i),(4,vI 0)],[]⟩) (λi=>i<=l.length/\cL p l 0=cL p (l.drop i) i) (λi=>l.length-i) 0 ⟨Nat.zero_le _,rfl⟩ ?_ ?_
 ·exact vd
 ·exact zd
def ZA(l:List zP)(hl:l.length<=9223372036854775807)(f k:Nat)(c:Nat->DV)(p:zP->Bool)(hp:∀x∈l,aF prog f (dj x::jF c k 0) (vB (p x))):
  aF prog 228 [GA l,.s (.d (.dZ f k c))] (vB (l.any p)):=by
 refine eP func228 rfl rfl call228 rfl rfl λR J=>?_
 refine aB (HP l hl f k c p hp) ?_
 exact Ia (Na vB (kI p l 0))
def ZM(n lo hi:Int)(f g:Nat->DV)(hf:f 0=dI lo)(hg:g 0=dI hi):aF prog 210 [vI n,.s (.d (.rp 1 f)),.s (.d (.rp 1 g))] (vB (!within n lo hi)):=by
 have h1:sV [vI n,.s (.d (.rp 1 f)),.s (.d (.rp 1 g))] [vI n,.s (.d (.rp 1 λ_=>dI lo)),.s (.d (.rp 1 λ_=>dI hi))]:=
  ⟨Ja _,Zc λj hj=>Wa Yk,Zc λj hj=>Wa Wo,oO⟩
 refine Ze ?_ h1;exact eP func210 rfl rfl call210 rfl rfl λR _=>ja
def JQ(lo hi:Int)(l:List Int):Bool:=l.any λn=> !within n lo hi
def x7(lo hi:Int)(l:List Int)(hl:l.length<=9223372036854775807):aF prog 144 [vI lo,vI hi,iR l] (vB (!JQ lo hi l)):=by exact eP func144 rfl rfl call144 rfl rfl λR _=>aB (tZ l hl 210 2 _ (λn=> !within n lo hi) (λx _=>ZM x lo hi _ _ rfl rfl)) (db _)
def aFO(n:Int):aF prog 174 [vI n] (vB (within n (-20000) 20000)):=by
 refine eP func174 rfl rfl call174 rfl rfl λR _=>aB ((x7 (-20000) 20000 [n] sM).conv (args':=_) ⟨Ja _,Ja _,Yc λi j hi hj=>?_,oO⟩) ?_
 ·exact zb1
 exact Ia (by show vB _=vB _;simp[JQ])
def iQ(n:Int):Bool:=n !=30000&& !within n (-20000) 20000
def aGH(n:Int):aF prog 173 [vI n] (vB (iQ n)):=by
 refine eP func173 rfl rfl call173 rfl rfl λR _=>?_
 repeat first|apply sk|apply st|apply sg
 exact bR (aFO n) jo
def e1(g:eZ):Bool:= !(within g.x (-1000000) 1000000)|| !(within g.y (-1000000) 1000000)|| !(within g.side 100 10000)|| !(within g.dO 1 1024)|| !(within g.rows 1 1024)
def kC(g:eZ):Int:=
 bif e1 g then 2
 else bif decide (aW (g.dO*g.rows)>1024)then 8
 else bif decide (aW (g.x+aW (g.dO*g.side))>1000000)||decide (aW (g.y+aW (g.rows*g.side))>1000000)then 2
 else bif (g.levels.length:Int) !=aW (g.dO*g.rows)then 10
 else bif g.levels.any iQ then 2 else 0
def UW(g:eZ)(hl:g.levels.length<=9223372036854775807):aF prog 117 [rK g] (vI (kC g)):=by
 refine eP func117 rfl rfl call117 rfl rfl λR _=>?_
 have two:∀(a b:Int) (f:Nat->Nat->DV) (h0:f 0 0=dI a) (h1:f 1 0=dI b),aK (.fU 2 1 f) (b5 [a,b]):=by
  intro a b f h0 h1
  refine Yc λi j hi hj=>?_
  have:j=0:=O
  subst j
  exact zda
 have one:∀(a:Int) (f:Nat->Nat->DV) (h0:f 0 0=dI a),aK (.fU 1 1 f) (b5 [a]):=by
  intro a f h0
  exact zb7
 refine aB ((x7 (-1000000) 1000000 [g.x,g.y] sM).conv (args':=_) ⟨Ja _,Ja _,two _ _ _ rfl rfl,oO⟩) ?_
 repeat first|apply sk|apply st|apply sg
 apply aI<;>intro h1
 ·refine ob (by rw[h1];rfl) ?_
  refine aB ((x7 100 10000 [g.side] sM).conv (args':=_) ⟨Ja _,Ja _,one _ _ rfl,oO⟩) ?_
  repeat first|apply sk|apply st|apply sg
  apply aI<;>intro h2
  ·skip
   refine ob (by rw[h2];rfl) ?_
   refine ob (by rw[h2];rfl) ?_
   refine aB ((x7 1 1024 [g.dO,g.rows] sM).conv (args':=_) ⟨Ja _,Ja _,two _ _ _ rfl rfl,oO⟩) ?_
   apply aI<;>intro h3
   ·exact Ia (by rw[kC,show e1 g=true by simp[JQ]at h1 h2 h3;simp[e1,h1,h2,h3]];rfl)
   have he:e1 g=false:=by simp[JQ]at h1 h2 h3;simp[e1,h1,h2,h3]
   apply aI<;>intro h4
   ·exact Ia (by rw[kC,he,h4];rfl)
   repeat first|apply sk|apply st|apply sg
   apply aI<;>intro h5
   ·exact Ia (by rw[kC,he,h4,h5];rfl)
   apply aI<;>intro h6
   ·exact Ia (by rw[kC,he,h4,h5,h6];rfl)
   refine aB ((tZ g.levels hl 173 0 (λ_=>.bL) iQ (λx _=>aGH x)).conv (args':=_) ⟨Ja _,sf λj hj=>absurd hj (cd j),oO⟩) ?_
   apply aI<;>intro h7
   ·exact zem
   ·exact zem
  ·exact Ia (by rw[kC,show e1 g=true by simp[JQ]at h1 h2;simp[e1,h1,h2]];rfl)
 ·exact Ia (by rw[kC,show e1 g=true by simp[JQ]at h1;simp[e1,h1]];rfl)
def W2(n:Int):aF prog 101 [vI n] (vB (within n (-20000) 20000)):=by exact eP func101 rfl rfl call101 rfl rfl λR _=>aB (cI _ _ _) (db _)
def aKF(g:eZ)(hl:g.levels.length<=9223372036854775807):aF prog 58 [rK g] (vI (kC g)):=by
 refine eP func58 rfl rfl call58 rfl rfl λR _=>?_
 refine aB (cI _ _ _) ?_
 repeat first|apply sk|apply st|apply sg
 refine bR (cI _ _ _) ?_
 repeat first|apply sk|apply st|apply sg
 refine bR (cI _ _ _) ?_
 repeat first|apply sk|apply st|apply sg
 refine bR (cI _ _ _) ?_
 repeat first|apply sk|apply st|apply sg
 refine bR (cI _ _ _) ?_
 repeat first|apply sk|apply st|apply sg
 apply aI<;>intro h
 ·exact Ia (by rw[kC,e1,h];rfl)
 apply aI<;>intro h2
 ·exact Ia (by rw[kC,e1,h,h2];rfl)
 repeat first|apply sk|apply st|apply sg
 apply aI<;>intro h3
 ·exact Ia (by rw[kC,e1,h,h2,h3];rfl)
 apply aI<;>intro h4
 ·exact Ia (by rw[kC,e1,h,h2,h3,h4];rfl)
 refine Hb (λi:Nat=>⟨[(1,.s (.ptr 1 0)),(3,vI i)],[(1,some (.cells [.d (dI g.x),.d (dI g.y),.d (dI g.side),.d (dI g.dO),.d (dI g.rows),.d (b5 g.levels)]))]⟩) (λi=>i<=g.levels.length/\g.levels.any iQ=(g.levels.drop i).any iQ) (λi=>g.levels.length-i) 0 ⟨Nat.zero_le _,rfl⟩ ?_ ?_
 ·refine Zb (by assumption) Ga Ga
 ·rintro i ⟨hi,hj⟩
  refine Sb (rc:=[]) aJ mix (by assumption) _ ?_
  apply aI<;>intro h5
  ·have h5:(i:Int)<g.levels.length:=bG h5
   have bC:i<g.levels.length:=O
   have hd:g.levels.drop i=g.levels[i]::g.levels.drop (i+1):=Ve bC
   have hg:g.levels.getD i 0=g.levels[i]:=aX bC
   apply oi Ha
   repeat first|apply sk|apply st|apply sg
   refine oi ?_ ?_
   ·exactλ_=>Ha
   repeat first|apply sk|apply st|apply sg
   refine bR (W2 _) ?_
   repeat first|apply sk|apply st|apply sg
   rw[hd,Vg]at hj
   apply aI<;>intro h6
   ·have h6:iQ g.levels[i]=true:=hg▸h6
    apply Ia
    rw[kC,e1,h,h2,h3,h4,hj,h6];rfl
   ·have h6:iQ g.levels[i]=false:=hg▸h6
    refine⟨i+1,⟨O,by rw[hj,h6];rfl⟩,O,?_⟩
    refine Zb (by assumption) Ga ⟨rQ,⟨rfl,?_⟩,oO⟩
    exact zm
  ·have h5:¬(i:Int)<g.levels.length:=bF h5
   have bC:i=g.levels.length:=O
   apply Ia
   rw[kC,e1,h,h2,h3,h4,hj,bC,Sg];rfl
def Y1{g:eZ}(h:kC g=0):1<=g.dO/\g.dO<=1024:=by
 cases he:e1 g with
 |true=>rw[kC,he]at h;cases h
 |false=>simp[e1,within]at he;omega
def aP8(g:eZ)(i:Int)(he:kC g=0)(h0:0<=i)(hi:i<g.levels.length)(hl:g.levels.length<=9223372036854775807):aF prog 73 [rK g,vI i] (vI 0):=by
 refine eP func73 rfl rfl call73 rfl rfl λR _=>aB (UW g hl) (aI (λh=>?_) (λh=>?_))
 ·rw[he]at h;cases h
 refine aB ((x7 0 (aW (g.levels.length-1)) [i] sM).conv (args':=_) ⟨Ja _,Ja _,Yc λi j hi hj=>?_,oO⟩) ?_
 ·exact zb1
 apply aI<;>intro h
 ·rw[aG O O]at h;simp[JQ,within]at h;omega
 exact Ia rfl
def OD(g:eZ)(i:Int)(he:kC g=0)(h0:0<=i)(hi:i<g.levels.length)(hl:g.levels.length<=9223372036854775807):aF prog 38 [rK g,vI i] (.t [.g [.d (dI (dP g i).x),.d (dI (dP g i).y)],.s (.d (dI 0))]):=by
 refine eP func38 rfl rfl call38 rfl rfl λR _=>aB (aP8 g i he h0 hi hl) (aI (λh=>by cases h) (λ_=>?_))
 refine aB (aGI g i (by have:=Y1 he;omega)) ?_;exact Ia rfl
def aGE(g:eZ)(i:Int)(he:kC g=0)(h0:0<=i)(hi:i<g.levels.length)(hl:g.levels.length<=9223372036854775807):aF prog 143 [rK g,vI i] (pt (dP g i)):=by exact eP func143 rfl rfl call143 rfl rfl λR _=>aB (OD g i he h0 hi hl) (Ia rfl)
def u8(s:ta)(i:Nat):Int:=(s[i]!.toNat:Int)
def Og(c:Int):Bool:=(decide (c>=97)&&decide (c<=122))||(decide (c>=65)&&decide (c<=90))
def wN(i:Int)(c:Int):Bool:= !Og c&&(i==0|| !((decide (c>=48)&&decide (c<=57))||c==45))
def yU(i c:Int):(!Og c&&(i==0||(c !=45&&(decide (c<48)||decide (c>57)))))=wN i c:=by rw[wN,Ff];simp;intro _;omega
def fT(s:ta):Nat->Nat->Bool
 |0,_=>false
 |n+1,i=>wN i (u8 s i)||fT s n (i+1)
def isName(s:ta):Bool:= !(decide ((s.size:Int)<1)||decide ((s.size:Int)>12))&& !fT s s.size 0
def M9(s:ta):isName s=(!(s.toList==(ByteArray.mk #[]).toList||decide ((s.size:Int)>12))&& !fT s s.size 0):=by
 have:decide ((s.size:Int)<1)=(s.toList==(ByteArray.mk #[]).toList):=by
  rw[Ff];rw[show((s.toList==(ByteArray.mk #[]).toList)=true)=(s.data.toList=[]) by rw[Xq,Xq];simp];have h1:s.size=s.data.toList.length:=by show s.data.size=_;simp
  rw[<-List.length_eq_zero_iff,<-h1];rw[decide_eq_true_iff];omega
 rw[isName,this]
def named(s:ta)(hl:s.size<=9223372036854775807):aF prog 175 [vS s] (vB (isName s)):=by
 refine eP func175 rfl rfl call175 rfl rfl λR J=>?_
 repeat refine aR ?_
 apply aI<;>intro h
 ·exact wc (by rw[M9,h];rfl)
 refine Hb (λi:Nat=>⟨[(0,vS s),(15,vI s.size),(16,vI i),(2,.s (.d (.lit false)))],[]⟩) (λi=>i<=s.size/\fT s s.size 0=fT s (s.size-i) i) (λi=>s.size-i) 0 ⟨Nat.zero_le _,rfl⟩ ?_ ?_
 ·exact jj
 ·rintro i ⟨hi,hj⟩
  apply eX J
  apply aI<;>intro h5
  ·have h5:(i:Int)<s.size:=bG h5
   rw[show s.size-i=(s.size-(i+1))+1 by omega,fT]at hj
   apply oi Ha
   repeat refine aR ?_
   apply aI<;>intro h6
   ·have h6:wN i (u8 s i)=true:=h6
    exact wc (by rw[M9,h,hj,h6];rfl)
   ·have h6:wN i (u8 s i)=false:=h6
    exact vn
  ·have h5:¬(i:Int)<s.size:=bF h5
   have bC:i=s.size:=O
   exact wc (by rw[M9,h,hj,bC,Td];rfl)
def sW(s:ta)(hl:s.size<=9223372036854775807):aF prog 57 [vS s] (vB (isName s)):=by
 refine eP func57 rfl rfl call57 rfl rfl λR J=>?_
 repeat refine aR ?_
 apply aI<;>intro h
 ·exact wc (by rw[isName,h];rfl)
 refine Hb (λi:Nat=>⟨[(0,vS s),(3,vI i),(2,.s (.d (.lit false)))],[]⟩) (λi=>i<=s.size/\fT s s.size 0=fT s (s.size-i) i) (λi=>s.size-i) 0 ⟨Nat.zero_le _,rfl⟩ ?_ ?_
 ·refine Zb J trivial Ga
 ·rintro i ⟨hi,hj⟩
  apply eX J
  apply aI<;>intro h5
  ·have h5:(i:Int)<s.size:=bG h5
   rw[show s.size-i=(s.size-(i+1))+1 by omega,fT]at hj
   apply oi Ha
   repeat refine aR ?_
   apply aI<;>intro h6
   ·have h6:wN i (u8 s i)=true:=(yU i (u8 s i)).symm.trans h6
    exact wc (by rw[isName,h,hj,h6];rfl)
   ·have h6:wN i (u8 s i)=false:=(yU i (u8 s i)).symm.trans h6
    refine⟨i+1,⟨O,by rw[hj,h6];rfl⟩,O,?_⟩
    exact zck
  exact zbm
def LG(s:Int):Nat->Int->Int->Int
 |0,lo,_=>lo
 |k+1,lo,hi=>bif decide (lo<hi)then(bif decide (((lo+hi) / 2)*((lo+hi) / 2)>=s)then LG s k lo ((lo+hi) / 2)else LG s k ((lo+hi) / 2+1) hi)else lo
def span(a b:Pt):Int:=LG (af a b b) 23 0 4000000
def cdot(c:kE)(k:Nat)(p:Pt)(hk:k+1<c.aZ.length)(hl:c.aZ.length<=9223372036854775807):
  aF prog 340 [chan c,vI k,pt p] (.t [.s (.d (dI (af (c.aZ.getD k default).pt (c.aZ.getD (k+1) default).pt p))),.s (.d (dI (af (c.aZ.getD k default).pt (c.aZ.getD (k+1) default).pt (c.aZ.getD (k+1) default).pt)))]):=by
 refine eP func340 rfl rfl call340 rfl rfl λR _=>?_
 have e:aW ((k:Int)+1)=((k+1:Nat):Int):=aG O O
 apply oi Ha
 apply oi zeT
 refine aD ?_
 refine aD ?_
 apply Ia
 show AV.t [.s (.d (dI (af (c.aZ.getD k default).pt (c.aZ.getD (aW ((k:Int)+1)).toNat default).pt p))),.s (.d (dI (af (c.aZ.getD k default).pt (c.aZ.getD (aW ((k:Int)+1)).toNat default).pt (c.aZ.getD (aW ((k:Int)+1)).toNat default).pt)))]=_
 rw[e];rfl
def B0(l:List Pt)(hl:l.length<=9223372036854775807):aF prog 214 [w9 l] (vB (l.any λp=> !fB p)):=by exact eP func214 rfl rfl call214 rfl rfl λR _=>aB ((ZB l hl 305 0 (λ_=>.bL) (λp=> !fB p) (λx _=>aMU x)).conv (args':=_) ⟨Ja _,sf λj hj=>absurd hj (cd j),oO⟩) (db _)
def aFH(a b p:Pt)(ha:fB a=true)(hb:fB b=true)(hp:fB p=true)(JW:a≠b):aF prog 358 [pt a,pt b,pt p] (vI 0):=by
 refine eP func358 rfl rfl call358 rfl rfl λR _=>aB ((B0 [a,b,p] sM).conv (args':=_) ⟨Yc λi j hi hj=>Wa ?_,oO⟩) ?_
 ·have hi:i<3:=hi;have hj:j<2:=hj
  match i,j,hi,hj with
  |0,0,_,_=>rfl
  |0,1,_,_=>rfl
  |1,0,_,_=>rfl
  |1,1,_,_=>rfl
  |2,0,_,_=>rfl
  |2,1,_,_=>rfl
 apply aI<;>intro h
 ·simp[ha,hb,hp]at h
 apply aI<;>intro h
 ·refine absurd ?_ JW;simp at h
  cases a;cases b;simp_all
 exact Ia rfl
end Go.Ch
namespace Go.Ch
open Go Go.Ax Go.Proofs Go.Proofs.Tryz Go.RowKit
def aAO(b r:Nat)(h:FloatKind.f64.format.sqrt b=some r)(w:Aa):(callFunc 378 #[.float .f64 b]).run prog w=.ok (.value (.float .f64 r)) w:=by rw[run_callFunc_extern (P:=prog) (f:=378) (fn:=f378) (e:=Extern.MathSqrt.sqrt) func378 kR rfl kR kR];have e:Extern.MathSqrt.sqrt #[.float .f64 b]=(match FloatKind.f64.format.sqrt b with|some r=>pure (.float .f64 r)|none=>do pure (.float .f64 (<-choose (.nanBits .f64 b b)))):=rfl;rw[e,h];rfl
def U0(b r:Nat)(h:FloatKind.f64.format.sqrt b=some r)(w:Aa):Calls prog 372 #[.float .f64 b] w λe w'=>e=.returned (.float .f64 r)/\w'=w:=by have hs:=aAO b r h w;go_enter func372,Tryz.ntmps372;go_wp2;go_ret;exact⟨rfl,rfl⟩
def Sqrt(b r:Nat)(h:FloatKind.f64.format.sqrt b=some r):aF prog 372 [.s (.d (.val (.float .f64 b)))] (.s (.d (.val (.float .f64 r)))):=by
 refine⟨call372,λM w vs _ hr hM=>?_⟩
 match vs,hr with
 |[v],⟨h1,_⟩=>obtain rfl:v=.float .f64 b:=h1;exact(U0 b r h w).mono qg
end Go.Ch
namespace Go.Ch
open Go Go.Ax Go.Proofs Go.Proofs.Tryz
def H6{p:Pt}:fB p=true↔(-1000000<=p.x/\p.x<=1000000)/\(-1000000<=p.y/\p.y<=1000000):=by simp[fB,within]
def kM{a b A B:Int}(ha: -A<=a)(ha':a<=A)(hb: -B<=b)(Z7:b<=B): -(A*B)<=a*b/\a*b<=A*B:=by have hA:0<=A:=O;have hB:0<=B:=O;have h1:0<=(A-a)*(B-b):=Th O O;have h2:0<=(A+a)*(B+b):=Th O O;have h3:0<=(A-a)*(B+b):=Th O O;have h4:0<=(A+a)*(B-b):=Th O O;simp only[Int.mul_add,Hw,Int.add_mul,Gw]at h1 h2 h3 h4;omega
def nT(a b c:Pt):Int:=(b.x-a.x)*(c.x-a.x)+(b.y-a.y)*(c.y-a.y)
def N0(a b c:Pt):Int:=(b.x-a.x)*(c.y-a.y)-(b.y-a.y)*(c.x-a.x)
def AL{a b c:Pt}(ha:fB a=true)(hb:fB b=true)(hc:fB c=true):af a b c=nT a b c/\ -8000000000000<=nT a b c/\nT a b c<=8000000000000:=by rw[H6]at ha hb hc;have h1:=kM (a:=b.x-a.x) (b:=c.x-a.x) (A:=2000000) (B:=2000000) O O O O;have h2:=kM (a:=b.y-a.y) (b:=c.y-a.y) (A:=2000000) (B:=2000000) O O O O;unfold af nT;rw[aG (n:=b.x-a.x) O O,aG (n:=c.x-a.x) O O,aG (n:=b.y-a.y) O O,aG (n:=c.y-a.y) O O];rw[aG (n:=(b.x-a.x)*(c.x-a.x)) O O,aG (n:=(b.y-a.y)*(c.y-a.y)) O O,aG O O];exact⟨rfl,O,O⟩
def RQ{a b c:Pt}(ha:fB a=true)(hb:fB b=true)(hc:fB c=true):nU a b c=N0 a b c/\ -8000000000000<=N0 a b c/\N0 a b c<=8000000000000:=by rw[H6]at ha hb hc;have h1:=kM (a:=b.x-a.x) (b:=c.y-a.y) (A:=2000000) (B:=2000000) O O O O;have h2:=kM (a:=b.y-a.y) (b:=c.x-a.x) (A:=2000000) (B:=2000000) O O O O;unfold nU N0;rw[aG (n:=b.x-a.x) O O,aG (n:=c.x-a.x) O O,aG (n:=b.y-a.y) O O,aG (n:=c.y-a.y) O O];rw[aG (n:=(b.x-a.x)*(c.y-a.y)) O O,aG (n:=(b.y-a.y)*(c.x-a.x)) O O,aG O O];exact⟨rfl,O,O⟩
def kG(x:Int):0<=x*x:=by
 rcases Fw 0 x with h|h
 ·exact Th h h
 exact rz h h
def sq_nonneg(a b:Pt):0<=nT a b b:=by have h1:=kG (b.x-a.x);have h2:=kG (b.y-a.y);unfold nT;omega
def BN{x:Int}(h:x≠0):0<x*x:=by
 have h1:=kG x;have h2:x*x≠0:=λe=>by rcases Int.mul_eq_zero.1 e with h'|h' <;> exact h h'
 omega
def Vs{a b:Pt}(h:a≠b):0<nT a b b:=by
 have h1:=kG (b.x-a.x);have h2:=kG (b.y-a.y);by_cases hx:b.x-a.x=0
 ·by_cases hy:b.y-a.y=0
  ·exact absurd (by cases a;cases b;simp at hx hy⊢;omega) h
  have:=BN hy;unfold nT;omega
 have:=BN hx;unfold nT;omega
def yC(s n:Int):Prop:=0<=n/\s<=n*n/\(n=0\/(n-1)*(n-1)<s)
def VB{a b:Int}(h0:0<=a)(h:a<=b):a*a<=b*b:=Yj h h h0 O
def yC.le{s n m:Int}(h:yC s n)(hm:0<=m)(h2:s<=m*m):n<=m:=by
 obtain⟨h0,h1,h3⟩:=h;rcases Zy m n with fZ|FK
 ·rcases h3 with rfl|h3
  ·omega
  have:=VB hm (show m<=n-1 by omega);omega
 exact FK
def yC.unique{s n m:Int}(h:yC s n)(k:yC s m):n=m:=Int.le_antisymm (h.le k.1 k.2.1) (k.le h.1 h.2.1)
def AB(s:Int):∀(k:Nat) (lo hi:Int),0<=lo->lo<=hi->hi-lo<2^k->s<=hi*hi->(lo=0\/(lo-1)*(lo-1)<s)->yC s (LG s k lo hi)
 |0,lo,hi,h0,h1,h2,h3,h4=>by
  rw[LG];have:lo=hi:=by simp at h2;omega
  subst this;exact⟨h0,h3,h4⟩
 |k+1,lo,hi,h0,h1,h2,h3,h4=>by
  rw[LG];rw[Int.pow_succ]at h2;by_cases fZ:lo<hi
  ·rw[pc fZ];simp only[cond_true];by_cases hm:(lo+hi) / 2*((lo+hi) / 2)>=s
   ·rw[pc hm];exact AB s k lo _ h0 O O hm h4
   rw[Kc hm];refine AB s k _ hi O O O h3 (.inr ?_);have:(lo+hi) / 2+1-1=(lo+hi) / 2:=O;rw[this];omega
  rw[Kc fZ];have:lo=hi:=O;subst this;exact⟨h0,h3,h4⟩
def KQ{a b:Pt}(ha:fB a=true)(hb:fB b=true):yC (nT a b b) (span a b):=by obtain⟨h1,h2,h3⟩:=AL ha hb hb;unfold span;rw[h1];exact AB _ 23 0 4000000 O O dC O (.inl rfl)
def O4{a b:Pt}(ha:fB a=true)(hb:fB b=true)(JW:a≠b):0<span a b:=by
 have h:=KQ ha hb;have:=Vs JW;have h0:=h.1;rcases Zy 0 (span a b)with h'|h'
 ·exact h'
 have:span a b=0:=O;have h1:=h.2.1;rw[this]at h1;omega
def aHF(a b:Pt)(ha:fB a=true)(hb:fB b=true):aF prog 360 [pt a,pt b] (vI (span a b)):=by
 obtain⟨hd,hd1,hd2⟩:=AL ha hb hb;have hs0:=sq_nonneg a b;obtain⟨r,n,hr,hn,hn0,hn1⟩:=aNY.SS (af a b b) O O;have aG2:=KQ ha hb;rw[<-hd]at aG2;refine eP func360 rfl rfl call360 rfl rfl λR J=>aB (aMY a b b) (aB (Sqrt _ r hr) ?_)
 refine⟨n,⟨hn,by show -9223372036854775808<=n;omega,by show n<=9223372036854775807;omega⟩,?_⟩;refine Hb (λi:Int=>⟨[(5,vI (af a b b)),(6,vI i)],[]⟩) (λi=>0<=i/\i<2^24) (λi=>(2^24-i).toNat) n ⟨hn0,hn1⟩ ?_ ?_
 ·exact Gt
 rintro i ⟨TY,OO⟩;have hii:=VB TY (show i<=16777216 by omega);have aQO:=Th TY TY;have hw:aW (i*i)=i*i:=aG O O;apply eX J;apply aI<;>intro h
 ·have h:aW (i*i)<af a b b:=bG h;rw[hw]at h;have fZ:i<3000000:=by
   rcases Zy i 3000000 with h'|h'
   ·exact h'
   have:=VB O h';omega
  refine⟨i+1,Ha,O,?_⟩;refine Zb J trivial ⟨rQ,⟨rfl,Na vI (aG O O)⟩,oO⟩
 have h:¬aW (i*i)<af a b b:=bF h;rw[hw]at h;refine Hb (λi:Int=>⟨[(5,vI (af a b b)),(6,vI i)],[]⟩) (λi=>0<=i/\i<2^24/\af a b b<=i*i) (λi=>i.toNat) i ⟨TY,OO,O⟩ ?_ ?_
 ·exact Gt
 rintro i ⟨TY,OO,hi2⟩;have hii:=VB TY (show i<=16777216 by omega);apply eX J;have V7:aW (i-1)=i-1:=aG O O;have key:aW (aW (i-1)*aW (i-1))=(i-1)*(i-1):=by rw[V7];have:=kM (a:=i-1) (b:=i-1) (A:=16777216) (B:=16777216) O O O O;exact aG O O
 repeat refine aR ?_
 apply aI<;>intro h
 ·have h:(decide (i>0)&&decide (aW (aW (i-1)*aW (i-1))>=af a b b))=true:=h;rw[key]at h;simp at h;refine⟨i-1,⟨O,O,O⟩,O,?_⟩;refine Zb J trivial ⟨rQ,⟨rfl,Na vI V7⟩,oO⟩
 have h:(decide (i>0)&&decide (aW (aW (i-1)*aW (i-1))>=af a b b))=false:=h;rw[key]at h;simp at h;refine Ia (Na vI ?_);refine yC.unique ⟨TY,hi2,?_⟩ aG2;by_cases h0:i=0
 ·exact .inl h0
 exact .inr (by have:=h O;omega)
def aMZ(a b:Pt)(ha:fB a=true)(hb:fB b=true):aF prog 343 [pt a,pt b] (vI (span a b)):=by
 refine eP func343 rfl rfl call343 rfl rfl λR J=>aB ((B0 [a,b] sM).conv (args':=_) ⟨Yc λi j hi hj=>Wa ?_,oO⟩) ?_
 ·exact zbp
 apply aI<;>intro h
 ·simp[ha,hb]at h
 exact aB (aHF a b ha hb) (db _)
def MR(a b p:Pt):Int:=mm true (nU a b p) (aW (0-nU a b p)) / span a b
def aBO{c:Int}(h: -8000000000000<=c)(k:c<=8000000000000):0<=mm true c (aW (0-c))/\mm true c (aW (0-c))<=8000000000000/\mm true c (aW (0-c))=(if c<0 then aW (0-c)else c):=by rw[aG O O];unfold mm;simp only;split <;> split <;> omega
def aFC{a b p:Pt}(ha:fB a=true)(hb:fB b=true)(hp:fB p=true)(JW:a≠b):0<=MR a b p/\MR a b p<=8000000000000:=by obtain⟨h1,h2,h3⟩:=RQ ha hb hp;have hs:=O4 ha hb JW;obtain⟨h4,h5,_⟩:=aBO (c:=nU a b p) O O;unfold MR;exact⟨nr h4 O,Tn (ww _ h4) h5⟩
def aFT(a b p:Pt)(ha:fB a=true)(hb:fB b=true)(hp:fB p=true)(JW:a≠b):aF prog 359 [pt a,pt b,pt p] (vI (MR a b p)):=by
 obtain⟨h1,h2,h3⟩:=RQ ha hb hp;have hs:=O4 ha hb JW;obtain⟨h4,h5,_⟩:=aBO (c:=nU a b p) O O;have ho:=aFC ha hb hp JW;refine eP func359 rfl rfl call359 rfl rfl λR J=>aB (T8 a b p) (aB (aHF a b ha hb) ?_)
 refine oi O (Ia (Na vI ?_));show aW (Int.tdiv (mm true (nU a b p) (aW (0-nU a b p))) (span a b))=_;rw[Il h4];exact aG (by have:=ho.1;unfold MR at this;omega) (by have:=ho.2;unfold MR at this;omega)
def aFV(a b p:Pt)(ha:fB a=true)(hb:fB b=true)(hp:fB p=true)(JW:a≠b):aF prog 341 [pt a,pt b,pt p] (.t [.s (.d (dI (MR a b p))),.s (.d (dI 0))]):=by
 refine eP func341 rfl rfl call341 rfl rfl λR J=>aB (aFH a b p ha hb hp JW) (aI (λh=>by cases h) (λ_=>?_))
 exact aB (aFT a b p ha hb hp JW) (Ia rfl)
structure F8 where
 offset:Int
 half:Int
 rA:Int
 run:Int
 deriving DecidableEq,Inhabited
def XY(p:F8):Nat->DV
 |0=>dI p.offset
 |1=>dI p.half
 |2=>dI p.rA
 |3=>dI p.run
 |_=>.bL
def vR(l:List F8):Nat->Nat->DV:=λi=>XY (l.getD i default)
def RM(l:List F8):DV:=.fU l.length 4 (vR l)
abbrev aOT(p:F8):List SV:=[.d (dI p.offset),.d (dI p.half),.d (dI p.rA),.d (dI p.run)]
def TC(o:Da F8):F8:=o.getD ⟨0,0,0,0⟩
abbrev Jm(o:Da F8):AV:=.t [.g (aOT (TC o)),.s (.d (.val (.bool o.isSome)))]
structure ni(c:kE):Prop where
 n2:2<=c.aZ.length
 n20:c.aZ.length<=20
 w9:∀i,i<c.aZ.length->fB (c.aZ.getD i default).pt=true
 half:∀i,i<c.aZ.length->1<=(c.aZ.getD i default).half/\(c.aZ.getD i default).half<=100000
 level:∀i,i<c.aZ.length->c.over-20000<=(c.aZ.getD i default).level/\(c.aZ.getD i default).level<=20000
 run:∀i,i<c.aZ.length->0<=(c.aZ.getD i default).run/\(c.aZ.getD i default).run<=1000
 apart:∀i,i+1<c.aZ.length->(c.aZ.getD i default).pt≠(c.aZ.getD (i+1) default).pt
 over:0<=c.over/\c.over<=1000
 buffer:0<=c.buffer/\c.buffer<=100000
def aC6{a b q r:Int}(hb:0<b)(h:a=q*b+r)(h0:0<=r)(h1:r<b):a / b=q:=by rw[h,az,Int.add_mul_ediv_right _ _ O,Int.ediv_eq_zero_of_lt h0 h1,Br]
def tdm(a b:Int):a=a.tdiv b*b+a.tmod b:=by have:=Int.tmod_add_mul_tdiv a b;rw[Sn]at this;omega
def aEE{a b:Int}(hb:0<b): -b<a.tmod b/\a.tmod b<b:=by
 rcases Fw 0 a with h|h
 ·rw[sj h];have:=My a (show b≠0 by omega);have:=oy a hb;omega
 obtain⟨n,rfl⟩:∃n:Int,a= -n:=⟨-a,O⟩;rw[Xy,sj O];have:=My n (show b≠0 by omega);have:=oy n hb;omega
def aF1{a b:Int}(hb:0<b)(h: -9000000000000000000<=a)(k:a<=9000000000000000000):
  (if a.tmod b<0 then aW (aW (a.tdiv b)-1)else aW (a.tdiv b))=a / b:=by
 have h1:=tdm a b
 have h2:=aEE (a:=a) hb
 have hq: -9000000000000000000<=a.tdiv b/\a.tdiv b<=9000000000000000000:=by
  rcases Fw 0 a with h0|h0
  ·rw[Il h0];have:=ww b h0;have:=nr h0 (show 0<=b by omega);omega
  obtain⟨n,rfl⟩:∃n:Int,a= -n:=⟨-a,O⟩;rw[Int.neg_tdiv,Il O];have:=ww (a:=n) b O;have:=nr (a:=n) O (show 0<=b by omega);omega
 split
 ·rw[aG (n:=a.tdiv b) O O,aG O O];exact(aC6 (r:=a.tmod b+b) hb (by rw[Gw];omega) O O).symm
 ·rw[aG O O];exact(aC6 hb h1 O O).symm
def kj(u v s d:Int):Int:=(u*(s-d)+v*d) / s
def aIQ{u v s d U:Int}(hs:0<s)(SH:s<=8000000000000)(hd:0<=d)(hd2:d<=s)(hU:0<=U)(hU2:U<=100000)(hu: -U<=u)(hu2:u<=U)(hv: -U<=v)(Z3:v<=U):
  aW (aW (u*aW (s-d))+aW (v*d))=u*(s-d)+v*d/\ -800000000000000000<=u*(s-d)+v*d/\u*(s-d)+v*d<=800000000000000000:=by
 have hsd:aW (s-d)=s-d:=aG O O
 rw[hsd]
 have h1:=kM (a:=u) (b:=s-d) (A:=100000) (B:=s-d) O O O O
 have h2:=kM (a:=v) (b:=d) (A:=100000) (B:=d) O O O O
 rw[aG (n:=u*(s-d)) O O,aG (n:=v*d) O O,aG O O]
 exact⟨rfl,O,O⟩
def Nj(a b:Ap)(p:Pt):Da F8:=
 bif decide (nT a.pt b.pt p<0)||decide (nT a.pt b.pt p>nT a.pt b.pt b.pt)then none
 else some ⟨MR a.pt b.pt p,kj a.half b.half (nT a.pt b.pt b.pt) (nT a.pt b.pt p),kj a.level b.level (nT a.pt b.pt b.pt) (nT a.pt b.pt p),a.run⟩
def FI(c:kE)(k:Nat)(p:Pt):Da F8:=Nj (c.aZ.getD k default) (c.aZ.getD (k+1) default) p
def VP{a b c d:Int}{l:Bool}{o:Da F8}(h:⟨a,b,c,d⟩=TC o)(k:l=o.isSome):aC (.t [.g [.d (dI a),.d (dI b),.d (dI c),.d (dI d)],.s (.d (.lit l))]) (Jm o):=by subst k;unfold Jm;rw[<-h];exact Re ⟨⟨Ja _,Ja _,Ja _,Ja _,oO⟩,λ_ _ r=>r,oO⟩
def RH{u v s d U:Int}(hs:0<s)(SH:s<=8000000000000)(hd:0<=d)(hd2:d<=s)(hU:0<=U)(hU2:U<=100000)(hu: -U<=u)(hu2:u<=U)(hv: -U<=v)(Z3:v<=U):
  (if(aW (aW (u*aW (s-d))+aW (v*d))).tmod s<0 then aW (aW ((aW (aW (u*aW (s-d))+aW (v*d))).tdiv s)-1)else aW ((aW (aW (u*aW (s-d))+aW (v*d))).tdiv s))=kj u v s d:=by
 obtain⟨h1,h2,h3⟩:=aIQ hs SH hd hd2 hU hU2 hu hu2 hv Z3
 rw[h1]
 exact aF1 hs O O
abbrev up(k:Nat):Nat:=(aW ((k:Int)+1)).toNat
def aKP{k:Nat}(h:k<=1000000):up k=k+1:=by unfold up;rw[aG O O];omega
def VQ{s0 s1 s2 s3 t:SV}{o:Da F8}{p:F8}{l:Bool}(ho:TC o=p)(hl:o.isSome=l)(h0:Z9 s0 (.d (dI p.offset)))(h1:Z9 s1 (.d (dI p.half)))(h2:Z9 s2 (.d (dI p.rA)))(h3:Z9 s3 (.d (dI p.run)))(h4:Z9 t (.d (.val (.bool l)))):
  aC (.t [.g [s0,s1,s2,s3],.s t]) (Jm o):=by
 subst ho;subst hl
 exact Re ⟨⟨h0,h1,h2,h3,oO⟩,h4,oO⟩
abbrev aZ(c:kE)(k:Nat):Ap:=c.aZ.getD k default
def aLB(a b:Ap)(p:Pt):F8:=⟨MR a.pt b.pt p,kj a.half b.half (nT a.pt b.pt b.pt) (nT a.pt b.pt p),kj a.level b.level (nT a.pt b.pt b.pt) (nT a.pt b.pt p),a.run⟩
def aLF(c:kE)(k:Nat)(p:Pt)(hv:ni c)(hk:k+1<c.aZ.length)(hp:fB p=true):aF prog 296 [chan c,vI k,pt p] (Jm (FI c k p)):=by
 have hn:=hv.n20
 have ha:=hv.w9 k O
 have hb:=hv.w9 (k+1) hk
 have JW:=hv.apart k hk
 obtain⟨d1,d2,d3⟩:=AL ha hb hp
 obtain⟨s1,s2,s3⟩:=AL ha hb hb
 have s4:=Vs JW
 have hh:=hv.half k O
 have BW:=hv.half (k+1) hk
 have hl:=hv.level k O
 have hl':=hv.level (k+1) hk
 have ho:=hv.over
 have e:aW ((k:Int)+1)=((k+1:Nat):Int):=aG O O
 have eup:up k=k+1:=aKP O
 have eu:(aW ((k:Int)+1)).toNat=k+1:=eup
 refine eP func296 rfl rfl call296 rfl rfl λR J=>?_
 refine aB (cdot c k p hk O) ?_
 rw[d1,s1]
 repeat refine aR ?_
 apply aI<;>intro h
 ·exact VP (by unfold FI Nj;rw[h];rfl) (by unfold FI Nj;rw[h];rfl)
 have h:(decide (nT (c.aZ.getD k default).pt (c.aZ.getD (k+1) default).pt p<0)||decide (nT (c.aZ.getD k default).pt (c.aZ.getD (k+1) default).pt p>nT (c.aZ.getD k default).pt (c.aZ.getD (k+1) default).pt (c.aZ.getD (k+1) default).pt))=false:=h
 have h':=h
 simp only[Ed,Qd]at h'
 apply oi Ha
 apply oi zeT
 refine aD ?_
 refine aB (place (c.aZ.getD k default)) ?_
 refine aB (place (c.aZ.getD (up k) default)) ?_
 refine aB (aFV (c.aZ.getD k default).pt (c.aZ.getD (up k) default).pt p ha (by rw[eup];exact hb) hp (by rw[eup];exact JW)) ?_
 refine aD ?_
 refine aB (down _ _ O) ?_
 refine aB (down _ _ O) ?_
 refine aD ?_
 refine VQ (p:=aLB (aZ c k) (aZ c (k+1)) p) (l:=true) (by unfold FI Nj;rw[h];rfl) (by unfold FI Nj;rw[h];rfl) ?_ ?_ ?_ ?_ ?_
 ·exact Wa (Na dI (by rw[eup];rfl))
 ·refine Wa (Na dI ?_)
  simp only[eu,Rg]
  exact RH (U:=100000) s4 O O O O O O O O O
 ·refine Wa (Na dI ?_)
  simp only[eu,Rg]
  exact RH (U:=20000) s4 O O O O O O O O O
 ·exact Ja _
 ·exactλ_ _ r=>r
def R5(a q b:Ap)(p:Pt):Da F8:=
 bif decide (nT a.pt q.pt p<=nT a.pt q.pt q.pt)||decide (nT q.pt b.pt p>=0)then none else some ⟨span q.pt p,q.half,q.level,q.run⟩
def vZ(c:kE)(j:Nat)(p:Pt):Da F8:=R5 (aZ c j) (aZ c (j+1)) (aZ c (j+2)) p
def aIN(c:kE)(j:Nat)(p:Pt)(hv:ni c)(hk:j+2<c.aZ.length)(hp:fB p=true):aF prog 297 [chan c,vI ((j+1:Nat):Int),pt p] (Jm (vZ c j p)):=by
 have hn:=hv.n20;have ha:=hv.w9 j O;have hq:=hv.w9 (j+1) O;have hb:=hv.w9 (j+2) hk;obtain⟨d1,_,_⟩:=AL ha hq hp;obtain⟨s1,_,_⟩:=AL ha hq hq;obtain⟨e1,_,_⟩:=AL hq hb hp;have em:aW (((j+1:Nat):Int)-1)=(j:Int):=by rw[aG O O];omega
 have c1:aF prog 340 [chan c,vI (aW (((j+1:Nat):Int)-1)),pt p] (.t [.s (.d (dI (nT (aZ c j).pt (aZ c (j+1)).pt p))),.s (.d (dI (nT (aZ c j).pt (aZ c (j+1)).pt (aZ c (j+1)).pt)))]):=by rw[em,<-d1,<-s1];exact cdot c j p O O
 have c2:=cdot c (j+1) p hk O;rw[e1]at c2;refine eP func297 rfl rfl call297 rfl rfl λR J=>aB c1 (aB c2 ?_)
 repeat refine aR ?_
 apply aI<;>intro h
 ·exact VP tq tq
 refine oi Ha (aB (place (aZ c (j+1))) ?_);refine aB (aMZ (aZ c (j+1)).pt p hq hp) (aD ?_);refine VQ (p:=⟨span (aZ c (j+1)).pt p,(aZ c (j+1)).half,(aZ c (j+1)).level,(aZ c (j+1)).run⟩) (l:=true) tq tq ?_ ?_ ?_ ?_ ?_
 ·exact Ja _
 ·exact Ja _
 ·exact Ja _
 ·exact Ja _
 exactλ_ _ r=>r
def lF(c:kE)(p:Pt)(i:Nat):List F8:=(List.range i).filterMap λk=>FI c k p
def l8(c:kE)(p:Pt)(i:Nat):List F8:=(List.range i).filterMap λj=>vZ c j p
def G4(c:kE)(p:Pt):List F8:=lF c p (c.aZ.length-1)++l8 c p (c.aZ.length-2)
abbrev IT(c:kE):jK:=.cells [.d (dS c.name),.d (x3 c.aZ),.d (dI c.over),.d (dI c.buffer),.d (zM c.Ya)]
abbrev rj(p:Pt):jK:=.cells [.d (dI p.x),.d (dI p.y)]
def parts(c:kE)(p:Pt)(hv:ni c)(hp:fB p=true):aF prog 208 [chan c,pt p] (.s (.d (RM (G4 c p)))):=by
 have h2:=hv.n2;have h20:=hv.n20;have el:aW ((c.aZ.length:Int)-1)=(c.aZ.length:Int)-1:=aG O O;refine eP func208 rfl rfl call208 rfl rfl λR J=>?_
 refine Gb (λi:Nat=>⟨[(2,.s (.ptr 2 0)),(3,.s (.ptr 3 0)),(5,.s (.mo (lF c p i).isEmpty 100)),(15,vI (aW ((c.aZ.length:Int)-1))),(16,vI i)],[(2,some (IT c)),(3,some (rj p)),(100,some (.b8 315 (lF c p i).length 4 (vR (lF c p i))))]⟩)
  (λi=>i<=c.aZ.length-1) (λi=>c.aZ.length-1-i) 0 (Nat.zero_le _) ?_ ?_
 ·exact Qa J [(100,1000)] rfl ⟨bQ,bQ,⟨rfl,rfl⟩,oO⟩ ⟨Z,Z,⟨rfl,fg rfl⟩,Fa⟩
 intro i hi;apply eX J;apply aI<;>intro h
 ·have h:(i:Int)<aW ((c.aZ.length:Int)-1):=bG h;rw[el]at h;refine aB (aLF c i p hv O hp) (aI (λh'=>?_) (λh'=>?_))
  ·have h':(FI c i p).isSome=true:=h';have e':lF c p (i+1)=lF c p i++ [TC (FI c i p)]:=by unfold lF;rw[c8];exact zdo
   have hlen:(lF c p i).length<=i:=by unfold lF;exact Xb (Qg _ _) sM
   apply ob dC;refine ob (by rw[dK];show _*32<=_;omega) ?_;refine ob (nJ (Hm rfl rfl rfl rfl)) ⟨i+1,O,O,?_⟩;refine Qa J [(100,30)] rfl ⟨bQ,bQ,⟨rfl,?_⟩,oO⟩ ⟨Z,Z,⟨rfl,Ye ?_⟩,Z,⟨rfl,Wb (Na vI (aG O O))⟩,oO⟩
   ·show aY _ (.b8 315 (lF c p (i+1)).length 4 (vR (lF c p (i+1))));rw[e'];exact Nf (el:=XY) (x:=TC (FI c i p)) (Hm rfl rfl rfl rfl)
   rw[e'];exact cA _ _
  have h':(FI c i p).isSome=false:=h';have e':lF c p (i+1)=lF c p i:=by
   unfold lF;rw[c8]
   cases hx:FI c i p with
   |none=>simp
   |some x=>rw[hx]at h';cases h'
  refine⟨i+1,O,O,?_⟩;refine Qa J [] rfl ⟨bQ,bQ,⟨rfl,cc (by rw[e'];rfl)⟩,oO⟩ ⟨Z,Z,⟨rfl,Wb (by rw[e'];rfl)⟩,Z,⟨rfl,Wb (Na vI (aG O O))⟩,oO⟩
 have h:¬(i:Int)<aW ((c.aZ.length:Int)-1):=bF h;rw[el]at h;have bC:i=c.aZ.length-1:=O;subst bC;refine Gb (λj:Nat=>⟨[(2,.s (.ptr 2 0)),(3,.s (.ptr 3 0)),(5,.s (.mo (lF c p (c.aZ.length-1)++l8 c p j).isEmpty 100)),(9,vI ((j+1:Nat):Int))],[(2,some (IT c)),(3,some (rj p)),(100,some (.b8 315 (lF c p (c.aZ.length-1)++l8 c p j).length 4 (vR (lF c p (c.aZ.length-1)++l8 c p j))))]⟩)
  (λj=>j<=c.aZ.length-2) (λj=>c.aZ.length-j) 0 (Nat.zero_le _) ?_ ?_
 ·exact Qa J [] rfl ⟨bQ,bQ,⟨rfl,cc (by simp[l8,jX])⟩,oO⟩ ⟨Z,Z,⟨rfl,Wb (by simp[l8,oC,wF];rfl)⟩,Fa⟩
 intro j hj;apply eX J;apply aI<;>intro h
 ·have h:((j+1:Nat):Int)<aW ((c.aZ.length:Int)-1):=bG h;rw[el]at h;refine aB (aIN c j p hv O hp) (aI (λh'=>?_) (λh'=>?_))
  ·have h':(vZ c j p).isSome=true:=h';have e':lF c p (c.aZ.length-1)++l8 c p (j+1)=(lF c p (c.aZ.length-1)++l8 c p j)++ [TC (vZ c j p)]:=by unfold l8;rw[c8,Ti];exact zdo
   have hlen:(lF c p (c.aZ.length-1)++l8 c p j).length<=c.aZ.length-1+j:=by rw[ed];exact Nat.add_le_add (Xb (Qg _ _) sM) (Xb (Qg _ _) sM)
   apply ob dC;refine ob (by rw[dK];show _*32<=_;omega) ?_;refine ob (nJ (Hm rfl rfl rfl rfl)) ⟨j+1,O,O,?_⟩;refine Qa J [(100,51)] rfl ⟨bQ,bQ,⟨rfl,?_⟩,oO⟩ ⟨Z,Z,⟨rfl,Ye ?_⟩,⟨rfl,Wb (Na vI (aG O O))⟩,oO⟩
   ·show aY _ (.b8 315 (lF c p (c.aZ.length-1)++l8 c p (j+1)).length 4 (vR (lF c p (c.aZ.length-1)++l8 c p (j+1))));rw[e'];exact Nf (el:=XY) (x:=TC (vZ c j p)) (Hm rfl rfl rfl rfl)
   rw[e'];exact cA _ _
  have h':(vZ c j p).isSome=false:=h';have e':l8 c p (j+1)=l8 c p j:=by
   unfold l8;rw[c8]
   cases hx:vZ c j p with
   |none=>simp
   |some x=>rw[hx]at h';cases h'
  refine⟨j+1,O,O,?_⟩;refine Qa J [] rfl ⟨bQ,bQ,⟨rfl,cc (by rw[e'];rfl)⟩,oO⟩ ⟨Z,Z,⟨rfl,Wb (by rw[e'];rfl)⟩,⟨rfl,Wb (Na vI (aG O O))⟩,oO⟩
 have h:¬((j+1:Nat):Int)<aW ((c.aZ.length:Int)-1):=bF h;rw[el]at h;have qR:j=c.aZ.length-2:=O;subst qR;exact aC.mo
def TG(x:F8):Int×Bool:=lvl x.offset x.half x.rA x.run
def OX(r:Int×Bool)(x:F8):Int×Bool:=bif (TG x).2&&(!r.2||decide ((TG x).1<r.1))then((TG x).1,true)else r
def FL(l:List F8):Int×Bool:=l.foldl OX (0,false)
def Y5(l:List F8)(x:F8):FL (l++ [x])=OX (FL l) x:=by simp[FL]
def UI(c:kE)(p:Pt):Int×Bool:=FL (G4 c p)
def XA{l:List F8}{i:Nat}(h:i<l.length):FL (l.take (i+1))=OX (FL (l.take i)) (l.getD i default):=by rw[Gn h,Y5,aX h]
def aJJ(c:kE)(p:Pt)(hv:ni c)(hp:fB p=true):aF prog 142 [chan c,pt p] (rIB (UI c p)):=by
 have hlen:(G4 c p).length<=40:=by
  have:=hv.n20
  unfold G4 lF l8
  rw[ed]
  have h1:=Qg (λk=>FI c k p) (List.range (c.aZ.length-1))
  have h2:=Qg (λk=>vZ c k p) (List.range (c.aZ.length-2))
  simp at h1 h2;omega
 unfold UI
 refine eP func142 rfl rfl call142 rfl rfl λR J=>?_
 refine aB (parts c p hv hp) ?_
 generalize G4 c p=l at hlen
 refine Gb (λi:Nat=>⟨[(6,vI (FL (l.take i)).1),(7,vB (FL (l.take i)).2),(14,.s (.d (RM l))),(15,vI l.length),(16,vI i)],[]⟩) (λi=>i<=l.length) (λi=>l.length-i) 0 (Nat.zero_le _) ?_ ?_
 ·exact Qa J [] rfl trivial ⟨Z,⟨rfl,aU.lit rfl⟩,Fa⟩
 ·intro i hi
  apply eX J
  apply aI<;>intro h
  ·have h:(i:Int)<l.length:=bG h
   have bC:i<l.length:=O
   have ew:aW ((i:Int)+1)=((i+1:Nat):Int):=aG O O
   have jO:=XA bC
   apply oi Ha
   refine aB (level (l.getD i default).offset (l.getD i default).half (l.getD i default).rA (l.getD i default).run) ?_
   repeat refine aR ?_
   apply aI<;>intro h'
   ·have h':((TG (l.getD i default)).2&&(!(FL (l.take i)).2||decide ((TG (l.getD i default)).1<(FL (l.take i)).1)))=true:=h'
    unfold OX at jO
    rw[h']at jO
    refine⟨i+1,O,O,?_⟩
    exact Qa J [] rfl trivial ⟨⟨rfl,Ra (by rw[jO];rfl)⟩,⟨rfl,aU.lit (by rw[jO];rfl)⟩,Z,Z,⟨rfl,Ra ew⟩,oO⟩
   ·have h':((TG (l.getD i default)).2&&(!(FL (l.take i)).2||decide ((TG (l.getD i default)).1<(FL (l.take i)).1)))=false:=h'
    unfold OX at jO
    rw[h']at jO
    refine⟨i+1,O,O,?_⟩
    exact Qa J [] rfl trivial ⟨⟨rfl,Ra (by rw[jO];rfl)⟩,⟨rfl,aU.bool (by rw[jO];rfl)⟩,Z,Z,⟨rfl,Ra ew⟩,oO⟩
  ·have h:¬(i:Int)<l.length:=bF h
   have bC:i=l.length:=O
   subst bC
   exact Ia (by rw[Vd];rfl)
abbrev sI(l:List Pt)(i:Nat):Pt:=l.getD i default
abbrev qB(l:List Pt)(i:Nat):Pt:=l.getD (i%l.length) default
def pA(a b:Pt):Bool:=a.x==b.x&&(a.y==b.y&&true)
def mP{a b:Pt}:pA a b=true↔a=b:=by cases a;cases b;simp[pA]
def zD(n:Nat)(p:Nat->Bool):Bool:=(List.range n).any p
def eI{n:Nat}{p:Nat->Bool}{i:Nat}(h:i<n)(hp:p i=true):zD n p=true:=by unfold zD;rw[Ll];exact⟨i,Gf.2 h,hp⟩
def oK{n:Nat}{p:Nat->Bool}(h:∀i,i<n->p i=false):zD n p=false:=by unfold zD;rw[Tg];intro i hi;rw[h i (Gf.1 hi)];simp
def F6{n:Nat}{p:Nat->Bool}(h:zD n p=true):∃i,i<n/\p i=true:=by unfold zD at h;rw[Ll]at h;obtain⟨i,hi,hp⟩:=h;exact⟨i,Gf.1 hi,hp⟩
def CA(l:List Pt)(i:Nat):Bool:=jP (sI l i) (qB l (i+1)) (qB l (i+2))||jP (qB l (i+1)) (qB l (i+2)) (sI l i)
def MX(l:List Pt)(i k:Nat):Bool:=((((k+1)%l.length:Nat):Int) !=(i:Int))&&yi (sI l i) (qB l (i+1)) (sI l k) (qB l (k+1))
def iU(l:List Pt)(i k:Nat):Bool:=decide (i+2<=k)&&MX l i k
def D4(l:List Pt)(i:Nat):Bool:=CA l i||zD l.length (iU l i)
def KE(l:List Pt)(i:Nat):Bool:=pA (sI l i) (qB l (i+1))||D4 l i
def MO(l:List Pt)(i:Nat):Bool:=zD i λk=>pA (sI l i) (sI l k)
def pW(l:List Pt):Bool:=zD l.length (KE l)
def qU(l:List Pt):Bool:=zD l.length (MO l)||zD l.length (D4 l)
def OC(a b:Pt):jP a b a=true:=by
 unfold jP nU;have e:aW (aW (aW (b.x-a.x)*aW (a.y-a.y))-aW (aW (b.y-a.y)*aW (a.x-a.x)))=0:=by rw[Wy,Wy,show aW 0=0 from rfl,Yy,Yy];rfl
 rw[e];simp[within,mm];constructor
 ·constructor <;> split <;> omega
 constructor <;> split <;> omega
def T9(l:List Pt)(h3:3<=l.length):qU l=pW l:=by
 rw[Ff];unfold pW qU;rw[Sh];constructor
 ·rintro(h|h)
  ·obtain⟨i,hi,h⟩:=F6 h;obtain⟨k,hk,h⟩:=F6 h;have e:=mP.1 h;by_cases h1:i=k+1
   ·refine eI (i:=k) O ?_;unfold KE;have:pA (sI l k) (qB l (k+1))=true:=by rw[mP];unfold qB;rw[Rh O,<-h1];exact e.symm
    rw[this];rfl
   by_cases h2:(i+1)%l.length=k
   ·refine eI (i:=i) hi ?_;unfold KE;have:pA (sI l i) (qB l (i+1))=true:=by rw[mP];unfold qB;rw[h2];exact e
    rw[this];rfl
   refine eI (i:=k) O ?_;unfold KE D4;have:zD l.length (iU l k)=true:=by refine eI (i:=i) hi ?_;unfold iU MX;rw[pc O,Cw,Bool.and_eq_true];refine⟨by rw[bne_iff_ne];intro h;exact h2 (by exact_mod_cast h),?_⟩;unfold yi;rw[e,OC];rfl
   rw[this];simp
  obtain⟨i,hi,h⟩:=F6 h;apply eI hi;unfold KE;rw[h];simp
 intro h;obtain⟨i,hi,h⟩:=F6 h;unfold KE at h;rw[Sh]at h;rcases h with h|h
 ·left;have e:=mP.1 h;unfold qB at e;have hm:=Cg (i+1) (show 0<l.length by omega);have fJ:(i+1)%l.length≠i:=by
   intro h';by_cases hc:i+1<l.length
   ·rw[Rh hc]at h';omega
   have:i+1=l.length:=O;rw[this,Nat.mod_self]at h';omega
  rcases Nat.lt_or_gt_of_ne fJ with h1|h1
  ·refine eI hi (eI h1 ?_);rw[mP];exact e
  refine eI hm (eI h1 ?_);rw[mP];exact e.symm
 exact .inr (eI hi h)
def simple(l:List Pt)(h3:3<=l.length)(h40:l.length<=40):aF prog 303 [w9 l] (vB (!pW l)):=by
 have fJ:l≠[]:=by intro h;subst h;simp at h3
 refine eP func303 rfl rfl call303 rfl rfl λR J=>?_
 refine Gb (λi:Nat=>⟨[(0,w9 l),(3,vI l.length),(11,vI l.length),(12,vI i)],[]⟩) (λi=>i<=l.length/\∀j,j<i->KE l j=false) (λi=>l.length-i) 0 ⟨Nat.zero_le _,λj hj=>absurd hj (cd j)⟩ ?_ ?_
 ·exact Vu
 ·rintro i ⟨hi,hj⟩
  apply eX J
  apply aI<;>intro h
  ·have h:(i:Int)<l.length:=bG h
   have e1:aW ((i:Int)+1)=((i+1:Nat):Int):=aG O O
   have e2:aW ((i:Int)+2)=((i+2:Nat):Int):=aG O O
   have c1:aF prog 306 [w9 l,vI (aW ((i:Int)+1))] (pt (qB l (i+1))):=by rw[e1];exact NM l (i+1) fJ
   have c2:aF prog 306 [w9 l,vI (aW ((i:Int)+2))] (pt (qB l (i+2))):=by rw[e2];exact NM l (i+2) fJ
   apply oi Ha
   apply aB c1
   apply aB c2
   refine aD ?_
   repeat refine aR ?_
   refine bR (on (sI l i) (qB l (i+1)) (qB l (i+2))) ?_
   repeat refine aR ?_
   refine bR (on (qB l (i+1)) (qB l (i+2)) (sI l i)) ?_
   repeat refine aR ?_
   apply aI<;>intro h'
   ·have h':(pA (sI l i) (qB l (i+1))||jP (sI l i) (qB l (i+1)) (qB l (i+2))||jP (qB l (i+1)) (qB l (i+2)) (sI l i))=true:=h'
    apply wc
    have:pW l=true:=eI (i:=i) O (by unfold KE D4 CA;rw[Uy]at h';rw[<-Bool.or_assoc,h'];rfl)
    rw[this];rfl
   ·have h':(pA (sI l i) (qB l (i+1))||jP (sI l i) (qB l (i+1)) (qB l (i+2))||jP (qB l (i+1)) (qB l (i+2)) (sI l i))=false:=h'
    refine Gb (λk:Nat=>⟨[(0,w9 l),(3,vI l.length),(11,vI l.length),(12,vI i),(4,vI i),(5,.s (.ptr 5 0)),(6,.s (.ptr 6 0)),(8,vI k)],[(5,some (rj (sI l i))),(6,some (rj (qB l (i+1))))]⟩) (λk=>i+2<=k/\k<=l.length+2/\∀m,m<k->iU l i m=false) (λk=>l.length+2-k) (i+2) ⟨O,O,λm hm=>by unfold iU;rw[Kc O];rfl⟩ ?_ ?_
    ·exact Qa J [] rfl Fa ⟨Z,Z,Z,Z,Z,Z,Z,⟨rfl,Ra e2⟩,oO⟩
    ·rintro k ⟨hk1,TX,hm⟩
     apply eX J
     apply aI<;>intro NK
     ·have NK:(k:Int)<l.length:=bG NK
      have e3:aW ((k:Int)+1)=((k+1:Nat):Int):=aG O O
      have e4:(aW ((k:Int)+1)).tmod l.length=(((k+1)%l.length:Nat):Int):=by
       rw[e3,sj O];rfl
      have c3:aF prog 306 [w9 l,vI (aW ((k:Int)+1))] (pt (qB l (k+1))):=by rw[e3];exact NM l (k+1) fJ
      apply oi O
      repeat refine aR ?_
      refine og (λ_=>Ha) ?_
      repeat refine aR ?_
      apply bR c3
      repeat refine aR ?_
      refine bR (aMV (sI l i) (qB l (i+1)) (sI l k) (qB l (k+1))) ?_
      repeat refine aR ?_
      refine aD ?_
      have key:(((aW ((k:Int)+1)).tmod l.length !=(i:Int))&&yi (sI l i) (qB l (i+1)) (sI l k) (qB l (k+1)))=iU l i k:=by
       unfold iU MX
       rw[pc hk1,e4];rfl
      apply aI<;>intro EW
      ·have EW:iU l i k=true:=key.symm.trans EW
       apply wc
       have:pW l=true:=eI (i:=i) O (by unfold KE D4;rw[eI (i:=k) O EW];simp)
       rw[this];rfl
      ·have EW:iU l i k=false:=key.symm.trans EW
       refine⟨k+1,⟨O,O,λm NC=>?_⟩,O,?_⟩
       ·exact zdQ
       ·exact Qa J [] rfl Fa ⟨Z,Z,Z,Z,Z,Z,Z,⟨rfl,Ra e3⟩,oO⟩
     ·have NK:¬(k:Int)<l.length:=bF NK
      refine⟨i+1,⟨O,λj qR=>?_⟩,O,?_⟩
      ·by_cases y7:j=i
       ·subst y7
        have hb:zD l.length (iU l j)=false:=oK λm NC=>hm m O
        unfold KE D4 CA
        rw[hb]
        simp only[Ed]at h'⊢
        exact⟨h'.1.1,⟨h'.1.2,h'.2⟩,oO⟩
       ·exact hj j O
      ·exact Qa J [] rfl trivial ⟨Z,Z,Z,⟨rfl,Ra e1⟩,oO⟩
  ·have h:¬(i:Int)<l.length:=bF h
   apply wc
   have:pW l=false:=oK λj qR=>hj j O
   rw[this];rfl
def lP(l:List Pt):Int:=
 bif decide ((l.length:Int)<3)then 10 else bif decide ((l.length:Int)>40)then 8 else bif l.any (λp=> !fB p)then 2 else bif pW l then 3 else 0
def aH0(l:List Pt):aF prog 299 [w9 l] (vB (decide ((l.length:Int)<3))):=by exact eP func299 rfl rfl call299 rfl rfl λR J=>db _
def aHZ(l:List Pt):aF prog 300 [w9 l] (vB (decide ((l.length:Int)>40))):=by exact eP func300 rfl rfl call300 rfl rfl λR J=>db _
def aHY(l:List Pt)(hl:l.length<=9223372036854775807):aF prog 301 [w9 l] (vB (l.any λp=> !fB p)):=by exact eP func301 rfl rfl call301 rfl rfl λR J=>aB (B0 l hl) (db _)
def aHX(l:List Pt)(h3:3<=l.length)(h40:l.length<=40):aF prog 302 [w9 l] (vB (pW l)):=by
 refine eP func302 rfl rfl call302 rfl rfl λR J=>?_
 exact aB (simple l h3 h40) (Ia (by show vB (!(!_))=_;simp))
abbrev aAR:List SV:=[.d (dI 10),.d (.dZ 299 0 λ_=>.bL),.d (dI 8),.d (.dZ 300 0 λ_=>.bL),.d (dI 2),.d (.dZ 301 0 λ_=>.bL),.d (dI 3),.d (.dZ 302 0 λ_=>.bL)]
def aHW:aF prog 213 [] (.g aAR):=by exact eP func213 rfl rfl call213 rfl rfl λR J=>Fg ⟨Ja _,sf λj hj=>absurd hj (cd j),Ja _,sf λj hj=>absurd hj (cd j),Ja _,sf λj hj=>absurd hj (cd j),Ja _,sf λj hj=>absurd hj (cd j),oO⟩
def JY(l:List Pt)(hl:l.length<=9223372036854775807):aF prog 151 [w9 l] (vI (lP l)):=by
 refine eP func151 rfl rfl call151 rfl rfl λR J=>aB aHW ?_
 refine Gb (λi:Nat=>⟨[(0,w9 l),(5,.g aAR),(6,vI i)],[]⟩)
  (λi=>i<=4/\(0<i->decide ((l.length:Int)<3)=false)/\(1<i->decide ((l.length:Int)>40)=false)/\(2<i->(l.any λp=> !fB p)=false)/\(3<i->pW l=false)) (λi=>4-i) 0 ⟨O,λh=>absurd h O,λh=>absurd h O,λh=>absurd h O,λh=>absurd h O⟩ ?_ ?_
 ·exact uv
 rintro i ⟨hi,h1,h2,h3,h4⟩;apply eX J
 match i,hi with
 |0,_=>
  refine aI (λ_=>?_) (λh=>by cases h);refine oi Ha (aB (aH0 l) ?_);apply aI<;>intro h
  ·exact Ia (by unfold lP;rw[h];rfl)
  refine⟨1,⟨O,λ_=>h,λh=>absurd h O,λh=>absurd h O,λh=>absurd h O⟩,O,?_⟩;exact uv
 |1,_=>
  refine aI (λ_=>?_) (λh=>by cases h);refine oi Ha (aB (aHZ l) ?_);apply aI<;>intro h
  ·exact Ia (by unfold lP;rw[h1 O,h];rfl)
  refine⟨2,⟨O,λ_=>h1 O,λ_=>h,λh=>absurd h O,λh=>absurd h O⟩,O,?_⟩;exact uv
 |2,_=>
  refine aI (λ_=>?_) (λh=>by cases h);refine oi Ha (aB (aHY l hl) ?_);apply aI<;>intro h
  ·exact Ia (by unfold lP;rw[h1 O,h2 O,h];rfl)
  refine⟨3,⟨O,λ_=>h1 O,λ_=>h2 O,λ_=>h,λh=>absurd h O⟩,O,?_⟩;exact uv
 |3,_=>
  refine aI (λ_=>?_) (λh=>by cases h);apply oi Ha;have g1:=bF (h1 O);have g2:=bF (h2 O);refine aB (aHX l O O) (aI (λh=>?_) (λh=>?_))
  ·exact Ia (by unfold lP;rw[h1 O,h2 O,h3 O,h];rfl)
  refine⟨4,⟨O,λ_=>h1 O,λ_=>h2 O,λ_=>h3 O,λ_=>h⟩,O,?_⟩;exact uv
 |4,_=>refine aI (λh=>by cases h) (λ_=>?_);exact Ia (by unfold lP;rw[h1 O,h2 O,h3 O,h4 O];rfl)
def R8{α:Type} [Inhabited α] (p:α->Bool)(l:List α)(i:Nat)(hi:i<l.length)(h:p (l.getD i default)=true):l.any p=true:=by rw[Ll];exact⟨l[i],sM,by rw[aX hi]at h;exact h⟩
def R9{α:Type} [Inhabited α] (p:α->Bool)(l:List α)(h:∀i,i<l.length->p (l.getD i default)=false):l.any p=false:=by rw[Tg];intro x hx;obtain⟨i,hi,rfl⟩:=Vj hx;have:=h i hi;rw[aX hi]at this;rw[this];simp
def JN(l:List Pt)(hl:l.length<=9223372036854775807):aF prog 167 [w9 l] (vI (lP l)):=by
 refine eP func167 rfl rfl call167 rfl rfl λR J=>?_
 apply aI<;>intro h1
 ·exact Ia (by unfold lP;rw[h1];rfl)
 apply aI<;>intro h2
 ·exact Ia (by unfold lP;rw[h1,h2];rfl)
 have g1:=bF h1
 have g2:=bF h2
 have fJ:l≠[]:=by intro h;subst h;simp at g1
 refine Gb (λi:Nat=>⟨[(0,w9 l),(3,vI i)],[]⟩) (λi=>i<=l.length/\∀j,j<i->fB (sI l j)=true) (λi=>l.length-i) 0 ⟨Nat.zero_le _,λj hj=>absurd hj (cd j)⟩ ?_ ?_
 ·exact Qa J [] rfl trivial Fa
 ·rintro i ⟨hi,hj⟩
  apply eX J
  apply aI<;>intro h
  ·have h:(i:Int)<l.length:=bG h
   apply oi Ha
   refine aB (Good (sI l i)) ?_
   apply aI<;>intro h'
   ·have h':(!fB (sI l i))=true:=h'
    apply Ia
    unfold lP
    rw[h1,h2,R8 (λp=> !fB p) l i O h'];rfl
   ·have h':(!fB (sI l i))=false:=h'
    refine⟨i+1,⟨O,λj qR=>?_⟩,O,?_⟩
    ·by_cases y7:j=i
     ·rw[y7];simpa using h'
     ·exact hj j O
    ·exact Qa J [] rfl trivial Fa
  ·have h:¬(i:Int)<l.length:=bF h
   have h3:(l.any λp=> !fB p)=false:=R9 _ l λj qR=>by rw[hj j O];rfl
   have fin:∀b,qU l=b->lP l=bif b then 3 else 0:=by
    intro b hb
    unfold lP
    rw[h1,h2,h3,<-T9 l O,hb];rfl
   refine Gb (λi:Nat=>⟨[(0,w9 l),(4,vI l.length),(5,vI i)],[]⟩) (λi=>i<=l.length/\∀j,j<i->MO l j=false) (λi=>l.length-i) 0 ⟨Nat.zero_le _,λj hj=>absurd hj (cd j)⟩ ?_ ?_
   ·exact uv
   ·rintro i ⟨hi,hj⟩
    apply eX J
    apply aI<;>intro h
    ·have h:(i:Int)<l.length:=bG h
     refine Gb (λk:Nat=>⟨[(0,w9 l),(4,vI l.length),(5,vI i),(6,vI k)],[]⟩) (λk=>k<=i/\∀j,j<k->pA (sI l i) (sI l j)=false) (λk=>i-k) 0 ⟨Nat.zero_le _,λj hj=>absurd hj (cd j)⟩ ?_ ?_
     ·exact Vu
     ·rintro k ⟨hk,hm⟩
      apply eX J
      apply aI<;>intro h'
      ·have h':(k:Int)<i:=bG h'
       apply oi Ha
       apply oi Ha
       refine aD ?_
       apply aI<;>intro NK
       ·have NK:pA (sI l i) (sI l k)=true:=NK
        exact Ia (by rw[fin true (by unfold qU;rw[eI (i:=i) O (eI (i:=k) O NK)];rfl)];rfl)
       ·have NK:pA (sI l i) (sI l k)=false:=NK
        refine⟨k+1,⟨O,λj qR=>?_⟩,O,?_⟩
        ·by_cases SL:j=k
         ·rw[SL];exact NK
         ·exact hm j O
        ·exact zcB
      ·have h':¬(k:Int)<i:=bF h'
       refine⟨i+1,⟨O,λj qR=>?_⟩,O,?_⟩
       ·by_cases y7:j=i
        ·rw[y7];exact oK λm NC=>hm m O
        ·exact hj j O
       exact zas
    ·have h:¬(i:Int)<l.length:=bF h
     have aL4:zD l.length (MO l)=false:=oK λj qR=>hj j O
     refine Gb (λi:Nat=>⟨[(0,w9 l),(4,vI l.length),(7,vI i)],[]⟩) (λi=>i<=l.length/\∀j,j<i->D4 l j=false) (λi=>l.length-i) 0 ⟨Nat.zero_le _,λj hj=>absurd hj (cd j)⟩ ?_ ?_
     ·exact uv
     ·rintro i ⟨hi,hj⟩
      apply eX J
      apply aI<;>intro h
      ·have h:(i:Int)<l.length:=bG h
       have e1:aW ((i:Int)+1)=((i+1:Nat):Int):=aG O O
       have e2:aW ((i:Int)+2)=((i+2:Nat):Int):=aG O O
       have c0:aF prog 223 [w9 l,vI i] (pt (sI l i)):=by have:=IM l i fJ;rw[Rh O]at this;exact this
       have c1:aF prog 223 [w9 l,vI (aW ((i:Int)+1))] (pt (qB l (i+1))):=by rw[e1];exact IM l (i+1) fJ
       have c2:aF prog 223 [w9 l,vI (aW ((i:Int)+2))] (pt (qB l (i+2))):=by rw[e2];exact IM l (i+2) fJ
       apply aB c0
       apply aB c1
       apply aB c2
       refine aB (yV (sI l i) (qB l (i+1)) (qB l (i+2))) ?_
       repeat refine aR ?_
       refine bR (yV (qB l (i+1)) (qB l (i+2)) (sI l i)) ?_
       repeat refine aR ?_
       apply aI<;>intro h'
       ·have h':CA l i=true:=h'
        exact Ia (by rw[fin true (by unfold qU;rw[eI (i:=i) (p:=D4 l) O (by unfold D4;rw[h'];rfl)];simp)];rfl)
       ·have h':CA l i=false:=h'
        refine Gb (λk:Nat=>⟨[(0,w9 l),(4,vI l.length),(7,vI i),(8,.s (.ptr 8 0)),(9,.s (.ptr 9 0)),(11,vI k)],[(8,some (rj (sI l i))),(9,some (rj (qB l (i+1))))]⟩) (λk=>i+2<=k/\k<=l.length+2/\∀m,m<k->iU l i m=false) (λk=>l.length+2-k) (i+2) ⟨O,O,λm hm=>by unfold iU;rw[Kc O];rfl⟩ ?_ ?_
        ·exact Qa J [] rfl Fa ⟨Z,Z,Z,Z,Z,⟨rfl,Ra e2⟩,oO⟩
        ·rintro k ⟨hk1,TX,hm⟩
         apply eX J
         apply aI<;>intro NK
         ·have NK:(k:Int)<l.length:=bG NK
          have e3:aW ((k:Int)+1)=((k+1:Nat):Int):=aG O O
          have e4:(aW ((k:Int)+1)).tmod l.length=(((k+1)%l.length:Nat):Int):=by
           rw[e3,sj O];rfl
          have d0:aF prog 223 [w9 l,vI k] (pt (sI l k)):=by have:=IM l k fJ;rw[Rh O]at this;exact this
          have d1:aF prog 223 [w9 l,vI (aW ((k:Int)+1))] (pt (qB l (k+1))):=by rw[e3];exact IM l (k+1) fJ
          apply oi O
          repeat refine aR ?_
          apply bR d0
          repeat refine aR ?_
          apply bR d1
          repeat refine aR ?_
          refine bR (aQE (sI l i) (qB l (i+1)) (sI l k) (qB l (k+1))) ?_
          repeat refine aR ?_
          refine aD ?_
          have key:(((aW ((k:Int)+1)).tmod l.length !=(i:Int))&&yi (sI l i) (qB l (i+1)) (sI l k) (qB l (k+1)))=iU l i k:=by
           unfold iU MX
           rw[pc hk1,e4];rfl
          apply aI<;>intro EW
          ·have EW:iU l i k=true:=key.symm.trans EW
           exact Ia (by rw[fin true (by unfold qU;rw[eI (i:=i) (p:=D4 l) O (by unfold D4;rw[eI (i:=k) O EW];simp)];simp)];rfl)
          ·have EW:iU l i k=false:=key.symm.trans EW
           refine⟨k+1,⟨O,O,λm NC=>?_⟩,O,?_⟩
           ·exact zdQ
           ·exact Qa J [] rfl Fa ⟨Z,Z,Z,Z,Z,⟨rfl,Ra e3⟩,oO⟩
         ·have NK:¬(k:Int)<l.length:=bF NK
          refine⟨i+1,⟨O,λj qR=>?_⟩,O,?_⟩
          ·by_cases y7:j=i
           ·subst y7
            have hb:zD l.length (iU l j)=false:=oK λm NC=>hm m O
            unfold D4
            rw[hb,h'];rfl
           ·exact hj j O
          ·exact Qa J [] rfl trivial ⟨Z,Z,⟨rfl,Ra e1⟩,oO⟩
      ·have h:¬(i:Int)<l.length:=bF h
       exact Ia (by rw[fin false (by unfold qU;rw[aL4,oK (p:=D4 l) λj qR=>hj j O];rfl)];rfl)
def bE(a b:ta):Bool:=a.toList==b.toList
def pC(r:zP)(before:List zP):Int:=
 bif !isName r.name then 4 else bif before.any (λq=>bE q.name r.name)then 5 else bif !within r.kind 0 3 then 2 else lP r.lS
def UO(s:ta):Nat->DV
 |0=>dS s
 |_=>.bL
def aET(q:zP)(s:ta)(f:Nat->DV)(hf:f 0=dS s):aF prog 229 [dj q,.s (.d (.rp 3 f))] (vB (bE q.name s)):=by
 refine Ze (args:=[dj q,.s (.d (.rp 3 (UO s)))]) ?_ ⟨⟨Ja _,Ja _,Ja _,oO⟩,Zc λj hj=>?_,oO⟩
 ·exact eP func229 rfl rfl call229 rfl rfl λR _=>db _
 exact vp
def RV(r:zP)(before:List zP)(hr:r.name.size<=9223372036854775807)(hc:r.lS.length<=9223372036854775807)(hb:before.length<=9223372036854775807):
  aF prog 178 [dj r,GA before] (vI (pC r before)):=by
 refine eP func178 rfl rfl call178 rfl rfl λR J=>?_
 refine aB (named r.name hr) ?_
 apply aI<;>intro h1
 ·exact Ia (by unfold pC;rw[h1];rfl)
 refine aB (ZA before hb 229 1 _ (λq=>bE q.name r.name) (λq _=>aET q r.name _ rfl)) ?_
 apply aI<;>intro h2
 ·exact Ia (by unfold pC;rw[h1,h2];rfl)
 refine aB (outside _ _ _) ?_
 apply aI<;>intro h3
 ·exact gu
 refine aB (JY r.lS hc) ?_
 exact Ia (by unfold pC;rw[h1,h2,h3];rfl)
def S8(r:zP)(before:List zP)(hr:r.name.size<=9223372036854775807)(hc:r.lS.length<=9223372036854775807)(hb:before.length<=9223372036854775807):
  aF prog 104 [dj r,GA before] (vI (pC r before)):=by
 refine eP func104 rfl rfl call104 rfl rfl λR J=>?_
 refine aB (sW r.name hr) ?_
 apply aI<;>intro h1
 ·exact Ia (by unfold pC;rw[h1];rfl)
 refine Gb (λi:Nat=>⟨[(1,GA before),(2,.s (.ptr 2 0)),(5,vI i)],[(2,some (.cells [.d (dS r.name),.d (dI r.kind),.d (Y9 r.lS)]))]⟩) (λi=>i<=before.length/\∀j,j<i->bE (before.getD j default).name r.name=false) (λi=>before.length-i) 0 ⟨Nat.zero_le _,λj hj=>absurd hj (cd j)⟩ ?_ ?_
 ·exact Qa J [] rfl Fa Fa
 ·rintro i ⟨hi,hj⟩;apply eX J;apply aI<;>intro h
  ·have h:(i:Int)<before.length:=bG h;refine oi Ha (aD ?_);apply aI<;>intro h'
   ·have h':bE (before.getD i default).name r.name=true:=h';exact Ia (by unfold pC;rw[h1,R8 (λq:zP=>bE q.name r.name) before i O h'];rfl)
   refine⟨i+1,⟨O,λj qR=>?_⟩,O,?_⟩
   ·by_cases y7:j=i
    ·rw[y7];exact h'
    exact hj j O
   exact Qa J [] rfl Fa Fa
  have h:¬(i:Int)<before.length:=bF h;have h2:(before.any λq=>bE q.name r.name)=false:=R9 _ before λj qR=>hj j O
  refine aB (cI _ _ _) (aI (λh3=>?_) (λh3=>?_))
  ·exact gu
  exact aB (JN r.lS hc) gu
def I1(over:Int)(a:Ap):Bool:= !fB a.pt|| !within a.half 1 100000|| !within a.level (aW (over-20000)) 20000|| !within a.run 0 1000
def BA(l:List Ap)(i:Nat):Bool:=decide ((i:Int)>0)&&pA (l.getD i default).pt (l.getD (aW ((i:Int)-1)).toNat default).pt
def rC(over:Int)(l:List Ap):Nat->Nat->Int
 |0,_=>0
 |n+1,i=>bif I1 over (l.getD i default)then 2 else bif BA l i then 5 else rC over l n (i+1)
def lZ(c:kE):Int:=bif decide ((c.aZ.length:Int)<2)then 10 else bif decide ((c.aZ.length:Int)>20)then 8 else rC c.over c.aZ c.aZ.length 0
def ZJ(c:kE):aF prog 177 [chan c] (vI (lZ c)):=by
 refine eP func177 rfl rfl call177 rfl rfl λR J=>?_
 apply aI<;>intro h1
 ·exact Ia (by unfold lZ;rw[h1];rfl)
 apply aI<;>intro h2
 ·exact Ia (by unfold lZ;rw[h1,h2];rfl)
 have g2:=bF h2
 refine Gb (λi:Nat=>⟨[(1,.s (.ptr 1 0)),(14,aN5 c.aZ),(15,vI c.aZ.length),(16,vI i)],[(1,some (IT c))]⟩) (λi=>i<=c.aZ.length/\rC c.over c.aZ c.aZ.length 0=rC c.over c.aZ (c.aZ.length-i) i) (λi=>c.aZ.length-i) 0 ⟨Nat.zero_le _,rfl⟩ ?_ ?_
 ·exact zbC
 ·rintro i ⟨hi,hj⟩
  apply eX J
  apply aI<;>intro h
  ·have h:(i:Int)<c.aZ.length:=bG h
   rw[show c.aZ.length-i=(c.aZ.length-(i+1))+1 by omega,rC]at hj
   apply oi Ha
   refine aB (place (aZ c i)) ?_
   refine aB (aFQ (aZ c i).pt) ?_
   repeat refine aR ?_
   refine bR (outside _ _ _) ?_
   repeat refine aR ?_
   refine bR (outside _ _ _) ?_
   repeat refine aR ?_
   refine bR (outside _ _ _) ?_
   repeat refine aR ?_
   apply aI<;>intro h3
   ·have h3:I1 c.over (aZ c i)=true:=h3
    exact Ia (by unfold lZ;rw[h1,h2,hj,h3];rfl)
   have h3:I1 c.over (aZ c i)=false:=h3
   repeat refine aR ?_
   refine bR (place (aZ c i)) ?_
   repeat refine aR ?_
   refine og (λhb=>?_) ?_
   ·exact zbr
   repeat refine aR ?_
   refine bR (place (c.aZ.getD (aW ((i:Int)-1)).toNat default)) ?_
   repeat refine aR ?_
   refine aD ?_
   apply aI<;>intro h4
   ·have h4:BA c.aZ i=true:=h4
    exact Ia (by unfold lZ;rw[h1,h2,hj,h3,h4];rfl)
   ·have h4:BA c.aZ i=false:=h4
    refine⟨i+1,⟨O,by rw[hj,h3,h4];rfl⟩,O,?_⟩
    exact qu
  ·have h:¬(i:Int)<c.aZ.length:=bF h
   exact Ia (by unfold lZ;rw[h1,h2,hj,show c.aZ.length-i=0 by omega];rfl)
def rT(l:List zP):Nat->Nat->Int
 |0,_=>0
 |n+1,i=>bif pC (l.getD i default) (l.take i) !=0 then pC (l.getD i default) (l.take i)else rT l n (i+1)
def mU(c:kE):Int:=
 bif !isName c.name then 4
 else bif !within c.over 0 1000|| !within c.buffer 0 100000 then 2
 else bif lZ c !=0 then lZ c
 else bif decide ((c.Ya.length:Int)>20)then 8
 else rT c.Ya c.Ya.length 0
def KK(l:List zP)(i:Nat)(hi:i<=l.length):aK (.fU (i:Int).toNat 3 (Ts l)) (zM (l.take i)):=by
 refine Qe re λa b ha hb=>Wa ?_
 have ha:a<i:=ha;unfold Ts;congr 1;simp[ha]
def Vw{l:List zP}(h:∀a∈l,a.ok){i:Nat}(hi:i<l.length):(l.getD i default).ok:=by rw[aX hi];exact h _ (Ce hi)
def aCT(c:kE)(hc:c.ok):aF prog 118 [chan c] (vI (mU c)):=by
 refine eP func118 rfl rfl call118 rfl rfl λR J=>?_
 refine aB (named c.name hc.name) ?_
 apply aI<;>intro h1
 ·exact Ia (by unfold mU;rw[h1];rfl)
 refine aB (outside _ _ _) ?_
 repeat refine aR ?_
 refine bR (outside _ _ _) ?_
 repeat refine aR ?_
 apply aI<;>intro h2
 ·exact Ia (by unfold mU;rw[h1,h2];rfl)
 refine aB (ZJ c) ?_
 apply aI<;>intro h3
 ·exact Hv
 apply aI<;>intro h4
 ·exact zdV
 have g4:=bF h4
 refine Gb (λi:Nat=>⟨[(1,.s (.ptr 1 0)),(29,GA c.Ya),(30,vI c.Ya.length),(31,vI i)],[(1,some (IT c))]⟩) (λi=>i<=c.Ya.length/\rT c.Ya c.Ya.length 0=rT c.Ya (c.Ya.length-i) i) (λi=>c.Ya.length-i) 0 ⟨Nat.zero_le _,rfl⟩ ?_ ?_
 ·exact zbC
 ·rintro i ⟨hi,hj⟩
  apply eX J
  apply aI<;>intro h
  ·have h:(i:Int)<c.Ya.length:=bG h
   rw[show c.Ya.length-i=(c.Ya.length-(i+1))+1 by omega,rT]at hj
   have gF:=Vw hc.aKW (show i<c.Ya.length by omega)
   apply oi Ha
   refine oi ⟨dC,by show(0:Int)<=(i:Int);omega,by show(i:Int)<=_;omega⟩ ?_
   refine aB ((RV (c.Ya.getD i default) (c.Ya.take i) gF.1 gF.2.2.1 re).conv (args':=_) ⟨⟨Ja _,Ja _,Ja _,oO⟩,KK c.Ya i hi,oO⟩) ?_
   refine aD ?_
   apply aI<;>intro h5
   ·exact zdA
   ·refine⟨i+1,⟨O,by rw[hj,h5];rfl⟩,O,?_⟩
    exact qu
  exact zaC
def aIE(c:kE)(hc:c.ok):aF prog 59 [chan c] (vI (mU c)):=by
 refine eP func59 rfl rfl call59 rfl rfl λR J=>?_
 refine aB (sW c.name hc.name) ?_
 apply aI<;>intro h1
 ·exact Ia (by unfold mU;rw[h1];rfl)
 refine aB (cI _ _ _) ?_
 repeat refine aR ?_
 refine bR (cI _ _ _) ?_
 repeat refine aR ?_
 apply aI<;>intro h2
 ·exact Ia (by unfold mU;rw[h1,h2];rfl)
 apply aI<;>intro a1
 ·have h3:lZ c=10:=by unfold lZ;rw[a1];rfl
  exact Hv
 apply aI<;>intro a2
 ·have h3:lZ c=8:=by unfold lZ;rw[a1,a2];rfl
  exact Hv
 have g2:=bF a2
 refine Gb (λi:Nat=>⟨[(1,.s (.ptr 1 0)),(3,vI i)],[(1,some (IT c))]⟩) (λi=>i<=c.aZ.length/\rC c.over c.aZ c.aZ.length 0=rC c.over c.aZ (c.aZ.length-i) i) (λi=>c.aZ.length-i) 0 ⟨Nat.zero_le _,rfl⟩ ?_ ?_
 ·exact zd1
 ·rintro i ⟨hi,hj⟩
  apply eX J
  apply aI<;>intro h
  ·have h:(i:Int)<c.aZ.length:=bG h
   rw[show c.aZ.length-i=(c.aZ.length-(i+1))+1 by omega,rC]at hj
   apply oi Ha
   refine aB (Place (aZ c i)) ?_
   refine aB (Good (aZ c i).pt) ?_
   repeat refine aR ?_
   refine bR (cI _ _ _) ?_
   repeat refine aR ?_
   refine bR (cI _ _ _) ?_
   repeat refine aR ?_
   refine bR (cI _ _ _) ?_
   repeat refine aR ?_
   have key:(!fB (aZ c i).pt|| !within (aZ c i).half 1 100000|| !within (aZ c i).level (aW (-20000+c.over)) 20000|| !within (aZ c i).run 0 1000)=I1 c.over (aZ c i):=by
    unfold I1
    rw[show -20000+c.over=c.over-20000 by omega]
   apply aI<;>intro h3
   ·have h3:I1 c.over (aZ c i)=true:=key.symm.trans h3
    have EW:lZ c=2:=by unfold lZ;rw[a1,a2,hj,h3];rfl
    exact zeb
   have h3:I1 c.over (aZ c i)=false:=key.symm.trans h3
   repeat refine aR ?_
   refine bR (Place (aZ c i)) ?_
   repeat refine aR ?_
   refine og (λhb=>?_) ?_
   ·exact zbr
   repeat refine aR ?_
   refine bR (Place (c.aZ.getD (aW ((i:Int)-1)).toNat default)) ?_
   repeat refine aR ?_
   refine aD ?_
   apply aI<;>intro h4
   ·have h4:BA c.aZ i=true:=h4
    have EW:lZ c=5:=by unfold lZ;rw[a1,a2,hj,h3,h4];rfl
    exact zeb
   ·have h4:BA c.aZ i=false:=h4
    refine⟨i+1,⟨O,by rw[hj,h3,h4];rfl⟩,O,?_⟩
    exact zcI
  ·have h:¬(i:Int)<c.aZ.length:=bF h
   have h3:lZ c=0:=by unfold lZ;rw[a1,a2,hj,show c.aZ.length-i=0 by omega];rfl
   apply aI<;>intro h4
   ·exact zdV
   have g4:=bF h4
   refine Gb (λi:Nat=>⟨[(1,.s (.ptr 1 0)),(5,vI i)],[(1,some (IT c))]⟩) (λi=>i<=c.Ya.length/\rT c.Ya c.Ya.length 0=rT c.Ya (c.Ya.length-i) i) (λi=>c.Ya.length-i) 0 ⟨Nat.zero_le _,rfl⟩ ?_ ?_
   ·exact zd1
   ·rintro i ⟨hi,hj⟩
    apply eX J
    apply aI<;>intro h
    ·have h:(i:Int)<c.Ya.length:=bG h
     rw[show c.Ya.length-i=(c.Ya.length-(i+1))+1 by omega,rT]at hj
     have gF:=Vw hc.aKW (show i<c.Ya.length by omega)
     apply oi Ha
     refine oi ⟨dC,by show(0:Int)<=(i:Int);omega,by show(i:Int)<=_;omega⟩ ?_
     refine aB ((S8 (c.Ya.getD i default) (c.Ya.take i) gF.1 gF.2.2.1 re).conv (args':=_) ⟨⟨Ja _,Ja _,Ja _,oO⟩,KK c.Ya i hi,oO⟩) ?_
     refine aD ?_
     apply aI<;>intro h5
     ·exact zdA
     ·refine⟨i+1,⟨O,by rw[hj,h5];rfl⟩,O,?_⟩
      exact zcI
    exact zaC
def pj(g:eZ):Nat->DV
 |0=>dI g.x
 |1=>dI g.y
 |2=>dI g.side
 |3=>dI g.dO
 |4=>dI g.rows
 |5=>b5 g.levels
 |_=>.bL
def xQ(l:List eZ):Nat->Nat->DV:=λi=>pj (l.getD i default)
def cZ(l:List eZ):DV:=.fU l.length 6 (xQ l)
def H5(l:List eZ):Nat->Nat->Int
 |0,_=>bif ((l.length:Int)==2)&& !alike (l.getD 0 default) (l.getD 1 default)then 10 else 0
 |n+1,i=>bif kC (l.getD i default) !=0 then kC (l.getD i default)else H5 l n (i+1)
def mI(c:kE)(l:List eZ):Int:=bif mU c !=0 then mU c else H5 l l.length 0
def OR(c:kE)(g:eZ):mI c [g]=bif mU c !=0 then mU c else kC g:=by
 unfold mI
 cases h:mU c !=0
 ·show H5 [g] 1 0=kC g;show(bif kC g !=0 then kC g else 0)=kC g
  cases h':kC g !=0
  ·simp at h';exact h'.symm
  rfl
 rfl
attribute [local irreducible] kC mU in
def aNM(c:kE)(g:eZ)(hc:c.ok)(hg:g.ok):aF prog 140 [chan c,rK g] (vI (mI c [g])):=by
 rw[OR];refine eP func140 rfl rfl call140 rfl rfl λR J=>aB (aCT c hc) (aI (λh1=>?_) (λh1=>?_))
 ·exact Ia To
 exact aB (UW g hg.levels) (Ia To)
def FC{over:Int}{l:List Ap}:∀{n i:Nat},rC over l n i=0->∀j,i<=j->j<i+n->I1 over (l.getD j default)=false/\BA l j=false
 |0,i,_,j,h1,h2=>by omega
 |n+1,i,h,j,h1,h2=>by
  rw[rC]at h
  cases hb:I1 over (l.getD i default)with
  |true=>rw[hb]at h;cases h
  |false=>
   cases hs:BA l i with
   |true=>rw[hb,hs]at h;cases h
   |false=>
    rw[hb,hs]at h;by_cases Z5:j=i
    ·subst Z5;exact⟨hb,hs⟩
    exact FC (n:=n) (i:=i+1) h j O O
def aHP(c:kE)(h:mU c=0):ni c:=by
 unfold mU at h
 cases h1:isName c.name with
 |false=>rw[h1]at h;cases h
 |true=>
  rw[h1]at h
  cases h2:(!within c.over 0 1000|| !within c.buffer 0 100000)with
  |true=>rw[h2]at h;cases h
  |false=>
   rw[h2]at h
   cases h3:lZ c !=0 with
   |true=>rw[h3]at h;have h:lZ c=0:=h;rw[h]at h3;cases h3
   |false=>
    have h3:lZ c=0:=by simpa using h3
    unfold lZ at h3
    cases a1:decide ((c.aZ.length:Int)<2)with
    |true=>rw[a1]at h3;cases h3
    |false=>
     cases a2:decide ((c.aZ.length:Int)>20)with
     |true=>rw[a1,a2]at h3;cases h3
     |false=>
      rw[a1,a2]at h3;have h3:rC c.over c.aZ c.aZ.length 0=0:=h3;have g1:=bF a1;have g2:=bF a2;simp[within]at h2;have hov:aW (c.over-20000)=c.over-20000:=aG O O;have hA:∀i,i<c.aZ.length->I1 c.over (aZ c i)=false/\BA c.aZ i=false:=λi hi=>FC h3 i (Nat.zero_le _) O
      have hB:∀i,i<c.aZ.length->fB (aZ c i).pt=true/\(1<=(aZ c i).half/\(aZ c i).half<=100000)/\(c.over-20000<=(aZ c i).level/\(aZ c i).level<=20000)/\(0<=(aZ c i).run/\(aZ c i).run<=1000):=by intro i hi;have:=(hA i hi).1;unfold I1 at this;rw[hov]at this;simp only[Ed,Ph]at this;obtain⟨⟨⟨q1,q2⟩,q3⟩,q4⟩:=this;simp only[within,Bool.and_eq_true,ae,ge_iff_le]at q2 q3 q4;exact⟨q1,q2,q3,q4⟩
      refine⟨O,O,λi hi=>(hB i hi).1,λi hi=>(hB i hi).2.1,λi hi=>(hB i hi).2.2.1,λi hi=>(hB i hi).2.2.2,λi hi=>?_,O,O⟩;intro he;have:=(hA (i+1) hi).2;unfold BA at this;rw[pc O,Cw,aG O O]at this;have e:((((i+1:Nat):Int)-1).toNat)=i:=O;rw[e]at this;rw[mP.2 he.symm]at this
      cases this
structure FO(g:eZ):Prop where
 x: -1000000<=g.x/\g.x<=1000000
 y: -1000000<=g.y/\g.y<=1000000
 side:100<=g.side/\g.side<=10000
 dO:1<=g.dO/\g.dO<=1024
 rows:1<=g.rows/\g.rows<=1024
 aOZ:g.dO*g.rows<=1024
 right:g.x+g.dO*g.side<=1000000
 cb:g.y+g.rows*g.side<=1000000
 len:(g.levels.length:Int)=g.dO*g.rows
 Ju:∀n∈g.levels,n=30000\/(-20000<=n/\n<=20000)
def FO.of{g:eZ}(h:kC g=0):FO g:=by
 unfold kC at h
 cases h1:e1 g with
 |true=>rw[h1]at h;cases h
 |false=>
  rw[h1]at h;unfold e1 at h1;simp only[Ed,Ph]at h1;obtain⟨⟨⟨⟨q1,q2⟩,q3⟩,q4⟩,q5⟩:=h1;simp only[within,Bool.and_eq_true,ae,ge_iff_le]at q1 q2 q3 q4 q5;have m1:=kM (a:=g.dO) (b:=g.rows) (A:=1024) (B:=1024) O O O O;have m2:=kM (a:=g.dO) (b:=g.side) (A:=1024) (B:=10000) O O O O;have m3:=kM (a:=g.rows) (b:=g.side) (A:=1024) (B:=10000) O O O O;rw[aG (n:=g.dO*g.rows) O O,aG (n:=g.dO*g.side) O O,aG (n:=g.rows*g.side) O O,
   aG (n:=g.x+g.dO*g.side) O O,aG (n:=g.y+g.rows*g.side) O O]at h
  cases h2:decide (g.dO*g.rows>1024)with
  |true=>rw[h2]at h;cases h
  |false=>
   rw[h2]at h
   cases h3:(decide (g.x+g.dO*g.side>1000000)||decide (g.y+g.rows*g.side>1000000))with
   |true=>rw[h3]at h;cases h
   |false=>
    rw[h3]at h
    cases h4:((g.levels.length:Int) !=g.dO*g.rows)with
    |true=>rw[h4]at h;cases h
    |false=>
     rw[h4]at h
     cases h5:g.levels.any iQ with
     |true=>rw[h5]at h;cases h
     |false=>
      simp only[Ed,Qd]at h2 h3;have h4:(g.levels.length:Int)=g.dO*g.rows:=by simpa using h4
      refine⟨q1,q2,q3,q4,q5,O,O,O,h4,λn hn=>?_⟩;rw[Tg]at h5;have:=h5 n hn;by_cases hu:n=30000
      ·exact .inl hu
      right;simp[iQ,within,hu]at this;omega
def FO.n{g:eZ}(h:FO g):g.levels.length<=1024:=by have:=h.len;have:=h.aOZ;omega
def RY{g:eZ}(h:FO g){i:Nat}(hi:i<g.levels.length):fB (dP g i)=true/\
  dP g i=⟨g.x+(i:Int)%g.dO*g.side+g.side / 2,g.y+(i:Int) / g.dO*g.side+g.side / 2⟩:=by
 obtain⟨hx,hy,hs,hc,hr,hm,hR,hT,hl,_⟩:=h
 have i0:(0:Int)<=(i:Int):=O
 have e1:(i:Int).tmod g.dO=(i:Int)%g.dO:=sj i0
 have e2:(i:Int).tdiv g.dO=(i:Int) / g.dO:=Il i0
 have m0:=My (i:Int) (show g.dO≠0 by omega)
 have m1:=oy (i:Int) (show 0<g.dO by omega)
 have d0:=nr i0 (show 0<=g.dO by omega)
 have d1:(i:Int) / g.dO<g.rows:=by apply Int.ediv_lt_of_lt_mul O;rw[Sn g.rows,<-hl];omega
 have p1:(i:Int)%g.dO*g.side<=(g.dO-1)*g.side:=Mi O O
 have p0:0<=(i:Int)%g.dO*g.side:=Th m0 O
 have p2:(i:Int) / g.dO*g.side<=(g.rows-1)*g.side:=Mi O O
 have p3:0<=(i:Int) / g.dO*g.side:=Th d0 O
 rw[Gw]at p1 p2
 have hh:g.side.tdiv 2=g.side / 2:=Il O
 have key:dP g i=⟨g.x+(i:Int)%g.dO*g.side+g.side / 2,g.y+(i:Int) / g.dO*g.side+g.side / 2⟩:=by
  unfold dP F3;simp only[e1,e2,hh];have lt:(i:Int) / g.dO<=1024:=O;rw[aG (n:=(i:Int)%g.dO*g.side) O O,aG (n:=(i:Int) / g.dO) O O,aG (n:=(i:Int) / g.dO*g.side) O O,aG (n:=g.side / 2) O O,
   aG (n:=g.x+(i:Int)%g.dO*g.side) O O,aG (n:=g.y+(i:Int) / g.dO*g.side) O O,aG O O,aG O O]
 refine⟨?_,key⟩
 rw[H6,key]
 simp only
 omega
abbrev aMS(g:eZ):jK:=.cells [.d (dI g.x),.d (dI g.y),.d (dI g.side),.d (dI g.dO),.d (dI g.rows),.d (b5 g.levels)]
def L0(c:kE)(g:eZ)(less:Int)(i:Nat):Int:=bif (UI c (dP g i)).2 then aW ((UI c (dP g i)).1-less)else 30000
def mM(c:kE)(g:eZ)(less:Int):eZ:={g with levels:=(List.range g.levels.length).map (L0 c g less)}
def oP{f:Nat->Nat->DV}{i:Nat}{x:DV}:eT f i 0 [.d x] i 0=x:=by unfold eT;rw[La rfl];rfl
def tG{f:Nat->Nat->DV}{i k j:Nat}{cs:List SV}(h:k≠i):eT f i 0 cs k j=f k j:=by unfold eT;rw[Ka h]
def E6(c:kE)(g:eZ)(less:Int):(mM c g less).levels.length=g.levels.length:=by simp[mM]
abbrev uI(x:Int):AV:=.s (.d (.val (.int .u64 x)))
abbrev Gl(x:Int):DV:=.val (.int .u64 x)
def SQ{n:Int}(h:0<=n)(k:n<=18446744073709551615):IntKind.u64.wrap n=n:=by rw[IntKind.wrap_u64];omega
def andM{y:Int}(h:0<=y)(k:y<4294967296):ZO .u64 y 4294967295=y:=by
 obtain⟨n,rfl⟩:=Tx h;have hn:n<4294967296:=O;unfold ZO;have e:(BitVec.ofInt IntKind.u64.bits (n:Int)&&&BitVec.ofInt IntKind.u64.bits 4294967295).toNat=n:=by show(BitVec.ofInt 64 (n:Int)&&&BitVec.ofInt 64 4294967295).toNat=n;rw[BitVec.toNat_and,show(BitVec.ofInt 64 4294967295).toNat=2^32-1 from rfl,Nat.and_two_pow_sub_one_eq_mod,BitVec.toNat_ofInt];omega
 rw[e];exact SQ O O
def wt{y:Int}(h:0<=y)(k:y<4294967296):wm .u64 y 32=0:=by show y.fdiv 4294967296=0;rw[Int.fdiv_eq_ediv_of_nonneg _ O];omega
def B8(v:Int)(k:Nat):Nat->Nat->DV:=λi _=>if i<k then dI v else dI 0
def aDE{v:Int}{k q:Nat}{i j:Nat}(hq:q<=k):N1 k q (B8 v k) (λi=>B8 v k (0+i)) i j=B8 v (k+q) i j:=by
 unfold N1;show(if k<=i/\i<k+q then(if 0+(i-k)<k then dI v else dI 0)else(if i<k then dI v else dI 0))=(if i<k+q then dI v else dI 0);by_cases h1:k<=i/\i<k+q
 ·rw[La h1,La O,La O]
 rw[Ka h1];by_cases h2:i<k
 ·rw[La h2,La O]
 rw[Ka h2,Ka O]
def JE{c:kE}{g:eZ}(h:mI c [g]=0):mU c=0/\kC g=0:=by
 rw[OR]at h
 cases h1:mU c !=0 with
 |true=>rw[h1]at h;simp at h1;exact absurd h h1
 |false=>rw[h1]at h;exact⟨by simpa using h1,h⟩
abbrev Lp(g:eZ)(e:Int):AV:=.t [.g [.d (dI g.x),.d (dI g.y),.d (dI g.side),.d (dI g.dO),.d (dI g.rows),.d (b5 g.levels)],.s (.d (dI e))]
def Tu:eZ:=⟨0,0,0,0,0,[]⟩
def aAB{e e':Int}(h:e=e'):aC (.t [.g (iB Xk.zero),.s (.d (dI e))]) (Lp Tu e'):=by subst h;exact Re ⟨⟨Ja _,Ja _,Ja _,Ja _,Ja _,Nd,oO⟩,Ja _,oO⟩
end Go.Ch
namespace Go.Ax
open Go Go.RowKit
def cN.rowAt{M:Mem}{V V':Nm}{w:Aa}{a k:Nat}{e:Ea}{n m s:Nat}{g g':Nat->Nat->DV}(hn:n=m)(hg:∀i j,i<n->j<s->aK (g i j) (g' i j))(he:V' k=V a)(h:cN M V w a (.row e n s g)):cN M V' w k (.row e m s g'):=by subst hn;obtain⟨b,c,cur,h1,h2,h3,h4,h5,h6,h7⟩:=h;exact⟨b,c,cur,he.trans h1,h2,h3,h4,h5,h6,λi j hi hj=>let⟨u,hu,hr⟩:=h7 i j hi hj;⟨u,hu,hg i j hi hj M u hr⟩⟩
section
variable{P:Ba}{f:FuncId}{args:List AV}{a e n m s:Nat}{g g':Nat->Nat->DV}
def bW.named(k:Nat){r r':AV}(hn:n=m)(hg:∀i j,i<n->j<s->aK (g i j) (g' i j))(h:bW P f args [] r [(a,.row e n s g)])(hr:∀(M:Mem) (V V':Nm) v,V' k=V a->r.bI M V v->r'.bI M V' v):bW P f args [] r' [(k,.row e m s g')]:=by
 refine⟨h.1,λM V w vs hG hA hM rJ hβ=>(h.2 M V w vs hG hA hM rJ hβ).mono ?_⟩;rintro q w' ⟨v,M',V',he,hle,eD,SN,aIW,gF,y2,ho,ht,hu,hs,hk,hd⟩;let la:Nm:=λy=>if y=k then V' a else none
 have h2:la k=V' a:=La rfl;have only:∀x,x∈names [(k,jK.row e m s g')]->x=k:=λx hx=>Ib.1 hx
 refine⟨v,M',la,he,λx p hx=>absurd (hβ x p hx) Dh,hr M' V' la v h2 eD,SN,aIW,⟨?_,?_,?_,?_⟩,?_,ho,ht,hu,hs,hk,hd⟩
 ·intro x hx;obtain rfl:=only x hx;rw[h2];exact gF.has a Dh
 ·intro x b hb;have hb:=Ib.1 hb
  cases hb
  exact cN.rowAt hn hg h2 (gF.rep a _ (Ib.2 rfl))
 ·intro x y b c c' hx hy _ _;rw[only x hx,only y hy]
 ·intro x b c hx hb o;obtain rfl:=only x hx;rw[h2]at hb;exact gF.apart a b c Dh hb o
 intro x b c hx hb;obtain rfl:=only x hx;rw[h2]at hb;exact y2 a b c Dh hb
def SV.bI.own{M:Mem}{V V':Nm}{k:Nat}{v:wa}(he:V' k=V a)(h:(SV.own a).bI M V v):(SV.own k).bI M V' v:=by obtain⟨b,c,h1,h2⟩:=h;exact⟨b,c,he.trans h1,h2⟩
def ao(k:Nat)(hn:n=m)(hg:∀i j,i<n->j<s->aK (g i j) (g' i j)){x:DV}(h:bW P f args [] (.t [.s (.own a),.s (.d x)]) [(a,.row e n s g)]):bW P f args [] (.t [.s (.own k),.s (.d x)]) [(k,.row e m s g')]:=
 bW.named k hn hg h λM _ _ v he hr=>by
  obtain⟨vs,e,hr⟩:=hr;refine⟨vs,e,?_⟩
  match vs,hr with
  |[v1,v2],⟨h1,h2,_⟩=>exact⟨SV.bI.own (M:=M) he h1,h2,oO⟩
end
end Go.Ax
namespace Go.Pj
open Go Go.Ax Go.Ch
structure lI where
 name:ta
 run:Int
 Gp:Int
 num:Int
 den:Int
 deriving Inhabited
def aGU(p:lI):Nat->DV
 |0=>dS p.name
 |1=>dI p.run
 |2=>dI p.Gp
 |3=>dI p.num
 |4=>dI p.den
 |_=>.bL
abbrev w4(p:lI):AV:=.g [.d (dS p.name),.d (dI p.run),.d (dI p.Gp),.d (dI p.num),.d (dI p.den)]
def aHU(l:List lI):Nat->Nat->DV:=λi=>aGU (l.getD i default)
def kV(l:List lI):DV:=.fU l.length 5 (aHU l)
abbrev jQ(l:List lI):AV:=.s (.d (kV l))
structure sC where
 cb:Int
 aN:ta
 deriving Inhabited
def aLM(p:sC):Nat->DV
 |0=>dI p.cb
 |1=>dS p.aN
 |_=>.bL
def aLL(l:List sC):Nat->Nat->DV:=λi=>aLM (l.getD i default)
def mN(l:List sC):DV:=.fU l.length 2 (aLL l)
abbrev AZ(l:List sC):AV:=.s (.d (mN l))
structure fS where
 name:ta
 x:Int
 y:Int
 bB:List sC
 deriving Inhabited
def aNS(p:fS):Nat->DV
 |0=>dS p.name
 |1=>dI p.x
 |2=>dI p.y
 |3=>mN p.bB
 |_=>.bL
abbrev UT(p:fS):AV:=.g [.d (dS p.name),.d (dI p.x),.d (dI p.y),.d (mN p.bB)]
def aNR(l:List fS):Nat->Nat->DV:=λi=>aNS (l.getD i default)
def pN(l:List fS):DV:=.fU l.length 4 (aNR l)
abbrev GB(l:List fS):AV:=.s (.d (pN l))
structure pQ where
 aN:ta
 vY:Int
 deriving Inhabited
def Vt(p:pQ):Nat->DV
 |0=>dS p.aN
 |1=>dI p.vY
 |_=>.bL
abbrev Xo(p:pQ):AV:=.g [.d (dS p.aN),.d (dI p.vY)]
def aK9(l:List pQ):Nat->Nat->DV:=λi=>Vt (l.getD i default)
def CG(l:List pQ):DV:=.fU l.length 2 (aK9 l)
abbrev OT(l:List pQ):AV:=.s (.d (CG l))
structure zF where
 name:ta
 due:Int
 Cf:Int
 deriving Inhabited
def Rs(p:zF):Nat->DV
 |0=>dS p.name
 |1=>dI p.due
 |2=>dI p.Cf
 |_=>.bL
abbrev Ro(p:zF):AV:=.g [.d (dS p.name),.d (dI p.due),.d (dI p.Cf)]
def aKU(l:List zF):Nat->Nat->DV:=λi=>Rs (l.getD i default)
def RL(l:List zF):DV:=.fU l.length 3 (aKU l)
abbrev U7(l:List zF):AV:=.s (.d (RL l))
structure uF where
 name:ta
 OE:Int
 base:Int
 cb:Int
 aV:List Int
 GZ:Int
 deriving Inhabited
def X0(p:uF):Nat->DV
 |0=>dS p.name
 |1=>dI p.OE
 |2=>dI p.base
 |3=>dI p.cb
 |4=>b5 p.aV
 |5=>dI p.GZ
 |_=>.bL
abbrev G1(p:uF):AV:=.g [.d (dS p.name),.d (dI p.OE),.d (dI p.base),.d (dI p.cb),.d (b5 p.aV),.d (dI p.GZ)]
def EF(l:List uF):Nat->Nat->DV:=λi=>X0 (l.getD i default)
def q7(l:List uF):DV:=.fU l.length 6 (EF l)
abbrev vQ(l:List uF):AV:=.s (.d (q7 l))
structure nM where
 aN:ta
 num:Int
 den:Int
 deriving Inhabited
def aNU(p:nM):Nat->DV
 |0=>dS p.aN
 |1=>dI p.num
 |2=>dI p.den
 |_=>.bL
abbrev dq(p:nM):AV:=.g [.d (dS p.aN),.d (dI p.num),.d (dI p.den)]
def aHJ(l:List nM):Nat->Nat->DV:=λi=>aNU (l.getD i default)
def oY(l:List nM):DV:=.fU l.length 3 (aHJ l)
abbrev A0(l:List nM):AV:=.s (.d (oY l))
structure OQ where
 Od:Int
 dN:ta
 iZ:Int
 deriving Inhabited
def Mp(p:OQ):Nat->DV
 |0=>dI p.Od
 |1=>dS p.dN
 |2=>dI p.iZ
 |_=>.bL
abbrev Fq(p:OQ):AV:=.g [.d (dI p.Od),.d (dS p.dN),.d (dI p.iZ)]
def E7(l:List OQ):Nat->Nat->DV:=λi=>Mp (l.getD i default)
def LU(l:List OQ):DV:=.fU l.length 3 (E7 l)
abbrev wU(l:List OQ):AV:=.s (.d (LU l))
structure Fact where
 kind:Int
 seq:Int
 a8:Int
 month:Int
 number:Int
 aT:Int
 over:Int
 Jb:Int
 target:Int
 aN:ta
 dN:ta
 eS:ta
 levels:List Int
 deriving Inhabited
def J0(p:Fact):Nat->DV
 |0=>dI p.kind
 |1=>dI p.seq
 |2=>dI p.a8
 |3=>dI p.month
 |4=>dI p.number
 |5=>dI p.aT
 |6=>dI p.over
 |7=>dI p.Jb
 |8=>dI p.target
 |9=>dS p.aN
 |10=>dS p.dN
 |11=>dS p.eS
 |12=>b5 p.levels
 |_=>.bL
abbrev pX(p:Fact):AV:=.g [.d (dI p.kind),.d (dI p.seq),.d (dI p.a8),.d (dI p.month),.d (dI p.number),.d (dI p.aT),.d (dI p.over),.d (dI p.Jb),.d (dI p.target),.d (dS p.aN),.d (dS p.dN),.d (dS p.eS),.d (b5 p.levels)]
def nE(l:List Fact):Nat->Nat->DV:=λi=>J0 (l.getD i default)
def RN(l:List Fact):DV:=.fU l.length 13 (nE l)
abbrev cJ(l:List Fact):AV:=.s (.d (RN l))
structure Oa where
 month:Int
 cell:Int
 aN:ta
 iZ:Int
 gV:Int
 load:Int
 dN:ta
 deriving Inhabited
def Av(p:Oa):Nat->DV
 |0=>dI p.month
 |1=>dI p.cell
 |2=>dS p.aN
 |3=>dI p.iZ
 |4=>dI p.gV
 |5=>dI p.load
 |6=>dS p.dN
 |_=>.bL
abbrev Fl(p:Oa):AV:=.g [.d (dI p.month),.d (dI p.cell),.d (dS p.aN),.d (dI p.iZ),.d (dI p.gV),.d (dI p.load),.d (dS p.dN)]
def eJ(l:List Oa):Nat->Nat->DV:=λi=>Av (l.getD i default)
def WR(l:List Oa):DV:=.fU l.length 7 (eJ l)
abbrev iD(l:List Oa):AV:=.s (.d (WR l))
structure Wf where
 aN:ta
 iZ:Int
 GZ:Int
 I3:Int
 deriving Inhabited
def aM9(p:Wf):Nat->DV
 |0=>dS p.aN
 |1=>dI p.iZ
 |2=>dI p.GZ
 |3=>dI p.I3
 |_=>.bL
def E5(l:List Wf):Nat->Nat->DV:=λi=>aM9 (l.getD i default)
def x0(l:List Wf):DV:=.fU l.length 4 (E5 l)
abbrev aGR(l:List Wf):AV:=.s (.d (x0 l))
structure OK where
 eS:ta
 I3:Int
 deriving Inhabited
def aO2(p:OK):Nat->DV
 |0=>dS p.eS
 |1=>dI p.I3
 |_=>.bL
def Qm(l:List OK):Nat->Nat->DV:=λi=>aO2 (l.getD i default)
def xZ(l:List OK):DV:=.fU l.length 2 (Qm l)
abbrev U8(l:List OK):AV:=.s (.d (xZ l))
structure Part where
 aN:ta
 cb:Int
 bot:Int
 deriving Inhabited
def XY(p:Part):Nat->DV
 |0=>dS p.aN
 |1=>dI p.cb
 |2=>dI p.bot
 |_=>.bL
def vR(l:List Part):Nat->Nat->DV:=λi=>XY (l.getD i default)
def RM(l:List Part):DV:=.fU l.length 3 (vR l)
abbrev iC(l:List Part):AV:=.s (.d (RM l))
structure Ground where
 bK:List lI
 cC:List fS
 deriving Inhabited
abbrev T7(g:Ground):AV:=.g [.d (kV g.bK),.d (pN g.cC)]
structure lf where
 number:Int
 aT:Int
 over:Int
 aN:ta
 Jb:Int
 deriving Inhabited
abbrev tp(b:lf):AV:=.g [.d (dI b.number),.d (dI b.aT),.d (dI b.over),.d (dS b.aN),.d (dI b.Jb)]
structure gK where
 aQ:List uF
 bA:List nM
 bH:List OQ
 carry:List Int
 deriving Inhabited
abbrev tD(y:gK):AV:=.g [.d (q7 y.aQ),.d (oY y.bA),.d (LU y.bH),.d (b5 y.carry)]
structure Proj where
 name:ta
 aT:eZ
 chan:kE
 gr:Ground
 agree:Int
 fG:Int
 cO:List pQ
 cU:List zF
 aQ:List uF
 bA:List nM
 deriving Inhabited
abbrev oR(p:Proj):AV:=.g [.d (dS p.name),.d (dI p.aT.x),.d (dI p.aT.y),.d (dI p.aT.side),.d (dI p.aT.dO),.d (dI p.aT.rows),.d (b5 p.aT.levels),.d (dS p.chan.name),.d (x3 p.chan.aZ),.d (dI p.chan.over),.d (dI p.chan.buffer),.d (zM p.chan.Ya),.d (kV p.gr.bK),.d (pN p.gr.cC),.d (dI p.agree),.d (dI p.fG),.d (CG p.cO),.d (RL p.cU),.d (q7 p.aQ),.d (oY p.bA)]
structure Stmt where
 month:Int
 over:Int
 fG:Int
 total:Int
 Y4:List Wf
 mq:List OK
 wq:List Int
 deriving Inhabited
end Go.Pj
namespace Go.Pj
open Go Go.Ax Go.Ch Go.Proofs Go.Proofs.Tryz
def K9(l:List lI)(hl:l.length<=9223372036854775807)(f k:Nat)(c:Nat->DV)(p:lI->Bool)(hp:∀x∈l,aF prog f (w4 x::jF c k 0) (vB (p x))):
  aF prog 237 [jQ l,.s (.d (.dZ f k c))] (vI (cL p l 0)):=by
 refine eP func237 rfl rfl call237 rfl rfl λR J=>?_
 refine Hb (λi:Nat=>⟨[(0,jQ l),(1,.s (.d (.dZ f k c))),(7,vI l.length),(8,vI i),(4,vI 0)],[]⟩) (λi=>i<=l.length/\cL p l 0=cL p (l.drop i) i) (λi=>l.length-i) 0 ⟨Nat.zero_le _,rfl⟩ ?_ ?_
 ·exact vd
 ·rintro i ⟨hi,he⟩;apply eX J;apply aI<;>intro h
  ·have h:(i:Int)<l.length:=bG h;have bC:i<l.length:=O;have hd:l.drop i=l[i]::l.drop (i+1):=Ve bC;have hg:l.getD i default=l[i]:=aX bC;refine oi Ha (aB ((hp (l.getD i default) Bm).conv (args':=_) ⟨⟨Ja _,Ja _,Ja _,Ja _,Ja _,oO⟩,bj⟩) ?_);exact zc
  exact zk
def CH(l:List lI)(hl:l.length<=9223372036854775807)(f k:Nat)(c:Nat->DV)(p:lI->Bool)(hp:∀x∈l,aF prog f (w4 x::jF c k 0) (vB (p x))):
  aF prog 183 [jQ l,.s (.d (.dZ f k c))] (vB (l.any p)):=by
 refine eP func183 rfl rfl call183 rfl rfl λR J=>?_
 refine aB (K9 l hl f k c p hp) ?_
 exact Ia (Na vB (kI p l 0))
def QL(l:List fS)(hl:l.length<=9223372036854775807)(f k:Nat)(c:Nat->DV)(p:fS->Bool)(hp:∀x∈l,aF prog f (UT x::jF c k 0) (vB (p x))):
  aF prog 314 [GB l,.s (.d (.dZ f k c))] (vI (cL p l 0)):=by
 refine eP func314 rfl rfl call314 rfl rfl λR J=>?_
 refine Hb (λi:Nat=>⟨[(0,GB l),(1,.s (.d (.dZ f k c))),(7,vI l.length),(8,vI i),(4,vI 0)],[]⟩) (λi=>i<=l.length/\cL p l 0=cL p (l.drop i) i) (λi=>l.length-i) 0 ⟨Nat.zero_le _,rfl⟩ ?_ ?_
 ·exact vd
 ·rintro i ⟨hi,he⟩;apply eX J;apply aI<;>intro h
  ·have h:(i:Int)<l.length:=bG h;have bC:i<l.length:=O;have hd:l.drop i=l[i]::l.drop (i+1):=Ve bC;have hg:l.getD i default=l[i]:=aX bC;refine oi Ha (aB ((hp (l.getD i default) Bm).conv (args':=_) ⟨⟨Ja _,Ja _,Ja _,Ja _,oO⟩,bj⟩) ?_);exact zc
  exact zk
def IN(l:List fS)(hl:l.length<=9223372036854775807)(f k:Nat)(c:Nat->DV)(p:fS->Bool)(hp:∀x∈l,aF prog f (UT x::jF c k 0) (vB (p x))):
  aF prog 234 [GB l,.s (.d (.dZ f k c))] (vB (l.any p)):=by
 refine eP func234 rfl rfl call234 rfl rfl λR J=>?_
 refine aB (QL l hl f k c p hp) ?_
 exact Ia (Na vB (kI p l 0))
def TL(l:List pQ)(hl:l.length<=9223372036854775807)(f k:Nat)(c:Nat->DV)(p:pQ->Bool)(hp:∀x∈l,aF prog f (Xo x::jF c k 0) (vB (p x))):
  aF prog 238 [OT l,.s (.d (.dZ f k c))] (vI (cL p l 0)):=by
 refine eP func238 rfl rfl call238 rfl rfl λR J=>?_
 refine Hb (λi:Nat=>⟨[(0,OT l),(1,.s (.d (.dZ f k c))),(7,vI l.length),(8,vI i),(4,vI 0)],[]⟩) (λi=>i<=l.length/\cL p l 0=cL p (l.drop i) i) (λi=>l.length-i) 0 ⟨Nat.zero_le _,rfl⟩ ?_ ?_
 ·exact vd
 ·exact ua
def J5(l:List pQ)(hl:l.length<=9223372036854775807)(f k:Nat)(c:Nat->DV)(p:pQ->Bool)(hp:∀x∈l,aF prog f (Xo x::jF c k 0) (vB (p x))):
  aF prog 185 [OT l,.s (.d (.dZ f k c))] (vB (l.any p)):=by
 refine eP func185 rfl rfl call185 rfl rfl λR J=>?_
 refine aB (TL l hl f k c p hp) ?_
 exact Ia (Na vB (kI p l 0))
def YE(l:List zF)(hl:l.length<=9223372036854775807)(f k:Nat)(c:Nat->DV)(p:zF->Bool)(hp:∀x∈l,aF prog f (Ro x::jF c k 0) (vB (p x))):
  aF prog 239 [U7 l,.s (.d (.dZ f k c))] (vI (cL p l 0)):=by
 refine eP func239 rfl rfl call239 rfl rfl λR J=>?_
 refine Hb (λi:Nat=>⟨[(0,U7 l),(1,.s (.d (.dZ f k c))),(7,vI l.length),(8,vI i),(4,vI 0)],[]⟩) (λi=>i<=l.length/\cL p l 0=cL p (l.drop i) i) (λi=>l.length-i) 0 ⟨Nat.zero_le _,rfl⟩ ?_ ?_
 ·exact vd
 ·exact zd
def N3(l:List zF)(hl:l.length<=9223372036854775807)(f k:Nat)(c:Nat->DV)(p:zF->Bool)(hp:∀x∈l,aF prog f (Ro x::jF c k 0) (vB (p x))):
  aF prog 187 [U7 l,.s (.d (.dZ f k c))] (vB (l.any p)):=by
 refine eP func187 rfl rfl call187 rfl rfl λR J=>?_
 refine aB (YE l hl f k c p hp) ?_
 exact Ia (Na vB (kI p l 0))
def aB2(l:List uF)(hl:l.length<=9223372036854775807)(f k:Nat)(c:Nat->DV)(p:uF->Bool)(hp:∀x∈l,aF prog f (G1 x::jF c k 0) (vB (p x))):
  aF prog 288 [vQ l,.s (.d (.dZ f k c))] (vI (cL p l 0)):=by
 refine eP func288 rfl rfl call288 rfl rfl λR J=>?_
 refine Hb (λi:Nat=>⟨[(0,vQ l),(1,.s (.d (.dZ f k c))),(7,vI l.length),(8,vI i),(4,vI 0)],[]⟩) (λi=>i<=l.length/\cL p l 0=cL p (l.drop i) i) (λi=>l.length-i) 0 ⟨Nat.zero_le _,rfl⟩ ?_ ?_
 ·exact vd
 ·rintro i ⟨hi,he⟩;apply eX J;apply aI<;>intro h
  ·have h:(i:Int)<l.length:=bG h;have bC:i<l.length:=O;have hd:l.drop i=l[i]::l.drop (i+1):=Ve bC;have hg:l.getD i default=l[i]:=aX bC;refine oi Ha (aB ((hp (l.getD i default) Bm).conv (args':=_) ⟨⟨Ja _,Ja _,Ja _,Ja _,Ja _,Ja _,oO⟩,bj⟩) ?_);exact zc
  exact zk
def YG(l:List nM)(hl:l.length<=9223372036854775807)(f k:Nat)(c:Nat->DV)(p:nM->Bool)(hp:∀x∈l,aF prog f (dq x::jF c k 0) (vB (p x))):
  aF prog 333 [A0 l,.s (.d (.dZ f k c))] (vI (cL p l 0)):=by
 refine eP func333 rfl rfl call333 rfl rfl λR J=>?_
 refine Hb (λi:Nat=>⟨[(0,A0 l),(1,.s (.d (.dZ f k c))),(7,vI l.length),(8,vI i),(4,vI 0)],[]⟩) (λi=>i<=l.length/\cL p l 0=cL p (l.drop i) i) (λi=>l.length-i) 0 ⟨Nat.zero_le _,rfl⟩ ?_ ?_
 ·exact vd
 ·exact zd
def aB3(l:List OQ)(hl:l.length<=9223372036854775807)(f k:Nat)(c:Nat->DV)(p:OQ->Bool)(hp:∀x∈l,aF prog f (Fq x::jF c k 0) (vB (p x))):
  aF prog 332 [wU l,.s (.d (.dZ f k c))] (vI (cL p l 0)):=by
 refine eP func332 rfl rfl call332 rfl rfl λR J=>?_
 refine Hb (λi:Nat=>⟨[(0,wU l),(1,.s (.d (.dZ f k c))),(7,vI l.length),(8,vI i),(4,vI 0)],[]⟩) (λi=>i<=l.length/\cL p l 0=cL p (l.drop i) i) (λi=>l.length-i) 0 ⟨Nat.zero_le _,rfl⟩ ?_ ?_
 ·exact vd
 ·exact zd
def RT(l:List OQ)(hl:l.length<=9223372036854775807)(f k:Nat)(c:Nat->DV)(p:OQ->Bool)(hp:∀x∈l,aF prog f (Fq x::jF c k 0) (vB (p x))):
  aF prog 290 [wU l,.s (.d (.dZ f k c))] (vB (l.any p)):=by
 refine eP func290 rfl rfl call290 rfl rfl λR J=>?_
 refine aB (aB3 l hl f k c p hp) ?_
 exact Ia (Na vB (kI p l 0))
def YF(l:List Fact)(hl:l.length<=9223372036854775807)(f k:Nat)(c:Nat->DV)(p:Fact->Bool)(hp:∀x∈l,aF prog f (pX x::jF c k 0) (vB (p x))):
  aF prog 79 [cJ l,.s (.d (.dZ f k c))] (vI (cL p l 0)):=by
 refine eP func79 rfl rfl call79 rfl rfl λR J=>?_
 refine Hb (λi:Nat=>⟨[(0,cJ l),(1,.s (.d (.dZ f k c))),(7,vI l.length),(8,vI i),(4,vI 0)],[]⟩) (λi=>i<=l.length/\cL p l 0=cL p (l.drop i) i) (λi=>l.length-i) 0 ⟨Nat.zero_le _,rfl⟩ ?_ ?_
 ·exact vd
 ·rintro i ⟨hi,he⟩;apply eX J;apply aI<;>intro h
  ·have h:(i:Int)<l.length:=bG h;have bC:i<l.length:=O;have hd:l.drop i=l[i]::l.drop (i+1):=Ve bC;have hg:l.getD i default=l[i]:=aX bC;refine oi Ha (aB ((hp (l.getD i default) Bm).conv (args':=_) ⟨⟨Ja _,Ja _,Ja _,Ja _,Ja _,Ja _,Ja _,Ja _,Ja _,Ja _,Ja _,Ja _,Ja _,oO⟩,bj⟩) ?_);exact zc
  exact zk
def X1(n lo hi:Int)(f g:Nat->DV)(hf:f 0=dI lo)(hg:g 0=dI hi):aF prog 68 [vI n,.s (.d (.rp 1 f)),.s (.d (.rp 1 g))] (vB (!within n lo hi)):=by
 have h1:sV [vI n,.s (.d (.rp 1 f)),.s (.d (.rp 1 g))] [vI n,.s (.d (.rp 1 λ_=>dI lo)),.s (.d (.rp 1 λ_=>dI hi))]:=
  ⟨Ja _,Zc λj hj=>Wa Yk,Zc λj hj=>Wa Wo,oO⟩
 refine Ze ?_ h1;exact eP func68 rfl rfl call68 rfl rfl λR _=>ja
def aBJ(lo hi:Int)(l:List Int)(hl:l.length<=9223372036854775807):aF prog 34 [vI lo,vI hi,iR l] (vB (!JQ lo hi l)):=by exact eP func34 rfl rfl call34 rfl rfl λR _=>aB (tZ l hl 68 2 _ (λn=> !within n lo hi) (λx _=>X1 x lo hi _ _ rfl rfl)) (db _)
def aOV{a:Int}{f:Nat->Nat->DV}(h0:f 0 0=dI a):aK (.fU 1 1 f) (b5 [a]):=zb7
def lV(lo hi a:Int){f:Nat->Nat->DV}(h0:f 0 0=dI a):aF prog 34 [vI lo,vI hi,.s (.d (.fU 1 1 f))] (vB (within a lo hi)):=by
 have h:=(aBJ lo hi [a] sM).conv (args':=[vI lo,vI hi,.s (.d (.fU 1 1 f))]) ⟨Ja _,Ja _,aOV h0,oO⟩
 rwa [show(!JQ lo hi [a])=within a lo hi by simp[JQ]]at h
def uU(s:ta):isName s=(within s.size 1 12&& !fT s s.size 0):=by rw[isName];congr 1;rw[Ff];simp[within]
def BJ(s:ta)(hl:s.size<=9223372036854775807):aF prog 85 [vS s] (vB (isName s)):=by
 refine eP func85 rfl rfl call85 rfl rfl λR J=>?_
 refine aB (lV 1 12 s.size rfl) ?_
 apply aI<;>intro h
 ·have h:within s.size 1 12=false:=by simpa using h
  exact wc (by rw[uU,h];rfl)
 have h:within s.size 1 12=true:=by simpa using h
 refine Hb (λi:Nat=>⟨[(12,.s (.d (.fU s.size 1 (aDJ s)))),(13,vI s.size),(14,vI i),(2,.s (.d (.lit false)))],[]⟩) (λi=>i<=s.size/\fT s s.size 0=fT s (s.size-i) i) (λi=>s.size-i) 0 ⟨Nat.zero_le _,rfl⟩ ?_ ?_
 ·exact jj
 ·rintro i ⟨hi,hj⟩
  apply eX J
  apply aI<;>intro h5
  ·have h5:(i:Int)<s.size:=bG h5
   rw[show s.size-i=(s.size-(i+1))+1 by omega,fT]at hj
   apply oi Ha
   repeat refine aR ?_
   apply aI<;>intro h6
   ·have h6:wN i (u8 s i)=true:=(yU i (u8 s i)).symm.trans h6
    exact wc (by rw[uU,h,hj,h6];rfl)
   ·have h6:wN i (u8 s i)=false:=(yU i (u8 s i)).symm.trans h6
    refine⟨i+1,⟨O,by rw[hj,h6];rfl⟩,O,?_⟩
    refine Zb J trivial ⟨rQ,rQ,⟨rfl,?_⟩,rQ,oO⟩
    exact Na vI (aG O O)
  ·have h5:¬(i:Int)<s.size:=bF h5
   have bC:i=s.size:=O
   exact wc (by rw[uU,h,hj,bC,Td];rfl)
def uL(n lo hi:Int):aF prog 211 [vI n,vI lo,vI hi] (vB (within n lo hi)):=by exact eP func211 rfl rfl call211 rfl rfl λR _=>jo
def kD(n lo hi:Int):aF prog 246 [vI n,vI lo,vI hi] (vB (within n lo hi)):=by exact eP func246 rfl rfl call246 rfl rfl λR _=>jo
def VC(s:ta)(hl:s.size<=9223372036854775807):aF prog 233 [vS s] (vB (isName s)):=by
 refine eP func233 rfl rfl call233 rfl rfl λR J=>?_
 repeat refine aR ?_
 apply aI<;>intro h
 ·exact wc (by rw[isName,h];rfl)
 refine Hb (λi:Nat=>⟨[(0,vS s),(15,vI s.size),(16,vI i),(2,.s (.d (.lit false)))],[]⟩) (λi=>i<=s.size/\fT s s.size 0=fT s (s.size-i) i) (λi=>s.size-i) 0 ⟨Nat.zero_le _,rfl⟩ ?_ ?_
 ·exact jj
 ·rintro i ⟨hi,hj⟩
  apply eX J
  apply aI<;>intro h5
  ·have h5:(i:Int)<s.size:=bG h5
   rw[show s.size-i=(s.size-(i+1))+1 by omega,fT]at hj
   apply oi Ha
   repeat refine aR ?_
   apply aI<;>intro h6
   ·have h6:wN i (u8 s i)=true:=(yU i (u8 s i)).symm.trans h6
    exact wc (by rw[isName,h,hj,h6];rfl)
   ·have h6:wN i (u8 s i)=false:=(yU i (u8 s i)).symm.trans h6
    refine⟨i+1,⟨O,by rw[hj,h6];rfl⟩,O,?_⟩
    refine Zb J trivial ⟨rQ,rQ,⟨rfl,?_⟩,rQ,oO⟩
    exact Na vI (aG O O)
  exact zbm
def WK(c:Int):aF prog 347 [.s (.d (.val (.int .u8 c)))] (vB (Og c)):=by exact eP func347 rfl rfl call347 rfl rfl λR _=>Gm
def ZN(c:Int):Bool:= !Og c&&c !=45&& !within c 48 57
def CN(s:ta):Nat->Nat->Bool
 |0,_=>false
 |n+1,i=>ZN (u8 s i)||CN s n (i+1)
def aGL(c:Int)(i:Nat)(h:i≠0):wN i c=ZN c:=by rw[wN,ZN,Ff];simp[within,h];exact⟨λ⟨a,b,c⟩=>⟨⟨a,c⟩,b⟩,λ⟨⟨a,c⟩,b⟩=>⟨a,b,c⟩⟩
def R7(s:ta):∀n i,i≠0->fT s n i=CN s n i
 |0,_,_=>rfl
 |n+1,i,h=>by rw[fT,CN,aGL _ i h,R7 s n (i+1) O]
def L3(s:ta)(h:0<s.size):fT s s.size 0=(!Og (u8 s 0)||CN s s.size 0):=by
 obtain⟨n,hn⟩:∃n,s.size=n+1:=⟨s.size-1,O⟩;rw[hn,fT,CN,R7 s n 1 O];have:wN ((0:Nat):Int) (u8 s 0)= !Og (u8 s 0):=by simp[wN]
 rw[this,ZN]
 cases Og (u8 s 0) <;> simp
def aHH(s:ta)(hl:s.size<=9223372036854775807):aF prog 316 [vS s] (vB (isName s)):=by
 refine eP func316 rfl rfl call316 rfl rfl λR J=>?_
 repeat refine aR ?_
 refine og (λhb=>⟨O,?_⟩) ?_
 ·have:decide ((s.size:Int)<1)=false:=by simp[rL]at hb;simpa using hb.1
  have:=bF this;omega
 repeat refine aR ?_
 refine bR (WK _) ?_
 repeat refine aR ?_
 have z:((0:Int)).toNat=0:=rfl
 apply aI<;>intro h
 ·apply wc
  cases h1:(decide ((s.size:Int)<1)||decide ((s.size:Int)>12))with
  |true=>rw[isName,h1];rfl
  |false=>
   rw[h1]at h
   simp only[Ed,Qd]at h1
   have h2:Og (u8 s 0)=false:=by simpa[u8]using h
   rw[isName,L3 s O,h2];simp
 have h1:(decide ((s.size:Int)<1)||decide ((s.size:Int)>12))=false:=by
  cases h1:(decide ((s.size:Int)<1)||decide ((s.size:Int)>12))with
  |false=>rfl
  |true=>rw[h1]at h;simp at h
 have h2:Og (u8 s 0)=true:=by rw[h1]at h;simpa[u8]using h
 have hs:0<s.size:=by simp only[Ed,Qd]at h1;omega
 have hN:isName s= !CN s s.size 0:=by rw[isName,L3 s hs,h2,h1];rfl
 refine Hb (λi:Nat=>⟨[(0,vS s),(20,vI s.size),(21,vI i),(2,.s (.d (.lit false)))],[]⟩) (λi=>i<=s.size/\CN s s.size 0=CN s (s.size-i) i) (λi=>s.size-i) 0 ⟨Nat.zero_le _,rfl⟩ ?_ ?_
 ·exact jj
 ·rintro i ⟨hi,hj⟩
  apply eX J
  apply aI<;>intro h5
  ·have h5:(i:Int)<s.size:=bG h5
   rw[show s.size-i=(s.size-(i+1))+1 by omega,CN]at hj
   apply oi Ha
   refine aB (WK _) ?_
   repeat refine aR ?_
   refine bR (kD _ _ _) ?_
   repeat refine aR ?_
   have hw:IntKind.i64.wrap (u8 s i)=u8 s i:=by
    have:u8 s i<256:=by have:=(s[i]!).toNat_lt;unfold u8;omega
    have:0<=u8 s i:=by unfold u8;omega
    exact aG O O
   apply aI<;>intro h6
   ·have h6:ZN (u8 s i)=true:=by
     have h6:(!Og (u8 s i)&&u8 s i !=45&& !within (IntKind.i64.wrap (u8 s i)) 48 57)=true:=h6
     rw[hw]at h6;exact h6
    exact wc (by rw[hN,hj,h6];rfl)
   ·have h6:ZN (u8 s i)=false:=by
     have h6:(!Og (u8 s i)&&u8 s i !=45&& !within (IntKind.i64.wrap (u8 s i)) 48 57)=false:=h6
     rw[hw]at h6;exact h6
    exact vn
  ·have h5:¬(i:Int)<s.size:=bF h5
   have bC:i=s.size:=O
   exact wc (by rw[hN,hj,bC,Td];rfl)
abbrev qH(p:Proj):List SV:=[.d (dS p.name),.d (dI p.aT.x),.d (dI p.aT.y),.d (dI p.aT.side),.d (dI p.aT.dO),.d (dI p.aT.rows),.d (b5 p.aT.levels),.d (dS p.chan.name),.d (x3 p.chan.aZ),.d (dI p.chan.over),.d (dI p.chan.buffer),.d (zM p.chan.Ya),.d (kV p.gr.bK),.d (pN p.gr.cC),.d (dI p.agree),.d (dI p.fG),.d (CG p.cO),.d (RL p.cU),.d (q7 p.aQ),.d (oY p.bA)]
def o8(l:List lI)(s:ta):Int:=cL (λx=>bE x.name s) l 0
def PG(l:List zP)(s:ta):Int:=cL (λr=>bE r.name s&&r.kind==0) l 0
def aO(f:Nat->Int):Nat->Nat->Int
 |0,_=>0
 |n+1,i=>bif f i !=0 then f i else aO f n (i+1)
def sH(p:Proj)(i:Nat):Int:=
 bif !(p.gr.bK.any λs=>bE s.name (p.cO.getD i default).aN)then 6
 else bif (p.cO.take i).any (λy=>bE y.aN (p.cO.getD i default).aN)then 5
 else bif !within (p.cO.getD i default).vY 0 1000000 then 2 else 0
def rW(p:Proj):Int:=bif decide ((p.cO.length:Int)>20)then 8 else aO (sH p) p.cO.length 0
def qG(p:Proj)(i:Nat):Int:=
 bif decide (PG p.chan.Ya (p.cU.getD i default).name<0)then 6
 else bif (p.cU.take i).any (λy=>bE y.name (p.cU.getD i default).name)then 5
 else bif !within (p.cU.getD i default).due 1 24|| !within (p.cU.getD i default).Cf 0 1000000000 then 2 else 0
def rR(p:Proj):Int:=bif decide ((p.cU.length:Int)>20)then 8 else aO (qG p) p.cU.length 0
def nN(p:Proj):Int:=bif rW p !=0 then rW p else rR p
def R0(a b:DV):Nat->DV
 |0=>a
 |1=>b
 |_=>.bL
def aIH(q:lI)(s:ta)(f:Nat->DV)(hf:f 0=dS s):aF prog 184 [w4 q,.s (.d (.rp 2 f))] (vB (bE q.name s)):=by
 refine Ze (args:=[w4 q,.s (.d (.rp 2 (UO s)))]) ?_ ⟨⟨Ja _,Ja _,Ja _,Ja _,Ja _,oO⟩,Zc λj hj=>?_,oO⟩
 ·exact eP func184 rfl rfl call184 rfl rfl λR _=>db _
 exact vp
def aIG(q:pQ)(s:ta)(f:Nat->DV)(hf:f 0=dS s):aF prog 186 [Xo q,.s (.d (.rp 2 f))] (vB (bE q.aN s)):=by
 refine Ze (args:=[Xo q,.s (.d (.rp 2 (UO s)))]) ?_ ⟨⟨Ja _,Ja _,oO⟩,Zc λj hj=>?_,oO⟩
 ·exact eP func186 rfl rfl call186 rfl rfl λR _=>db _
 exact vp
def aKT(q:zF)(s:ta)(f:Nat->DV)(hf:f 0=dS s):aF prog 188 [Ro q,.s (.d (.rp 3 f))] (vB (bE q.name s)):=by
 refine Ze (args:=[Ro q,.s (.d (.rp 3 (UO s)))]) ?_ ⟨⟨Ja _,Ja _,Ja _,oO⟩,Zc λj hj=>?_,oO⟩
 ·exact eP func188 rfl rfl call188 rfl rfl λR _=>db _
 exact vp
def aES(q:zP)(s:ta)(f:Nat->DV)(hf:f 0=dS s):aF prog 154 [dj q,.s (.d (.rp 1 f))] (vB (bE q.name s&&q.kind==0)):=by
 refine Ze (args:=[dj q,.s (.d (.rp 1 (UO s)))]) ?_ ⟨⟨Ja _,Ja _,Ja _,oO⟩,Zc λj hj=>?_,oO⟩
 ·refine eP func154 rfl rfl call154 rfl rfl λR _=>?_
  repeat first|apply sk|apply st|apply sg|apply sh
  exact db _
 exact vp
def aA5(c:kE)(s:ta)(hl:c.Ya.length<=9223372036854775807):aF prog 82 [chan c,vS s] (vI (PG c.Ya s)):=by exact eP func82 rfl rfl call82 rfl rfl λR J=>aB (HP c.Ya hl 154 1 _ (λq=>bE q.name s&&q.kind==0) (λq _=>aES q s _ rfl)) (db _)
def oA{α:Type} [Inhabited α] {s:Nat}{el:α->Nat->DV}(l:List α)(i:Nat)(hi:i<=l.length):
  aK (.fU i s (λk=>el (l.getD k default))) (.fU (l.take i).length s (λk=>el ((l.take i).getD k default))):=by
 refine Qe re λk j hk hj=>Wa ?_
 rw[fc,fc,Ni hk]
def aNL{f m:Nat}{c g h:Nat->DV}(hc:c 0=.rp m h)(hg:∀j,j<m->aK (h j) (g j)):aK (.dZ f 1 c) (.dZ f 1 λ_=>.rp m g):=by
 refine sf λj hj=>?_
 have:j=0:=O;subst this;rw[hc];exact Zc hg
def RW(p:Proj)(hs:p.gr.bK.length<=9223372036854775807)(hp:p.cO.length<=9223372036854775807):aF prog 120 [oR p] (vI (rW p)):=by
 refine eP func120 rfl rfl call120 rfl rfl λR J=>aI (λh0=>?_) (λh0=>?_)
 ·exact Ia (by unfold rW;rw[h0];rfl)
 have hE:rW p=aO (sH p) p.cO.length 0:=by unfold rW;rw[h0];rfl
 refine Hb (λi:Nat=>⟨[(1,.s (.ptr 1 0)),(10,OT p.cO),(11,vI p.cO.length),(12,vI i),(2,vI 0)],[(1,some (.cells (qH p)))]⟩) (λi=>i<=p.cO.length/\rW p=aO (sH p) (p.cO.length-i) i) (λi=>p.cO.length-i) 0 ⟨Nat.zero_le _,hE⟩ ?_ ?_
 ·exact jr
 rintro i ⟨hi,hj⟩;apply eX J;apply aI<;>intro h5
 ·have h5:(i:Int)<p.cO.length:=bG h5;rw[show p.cO.length-i=(p.cO.length-(i+1))+1 by omega,aO]at hj;refine oi Ha (aB (CH p.gr.bK hs 184 1 _ (λq=>bE q.name (p.cO.getD i default).aN) (λq _=>aIH q _ _ rfl)) ?_);apply aI<;>intro h6
  ·have h:sH p i=6:=by unfold sH;rw[h6];rfl
   exact zy
  refine oi ⟨dC,by show(0:Int)<=(i:Int);omega,by show(i:Int)<=(p.cO.length:Int);omega⟩ ?_;refine aB ((J5 (p.cO.take i) re 186 1 (λ_=>.rp 2 (Vt (p.cO.getD i default))) (λq=>bE q.aN (p.cO.getD i default).aN) (λq _=>aIG q _ _ rfl)).conv (args':=_) ⟨oA p.cO i hi,aNL rfl (Fm (Ja _) (Ja _)),oO⟩) (aI (λh7=>?_) (λh7=>?_))
  ·have h:sH p i=5:=by unfold sH;rw[h6,h7];rfl
   exact zy
  refine aB (lV 0 1000000 (p.cO.getD i default).vY rfl) (aI (λh8=>?_) (λh8=>?_))
  ·have h:sH p i=2:=by unfold sH;rw[h6,h7,h8];rfl
   exact zy
  have h:sH p i=0:=by unfold sH;rw[h6,h7,h8];rfl
  exact ul
 have h5:¬(i:Int)<p.cO.length:=bF h5;have bC:i=p.cO.length:=O;exact uf
def J7(p:Proj)(hs:p.chan.Ya.length<=9223372036854775807)(hp:p.cU.length<=9223372036854775807):aF prog 121 [oR p] (vI (rR p)):=by
 refine eP func121 rfl rfl call121 rfl rfl λR J=>?_
 apply aI<;>intro h0
 ·exact Ia (by unfold rR;rw[h0];rfl)
 have hE:rR p=aO (qG p) p.cU.length 0:=by unfold rR;rw[h0];rfl
 refine Hb (λi:Nat=>⟨[(1,.s (.ptr 1 0)),(10,U7 p.cU),(11,vI p.cU.length),(12,vI i),(2,vI 0)],[(1,some (.cells (qH p)))]⟩) (λi=>i<=p.cU.length/\rR p=aO (qG p) (p.cU.length-i) i) (λi=>p.cU.length-i) 0 ⟨Nat.zero_le _,hE⟩ ?_ ?_
 ·exact jr
 ·rintro i ⟨hi,hj⟩
  apply eX J
  apply aI<;>intro h5
  ·have h5:(i:Int)<p.cU.length:=bG h5
   rw[show p.cU.length-i=(p.cU.length-(i+1))+1 by omega,aO]at hj
   apply oi Ha
   refine aB (aA5 p.chan (p.cU.getD i default).name hs) ?_
   apply aI<;>intro h6
   ·exact zcJ
   refine oi ⟨dC,by show(0:Int)<=(i:Int);omega,by show(i:Int)<=(p.cU.length:Int);omega⟩ ?_
   refine aB ((N3 (p.cU.take i) re 188 1 (λ_=>.rp 3 (Rs (p.cU.getD i default))) (λq=>bE q.name (p.cU.getD i default).name) (λq _=>aKT q _ _ rfl)).conv (args':=_) ⟨oA p.cU i hi,aNL rfl (Em (Ja _) (Ja _) (Ja _)),oO⟩) ?_
   apply aI<;>intro h7
   ·exact zcz
   refine aB (lV 1 24 (p.cU.getD i default).due rfl) ?_
   repeat refine aR ?_
   apply aI<;>intro h8
   ·refine ob (by rw[h8];rfl) ?_
    refine aB (lV 0 1000000000 (p.cU.getD i default).Cf rfl) ?_
    repeat refine aR ?_
    apply aI<;>intro h9
    ·have h9:(!within (p.cU.getD i default).Cf 0 1000000000)=true:=h9
     have h:qG p i=2:=by unfold qG;rw[h6,h7,h8,h9];rfl
     exact Ia (by rw[hj,h];rfl)
    ·have h9:(!within (p.cU.getD i default).Cf 0 1000000000)=false:=h9
     have h:qG p i=0:=by unfold qG;rw[h6,h7,h8,h9];rfl
     exact ul
   ·have h8:(!within (p.cU.getD i default).due 1 24)=true:=h8
    exact zcr
  exact zbh
def ML(l:List lI)(s:ta)(hl:l.length<=9223372036854775807):aF prog 107 [jQ l,vS s] (vI (o8 l s)):=by
 refine eP func107 rfl rfl call107 rfl rfl λR J=>Hb (λi:Nat=>⟨[(0,jQ l),(1,vS s),(5,vI i),(4,vI 0)],[]⟩) (λi=>i<=l.length/\o8 l s=cL (λx=>bE x.name s) (l.drop i) i) (λi=>l.length-i) 0 ⟨Nat.zero_le _,rfl⟩ ?_ ?_
 ·refine Zb J trivial Ga
 rintro i ⟨hi,he⟩;apply eX J;apply aI<;>intro h
 ·have h:(i:Int)<l.length:=bG h;have bC:i<l.length:=O;have hd:l.drop i=l[i]::l.drop (i+1):=Ve bC;have hg:l.getD i default=l[i]:=aX bC;apply oi Ha;rw[hd,cL,<-hg]at he;apply aI<;>intro h
  ·have h:bE (l.getD i default).name s=true:=h;exact Ia (by rw[he,h];rfl)
  have h:bE (l.getD i default).name s=false:=h;refine⟨i+1,⟨O,by rw[he,h];rfl⟩,O,?_⟩;refine Zb J trivial ⟨rQ,rQ,⟨rfl,?_⟩,rQ,oO⟩;exact Na vI (aG O O)
 have h:¬(i:Int)<l.length:=bF h;have bC:i=l.length:=O;subst bC;exact Ia (by rw[he,Sg];rfl)
def aAU(c:kE)(s:ta)(hl:c.Ya.length<=9223372036854775807):aF prog 108 [chan c,vS s] (vI (PG c.Ya s)):=by
 refine eP func108 rfl rfl call108 rfl rfl λR J=>?_
 refine Hb (λi:Nat=>⟨[(1,vS s),(2,.s (.ptr 2 0)),(5,vI i),(4,vI 0)],[(2,some (.cells [.d (dS c.name),.d (x3 c.aZ),.d (dI c.over),.d (dI c.buffer),.d (zM c.Ya)]))]⟩) (λi=>i<=c.Ya.length/\PG c.Ya s=cL (λr=>bE r.name s&&r.kind==0) (c.Ya.drop i) i) (λi=>c.Ya.length-i) 0 ⟨Nat.zero_le _,rfl⟩ ?_ ?_
 ·exact xn
 ·rintro i ⟨hi,he⟩
  apply eX J
  apply aI<;>intro h
  ·have h:(i:Int)<c.Ya.length:=bG h
   have bC:i<c.Ya.length:=O
   have hd:c.Ya.drop i=c.Ya[i]::c.Ya.drop (i+1):=Ve bC
   have hg:c.Ya.getD i default=c.Ya[i]:=aX bC
   apply oi Ha
   repeat refine aR ?_
   refine og (λ_=>Ha) ?_
   repeat refine aR ?_
   rw[hd,cL,<-hg]at he
   apply aI<;>intro h
   ·have h:(bE (c.Ya.getD i default).name s&&(c.Ya.getD i default).kind==0)=true:=h
    exact Ia (by rw[he,h];rfl)
   ·have h:(bE (c.Ya.getD i default).name s&&(c.Ya.getD i default).kind==0)=false:=h
    refine⟨i+1,⟨O,by rw[he,h];rfl⟩,O,?_⟩
    exact jn
  ·have h:¬(i:Int)<c.Ya.length:=bF h
   have bC:i=c.Ya.length:=O
   exact Ia (by rw[he,bC,Sg];rfl)
def GJ(l:List lI)(s:ta):decide (o8 l s<0)= !(l.any λx=>bE x.name s):=by
 have:=kI (λx:lI=>bE x.name s) l 0;rw[<-this,o8];by_cases h:cL (λx:lI=>bE x.name s) l 0<0
 ·simp[h]
 simp[h];omega
def I2{α:Type} [Inhabited α] (q:α->Bool)(l:List α):∀k,k<=l.length->(∀j,j<k->q (l.getD j default)=false)->(l.take k).any q=false:=by
 intro k hk h;rw[Tg];intro x hx;obtain⟨j,hj,rfl⟩:=Vj hx;have qR:j<k:=by simp at hj;omega
 have:=h j qR;rw[aX O]at this;simpa using this
def sS{α:Type} [Inhabited α] (q:α->Bool)(l:List α){k j:Nat}(hk:k<=l.length)(hj:j<k)(h:q (l.getD j default)=true):(l.take k).any q=true:=by rw[Ll];refine⟨l[j],?_,by rw[aX O]at h;exact h⟩;rw[List.mem_take_iff_getElem];exact⟨j,O,rfl⟩
def PI(p:Proj)(hs:p.gr.bK.length<=9223372036854775807)(hp:p.cO.length<=9223372036854775807)(hr:p.chan.Ya.length<=9223372036854775807)(hc:p.cU.length<=9223372036854775807):aF prog 61 [oR p] (vI (nN p)):=by
 refine eP func61 rfl rfl call61 rfl rfl λR J=>?_
 apply aI<;>intro h0
 ·exact Ia (by unfold nN rW;rw[h0];rfl)
 have hE:rW p=aO (sH p) p.cO.length 0:=by unfold rW;rw[h0];rfl
 refine Hb (λi:Nat=>⟨[(1,.s (.ptr 1 0)),(3,vI i),(2,vI 0)],[(1,some (.cells (qH p)))]⟩) (λi=>i<=p.cO.length/\rW p=aO (sH p) (p.cO.length-i) i) (λi=>p.cO.length-i) 0 ⟨Nat.zero_le _,hE⟩ ?_ ?_
 ·exact vl
 ·rintro i ⟨hi,hj⟩
  apply eX J
  apply aI<;>intro h5
  ·have h5:(i:Int)<p.cO.length:=bG h5
   rw[show p.cO.length-i=(p.cO.length-(i+1))+1 by omega,aO]at hj
   apply oi Ha
   refine aB (ML p.gr.bK (p.cO.getD i default).aN hs) ?_
   refine aD ?_
   apply aI<;>intro h6
   ·have h6:decide (o8 p.gr.bK (p.cO.getD i default).aN<0)=true:=h6
    rw[GJ]at h6
    have h:sH p i=6:=by unfold sH;rw[h6];rfl
    exact fu
   have h6:decide (o8 p.gr.bK (p.cO.getD i default).aN<0)=false:=h6
   rw[GJ]at h6
   refine Hb (λk:Nat=>⟨[(1,.s (.ptr 1 0)),(3,vI i),(4,vI k),(2,vI 0)],[(1,some (.cells (qH p)))]⟩) (λk=>k<=i/\∀j,j<k->bE (p.cO.getD j default).aN (p.cO.getD i default).aN=false) (λk=>i-k) 0 ⟨Nat.zero_le _,λj hj=>absurd hj (cd j)⟩ ?_ ?_
   ·exact xn
   ·rintro k ⟨hk,hq⟩
    apply eX J
    apply aI<;>intro h9
    ·have h9:(k:Int)<i:=bG h9
     apply oi Ha
     apply oi Ha
     refine aD ?_
     apply aI<;>intro h'
     ·have h':bE (p.cO.getD k default).aN (p.cO.getD i default).aN=true:=h'
      have h7:=sS (λy:pQ=>bE y.aN (p.cO.getD i default).aN) p.cO (k:=i) (j:=k) hi O h'
      have h:sH p i=5:=by unfold sH;rw[h6,h7];rfl
      exact fu
     ·have h':bE (p.cO.getD k default).aN (p.cO.getD i default).aN=false:=h'
      exact ku
    ·have h9:¬(k:Int)<i:=bF h9
     have h7:=I2 (λy:pQ=>bE y.aN (p.cO.getD i default).aN) p.cO i hi (λj hj=>hq j O)
     apply oi Ha
     refine aB (cI _ _ _) ?_
     apply aI<;>intro h8
     ·have h8:(!within (p.cO.getD i default).vY 0 1000000)=true:=h8
      have h:sH p i=2:=by unfold sH;rw[h6,h7,h8];rfl
      exact fu
     have h8:(!within (p.cO.getD i default).vY 0 1000000)=false:=h8
     have h:sH p i=0:=by unfold sH;rw[h6,h7,h8];rfl
     exact zx
  ·have h5:¬(i:Int)<p.cO.length:=bF h5
   have bC:i=p.cO.length:=O
   have hp0:rW p=0:=by rw[hj,bC,Td];rfl
   have ht:nN p=rR p:=by unfold nN;rw[hp0];rfl
   rw[ht]
   apply aI<;>intro h0
   ·exact Ia (by unfold rR;rw[h0];rfl)
   have hE:rR p=aO (qG p) p.cU.length 0:=by unfold rR;rw[h0];rfl
   clear hj hi
   refine Hb (λi:Nat=>⟨[(1,.s (.ptr 1 0)),(5,vI i),(2,vI 0)],[(1,some (.cells (qH p)))]⟩) (λi=>i<=p.cU.length/\rR p=aO (qG p) (p.cU.length-i) i) (λi=>p.cU.length-i) 0 ⟨Nat.zero_le _,hE⟩ ?_ ?_
   ·exact vl
   ·rintro i ⟨hi,hj⟩
    apply eX J
    apply aI<;>intro h5
    ·have h5:(i:Int)<p.cU.length:=bG h5
     rw[show p.cU.length-i=(p.cU.length-(i+1))+1 by omega,aO]at hj
     apply oi Ha
     refine aB (aAU p.chan (p.cU.getD i default).name hr) ?_
     apply aI<;>intro h6
     ·exact zcJ
     refine Hb (λk:Nat=>⟨[(1,.s (.ptr 1 0)),(5,vI i),(6,.s (.ptr 6 0)),(7,vI k),(2,vI 0)],[(1,some (.cells (qH p))),(6,some (.cells [.d (dS (p.cU.getD i default).name),.d (dI (p.cU.getD i default).due),.d (dI (p.cU.getD i default).Cf)]))]⟩) (λk=>k<=i/\∀j,j<k->bE (p.cU.getD j default).name (p.cU.getD i default).name=false) (λk=>i-k) 0 ⟨Nat.zero_le _,λj hj=>absurd hj (cd j)⟩ ?_ ?_
     ·refine Zb J Ga Ga
     ·rintro k ⟨hk,hq⟩
      apply eX J
      apply aI<;>intro h9
      ·have h9:(k:Int)<i:=bG h9
       apply oi Ha
       refine aD ?_
       apply aI<;>intro h'
       ·have h':bE (p.cU.getD k default).name (p.cU.getD i default).name=true:=h'
        have h7:=sS (λy:zF=>bE y.name (p.cU.getD i default).name) p.cU (k:=i) (j:=k) hi O h'
        exact zcz
       ·have h':bE (p.cU.getD k default).name (p.cU.getD i default).name=false:=h'
        refine⟨k+1,⟨O,λj qR=>?_⟩,O,?_⟩
        ·by_cases SL:j=k
         ·rw[SL];exact h'
         ·exact hq j O
        refine Zb J Ga ⟨rQ,rQ,rQ,⟨rfl,?_⟩,rQ,oO⟩
        exact zm
      ·have h9:¬(k:Int)<i:=bF h9
       have h7:=I2 (λy:zF=>bE y.name (p.cU.getD i default).name) p.cU i hi (λj hj=>hq j O)
       refine aB (cI _ _ _) ?_
       repeat refine aR ?_
       refine bR (cI _ _ _) ?_
       repeat refine aR ?_
       apply aI<;>intro h8
       ·have h8:(!within (p.cU.getD i default).due 1 24|| !within (p.cU.getD i default).Cf 0 1000000000)=true:=h8
        have h:qG p i=2:=by unfold qG;rw[h6,h7,h8];rfl
        exact Ia (by rw[hj,h];rfl)
       have h8:(!within (p.cU.getD i default).due 1 24|| !within (p.cU.getD i default).Cf 0 1000000000)=false:=h8
       have h:qG p i=0:=by unfold qG;rw[h6,h7,h8];rfl
       exact zx
    exact zbh
def A6(x:lI):Int:=bif !within x.run 1 1000|| !within x.Gp 1 5000|| !within x.num 1 1000|| !within x.den 1 1000||decide (x.num<x.den)then 2 else 0
def wD(l:List lI)(i:Nat):Int:=
 bif !isName (l.getD i default).name then 4 else bif (l.take i).any (λy=>bE y.name (l.getD i default).name)then 5 else A6 (l.getD i default)
def mO(l:List lI):Int:=bif (l.length:Int)==0 then 10 else bif decide ((l.length:Int)>8)then 8 else aO (wD l) l.length 0
def sL(s:List lI)(b:fS)(i:Nat):Int:=
 bif !within (b.bB.getD i default).cb (-20000) 20000 then 2
 else bif decide ((i:Int)>0)&&decide ((b.bB.getD i default).cb>=(b.bB.getD (i-1) default).cb)then 9
 else bif decide (o8 s (b.bB.getD i default).aN<0)then 6 else 0
def vN(s:List lI)(b:fS):Int:=
 bif !fB ⟨b.x,b.y⟩then 2 else bif (b.bB.length:Int)==0 then 10 else bif decide ((b.bB.length:Int)>12)then 8 else aO (sL s b) b.bB.length 0
def uC(s:List lI)(l:List fS)(i:Nat):Int:=
 bif !isName (l.getD i default).name then 4 else bif (l.take i).any (λy=>bE y.name (l.getD i default).name)then 5 else vN s (l.getD i default)
def dX(g:Ground):Int:=
 bif mO g.bK !=0 then mO g.bK else bif (g.cC.length:Int)==0 then 10 else bif decide ((g.cC.length:Int)>20)then 8 else aO (uC g.bK g.cC) g.cC.length 0
def bP{α:Type} [Inhabited α] {l:List α}{i:Nat}(h:i<l.length):l.getD i default∈l:=by rw[aX h];simp
def numbers(x:lI):aF prog 232 [w4 x] (vI (A6 x)):=by
 refine eP func232 rfl rfl call232 rfl rfl λR _=>?_
 refine aB (uL _ _ _) ?_
 repeat refine aR ?_
 refine bR (uL _ _ _) ?_
 repeat refine aR ?_
 refine bR (uL _ _ _) ?_
 repeat refine aR ?_
 refine bR (uL _ _ _) ?_
 exact zav
def aAY(x:lI):aF prog 168 [w4 x] (vI (A6 x)):=by
 refine eP func168 rfl rfl call168 rfl rfl λR _=>?_
 refine aB (cI _ _ _) ?_
 repeat refine aR ?_
 refine bR (cI _ _ _) ?_
 repeat refine aR ?_
 refine bR (cI _ _ _) ?_
 repeat refine aR ?_
 refine bR (cI _ _ _) ?_
 exact zav
def O5(x:lI):aF prog 231 [w4 x] (vS x.name):=by exact eP func231 rfl rfl call231 rfl rfl λR _=>db _
def IZ(x:fS):aF prog 181 [UT x] (vS x.name):=by exact eP func181 rfl rfl call181 rfl rfl λR _=>db _
def aAP(q:lI)(s:ta)(c f g:Nat->DV)(hf:f 0=.dZ 231 0 c)(hg:g 0=dS s):aF prog 313 [w4 q,.s (.d (.rp 1 f)),.s (.d (.rp 1 g))] (vB (bE q.name s)):=by refine Ze (args:=[w4 q,.s (.d (.rp 1 λ_=>.dZ 231 0 c)),.s (.d (.rp 1 λ_=>dS s))]) ?_ ⟨⟨Ja _,Ja _,Ja _,Ja _,Ja _,oO⟩,Zc λj hj=>Wa Yk,Zc λj hj=>Wa Wo,oO⟩;exact eP func313 rfl rfl call313 rfl rfl λR _=>aB (O5 q) nu
def US(q:fS)(s:ta)(c f g:Nat->DV)(hf:f 0=.dZ 181 0 c)(hg:g 0=dS s):aF prog 235 [UT q,.s (.d (.rp 1 f)),.s (.d (.rp 1 g))] (vB (bE q.name s)):=by refine Ze (args:=[UT q,.s (.d (.rp 1 λ_=>.dZ 181 0 c)),.s (.d (.rp 1 λ_=>dS s))]) ?_ ⟨⟨Ja _,Ja _,Ja _,Ja _,oO⟩,Zc λj hj=>Wa Yk,Zc λj hj=>Wa Wo,oO⟩;exact eP func235 rfl rfl call235 rfl rfl λR _=>aB (IZ q) nu
def aNK{f m n:Nat}{c g h g' h':Nat->DV}(hc:c 0=.rp m h)(Q1:c 1=.rp n h')(hg:∀j,j<m->aK (h j) (g j))(hg':∀j,j<n->aK (h' j) (g' j)):aK (.dZ f 2 c) (.dZ f 2 (R0 (.rp m g) (.rp n g'))):=by
 refine sf λj hj=>?_
 match j,hj with
 |0,_=>rw[hc];exact Zc hg
 |1,_=>rw[Q1];exact Zc hg'
def aC2(l:List lI)(c d:Nat->DV)(hl:l.length<=9223372036854775807)(hn:∀x∈l,x.name.size<=9223372036854775807):aF prog 230 [jQ l,.s (.d (.dZ 231 0 c)),.s (.d (.dZ 232 0 d))] (vI (aO (wD l) l.length 0)):=by
 refine eP func230 rfl rfl call230 rfl rfl λR J=>Hb (λi:Nat=>⟨[(0,jQ l),(2,.s (.d (.dZ 232 0 d))),(4,.s (.ptr 4 0)),(11,jQ l),(12,vI l.length),(13,vI i),(6,vI 0)],[(4,some (.cells [.d (.dZ 231 0 c)]))]⟩) (λi=>i<=l.length/\aO (wD l) l.length 0=aO (wD l) (l.length-i) i) (λi=>l.length-i) 0 ⟨Nat.zero_le _,rfl⟩ ?_ ?_
 ·exact kc
 rintro i ⟨hi,hj⟩;apply eX J;apply aI<;>intro h5
 ·have h5:(i:Int)<l.length:=bG h5;rw[show l.length-i=(l.length-(i+1))+1 by omega,aO]at hj;refine oi Ha (aB (O5 (l.getD i default)) ?_);refine aB (VC (l.getD i default).name (hn _ (bP O))) (aI (λh6=>?_) (λh6=>?_))
  ·exact zcK
  refine oi ⟨dC,by show(0:Int)<=(i:Int);omega,by show(i:Int)<=(l.length:Int);omega⟩ ?_;refine aB ((CH (l.take i) re 313 2 (R0 (.rp 1 λ_=>.dZ 231 0 c) (.rp 1 λ_=>dS (l.getD i default).name)) (λq=>bE q.name (l.getD i default).name) (λq _=>aAP q _ c _ _ rfl rfl)).conv (args':=_) ⟨oA l i hi,aNK rfl rfl (AS (Ja _)) (AS (Ja _)),oO⟩) (aI (λh7=>?_) (λh7=>?_))
  ·exact zcA
  refine aB (numbers (l.getD i default)) ?_;have h:wD l i=A6 (l.getD i default):=by unfold wD;rw[h6,h7];rfl
  exact ud
 exact uz
def UM(l:List lI)(hl:l.length<=9223372036854775807)(hn:∀x∈l,x.name.size<=9223372036854775807):aF prog 179 [jQ l] (vI (mO l)):=by
 refine eP func179 rfl rfl call179 rfl rfl λR _=>aI (λh=>?_) (λh=>?_)
 ·exact Ia (by unfold mO;rw[h];rfl)
 apply aI<;>intro h'
 ·exact ou
 exact aB ((aC2 l (λ_=>.bL) (λ_=>.bL) hl hn).conv (args':=_) ⟨Ja _,sf λj hj=>absurd hj (cd j),sf λj hj=>absurd hj (cd j),oO⟩) ou
def aBI(p:Pt):aF prog 146 [pt p] (vB (fB p)):=by
 refine eP func146 rfl rfl call146 rfl rfl λR _=>aB (uL _ _ _) ?_
 repeat refine aR ?_
 exact bR (uL _ _ _) Gm
def O6(n:Int):aF prog 148 [vI n] (vB (within n (-20000) 20000)):=by exact eP func148 rfl rfl call148 rfl rfl λR _=>aB (uL _ _ _) (db _)
def aEK(q:lI)(s:ta)(f:Nat->DV)(hf:f 0=dS s):aF prog 315 [w4 q,.s (.d (.rp 1 f))] (vB (bE q.name s)):=by
 refine Ze (args:=[w4 q,.s (.d (.rp 1 (UO s)))]) ?_ ⟨⟨Ja _,Ja _,Ja _,Ja _,Ja _,oO⟩,Zc λj hj=>?_,oO⟩
 ·exact eP func315 rfl rfl call315 rfl rfl λR _=>db _
 exact vp
def aHT(l:List lI)(s:ta)(hl:l.length<=9223372036854775807):aF prog 236 [jQ l,vS s] (vI (o8 l s)):=by exact eP func236 rfl rfl call236 rfl rfl λR J=>aB (K9 l hl 315 1 _ (λq=>bE q.name s) (λq _=>aEK q s _ rfl)) (db _)
abbrev aNT(b:fS):List SV:=[.d (dS b.name),.d (dI b.x),.d (dI b.y),.d (mN b.bB)]
def ZL(g:Ground)(b:fS)(hs:g.bK.length<=9223372036854775807)(hl:b.bB.length<=9223372036854775807):aF prog 182 [T7 g,UT b] (vI (vN g.bK b)):=by
 refine eP func182 rfl rfl call182 rfl rfl λR J=>aB (aBI ⟨b.x,b.y⟩) (aI (λh1=>?_) (λh1=>?_))
 ·exact Ia (by unfold vN;rw[h1];rfl)
 apply aI<;>intro h2
 ·exact Ia (by unfold vN;rw[h1,h2];rfl)
 apply aI<;>intro h3
 ·exact zeh
 have hE:vN g.bK b=aO (sL g.bK b) b.bB.length 0:=by unfold vN;rw[h1,h2,h3];rfl
 refine Hb (λi:Nat=>⟨[(2,.s (.ptr 2 0)),(3,.s (.ptr 3 0)),(26,AZ b.bB),(27,vI b.bB.length),(28,vI i),(4,vI 0)],[(2,some (.cells [.d (kV g.bK),.d (pN g.cC)])),(3,some (.cells (aNT b)))]⟩) (λi=>i<=b.bB.length/\vN g.bK b=aO (sL g.bK b) (b.bB.length-i) i) (λi=>b.bB.length-i) 0 ⟨Nat.zero_le _,hE⟩ ?_ ?_
 ·exact zdq
 rintro i ⟨hi,hj⟩;apply eX J;apply aI<;>intro h5
 ·have h5:(i:Int)<b.bB.length:=bG h5;rw[show b.bB.length-i=(b.bB.length-(i+1))+1 by omega,aO]at hj;refine oi Ha (aB (O6 _) ?_);apply aI<;>intro h6
  ·have h6:(!within (b.bB.getD i default).cb (-20000) 20000)=true:=h6;have h:sL g.bK b i=2:=by unfold sL;rw[h6];rfl
   exact zy
  have h6:(!within (b.bB.getD i default).cb (-20000) 20000)=false:=h6;repeat refine aR ?_;have fQ:0<i->aW ((i:Int)-1)=((i-1:Nat):Int):=λh=>by rw[aG O O];omega
  refine og (λhb=>?_) ?_
  ·exact zaU
  repeat refine aR ?_
  refine aD ?_;have hk:∀v:Bool,(decide ((i:Int)>0)&&decide ((b.bB.getD i default).cb>=(b.bB.getD (aW ((i:Int)-1)).toNat default).cb))=v->(decide ((i:Int)>0)&&decide ((b.bB.getD i default).cb>=(b.bB.getD (i-1) default).cb))=v:=qi
  apply aI<;>intro h7
  ·have h7:=hk true h7;have h:sL g.bK b i=9:=by unfold sL;rw[h6,h7];rfl
   exact zy
  have h7:=hk false h7;refine aB (aHT g.bK (b.bB.getD i default).aN hs) (aI (λh8=>?_) (λh8=>?_))
  ·have h:sL g.bK b i=6:=by unfold sL;rw[h6,h7,h8];rfl
   exact zy
  have h:sL g.bK b i=0:=by unfold sL;rw[h6,h7,h8];rfl
  exact zal
 exact zbi
abbrev aMQ(g:Ground):DV:=.Xg 182 2 (R0 (kV g.bK) (pN g.cC))
def UG(g:Ground)(l:List fS)(c:Nat->DV)(hs:g.bK.length<=9223372036854775807)(hl:l.length<=9223372036854775807)(hn:∀x∈l,x.name.size<=9223372036854775807)(hy:∀x∈l,x.bB.length<=9223372036854775807):
  aF prog 180 [GB l,.s (.d (.dZ 181 0 c)),.s (.d (aMQ g))] (vI (aO (uC g.bK l) l.length 0)):=by
 refine eP func180 rfl rfl call180 rfl rfl λR J=>?_
 refine Hb (λi:Nat=>⟨[(0,GB l),(2,.s (.d (aMQ g))),(4,.s (.ptr 4 0)),(11,GB l),(12,vI l.length),(13,vI i),(6,vI 0)],[(4,some (.cells [.d (.dZ 181 0 c)]))]⟩) (λi=>i<=l.length/\aO (uC g.bK l) l.length 0=aO (uC g.bK l) (l.length-i) i) (λi=>l.length-i) 0 ⟨Nat.zero_le _,rfl⟩ ?_ ?_
 ·exact kc
 ·rintro i ⟨hi,hj⟩;apply eX J;apply aI<;>intro h5
  ·have h5:(i:Int)<l.length:=bG h5;rw[show l.length-i=(l.length-(i+1))+1 by omega,aO]at hj;refine oi Ha (aB (IZ (l.getD i default)) ?_);refine aB (VC (l.getD i default).name (hn _ (bP O))) (aI (λh6=>?_) (λh6=>?_))
   ·have h:uC g.bK l i=4:=by unfold uC;rw[h6];rfl
    exact zy
   refine oi ⟨dC,by show(0:Int)<=(i:Int);omega,by show(i:Int)<=(l.length:Int);omega⟩ ?_;refine aB ((IN (l.take i) re 235 2 (R0 (.rp 1 λ_=>.dZ 181 0 c) (.rp 1 λ_=>dS (l.getD i default).name)) (λq=>bE q.name (l.getD i default).name) (λq _=>US q _ c _ _ rfl rfl)).conv (args':=_) ⟨oA l i hi,aNK rfl rfl (AS (Ja _)) (AS (Ja _)),oO⟩) (aI (λh7=>?_) (λh7=>?_))
   ·have h:uC g.bK l i=5:=by unfold uC;rw[h6,h7];rfl
    exact zy
   refine⟨_,ZL g (l.getD i default) hs (hy _ (bP O)),?_⟩;have h:uC g.bK l i=vN g.bK (l.getD i default):=by unfold uC;rw[h6,h7];rfl
   exact ud
  exact uz
structure Ground.fits(g:Ground):Prop where
 bK:g.bK.length<=9223372036854775807
 cC:g.cC.length<=9223372036854775807
 aGV:∀x∈g.bK,x.name.size<=9223372036854775807
 rB:∀x∈g.cC,x.name.size<=9223372036854775807
 bB:∀x∈g.cC,x.bB.length<=9223372036854775807
def E8(g:Ground)(hg:g.fits):aF prog 119 [T7 g] (vI (dX g)):=by
 refine eP func119 rfl rfl call119 rfl rfl λR _=>aB (UM g.bK hg.bK hg.aGV) (aI (λh=>?_) (λh=>?_))
 ·exact Ia (by unfold dX;rw[h];rfl)
 apply aI<;>intro h'
 ·exact Ia (by unfold dX;rw[h,h'];rfl)
 apply aI<;>intro h2
 ·exact Mv
 exact aB ((UG g g.cC (λ_=>.bL) hg.bK hg.cC hg.rB hg.bB).conv (args':=_) ⟨Ja _,sf λj hj=>absurd hj (cd j),aK.Xg (Fm (Ja _) (Ja _)),oO⟩) Mv
def V4{α:Type} [Inhabited α] (p:α->Bool):∀(l:List α) (k i:Nat),i<l.length->p (l.getD i default)=true->(cL p l k !=((k+i:Nat):Int))=(l.take i).any p
 |[],_,_,h,_=>by simp at h
 |x::r,k,0,_,h=>by have:p x=true:=h;simp[cL,this]
 |x::r,k,i+1,hi,h=>by
  rw[cL,Kn,Vg]
  cases hx:p x with
  |true=>simp;omega
  |false=>have:=V4 p r (k+1) i yu h;rw[show k+1+i=k+(i+1) by omega]at this;simpa using this
def SZ(s:ta):bE s s=true:=by simp[bE]
def PJ(l:List lI)(hl:l.length<=9223372036854775807)(hn:∀x∈l,x.name.size<=9223372036854775807):aF prog 105 [jQ l] (vI (mO l)):=by
 refine eP func105 rfl rfl call105 rfl rfl λR J=>aI (λh=>?_) (λh=>?_)
 ·exact Ia (by unfold mO;rw[h];rfl)
 apply aI<;>intro h'
 ·exact ou
 have hE:mO l=aO (wD l) l.length 0:=by unfold mO;rw[h,h'];rfl
 refine Hb (λi:Nat=>⟨[(0,jQ l),(3,vI i),(2,vI 0)],[]⟩) (λi=>i<=l.length/\mO l=aO (wD l) (l.length-i) i) (λi=>l.length-i) 0 ⟨Nat.zero_le _,hE⟩ ?_ ?_
 ·refine Zb J trivial Ga
 rintro i ⟨hi,hj⟩;apply eX J;apply aI<;>intro h5
 ·have h5:(i:Int)<l.length:=bG h5;rw[show l.length-i=(l.length-(i+1))+1 by omega,aO]at hj;refine oi Ha (aB (sW (l.getD i default).name (hn _ (bP O))) ?_);apply aI<;>intro h6
  ·exact zcK
  refine oi Ha (aB (ML l (l.getD i default).name hl) ?_);have he:=V4 (λx:lI=>bE x.name (l.getD i default).name) l 0 i O (SZ _);rw[Ec]at he;apply aI<;>intro h7
  ·have h7:(o8 l (l.getD i default).name !=(i:Int))=true:=h7;rw[o8,he]at h7;exact zcA
  have h7:(o8 l (l.getD i default).name !=(i:Int))=false:=h7;rw[o8,he]at h7;refine oi Ha (aB (aAY (l.getD i default)) ?_);have h:wD l i=A6 (l.getD i default):=by unfold wD;rw[h6,h7];rfl
  rw[h]at hj;apply aI<;>intro h8
  ·exact Ia (by rw[hj,h8];rfl)
  refine⟨i+1,⟨O,by rw[hj,h8];rfl⟩,O,?_⟩;exact zck
 exact uz
def MI(s:List lI)(b:fS)(hs:s.length<=9223372036854775807)(hl:b.bB.length<=9223372036854775807):aF prog 106 [jQ s,UT b] (vI (vN s b)):=by
 refine eP func106 rfl rfl call106 rfl rfl λR J=>?_
 refine aB (Go.Ch.Good ⟨b.x,b.y⟩) ?_
 apply aI<;>intro h1
 ·exact Ia (by unfold vN;rw[h1];rfl)
 apply aI<;>intro h2
 ·exact Ia (by unfold vN;rw[h1,h2];rfl)
 apply aI<;>intro h3
 ·exact zeh
 have hE:vN s b=aO (sL s b) b.bB.length 0:=by unfold vN;rw[h1,h2,h3];rfl
 refine Hb (λi:Nat=>⟨[(0,jQ s),(3,.s (.ptr 3 0)),(5,vI i),(4,vI 0)],[(3,some (.cells (aNT b)))]⟩) (λi=>i<=b.bB.length/\vN s b=aO (sL s b) (b.bB.length-i) i) (λi=>b.bB.length-i) 0 ⟨Nat.zero_le _,hE⟩ ?_ ?_
 ·exact xn
 ·rintro i ⟨hi,hj⟩
  apply eX J
  apply aI<;>intro h5
  ·have h5:(i:Int)<b.bB.length:=bG h5
   rw[show b.bB.length-i=(b.bB.length-(i+1))+1 by omega,aO]at hj
   apply oi Ha
   refine aB (W2 _) ?_
   apply aI<;>intro h6
   ·have h6:(!within (b.bB.getD i default).cb (-20000) 20000)=true:=h6
    have h:sL s b i=2:=by unfold sL;rw[h6];rfl
    exact Ia (by rw[hj,h];rfl)
   have h6:(!within (b.bB.getD i default).cb (-20000) 20000)=false:=h6
   repeat refine aR ?_
   refine og (λ_=>Ha) ?_
   repeat refine aR ?_
   have fQ:0<i->aW ((i:Int)-1)=((i-1:Nat):Int):=λh=>by rw[aG O O];omega
   refine og (λhb=>?_) ?_
   ·have hb:0<i:=by simp[rL]at hb;omega
    show 0<=aW ((i:Int)-1)/\aW ((i:Int)-1)<(b.bB.length:Int)
    rw[fQ hb];exact Ha
   repeat refine aR ?_
   refine aD ?_
   have hk:∀v:Bool,(decide ((i:Int)>0)&&decide ((b.bB.getD i default).cb>=(b.bB.getD (aW ((i:Int)-1)).toNat default).cb))=v->(decide ((i:Int)>0)&&decide ((b.bB.getD i default).cb>=(b.bB.getD (i-1) default).cb))=v:=by
    intro v h
    by_cases h0:0<i
    ·rw[fQ h0]at h;exact h
    ·rw[show decide ((i:Int)>0)=false by simp;omega]at h⊢;exact h
   apply aI<;>intro h7
   ·have h7:=hk true h7
    have h:sL s b i=9:=by unfold sL;rw[h6,h7];rfl
    exact Ia (by rw[hj,h];rfl)
   have h7:=hk false h7
   apply oi Ha
   refine aB (ML s (b.bB.getD i default).aN hs) ?_
   apply aI<;>intro h8
   ·have h:sL s b i=6:=by unfold sL;rw[h6,h7,h8];rfl
    exact Ia (by rw[hj,h];rfl)
   have h:sL s b i=0:=by unfold sL;rw[h6,h7,h8];rfl
   refine⟨i+1,⟨O,by rw[hj,h];rfl⟩,O,?_⟩
   exact jn
  exact zbi
def MH(g:Ground)(hg:g.fits):aF prog 60 [T7 g] (vI (dX g)):=by
 refine eP func60 rfl rfl call60 rfl rfl λR J=>aB (PJ g.bK hg.bK hg.aGV) (aI (λh=>?_) (λh=>?_))
 ·exact Ia (by unfold dX;rw[h];rfl)
 apply aI<;>intro h'
 ·exact Ia (by unfold dX;rw[h,h'];rfl)
 apply aI<;>intro h2
 ·exact Mv
 have hl:=hg.cC;have hE:dX g=aO (uC g.bK g.cC) g.cC.length 0:=by unfold dX;rw[h,h',h2];rfl
 refine Hb (λi:Nat=>⟨[(1,.s (.ptr 1 0)),(4,vI i),(2,vI 0)],[(1,some (.cells [.d (kV g.bK),.d (pN g.cC)]))]⟩) (λi=>i<=g.cC.length/\dX g=aO (uC g.bK g.cC) (g.cC.length-i) i) (λi=>g.cC.length-i) 0 ⟨Nat.zero_le _,hE⟩ ?_ ?_
 ·exact vl
 rintro i ⟨hi,hj⟩;apply eX J;apply aI<;>intro h5
 ·have h5:(i:Int)<g.cC.length:=bG h5;rw[show g.cC.length-i=(g.cC.length-(i+1))+1 by omega,aO]at hj;refine oi Ha (aB (sW (g.cC.getD i default).name (hg.rB _ (bP O))) ?_);apply aI<;>intro h6
  ·have h:uC g.bK g.cC i=4:=by unfold uC;rw[h6];rfl
   exact zy
  refine Hb (λk:Nat=>⟨[(1,.s (.ptr 1 0)),(4,vI i),(5,vI k),(2,vI 0)],[(1,some (.cells [.d (kV g.bK),.d (pN g.cC)]))]⟩) (λk=>k<=i/\∀j,j<k->bE (g.cC.getD j default).name (g.cC.getD i default).name=false) (λk=>i-k) 0 ⟨Nat.zero_le _,λj hj=>absurd hj (cd j)⟩ ?_ ?_
  ·exact xn
  rintro k ⟨hk,hq⟩;apply eX J;apply aI<;>intro h9
  ·have h9:(k:Int)<i:=bG h9;refine oi Ha (oi Ha ?_);refine aD ?_;apply aI<;>intro h'
   ·have h':bE (g.cC.getD k default).name (g.cC.getD i default).name=true:=h';have h7:=sS (λy:fS=>bE y.name (g.cC.getD i default).name) g.cC (k:=i) (j:=k) hi O h';have h:uC g.bK g.cC i=5:=by unfold uC;rw[h6,h7];rfl
    exact zy
   have h':bE (g.cC.getD k default).name (g.cC.getD i default).name=false:=h';exact ku
  have h9:¬(k:Int)<i:=bF h9;have h7:=I2 (λy:fS=>bE y.name (g.cC.getD i default).name) g.cC i hi (λj hj=>hq j O);refine oi Ha (aB (MI g.bK (g.cC.getD i default) hg.bK (hg.bB _ (bP O))) ?_);refine aD ?_;have h:uC g.bK g.cC i=vN g.bK (g.cC.getD i default):=by unfold uC;rw[h6,h7];rfl
  rw[h]at hj;apply aI<;>intro h8
  ·exact Ia (by rw[hj,h8];rfl)
  refine⟨i+1,⟨O,by rw[hj,h8];rfl⟩,O,?_⟩;refine Zb J Ga ⟨rQ,⟨rfl,?_⟩,rQ,oO⟩;exact zm
 have h5:¬(i:Int)<g.cC.length:=bF h5;have bC:i=g.cC.length:=O;exact uf
def yO:∀(l:List (ta×Int)) (a:ta) (v:Int) (k:ta),gW (jR l a v) k=bif k==a then v else gW l k
 |[],a,v,k=>by rw[jR];exact zdm
 |(b,u)::r,a,v,k=>by
  rw[jR]
  cases JW:a==b with
  |true=>have e:=eq_of_beq JW;subst e;exact zdm
  |false=>
   have ih:=yO r a v k
   cases h:k==b with
   |true=>
    have e:=eq_of_beq h;subst e;have:(k==a)=false:=by rw[mw]at JW⊢;exactλe=>JW mv
    simp[gW,nS,this]
   |false=>simp only[gW,nS,h,Ua]at ih⊢;exact ih
def KU(a b:ta):bE a b=(a==b):=by
 rw[bytes_beq,bE,Ff];simp only[Tf,ae];constructor
 ·intro h;rw[Xq,Xq]at h
  cases a;cases b
  simp at h;rw[h]
 intro h;rw[h]
def x5(l:List Int)(i:Nat):Int:=
 bif !within (l.getD i 0) 0 9 then 2 else bif decide ((i:Int)>0)&&decide (l.getD i 0<=l.getD (i-1) 0)then 9 else 0
def qI(p:uF):Int:=
 bif !within p.OE 1 1000000000|| !within p.base (-20000) 20000|| !within p.cb (-20000) 20000 then 2
 else bif decide (p.cb<=p.base)then 9 else bif !within p.GZ 0 10000 then 2 else aO (x5 p.aV) p.aV.length 0
def JZ(b:nM):Int:=bif !within b.den 1 1000|| !within b.num 1 (aW (10*b.den))then 2 else 0
def tK(l:List uF)(i:Nat):Int:=
 bif !isName (l.getD i default).name then 4 else bif (l.take i).any (λy=>bE y.name (l.getD i default).name)then 5 else qI (l.getD i default)
def yG(l:List uF):Nat->List (ta×Int)
 |0=>[]
 |i+1=>jR (yG l i) (l.getD i default).name 1
def w5(l:List uF)(k:ta):∀i,i<=l.length->(gW (yG l i) k !=0)=(l.take i).any (λy=>bE y.name k)
 |0,_=>rfl
 |i+1,h=>by
  have hd:l.take (i+1)=l.take i++ [l.getD i default]:=by rw[aX O];rw[Gn O]
  rw[yG,yO,hd,Pn,<-w5 l k i O,Vg,Ew,Zj,KU]
  cases h:k==(l.getD i default).name with
  |true=>rw[show((l.getD i default).name==k)=true by rw[eq_of_beq h];simp];simp
  |false=>rw[show((l.getD i default).name==k)=false by rw[mw]at h⊢;exactλe=>h mv];simp
def aE5(x:uF):aF prog 241 [G1 x] (vS x.name):=by exact eP func241 rfl rfl call241 rfl rfl λR _=>db _
def aBN(l:List uF)(c d:Nat->DV)(hl:l.length<=9223372036854775807)(hn:∀x∈l,x.name.size<=9223372036854775807)(ho:∀x∈l,aF prog 242 [G1 x] (vI (qI x))):
  aF prog 240 [vQ l,.s (.d (.dZ 241 0 c)),.s (.d (.dZ 242 0 d))] (vI (aO (tK l) l.length 0)):=by
 refine eP func240 rfl rfl call240 rfl rfl λR J=>?_
 refine Hb (λi:Nat=>⟨[(1,.s (.d (.dZ 241 0 c))),(2,.s (.d (.dZ 242 0 d))),(7,.s (.mp 12)),(13,vQ l),(14,vI l.length),(15,vI i),(6,vI 0)],[(12,some (.smap .bool (yG l i)))]⟩) (λi=>i<=l.length/\aO (tK l) l.length 0=aO (tK l) (l.length-i) i) (λi=>l.length-i) 0 ⟨Nat.zero_le _,rfl⟩ ?_ ?_
 ·exact kc
 ·rintro i ⟨hi,hj⟩;apply eX J;apply aI<;>intro h5
  ·have h5:(i:Int)<l.length:=bG h5;rw[show l.length-i=(l.length-(i+1))+1 by omega,aO]at hj;refine oi Ha (aB (aE5 (l.getD i default)) ?_);refine aB (aHH (l.getD i default).name (hn _ (bP O))) (aI (λh6=>?_) (λh6=>?_))
   ·have h:tK l i=4:=by unfold tK;rw[h6];rfl
    exact zy
   apply aI<;>intro h7
   ·have h7:(gW (yG l i) (l.getD i default).name !=0)=true:=h7;rw[w5 l _ i hi]at h7;have h:tK l i=5:=by unfold tK;rw[h6,h7];rfl
    exact zy
   have h7:(gW (yG l i) (l.getD i default).name !=0)=false:=h7;rw[w5 l _ i hi]at h7;refine aB (ho (l.getD i default) (bP O)) ?_;have h:tK l i=qI (l.getD i default):=by unfold tK;rw[h6,h7];rfl
   exact ud
  exact uz
def rN(l:List nM)(i:Nat):Int:=
 bif !isName (l.getD i default).aN then 4 else bif (l.take i).any (λy=>bE y.aN (l.getD i default).aN)then 5 else JZ (l.getD i default)
def tF(l:List nM):Nat->List (ta×Int)
 |0=>[]
 |i+1=>jR (tF l i) (l.getD i default).aN 1
def uO(l:List nM)(k:ta):∀i,i<=l.length->(gW (tF l i) k !=0)=(l.take i).any (λy=>bE y.aN k)
 |0,_=>rfl
 |i+1,h=>by
  have hd:l.take (i+1)=l.take i++ [l.getD i default]:=by rw[aX O];rw[Gn O]
  rw[tF,yO,hd,Pn,<-uO l k i O,Vg,Ew,Zj,KU]
  cases h:k==(l.getD i default).aN with
  |true=>rw[show((l.getD i default).aN==k)=true by rw[eq_of_beq h];simp];simp
  |false=>rw[show((l.getD i default).aN==k)=false by rw[mw]at h⊢;exactλe=>h mv];simp
def aDL(x:nM):aF prog 244 [dq x] (vS x.aN):=by exact eP func244 rfl rfl call244 rfl rfl λR _=>db _
def X2(l:List nM)(c d:Nat->DV)(hl:l.length<=9223372036854775807)(hn:∀x∈l,x.aN.size<=9223372036854775807)(ho:∀x∈l,aF prog 245 [dq x] (vI (JZ x))):
  aF prog 243 [A0 l,.s (.d (.dZ 244 0 c)),.s (.d (.dZ 245 0 d))] (vI (aO (rN l) l.length 0)):=by
 refine eP func243 rfl rfl call243 rfl rfl λR J=>?_
 refine Hb (λi:Nat=>⟨[(1,.s (.d (.dZ 244 0 c))),(2,.s (.d (.dZ 245 0 d))),(7,.s (.mp 12)),(13,A0 l),(14,vI l.length),(15,vI i),(6,vI 0)],[(12,some (.smap .bool (tF l i)))]⟩) (λi=>i<=l.length/\aO (rN l) l.length 0=aO (rN l) (l.length-i) i) (λi=>l.length-i) 0 ⟨Nat.zero_le _,rfl⟩ ?_ ?_
 ·exact kc
 ·rintro i ⟨hi,hj⟩;apply eX J;apply aI<;>intro h5
  ·have h5:(i:Int)<l.length:=bG h5;rw[show l.length-i=(l.length-(i+1))+1 by omega,aO]at hj;refine oi Ha (aB (aDL (l.getD i default)) ?_);refine aB (aHH (l.getD i default).aN (hn _ (bP O))) (aI (λh6=>?_) (λh6=>?_))
   ·have h:rN l i=4:=by unfold rN;rw[h6];rfl
    exact zy
   apply aI<;>intro h7
   ·have h7:(gW (tF l i) (l.getD i default).aN !=0)=true:=h7;rw[uO l _ i hi]at h7;have h:rN l i=5:=by unfold rN;rw[h6,h7];rfl
    exact zy
   have h7:(gW (tF l i) (l.getD i default).aN !=0)=false:=h7;rw[uO l _ i hi]at h7;refine aB (ho (l.getD i default) (bP O)) ?_;have h:rN l i=JZ (l.getD i default):=by unfold rN;rw[h6,h7];rfl
   exact ud
  exact uz
def lU(l:List uF)(s:ta):Int:=cL (λx=>bE x.name s) l 0
def aAV(l:List uF)(s:ta)(hl:l.length<=9223372036854775807):aF prog 112 [vQ l,vS s] (vI (lU l s)):=by
 refine eP func112 rfl rfl call112 rfl rfl λR J=>Hb (λi:Nat=>⟨[(0,vQ l),(1,vS s),(5,vI i),(4,vI 0)],[]⟩) (λi=>i<=l.length/\lU l s=cL (λx=>bE x.name s) (l.drop i) i) (λi=>l.length-i) 0 ⟨Nat.zero_le _,rfl⟩ ?_ ?_
 ·refine Zb J trivial Ga
 rintro i ⟨hi,he⟩;apply eX J;apply aI<;>intro h
 ·have h:(i:Int)<l.length:=bG h;have bC:i<l.length:=O;have hd:l.drop i=l[i]::l.drop (i+1):=Ve bC;have hg:l.getD i default=l[i]:=aX bC;apply oi Ha;rw[hd,cL,<-hg]at he;apply aI<;>intro h
  ·have h:bE (l.getD i default).name s=true:=h;exact Ia (by rw[he,h];rfl)
  have h:bE (l.getD i default).name s=false:=h;refine⟨i+1,⟨O,by rw[he,h];rfl⟩,O,?_⟩;refine Zb J trivial ⟨rQ,rQ,⟨rfl,?_⟩,rQ,oO⟩;exact Na vI (aG O O)
 have h:¬(i:Int)<l.length:=bF h;have bC:i=l.length:=O;subst bC;exact Ia (by rw[he,Sg];rfl)
def RA(l:List nM)(s:ta):Int:=cL (λx=>bE x.aN s) l 0
def aH4(l:List nM)(s:ta)(hl:l.length<=9223372036854775807):aF prog 169 [A0 l,vS s] (vI (RA l s)):=by
 refine eP func169 rfl rfl call169 rfl rfl λR J=>Hb (λi:Nat=>⟨[(0,A0 l),(1,vS s),(5,vI i),(4,vI 0)],[]⟩) (λi=>i<=l.length/\RA l s=cL (λx=>bE x.aN s) (l.drop i) i) (λi=>l.length-i) 0 ⟨Nat.zero_le _,rfl⟩ ?_ ?_
 ·exact jj
 rintro i ⟨hi,he⟩;apply eX J;apply aI<;>intro h
 ·have h:(i:Int)<l.length:=bG h;have bC:i<l.length:=O;have hd:l.drop i=l[i]::l.drop (i+1):=Ve bC;have hg:l.getD i default=l[i]:=aX bC;apply oi Ha;rw[hd,cL,<-hg]at he;apply aI<;>intro h
  ·have h:bE (l.getD i default).aN s=true:=h;exact Ia (by rw[he,h];rfl)
  have h:bE (l.getD i default).aN s=false:=h;exact vo
 have h:¬(i:Int)<l.length:=bF h;have bC:i=l.length:=O;subst bC;exact Ia (by rw[he,Sg];rfl)
abbrev aLA(p:uF):List SV:=[.d (dS p.name),.d (dI p.OE),.d (dI p.base),.d (dI p.cb),.d (b5 p.aV),.d (dI p.GZ)]
abbrev uH(y:gK):List SV:=[.d (q7 y.aQ),.d (oY y.bA),.d (LU y.bH),.d (b5 y.carry)]
def D0(y:gK)(i:Nat):Int:=bif !within (y.carry.getD i 0) 0 (aW ((y.bA.getD i default).den-1))then 2 else 0
def pF(y:gK)(i:Nat):Int:=
 bif !within (y.bH.getD i default).Od 1 1000000 then 2
 else bif (y.bH.take i).any (λd=>d.Od==(y.bH.getD i default).Od)then 5
 else bif decide (lU y.aQ (y.bH.getD i default).dN<0)then 6
 else bif !within (y.bH.getD i default).iZ 0 100000000000000 then 2 else 0
def N8(p:uF):Int:=aW (p.OE*aW (p.cb-p.base))
def JG(l:List OQ)(n:ta):Nat->Nat->Int->Int
 |0,_,s=>s
 |k+1,i,s=>JG l n k (i+1) (bif bE (l.getD i default).dN n then aW (s+(l.getD i default).iZ)else s)
def JF(y:gK)(n:ta):Int:=JG y.bH n y.bH.length 0 0
def GL(y:gK)(p:uF):Int:=aW (N8 p-JF y p.name)
def D1(y:gK)(i:Nat):Int:=bif decide (GL y (y.aQ.getD i default)<0)then 19 else 0
def pM(y:gK):Int:=
 bif decide ((y.bH.length:Int)>200)then 8
 else bif aO (pF y) y.bH.length 0 !=0 then aO (pF y) y.bH.length 0
 else aO (D1 y) y.aQ.length 0
def o4(y:gK):Int:=
 bif decide ((y.bA.length:Int)>20)then 8
 else bif aO (rN y.bA) y.bA.length 0 !=0 then aO (rN y.bA) y.bA.length 0
 else bif (y.carry.length:Int) !=(y.bA.length:Int)then 10
 else aO (D0 y) y.carry.length 0
def kX(y:gK):Int:=
 bif decide ((y.aQ.length:Int)>8)then 8
 else bif aO (tK y.aQ) y.aQ.length 0 !=0 then aO (tK y.aQ) y.aQ.length 0
 else bif o4 y !=0 then o4 y else pM y
def aDH(p:uF)(hl:p.aV.length<=9223372036854775807):aF prog 242 [G1 p] (vI (qI p)):=by
 refine eP func242 rfl rfl call242 rfl rfl λR J=>?_
 refine aB (kD _ _ _) ?_
 repeat refine aR ?_
 refine bR (kD _ _ _) ?_
 repeat refine aR ?_
 refine bR (kD _ _ _) ?_
 repeat refine aR ?_
 apply aI<;>intro h1
 ·exact Ia (by unfold qI;rw[h1];rfl)
 apply aI<;>intro h2
 ·exact Ia (by unfold qI;rw[h1,h2];rfl)
 refine aB (kD _ _ _) ?_
 apply aI<;>intro h3
 ·exact zee
 have hE:qI p=aO (x5 p.aV) p.aV.length 0:=by unfold qI;rw[h1,h2,h3];rfl
 refine Hb (λi:Nat=>⟨[(1,.s (.ptr 1 0)),(34,iR p.aV),(35,vI p.aV.length),(36,vI i),(2,vI 0)],[(1,some (.cells (aLA p)))]⟩) (λi=>i<=p.aV.length/\qI p=aO (x5 p.aV) (p.aV.length-i) i) (λi=>p.aV.length-i) 0 ⟨Nat.zero_le _,hE⟩ ?_ ?_
 ·exact jr
 ·rintro i ⟨hi,hj⟩
  apply eX J
  apply aI<;>intro h5
  ·have h5:(i:Int)<p.aV.length:=bG h5
   rw[show p.aV.length-i=(p.aV.length-(i+1))+1 by omega,aO]at hj
   apply oi Ha
   refine aB (kD _ _ _) ?_
   apply aI<;>intro h6
   ·have h6:(!within (p.aV.getD i 0) 0 9)=true:=h6
    have h:x5 p.aV i=2:=by unfold x5;rw[h6];rfl
    exact zy
   have h6:(!within (p.aV.getD i 0) 0 9)=false:=h6
   repeat refine aR ?_
   have fQ:0<i->aW ((i:Int)-1)=((i-1:Nat):Int):=λh=>by rw[aG O O];omega
   refine og (λhb=>?_) ?_
   ·exact zaT
   repeat refine aR ?_
   have hk:∀v:Bool,(decide ((i:Int)>0)&&decide (p.aV.getD i 0<=p.aV.getD (aW ((i:Int)-1)).toNat 0))=v->(decide ((i:Int)>0)&&decide (p.aV.getD i 0<=p.aV.getD (i-1) 0))=v:=by
    exact qi
   apply aI<;>intro h7
   ·have h7:=hk true h7
    have h:x5 p.aV i=9:=by unfold x5;rw[h6,h7];rfl
    exact zy
   have h7:=hk false h7
   have h:x5 p.aV i=0:=by unfold x5;rw[h6,h7];rfl
   exact ul
  ·have h5:¬(i:Int)<p.aV.length:=bF h5
   have bC:i=p.aV.length:=O
   exact uf
def RX(b:nM):aF prog 245 [dq b] (vI (JZ b)):=by
 refine eP func245 rfl rfl call245 rfl rfl λR _=>?_
 refine aB (kD _ _ _) ?_
 repeat refine aR ?_
 refine bR (kD _ _ _) ?_
 repeat refine aR ?_
 apply aI<;>intro h
 ·exact Ia (by unfold JZ;rw[h];rfl)
 ·exact Ia (by unfold JZ;rw[h];rfl)
def aIJ(q:uF)(s:ta)(f:Nat->DV)(hf:f 0=dS s):aF prog 289 [G1 q,.s (.d (.rp 1 f))] (vB (bE q.name s)):=by
 refine Ze (args:=[G1 q,.s (.d (.rp 1 (UO s)))]) ?_ ⟨⟨Ja _,Ja _,Ja _,Ja _,Ja _,Ja _,oO⟩,Zc λj hj=>?_,oO⟩
 ·exact eP func289 rfl rfl call289 rfl rfl λR _=>db _
 exact vp
def aGZ(y:gK)(s:ta)(hl:y.aQ.length<=9223372036854775807):aF prog 203 [tD y,vS s] (vI (lU y.aQ s)):=by exact eP func203 rfl rfl call203 rfl rfl λR J=>aB (aB2 y.aQ hl 289 1 _ (λq=>bE q.name s) (λq _=>aIJ q s _ rfl)) (db _)
def capacity(p:uF):aF prog 336 [G1 p] (vI (N8 p)):=by exact eP func336 rfl rfl call336 rfl rfl λR _=>db _
def XX(p:uF):aF prog 114 [G1 p] (vI (N8 p)):=by exact eP func114 rfl rfl call114 rfl rfl λR _=>db _
def taken(y:gK)(n:ta)(hl:y.bH.length<=9223372036854775807):aF prog 337 [tD y,vS n] (vI (JF y n)):=by
 refine eP func337 rfl rfl call337 rfl rfl λR J=>Hb (λs:Nat×Int=>⟨[(1,vS n),(2,.s (.ptr 2 0)),(5,vI s.2),(9,wU y.bH),(10,vI y.bH.length),(11,vI s.1),(4,vI 0)],[(2,some (.cells (uH y)))]⟩) (λs=>s.1<=y.bH.length/\JF y n=JG y.bH n (y.bH.length-s.1) s.1 s.2) (λs=>y.bH.length-s.1) (0,0) ⟨Nat.zero_le _,rfl⟩ ?_ ?_
 ·exact kc
 rintro⟨i,s⟩ ⟨hi,hj⟩;simp only at hi hj;apply eX J;apply aI<;>intro h5
 ·have h5:(i:Int)<y.bH.length:=bG h5;rw[show y.bH.length-i=(y.bH.length-(i+1))+1 by omega,JG]at hj;apply oi Ha;apply aI<;>intro h6
  ·have h6:bE (y.bH.getD i default).dN n=true:=h6;rw[h6]at hj;refine⟨(i+1,aW (s+(y.bH.getD i default).iZ)),⟨by show i+1<=_;omega,hj⟩,by show _-(i+1)<_;omega,?_⟩;exact ur
  have h6:bE (y.bH.getD i default).dN n=false:=h6;rw[h6]at hj;refine⟨(i+1,s),⟨by show i+1<=_;omega,hj⟩,by show _-(i+1)<_;omega,?_⟩;exact ur
 exact zbg
def aHG(y:gK)(p:uF)(hl:y.bH.length<=9223372036854775807):aF prog 294 [tD y,G1 p] (vI (GL y p)):=by
 refine eP func294 rfl rfl call294 rfl rfl λR _=>aB (capacity p) (aB (taken y p.name hl) ?_)
 exact nu
def KT(l:List OQ):Nat->List (Int×Int)
 |0=>[]
 |i+1=>pU (KT l i) (l.getD i default).Od 1
def LL(k v x:Int):∀l:List (Int×Int),oX (pU l k v) x=bif x==k then some v else oX l x
 |[]=>rfl
 |(a,u)::r=>by
  rw[pU]
  cases hk:k==a with
  |true=>
   simp only[cond_true,oX];have:k=a:=by simpa using hk
   subst this
   cases x==k <;> rfl
  |false=>
   simp only[Ua,oX,LL k v x r]
   cases hx:x==a with
   |true=>
    have:x=a:=by simpa using hx
    subst this;have:(x==k)=false:=by
     cases h:x==k with
     |false=>rfl
     |true=>have:x=k:=ai;subst this;simp at hk
    rw[this];rfl
   |false=>rfl
def YT(l:List (Int×Int))(a v k:Int):getM (pU l a v) k=bif k==a then v else getM l k:=by
 rw[getM,LL]
 cases k==a <;> rfl
def DA(l:List OQ)(k:Int):∀i,i<=l.length->(getM (KT l i) k !=0)=(l.take i).any (λy=>y.Od==k)
 |0,_=>rfl
 |i+1,h=>by
  have hd:l.take (i+1)=l.take i++ [l.getD i default]:=by rw[aX O];rw[Gn O]
  rw[KT,YT,hd,Pn,<-DA l k i O,Vg,Ew,Zj];by_cases h:k=(l.getD i default).Od
  ·subst h;simp
  have h1:(k==(l.getD i default).Od)=false:=by simpa using h
  have h2:((l.getD i default).Od==k)=false:=by simpa using λe=>h e.symm
  rw[h1,h2];simp
structure gK.fits(y:gK):Prop where
 aQ:y.aQ.length<=9223372036854775807
 bA:y.bA.length<=9223372036854775807
 bH:y.bH.length<=9223372036854775807
 carry:y.carry.length<=9223372036854775807
 vU:∀x∈y.aQ,x.name.size<=9223372036854775807
 rB:∀x∈y.bA,x.aN.size<=9223372036854775807
 aV:∀x∈y.aQ,x.aV.length<=9223372036854775807
def J8(y:gK)(hy:y.fits):aF prog 247 [tD y] (vI (pM y)):=by
 have hl:=hy.bH;have hp:=hy.aQ;refine eP func247 rfl rfl call247 rfl rfl λR J=>aI (λh0=>?_) (λh0=>?_)
 ·exact Ia (by unfold pM;rw[h0];rfl)
 refine Hb (λi:Nat=>⟨[(1,.s (.ptr 1 0)),(3,.s (.mp 12)),(14,wU y.bH),(15,vI y.bH.length),(16,vI i),(2,vI 0)],[(1,some (.cells (uH y))),(12,some (.map .bool (KT y.bH i)))]⟩) (λi=>i<=y.bH.length/\aO (pF y) y.bH.length 0=aO (pF y) (y.bH.length-i) i) (λi=>y.bH.length-i) 0 ⟨Nat.zero_le _,rfl⟩ ?_ ?_
 ·exact zdq
 rintro i ⟨hi,hj⟩;apply eX J;apply aI<;>intro h5
 ·have h5:(i:Int)<y.bH.length:=bG h5;rw[show y.bH.length-i=(y.bH.length-(i+1))+1 by omega,aO]at hj;refine oi Ha (aB (kD _ _ _) ?_);have hE:∀e:Int,e≠0->pF y i=e->pM y=e:=λe he h=>by
   have fJ:(pF y i !=0)=true:=by rw[h];simpa using he
   rw[fJ]at hj;have DT:(e !=0)=true:=by simpa using he
   unfold pM;rw[h0,hj,h];exact ct
  apply aI<;>intro h6
  ·exact zaR
  have h6:(!within (y.bH.getD i default).Od 1 1000000)=false:=h6;refine oi (.inr rfl) (aI (λh7=>?_) (λh7=>?_))
  ·have h7:(getM (KT y.bH i) (y.bH.getD i default).Od !=0)=true:=h7;rw[DA _ _ i hi]at h7;exact zc7
  have h7:(getM (KT y.bH i) (y.bH.getD i default).Od !=0)=false:=h7;rw[DA _ _ i hi]at h7;refine aB (aGZ y (y.bH.getD i default).dN hp) (aI (λh8=>?_) (λh8=>?_))
  ·exact zc1
  refine aB (kD _ _ _) (aI (λh9=>?_) (λh9=>?_))
  ·exact zar
  have h9:(!within (y.bH.getD i default).iZ 0 100000000000000)=false:=h9;have h:pF y i=0:=by unfold pF;rw[h6,h7,h8,h9];rfl
  exact zal
 have h5:¬(i:Int)<y.bH.length:=bF h5;have bC:i=y.bH.length:=O;have hz:aO (pF y) y.bH.length 0=0:=by rw[hj,bC,Td];rfl
 have hD:pM y=aO (D1 y) y.aQ.length 0:=by unfold pM;rw[h0,hz];rfl
 clear hj hi;refine Hb (λi:Nat=>⟨[(1,.s (.ptr 1 0)),(46,vQ y.aQ),(47,vI y.aQ.length),(48,vI i),(2,vI 0)],[(1,some (.cells (uH y)))]⟩) (λi=>i<=y.aQ.length/\pM y=aO (D1 y) (y.aQ.length-i) i) (λi=>y.aQ.length-i) 0 ⟨Nat.zero_le _,hD⟩ ?_ ?_
 ·exact jr
 rintro i ⟨hi,hj⟩;apply eX J;apply aI<;>intro h5
 ·have h5:(i:Int)<y.aQ.length:=bG h5;rw[show y.aQ.length-i=(y.aQ.length-(i+1))+1 by omega,aO]at hj;refine oi Ha (aB (aHG y (y.aQ.getD i default) hl) ?_);apply aI<;>intro h6
  ·exact zcG
  have h:D1 y i=0:=by unfold D1;rw[h6];rfl
  exact ul
 exact zbo
def aDA(y:gK)(hy:y.fits):aF prog 189 [tD y] (vI (kX y)):=by
 refine eP func189 rfl rfl call189 rfl rfl λR J=>aI (λh0=>?_) (λh0=>?_)
 ·exact Ia (by unfold kX;rw[h0];rfl)
 refine aB ((aBN y.aQ (λ_=>.bL) (λ_=>.bL) hy.aQ hy.vU (λx hx=>aDH x (hy.aV x hx))).conv (args':=_) ⟨Ja _,sf λj hj=>absurd hj (cd j),sf λj hj=>absurd hj (cd j),oO⟩) (aI (λh1=>?_) (λh1=>?_))
 ·exact Ia (by unfold kX;rw[h0,h1];rfl)
 have hY:o4 y≠0->kX y=o4 y:=λfJ=>by unfold kX;rw[h0,h1,show(o4 y !=0)=true by simpa using fJ];rfl
 have hZ:o4 y=0->kX y=pM y:=λhe=>by unfold kX;rw[h0,h1,he];rfl
 apply aI<;>intro h2
 ·have:o4 y=8:=by unfold o4;rw[h2];rfl
  exact Yt
 refine aB ((X2 y.bA (λ_=>.bL) (λ_=>.bL) hy.bA hy.rB (λx _=>RX x)).conv (args':=_) ⟨Ja _,sf λj hj=>absurd hj (cd j),sf λj hj=>absurd hj (cd j),oO⟩) (aI (λh3=>?_) (λh3=>?_))
 ·have:o4 y=aO (rN y.bA) y.bA.length 0:=by unfold o4;rw[h2,h3];rfl
  exact Ia (by rw[hY (by rw[this];simpa using h3),this];rfl)
 apply aI<;>intro h4
 ·have h4:((y.carry.length:Int) !=(y.bA.length:Int))=true:=h4;have:o4 y=10:=by unfold o4;rw[h2,h3,h4];rfl
  exact Yt
 have h4:((y.carry.length:Int) !=(y.bA.length:Int))=false:=h4;have vA:y.carry.length=y.bA.length:=by have:(y.carry.length:Int)=y.bA.length:=(by simpa using h4);omega
 have hE:o4 y=aO (D0 y) y.carry.length 0:=by unfold o4;rw[h2,h3,h4];rfl
 have hc:=hy.carry;refine Hb (λi:Nat=>⟨[(1,.s (.ptr 1 0)),(35,iR y.carry),(36,vI y.carry.length),(37,vI i),(2,vI 0)],[(1,some (.cells (uH y)))]⟩) (λi=>i<=y.carry.length/\o4 y=aO (D0 y) (y.carry.length-i) i) (λi=>y.carry.length-i) 0 ⟨Nat.zero_le _,hE⟩ ?_ ?_
 ·exact jr
 rintro i ⟨hi,hj⟩;apply eX J;apply aI<;>intro h5
 ·have h5:(i:Int)<y.carry.length:=bG h5;rw[show y.carry.length-i=(y.carry.length-(i+1))+1 by omega,aO]at hj;refine oi Ha (oi Ha ?_);refine aB (kD _ _ _) (aI (λh6=>?_) (λh6=>?_))
  ·have h6:(!within (y.carry.getD i 0) 0 (aW ((y.bA.getD i default).den-1)))=true:=h6;have h:D0 y i=2:=by unfold D0;rw[h6];rfl
   have:o4 y=2:=by rw[hj,h];rfl
   exact Yt
  have h6:(!within (y.carry.getD i 0) 0 (aW ((y.bA.getD i default).den-1)))=false:=h6;have h:D0 y i=0:=by unfold D0;rw[h6];rfl
  exact ul
 have h5:¬(i:Int)<y.carry.length:=bF h5;have bC:i=y.carry.length:=O;have hz:o4 y=0:=by rw[hj,bC,Td];rfl
 refine aB (J8 y hy) ?_;exact Ia (by rw[hZ hz];rfl)
def lQ{f:Nat->Int}:∀{n i:Nat},aO f n i=0->∀j,i<=j->j<i+n->f j=0
 |0,_,_,j,h1,h2=>by omega
 |n+1,i,h,j,h1,h2=>by
  rw[aO]at h
  cases hf:(f i !=0)with
  |true=>rw[hf]at h;simp only[cond_true]at h;rw[h]at hf;simp at hf
  |false=>
   rw[hf]at h;by_cases hj:j=i
   ·subst hj;simpa using hf
   exact lQ (n:=n) (i:=i+1) h j O O
def aEP(p:uF)(before:List uF)(hn:p.name.size<=9223372036854775807)(hb:before.length<=9223372036854775807)(hl:p.aV.length<=9223372036854775807):
  aF prog 109 [G1 p,vQ before] (vI (bif !isName p.name then 4 else bif before.any (λy=>bE y.name p.name)then 5 else qI p)):=by
 refine eP func109 rfl rfl call109 rfl rfl λR J=>?_
 refine aB (sW p.name hn) ?_
 apply aI<;>intro h0
 ·exact Ia (by rw[h0];rfl)
 refine aB (aAV before p.name hb) ?_
 have ha:decide (lU before p.name>=0)=before.any (λy=>bE y.name p.name):=kI _ _ _
 apply aI<;>intro h0'
 ·have h0':decide (lU before p.name>=0)=true:=h0'
  rw[ha]at h0'
  exact Ia (by rw[h0,h0'];rfl)
 have h0':decide (lU before p.name>=0)=false:=h0'
 rw[ha]at h0'
 rw[h0,h0']
 refine aB (cI _ _ _) ?_
 repeat refine aR ?_
 refine bR (cI _ _ _) ?_
 repeat refine aR ?_
 refine bR (cI _ _ _) ?_
 repeat refine aR ?_
 apply aI<;>intro h1
 ·exact Ia (by unfold qI;rw[h1];rfl)
 apply aI<;>intro h2
 ·exact Ia (by unfold qI;rw[h1,h2];rfl)
 refine aB (cI _ _ _) ?_
 apply aI<;>intro h3
 ·exact zee
 have hE:qI p=aO (x5 p.aV) p.aV.length 0:=by unfold qI;rw[h1,h2,h3];rfl
 refine Hb (λi:Nat=>⟨[(2,.s (.ptr 2 0)),(5,vI i),(4,vI 0)],[(2,some (.cells (aLA p)))]⟩) (λi=>i<=p.aV.length/\qI p=aO (x5 p.aV) (p.aV.length-i) i) (λi=>p.aV.length-i) 0 ⟨Nat.zero_le _,hE⟩ ?_ ?_
 ·exact vl
 ·rintro i ⟨hi,hj⟩
  apply eX J
  apply aI<;>intro h5
  ·have h5:(i:Int)<p.aV.length:=bG h5
   rw[show p.aV.length-i=(p.aV.length-(i+1))+1 by omega,aO]at hj
   apply oi Ha
   refine aB (cI _ _ _) ?_
   apply aI<;>intro h6
   ·have h6:(!within (p.aV.getD i 0) 0 9)=true:=h6
    have h:x5 p.aV i=2:=by unfold x5;rw[h6];rfl
    exact Ia (by show vI _=vI (qI p);rw[hj,h];rfl)
   have h6:(!within (p.aV.getD i 0) 0 9)=false:=h6
   repeat refine aR ?_
   refine og (λ_=>Ha) ?_
   repeat refine aR ?_
   have fQ:0<i->aW ((i:Int)-1)=((i-1:Nat):Int):=λh=>by rw[aG O O];omega
   refine og (λhb=>?_) ?_
   ·have hb:0<i:=by simp[rL]at hb;omega
    show 0<=aW ((i:Int)-1)/\aW ((i:Int)-1)<(p.aV.length:Int)
    rw[fQ hb];exact Ha
   repeat refine aR ?_
   refine aD ?_
   have hk:∀v:Bool,(decide ((i:Int)>0)&&decide (p.aV.getD i 0<=p.aV.getD (aW ((i:Int)-1)).toNat 0))=v->(decide ((i:Int)>0)&&decide (p.aV.getD i 0<=p.aV.getD (i-1) 0))=v:=by
    intro v h
    by_cases h0:0<i
    ·rw[fQ h0]at h;exact h
    ·rw[show decide ((i:Int)>0)=false by simp;omega]at h⊢;exact h
   apply aI<;>intro h7
   ·have h7:=hk true h7
    have h:x5 p.aV i=9:=by unfold x5;rw[h6,h7];rfl
    exact Ia (by show vI _=vI (qI p);rw[hj,h];rfl)
   have h7:=hk false h7
   have h:x5 p.aV i=0:=by unfold x5;rw[h6,h7];rfl
   exact zx
  ·have h5:¬(i:Int)<p.aV.length:=bF h5
   have bC:i=p.aV.length:=O
   exact Ia (by show vI _=vI (qI p);rw[hj,bC,Td];rfl)
def S9(l:List OQ)(n:Int)(hl:l.length<=9223372036854775807):aF prog 111 [wU l,vI n] (vB (l.any λd=>d.Od==n)):=by
 refine eP func111 rfl rfl call111 rfl rfl λR J=>Hb (λi:Nat=>⟨[(0,wU l),(1,vI n),(5,vI i),(4,.s (.d (.lit false)))],[]⟩) (λi=>i<=l.length/\(l.any λd=>d.Od==n)=(l.drop i).any λd=>d.Od==n) (λi=>l.length-i) 0 ⟨Nat.zero_le _,rfl⟩ ?_ ?_
 ·exact jj
 rintro i ⟨hi,he⟩;apply eX J;apply aI<;>intro h
 ·have h:(i:Int)<l.length:=bG h;have bC:i<l.length:=O;have hd:l.drop i=l[i]::l.drop (i+1):=Ve bC;have hg:l.getD i default=l[i]:=aX bC;apply oi Ha;rw[hd,Vg,<-hg]at he;apply aI<;>intro h
  ·have h:((l.getD i default).Od==n)=true:=h;exact wc (by rw[he,h];rfl)
  have h:((l.getD i default).Od==n)=false:=h;exact vo
 have h:¬(i:Int)<l.length:=bF h;have bC:i=l.length:=O;subst bC;exact wc (by rw[he,Sg];rfl)
def aIA(y:gK)(k:Nat)(hk:k<y.aQ.length)(hl:y.bH.length<=9223372036854775807):aF prog 113 [tD y,vI k] (vI (JF y (y.aQ.getD k default).name)):=by
 refine eP func113 rfl rfl call113 rfl rfl λR J=>Hb (λs:Nat×Int=>⟨[(1,vI k),(2,.s (.ptr 2 0)),(5,vI s.2),(6,vI s.1),(4,vI 0)],[(2,some (.cells (uH y)))]⟩) (λs=>s.1<=y.bH.length/\JF y (y.aQ.getD k default).name=JG y.bH (y.aQ.getD k default).name (y.bH.length-s.1) s.1 s.2) (λs=>y.bH.length-s.1) (0,0) ⟨Nat.zero_le _,rfl⟩ ?_ ?_
 ·exact jr
 rintro⟨i,s⟩ ⟨hi,hj⟩;simp only at hi hj;apply eX J;apply aI<;>intro h5
 ·have h5:(i:Int)<y.bH.length:=bG h5;rw[show y.bH.length-i=(y.bH.length-(i+1))+1 by omega,JG]at hj;refine oi Ha (oi Ha ?_);refine aD ?_;apply aI<;>intro h6
  ·have h6:bE (y.bH.getD i default).dN (y.aQ.getD k default).name=true:=h6;rw[h6]at hj;apply oi Ha;refine⟨(i+1,aW (s+(y.bH.getD i default).iZ)),⟨by show i+1<=_;omega,hj⟩,by show _-(i+1)<_;omega,?_⟩;exact um
  have h6:bE (y.bH.getD i default).dN (y.aQ.getD k default).name=false:=h6;rw[h6]at hj;refine⟨(i+1,s),⟨by show i+1<=_;omega,hj⟩,by show _-(i+1)<_;omega,?_⟩;exact um
 exact zbg
def zU(l:List OQ)(n:ta):∀(k i:Nat) (s:Int),0<=s->s+k*100000000000000<=9000000000000000000->(∀j,i<=j->j<i+k->0<=(l.getD j default).iZ/\(l.getD j default).iZ<=100000000000000)->0<=JG l n k i s/\JG l n k i s<=s+k*100000000000000
 |0,_,s,h0,_,_=>by simp[JG];exact h0
 |k+1,i,s,h0,h1,hv=>by
  have hi:=hv i O O;have e:((k+1:Nat):Int)=(k:Int)+1:=O;rw[e]at h1⊢;rw[JG]
  cases bE (l.getD i default).dN n with
  |true=>simp only[cond_true];rw[aG O O];have:=zU l n k (i+1) (s+(l.getD i default).iZ) O O (λj h2 h3=>hv j O O);omega
  |false=>simp only[Ua];have:=zU l n k (i+1) s h0 O (λj h2 h3=>hv j O O);omega
def PK(y:gK)(hy:y.fits):aF prog 110 [tD y] (vI (o4 y)):=by
 have hb:=hy.bA
 have hc:=hy.carry
 refine eP func110 rfl rfl call110 rfl rfl λR J=>?_
 apply aI<;>intro h2
 ·exact Ia (by unfold o4;rw[h2];rfl)
 refine Hb (λi:Nat=>⟨[(1,.s (.ptr 1 0)),(3,vI i),(2,vI 0)],[(1,some (.cells (uH y)))]⟩) (λi=>i<=y.bA.length/\aO (rN y.bA) y.bA.length 0=aO (rN y.bA) (y.bA.length-i) i) (λi=>y.bA.length-i) 0 ⟨Nat.zero_le _,rfl⟩ ?_ ?_
 ·exact vl
 ·rintro i ⟨hi,hj⟩
  apply eX J
  apply aI<;>intro h5
  ·have h5:(i:Int)<y.bA.length:=bG h5
   rw[show y.bA.length-i=(y.bA.length-(i+1))+1 by omega,aO]at hj
   have hE:∀e:Int,e≠0->rN y.bA i=e->o4 y=e:=λe he h=>by
    have DT:(e !=0)=true:=by simpa using he
    rw[h,DT]at hj
    unfold o4;rw[h2,hj]
    exact ct
   apply oi Ha
   refine aB (sW (y.bA.getD i default).aN (hy.rB _ (bP O))) ?_
   apply aI<;>intro h6
   ·exact Ia (by rw[hE 4 dC (by unfold rN;rw[h6];rfl)];rfl)
   refine oi ⟨dC,by show(0:Int)<=(i:Int);omega,by show(i:Int)<=(y.bA.length:Int);omega⟩ ?_
   refine aB ((aH4 (y.bA.take i) (y.bA.getD i default).aN re).conv (args':=_) ⟨oA y.bA i hi,Ja _,oO⟩) ?_
   refine aD ?_
   have ha:decide (RA (y.bA.take i) (y.bA.getD i default).aN>=0)=(y.bA.take i).any (λx=>bE x.aN (y.bA.getD i default).aN):=kI _ _ _
   apply aI<;>intro h7
   ·have h7:decide (RA (y.bA.take i) (y.bA.getD i default).aN>=0)=true:=h7
    rw[ha]at h7
    exact Ia (by rw[hE 5 dC (by unfold rN;rw[h6,h7];rfl)];rfl)
   have h7:decide (RA (y.bA.take i) (y.bA.getD i default).aN>=0)=false:=h7
   rw[ha]at h7
   refine aB (cI _ _ _) ?_
   repeat refine aR ?_
   refine bR (cI _ _ _) ?_
   repeat refine aR ?_
   have hf:rN y.bA i=JZ (y.bA.getD i default):=by unfold rN;rw[h6,h7];rfl
   apply aI<;>intro h8
   ·have h8:(!within (y.bA.getD i default).den 1 1000|| !within (y.bA.getD i default).num 1 (aW (10*(y.bA.getD i default).den)))=true:=h8
    exact Ia (by rw[hE 2 dC (by rw[hf];unfold JZ;rw[h8];rfl)];rfl)
   have h8:(!within (y.bA.getD i default).den 1 1000|| !within (y.bA.getD i default).num 1 (aW (10*(y.bA.getD i default).den)))=false:=h8
   have h:rN y.bA i=0:=by rw[hf];unfold JZ;rw[h8];rfl
   exact zx
  ·have h5:¬(i:Int)<y.bA.length:=bF h5
   have bC:i=y.bA.length:=O
   have hz:aO (rN y.bA) y.bA.length 0=0:=by rw[hj,bC,Td];rfl
   clear hj hi
   apply aI<;>intro h4
   ·have h4:((y.carry.length:Int) !=(y.bA.length:Int))=true:=h4
    exact Ia (by unfold o4;rw[h2,hz,h4];rfl)
   have h4:((y.carry.length:Int) !=(y.bA.length:Int))=false:=h4
   have vA:y.carry.length=y.bA.length:=by
    have:(y.carry.length:Int)=y.bA.length:=by simpa using h4
    omega
   have hE:o4 y=aO (D0 y) y.carry.length 0:=by unfold o4;rw[h2,hz,h4];rfl
   refine Hb (λi:Nat=>⟨[(1,.s (.ptr 1 0)),(5,vI i),(2,vI 0)],[(1,some (.cells (uH y)))]⟩) (λi=>i<=y.carry.length/\o4 y=aO (D0 y) (y.carry.length-i) i) (λi=>y.carry.length-i) 0 ⟨Nat.zero_le _,hE⟩ ?_ ?_
   ·exact vl
   ·rintro i ⟨hi,hj⟩
    apply eX J
    apply aI<;>intro h5
    ·have h5:(i:Int)<y.carry.length:=bG h5
     rw[show y.carry.length-i=(y.carry.length-(i+1))+1 by omega,aO]at hj
     apply oi Ha
     apply oi Ha
     refine aB (cI _ _ _) ?_
     refine aD ?_
     apply aI<;>intro h6
     ·have h6:(!within (y.carry.getD i 0) 0 (aW ((y.bA.getD i default).den-1)))=true:=h6
      have h:D0 y i=2:=by unfold D0;rw[h6];rfl
      exact zy
     have h6:(!within (y.carry.getD i 0) 0 (aW ((y.bA.getD i default).den-1)))=false:=h6
     have h:D0 y i=0:=by unfold D0;rw[h6];rfl
     exact zx
    ·have h5:¬(i:Int)<y.carry.length:=bF h5
     have bC:i=y.carry.length:=O
     exact uf
def within_iff{n lo hi:Int}:within n lo hi=true↔lo<=n/\n<=hi:=by simp[within]
def aNG{a b c d:Int}{p q r s:Bool}(h:(bif p then a else bif q then b else bif r then c else bif s then d else 0)=0)(ha:a≠0)(hb:b≠0)(hc:c≠0)(hd:d≠0):p=false/\q=false/\r=false/\s=false:=by cases p <;> cases q <;> cases r <;> cases s <;> simp_all
def aJ6(y:gK)(h1:aO (tK y.aQ) y.aQ.length 0=0)(h2:aO (pF y) y.bH.length 0=0)(h3:y.bH.length<=200){i:Nat}(hi:i<y.aQ.length):
  decide (JF y (y.aQ.getD i default).name>N8 (y.aQ.getD i default))=decide (GL y (y.aQ.getD i default)<0):=by
 have hp:=lQ h1 i (Nat.zero_le _) O
 have hd:∀j,0<=j->j<0+y.bH.length->0<=(y.bH.getD j default).iZ/\(y.bH.getD j default).iZ<=100000000000000:=λj _ hj=>by have h:=lQ h2 j (Nat.zero_le _) hj;unfold pF at h;have:=(aNG h dC dC dC dC).2.2.2;exact within_iff.1 (by simpa using this)
 obtain⟨t0,t1⟩:=zU y.bH (y.aQ.getD i default).name y.bH.length 0 0 dC O hd
 have hc: -40000000000000<=N8 (y.aQ.getD i default)/\N8 (y.aQ.getD i default)<=40000000000000:=by
  unfold tK at hp;have hp':qI (y.aQ.getD i default)=0:=by
   revert hp
   cases(!isName (y.aQ.getD i default).name) <;> cases((y.aQ.take i).any λz=>bE z.name (y.aQ.getD i default).name) <;> simp
  unfold qI at hp';have hr:(!within (y.aQ.getD i default).OE 1 1000000000|| !within (y.aQ.getD i default).base (-20000) 20000|| !within (y.aQ.getD i default).cb (-20000) 20000)=false:=by
   revert hp'
   cases(!within (y.aQ.getD i default).OE 1 1000000000|| !within (y.aQ.getD i default).base (-20000) 20000|| !within (y.aQ.getD i default).cb (-20000) 20000) <;> simp
  simp only[Ed,Ph]at hr;obtain⟨⟨ha,hb⟩,ht⟩:=hr;have ha:=within_iff.1 ha;have hb:=within_iff.1 hb;have ht:=within_iff.1 ht;unfold N8;generalize (y.aQ.getD i default).OE=A at*;generalize (y.aQ.getD i default).base=B at*;generalize (y.aQ.getD i default).cb=T at*;rw[aG (n:=T-B) O O];have u1:A*(T-B)<=1000000000*40000:=Tn (yz (show T-B<=40000 by omega) O) (Mi O dC);have u2: -(A*(T-B))<=1000000000*40000:=by rw[<-Int.mul_neg];exact Tn (yz (show -(T-B)<=40000 by omega) O) (Mi O dC)
  rw[aG O O];omega
 unfold GL
 have t0':0<=JF y (y.aQ.getD i default).name:=t0
 have t1':JF y (y.aQ.getD i default).name<=0+(y.bH.length:Int)*100000000000000:=t1
 rw[aG O O]
 rw[Ff]
 simp
 omega
def aEU(y:gK)(hy:y.fits):aF prog 62 [tD y] (vI (kX y)):=by
 have hp:=hy.aQ;have hd:=hy.bH;refine eP func62 rfl rfl call62 rfl rfl λR J=>aI (λh0=>?_) (λh0=>?_)
 ·exact Ia (by unfold kX;rw[h0];rfl)
 refine Hb (λi:Nat=>⟨[(1,.s (.ptr 1 0)),(3,vI i),(2,vI 0)],[(1,some (.cells (uH y)))]⟩) (λi=>i<=y.aQ.length/\aO (tK y.aQ) y.aQ.length 0=aO (tK y.aQ) (y.aQ.length-i) i) (λi=>y.aQ.length-i) 0 ⟨Nat.zero_le _,rfl⟩ ?_ ?_
 ·exact vl
 rintro i ⟨hi,hj⟩;apply eX J;apply aI<;>intro h5
 ·have h5:(i:Int)<y.aQ.length:=bG h5;rw[show y.aQ.length-i=(y.aQ.length-(i+1))+1 by omega,aO]at hj;apply oi Ha;refine oi ⟨dC,by show(0:Int)<=(i:Int);omega,by show(i:Int)<=(y.aQ.length:Int);omega⟩ ?_;have hm:=bP (l:=y.aQ) (i:=i) O;refine aB ((aEP (y.aQ.getD i default) (y.aQ.take i) (hy.vU _ hm) re (hy.aV _ hm)).conv (args':=_) ⟨⟨Ja _,Ja _,Ja _,Ja _,Ja _,Ja _,oO⟩,oA y.aQ i hi,oO⟩) (aD ?_);have hq:(bif !isName (y.aQ.getD i default).name then 4 else bif (y.aQ.take i).any (λz=>bE z.name (y.aQ.getD i default).name)then 5 else qI (y.aQ.getD i default))=tK y.aQ i:=rfl;apply aI<;>intro h6
  ·have h6:(tK y.aQ i !=0)=true:=h6;rw[h6]at hj;exact Ia (by show vI (tK y.aQ i)=_;unfold kX;rw[h0,hj];simp only[Ua,cond_true];rw[h6];rfl)
  have h6:(tK y.aQ i !=0)=false:=h6;exact zaA
 have h5:¬(i:Int)<y.aQ.length:=bF h5;have bC:i=y.aQ.length:=O;have hz1:aO (tK y.aQ) y.aQ.length 0=0:=by rw[hj,bC,Td];rfl
 clear hj hi;refine aB (PK y hy) (aI (λh1=>?_) (λh1=>?_))
 ·exact Ia (by unfold kX;rw[h0,hz1,h1];rfl)
 have hY:kX y=pM y:=by unfold kX;rw[h0,hz1,h1];rfl
 rw[hY];apply aI<;>intro h2
 ·exact Ia (by unfold pM;rw[h2];rfl)
 refine Hb (λi:Nat=>⟨[(1,.s (.ptr 1 0)),(6,vI i),(2,vI 0)],[(1,some (.cells (uH y)))]⟩) (λi=>i<=y.bH.length/\aO (pF y) y.bH.length 0=aO (pF y) (y.bH.length-i) i) (λi=>y.bH.length-i) 0 ⟨Nat.zero_le _,rfl⟩ ?_ ?_
 ·exact vl
 rintro i ⟨hi,hj⟩;apply eX J;apply aI<;>intro h5
 ·have h5:(i:Int)<y.bH.length:=bG h5;rw[show y.bH.length-i=(y.bH.length-(i+1))+1 by omega,aO]at hj;have hE:∀e:Int,e≠0->pF y i=e->pM y=e:=λe he h=>by
   have DT:(e !=0)=true:=by simpa using he
   rw[h,DT]at hj;unfold pM;rw[h2,hj];exact ct
  refine oi Ha (aB (cI _ _ _) ?_);apply aI<;>intro h6
  ·exact zaR
  have h6:(!within (y.bH.getD i default).Od 1 1000000)=false:=h6;refine oi ⟨dC,by show(0:Int)<=(i:Int);omega,by show(i:Int)<=(y.bH.length:Int);omega⟩ ?_;refine aB ((S9 (y.bH.take i) (y.bH.getD i default).Od re).conv (args':=_) ⟨oA y.bH i hi,Ja _,oO⟩) (aD ?_);apply aI<;>intro h7
  ·exact zc7
  refine aB (aAV y.aQ (y.bH.getD i default).dN hp) (aI (λh8=>?_) (λh8=>?_))
  ·exact zc1
  refine aB (cI _ _ _) (aI (λh9=>?_) (λh9=>?_))
  ·exact zar
  have h9:(!within (y.bH.getD i default).iZ 0 100000000000000)=false:=h9;have h:pF y i=0:=by unfold pF;rw[h6,h7,h8,h9];rfl
  exact zx
 have h5:¬(i:Int)<y.bH.length:=bF h5;have bC:i=y.bH.length:=O;have hz2:aO (pF y) y.bH.length 0=0:=by rw[hj,bC,Td];rfl
 clear hj hi;have hD:pM y=aO (D1 y) y.aQ.length 0:=by unfold pM;rw[h2,hz2];rfl
 have aPZ:y.bH.length<=200:=by have:=bF h2;omega
 refine Hb (λi:Nat=>⟨[(1,.s (.ptr 1 0)),(8,vI i),(2,vI 0)],[(1,some (.cells (uH y)))]⟩) (λi=>i<=y.aQ.length/\pM y=aO (D1 y) (y.aQ.length-i) i) (λi=>y.aQ.length-i) 0 ⟨Nat.zero_le _,hD⟩ ?_ ?_
 ·exact vl
 rintro i ⟨hi,hj⟩;apply eX J;apply aI<;>intro h5
 ·have h5:(i:Int)<y.aQ.length:=bG h5;rw[show y.aQ.length-i=(y.aQ.length-(i+1))+1 by omega,aO]at hj;refine aB (aIA y i O hd) (oi Ha ?_);refine aB (XX (y.aQ.getD i default)) (aD ?_);have he:=aJ6 y hz1 hz2 aPZ (i:=i) O;apply aI<;>intro h6
  ·have h6:decide (JF y (y.aQ.getD i default).name>N8 (y.aQ.getD i default))=true:=h6;rw[he]at h6;exact zcG
  have h6:decide (JF y (y.aQ.getD i default).name>N8 (y.aQ.getD i default))=false:=h6;rw[he]at h6;have h:D1 y i=0:=by unfold D1;rw[h6];rfl
  exact zx
 exact zbo
def ZH(z:List wa)(n:Nat)(g:Nat->Nat->DV):Nat->Nat->DV:=N1 0 n (λ_ j=>match (iB z)[j]? with|some c=>OP c|none=>.bL) g
def IQ{z:List wa}{n:Nat}{g:Nat->Nat->DV}{i j:Nat}(h:i<n):ZH z n g i j=g i j:=by unfold ZH N1;rw[La ⟨Nat.zero_le _,O⟩,ak]
def AM(l:List uF)(h0:0<l.length)(hl:l.length<=1000000):bW prog 248 [vQ l] [] (.s (.own 9)) [(9,.row 116 l.length 6 (ZH Uo.zero l.length (EF l)))]:=by
 refine eG (rc:=[]) (N:=14) func248 rfl rfl call248 aJ mix rfl rfl rfl rfl (λR _=>?_);refine aI (λh=>?_) (λ_=>?_)
 ·exact Yu
 refine⟨O,Me _,by show(72:Int)*(l.length:Int)<=281474976710656;omega,?_⟩;refine ob (λk j hk hj=>by
  have hj:j<6:=hj
  match j,hj with
  |0,_=>rfl
  |1,_=>rfl
  |2,_=>rfl
  |3,_=>rfl
  |4,_=>rfl
  |5,_=>rfl) ?_
 refine⟨Ta,?_,oO⟩;have e:Nat.min l.length l.length=l.length:=Ol _;show some (some (jK.row 116 l.length 6 (ZH Uo.zero (Nat.min l.length l.length) (EF l))))=_;rw[e]
def ZG(l:List uF)(hl:l.length<=1000000):aF prog 248 [vQ l] (vQ l):=by
 refine eP func248 rfl rfl call248 rfl rfl λR _=>aI (λh=>?_) (λ_=>?_)
 ·exact uq
 refine⟨O,Me _,by show(72:Int)*(l.length:Int)<=281474976710656;omega,?_⟩;refine ob (λk j hk hj=>by
  have hj:j<6:=hj
  match j,hj with
  |0,_=>rfl
  |1,_=>rfl
  |2,_=>rfl
  |3,_=>rfl
  |4,_=>rfl
  |5,_=>rfl) ?_
 have e:Nat.min l.length l.length=l.length:=Ol _;refine Fg (x:=.s (.d (.fU l.length 6 (ZH Uo.zero (Nat.min l.length l.length) (EF l))))) (Yc λi j hi hj=>Wa ?_);rw[e];exact IQ hi
def vL(l:List nM)(hl:l.length<=1000000):aF prog 249 [A0 l] (A0 l):=by
 refine eP func249 rfl rfl call249 rfl rfl λR _=>aI (λh=>?_) (λ_=>?_)
 ·exact uq
 refine⟨O,Me _,by show(32:Int)*(l.length:Int)<=281474976710656;omega,?_⟩;refine ob (λk j hk hj=>by
  have hj:j<3:=hj
  match j,hj with
  |0,_=>rfl
  |1,_=>rfl
  |2,_=>rfl) ?_
 have e:Nat.min l.length l.length=l.length:=Ol _;refine Fg (x:=.s (.d (.fU l.length 3 (ZH Nx.zero (Nat.min l.length l.length) (aHJ l))))) (Yc λi j hi hj=>Wa ?_);rw[e];exact IQ hi
def UL(l:List OQ)(h0:0<l.length)(hl:l.length<=1000000):bW prog 250 [wU l] [] (.s (.own 9)) [(9,.row 224 l.length 3 (ZH nq.zero l.length (E7 l)))]:=by
 refine eG (rc:=[]) (N:=14) func250 rfl rfl call250 aJ mix rfl rfl rfl rfl (λR _=>?_);refine aI (λh=>?_) (λ_=>?_)
 ·exact Yu
 refine⟨O,Me _,by show(32:Int)*(l.length:Int)<=281474976710656;omega,?_⟩;refine ob (λk j hk hj=>by
  have hj:j<3:=hj
  match j,hj with
  |0,_=>rfl
  |1,_=>rfl
  |2,_=>rfl) ?_
 refine⟨Ta,?_,oO⟩;have e:Nat.min l.length l.length=l.length:=Ol _;show some (some (jK.row 224 l.length 3 (ZH nq.zero (Nat.min l.length l.length) (E7 l))))=_;rw[e]
def LY(l:List OQ)(hl:l.length<=1000000):aF prog 250 [wU l] (wU l):=by
 refine eP func250 rfl rfl call250 rfl rfl λR _=>aI (λh=>?_) (λ_=>?_)
 ·exact uq
 refine⟨O,Me _,by show(32:Int)*(l.length:Int)<=281474976710656;omega,?_⟩;refine ob (λk j hk hj=>by
  have hj:j<3:=hj
  match j,hj with
  |0,_=>rfl
  |1,_=>rfl
  |2,_=>rfl) ?_
 have e:Nat.min l.length l.length=l.length:=Ol _;refine Fg (x:=.s (.d (.fU l.length 3 (ZH nq.zero (Nat.min l.length l.length) (E7 l))))) (Yc λi j hi hj=>Wa ?_);rw[e];exact IQ hi
def IP(l:List Int)(h0:0<l.length)(hl:l.length<=1000000):bW prog 251 [iR l] [] (.s (.own 9)) [(9,.row 3 l.length 1 (ZH lp.zero l.length (cP l)))]:=by
 refine eG (rc:=[]) (N:=14) func251 rfl rfl call251 aJ mix rfl rfl rfl rfl (λR _=>?_);refine aI (λh=>?_) (λ_=>?_)
 ·exact Yu
 refine⟨O,Me _,by show(8:Int)*(l.length:Int)<=281474976710656;omega,?_⟩;refine ob (λk j hk hj=>by
  have hj:j<1:=hj
  match j,hj with
  |0,_=>rfl) ?_
 refine⟨Ta,?_,oO⟩;have e:Nat.min l.length l.length=l.length:=Ol _;show some (some (jK.row 3 l.length 1 (ZH lp.zero (Nat.min l.length l.length) (cP l))))=_;rw[e]
def uA(l:List Int)(hl:l.length<=1000000):aF prog 251 [iR l] (iR l):=by
 refine eP func251 rfl rfl call251 rfl rfl λR _=>aI (λh=>?_) (λ_=>?_)
 ·exact uq
 refine⟨O,Me _,by show(8:Int)*(l.length:Int)<=281474976710656;omega,?_⟩;refine ob (λk j hk hj=>by
  have hj:j<1:=hj
  match j,hj with
  |0,_=>rfl) ?_
 have e:Nat.min l.length l.length=l.length:=Ol _;refine Fg (x:=.s (.d (.fU l.length 1 (ZH lp.zero (Nat.min l.length l.length) (cP l))))) (Yc λi j hi hj=>Wa ?_);rw[e];exact IQ hi
structure gK.small(y:gK):Prop where
 aQ:y.aQ.length<=1000000
 bA:y.bA.length<=1000000
 bH:y.bH.length<=1000000
 carry:y.carry.length<=1000000
 aV:∀x∈y.aQ,x.aV.length<=1000000
def yR{α:Type} [Inhabited α] {z:List wa}{s:Nat}{el:α->Nat->DV}(l:List α):iJ s l.length (ZH z l.length (λi=>el (l.getD i default))) el l:=
 ⟨rfl,λ_ _ hi _=>IQ hi⟩
def N5(l:List uF)(i:Nat):iJ 6 l.length (eT (EF l) i 4 [.d (b5 (l.getD i default).aV)]) X0 l:=by
 refine⟨rfl,λk j hk hj=>?_⟩;unfold eT;by_cases h:k=i
 ·subst h;rw[La rfl]
  match j,hj with
  |0,_=>rfl
  |1,_=>rfl
  |2,_=>rfl
  |3,_=>rfl
  |4,_=>rfl
  |5,_=>rfl
 rw[Ka h];rfl
def copied(y:gK)(h:y.small):aF prog 190 [tD y] (tD y):=by
 have hp:=h.aQ;by_cases h0:y.aQ=[]
 ·refine eP func190 rfl rfl call190 rfl rfl λR J=>aB (ZG y.aQ h.aQ) (aB (vL y.bA h.bA) ?_)
  refine aB (LY y.bH h.bH) (aB (uA y.carry h.carry) ?_);refine aD ?_;have hz:y.aQ.length=0:=by rw[h0];rfl
  refine Hb (λ_:Nat=>⟨[(2,.s (.ptr 2 0)),(3,.s (.ptr 3 0)),(20,vI y.aQ.length),(21,vI 0)],[(2,some (.cells (iB Fe.zero))),(3,some (.cells (uH y)))]⟩) (λ_=>True) (λ_=>0) 0 trivial ?_ ?_
  ·refine Zb J Ga Ga
  rintro i -;apply eX J;apply aI<;>intro h5
  ·have h5:(0:Int)<y.aQ.length:=bG h5;omega
  exact db _
 have y1:0<y.aQ.length:=Nh.2 h0;refine gI (rc:=[1000248]) (N:=38) func190 rfl rfl call190 aJ mix rfl rfl (λR J=>?_);refine⟨[(9,501)],_,_,_,_,AM y.aQ y1 h.aQ,rfl,rfl,rfl,?_⟩;refine aB (vL y.bA h.bA) (aB (LY y.bH h.bH) ?_);refine aB (uA y.carry h.carry) (aD ?_);refine Gb (λi:Nat=>⟨[(2,.s (.ptr 2 0)),(3,.s (.ptr 3 0)),(20,vI y.aQ.length),(21,vI i)],[(2,some (.cells (iB Fe.zero))),(3,some (.cells [.own 501,.d (oY y.bA),.d (LU y.bH),.d (b5 y.carry)])),(501,some (.row 116 y.aQ.length 6 (EF y.aQ)))]⟩) (λi=>i<=y.aQ.length) (λi=>y.aQ.length-i) 0 (Nat.zero_le _) ?_ ?_
 ·exact Qa J [] rfl ⟨bQ,bQ,⟨rfl,(yR (el:=X0) y.aQ).row⟩,oO⟩ Fa
 intro i hi;apply eX J;apply aI<;>intro h5
 ·have h5:(i:Int)<y.aQ.length:=bG h5;refine oi Ha (oi tl ?_);refine aB (uA (y.aQ.getD i default).aV (h.aV _ (bP O))) (oi Ha ?_);refine ob tl (aD ?_);refine⟨i+1,O,O,?_⟩;exact Qa J [] rfl ⟨bQ,bQ,⟨rfl,(N5 y.aQ i).row⟩,oO⟩ Fa
 exact db _
def BL(p:List uF)(b:List nM):gK:=⟨p,b,[],List.replicate b.length 0⟩
def noY:gK:=⟨[],[],[],[]⟩
def PW(p:List uF)(b:List nM):Int:=kX (BL p b)
def G7(p:List uF)(b:List nM):gK:=bif PW p b !=0 then noY else BL p b
def DK{p:List uF}{b:List nM}(h:(BL p b).small)(h1:∀x∈p,x.name.size<=9223372036854775807)(h2:∀x∈b,x.aN.size<=9223372036854775807):(BL p b).fits where
 aQ:=by have:=h.aQ;omega
 bA:=by have:=h.bA;omega
 bH:=by have:=h.bH;omega
 carry:=by have:=h.carry;omega
 vU:=h1
 rB:=h2
 aV:=λx hx=>by have:=h.aV x hx;omega
def bt(n:Nat):aK (.fU n 1 λ_ j=>match (iB [Value.int .i64 0])[j]? with|some c=>OP c|none=>.bL) (b5 (List.replicate n 0)):=by
 refine Qe sM λi j hi hj=>?_
 have:j=0:=O;subst this;apply Wa;show dI 0=dI _;rw[aX yu];simp
def aNC(p:List uF)(b:List nM)(h:(BL p b).small)(h1:∀x∈p,x.name.size<=9223372036854775807)(h2:∀x∈b,x.aN.size<=9223372036854775807):
  aF prog 122 [vQ p,A0 b] (.t [.g (uH (G7 p b)),.s (.d (dI (PW p b)))]):=by
 have hb:=h.bA
 have hb:b.length<=1000000:=hb
 refine gI (rc:=[2000190]) (N:=22) func122 rfl rfl call122 aJ mix rfl rfl (λR J=>?_)
 refine⟨O,Me _,by show(8:Int)*(b.length:Int)<=281474976710656;omega,?_⟩
 refine aB ((aDA (BL p b) (DK h h1 h2)).conv (args':=_) ⟨⟨Ja _,Ja _,Nd,bt _,oO⟩,oO⟩) ?_
 apply aI<;>intro h5
 ·have hr:G7 p b=noY:=by unfold G7 PW;rw[h5];rfl
  rw[hr];exact Re ⟨⟨Nd,Nd,Nd,Nd,oO⟩,Ja _,oO⟩
 ·have hr:G7 p b=BL p b:=by unfold G7 PW;rw[h5];rfl
  have h0:PW p b=0:=by unfold PW;simpa using h5
  rw[hr,h0];refine⟨[12],_,(copied (BL p b) h).conv (args':=_) ⟨⟨Ja _,Ja _,Nd,bt _,oO⟩,oO⟩,?_⟩;exact db _
structure Proj.fits(p:Proj):Prop where
 name:p.name.size<=9223372036854775807
 aT:p.aT.levels.length<=9223372036854775807
 chan:p.chan.ok
 Ya:p.chan.Ya.length<=9223372036854775807
 gr:p.gr.fits
 cO:p.cO.length<=9223372036854775807
 cU:p.cU.length<=9223372036854775807
 small:(BL p.aQ p.bA).small
 vU:∀x∈p.aQ,x.name.size<=9223372036854775807
 rB:∀x∈p.bA,x.aN.size<=9223372036854775807
def iG(p:Proj):Int:=
 bif !isName p.name then 4
 else bif kC p.aT !=0 then kC p.aT
 else bif decide (p.aT.side>1000)||decide ((p.aT.levels.length:Int)>100)then 8
 else bif mU p.chan !=0 then mU p.chan
 else bif dX p.gr !=0 then dX p.gr
 else bif !within p.agree 0 1000|| !within p.fG 0 1000000 then 2
 else bif nN p !=0 then nN p
 else PW p.aQ p.bA
def N7(p:Proj)(h:p.fits):aF prog 65 [oR p] (vI (iG p)):=by
 refine eP func65 rfl rfl call65 rfl rfl λR J=>?_
 refine aB (BJ p.name h.name) ?_
 apply aI<;>intro h1
 ·exact Ia (by unfold iG;rw[h1];rfl)
 refine aB (UW p.aT h.aT) ?_
 apply aI<;>intro h2
 ·exact Ia (by unfold iG;rw[h1,h2];rfl)
 repeat refine aR ?_
 apply aI<;>intro h3
 ·exact zef
 refine aB (aCT p.chan h.chan) ?_
 apply aI<;>intro h4
 ·exact zdY
 refine aB (E8 p.gr h.gr) ?_
 apply aI<;>intro h5
 ·exact zdN
 refine aB (lV 0 1000 p.agree rfl) ?_
 repeat refine aR ?_
 have rest:(!within p.agree 0 1000|| !within p.fG 0 1000000)=true->iG p=2:=λh6=>by unfold iG;rw[h1,h2,h3,h4,h5,h6];rfl
 apply aI<;>intro h6
 ·apply ob rm
  refine aB (lV 0 1000000 p.fG rfl) ?_
  repeat refine aR ?_
  apply aI<;>intro h7
  ·have h7:(!within p.fG 0 1000000)=true:=h7
   exact Ia (by rw[rest (by rw[h6,h7];rfl)];rfl)
  have h7:(!within p.fG 0 1000000)=false:=h7
  have h8:(!within p.agree 0 1000|| !within p.fG 0 1000000)=false:=by rw[h6,h7];rfl
  refine aB (RW p h.gr.bK h.cO) ?_
  apply aI<;>intro h9
  ·have ht:nN p=rW p:=by unfold nN;rw[h9];rfl
   exact Ia (by unfold iG;rw[h1,h2,h3,h4,h5,h8,ht,h9];rfl)
  have ht:nN p=rR p:=by unfold nN;rw[h9];rfl
  refine aB (J7 p h.Ya h.cU) ?_
  apply aI<;>intro h10
  ·exact zdf
  refine aB (aNC p.aQ p.bA h.small h.vU h.rB) ?_
  exact zdf
 ·have h6:(!within p.agree 0 1000)=true:=h6
  exact Ia (by rw[rest rm];rfl)
def aH5(p:Proj)(h:(BL p.aQ p.bA).small):aF prog 63 [oR p] (tD (BL p.aQ p.bA)):=by
 have hb:p.bA.length<=1000000:=h.bA;refine eP func63 rfl rfl call63 rfl rfl λR J=>?_
 refine⟨O,Me _,by show(8:Int)*(p.bA.length:Int)<=281474976710656;omega,?_⟩;exact aD (Fg ⟨Ja _,Ja _,Nd,bt _,oO⟩)
def JM(p:Proj)(h:p.fits):aF prog 31 [oR p] (vI (iG p)):=by
 refine eP func31 rfl rfl call31 rfl rfl λR J=>?_
 refine aB (sW p.name h.name) ?_
 apply aI<;>intro h1
 ·exact Ia (by unfold iG;rw[h1];rfl)
 refine aB (aKF p.aT h.aT) ?_
 apply aI<;>intro h2
 ·exact Ia (by unfold iG;rw[h1,h2];rfl)
 repeat refine aR ?_
 apply aI<;>intro h3
 ·exact zef
 refine aB (aIE p.chan h.chan) ?_
 apply aI<;>intro h4
 ·exact zdY
 refine aB (MH p.gr h.gr) ?_
 apply aI<;>intro h5
 ·exact zdN
 refine aB (cI _ _ _) ?_
 repeat refine aR ?_
 refine bR (cI _ _ _) ?_
 repeat refine aR ?_
 apply aI<;>intro h6
 ·exact Ia (by unfold iG;rw[h1,h2,h3,h4,h5,h6];rfl)
 refine aB (PI p h.gr.bK h.cO h.Ya h.cU) ?_
 apply aI<;>intro h7
 ·exact zdp
 refine aB (aH5 p h.small) ?_
 refine aB (aEU (BL p.aQ p.bA) (DK h.small h.vU h.rB)) ?_
 exact zdp
abbrev xT(f:Fact):List SV:=[.d (dI f.kind),.d (dI f.seq),.d (dI f.a8),.d (dI f.month),.d (dI f.number),.d (dI f.aT),.d (dI f.over),.d (dI f.Jb),.d (dI f.target),.d (dS f.aN),.d (dS f.dN),.d (dS f.eS),.d (b5 f.levels)]
def kA(f:Fact):Bool:= !within f.month 1 24|| !within f.aT 1 1000000000000|| !within f.over 0 f.aT|| !within f.Jb 0 9
def jS(f:Fact):Int:=
 bif !within f.seq 0 1000000 then 2
 else bif f.kind==0 then(bif f.levels.any iQ then 2 else bif decide ((f.levels.length:Int)>100)then 8 else 0)
 else bif f.kind==1 then(bif kA f then 2 else bif !isName f.aN|| !isName f.dN then 4 else 0)
 else 0
def XQ(n:Int):aF prog 253 [vI n] (vB (iQ n)):=by
 refine eP func253 rfl rfl call253 rfl rfl λR _=>?_
 repeat refine aR ?_
 apply aI<;>intro h
 ·apply ob Uk
  refine aB (lV (-20000) 20000 n rfl) ?_
  repeat refine aR ?_
  exact Ia (by show vB _=vB _;unfold iQ;rw[h];rfl)
 ·have h:(n !=30000)=false:=h
  exact wc (by unfold iQ;rw[h];rfl)
structure Fact.fits(f:Fact):Prop where
 levels:f.levels.length<=9223372036854775807
 aN:f.aN.size<=9223372036854775807
 dN:f.dN.size<=9223372036854775807
 eS:f.eS.size<=9223372036854775807
def uB(f:Fact)(hf:f.fits):aF prog 192 [pX f] (vI (jS f)):=by
 refine eP func192 rfl rfl call192 rfl rfl λR _=>?_
 refine aB (lV 0 1000000 f.seq rfl) ?_
 apply aI<;>intro h1
 ·exact Ia (by unfold jS;rw[h1];rfl)
 apply aI<;>intro h2
 ·have h2:(f.kind==0)=true:=h2
  refine aB ((tZ f.levels hf.levels 253 0 (λ_=>.bL) iQ (λx _=>XQ x)).conv (args':=_) ⟨Ja _,sf λj hj=>absurd hj (cd j),oO⟩) ?_
  apply aI<;>intro h3
  ·exact zeg
  apply aI<;>intro h4
  ·exact zdZ
  ·exact zdZ
 have h2:(f.kind==0)=false:=h2
 apply aI<;>intro h3
 ·have h3:(f.kind==1)=true:=h3
  refine aB (lV 1 24 f.month rfl) ?_
  repeat refine aR ?_
  have bad:kA f=true->jS f=2:=λh=>by unfold jS;rw[h1,h2,h3,h];rfl
  apply aI<;>intro h4
  ·refine ob (by rw[h4];rfl) ?_
   refine aB (lV 1 1000000000000 f.aT rfl) ?_
   repeat refine aR ?_
   apply aI<;>intro h5
   ·have h5':(!within f.aT 1 1000000000000)=false:=h5
    refine ob (by rw[h5];rfl) ?_
    refine ob (by rw[h5];rfl) ?_
    refine aB (lV 0 f.aT f.over rfl) ?_
    repeat refine aR ?_
    apply aI<;>intro h6
    ·have h6':(!within f.over 0 f.aT)=false:=h6
     apply ob rm
     refine aB (lV 0 9 f.Jb rfl) ?_
     repeat refine aR ?_
     apply aI<;>intro h7
     ·have h7':(!within f.Jb 0 9)=true:=h7
      exact Ia (by rw[bad (by unfold kA;rw[h4,h5',h6',h7'];rfl)];rfl)
     have h7':(!within f.Jb 0 9)=false:=h7
     have hb:kA f=false:=by unfold kA;rw[h4,h5',h6',h7'];rfl
     refine aB (BJ f.aN hf.aN) ?_
     repeat refine aR ?_
     refine bR (BJ f.dN hf.dN) ?_
     repeat refine aR ?_
     apply aI<;>intro h8
     ·have h8:(!isName f.aN|| !isName f.dN)=true:=h8
      exact zdO
     ·have h8:(!isName f.aN|| !isName f.dN)=false:=h8
      exact zdO
    ·have h6':(!within f.over 0 f.aT)=true:=h6
     exact Ia (by rw[bad (by unfold kA;rw[h4,h5',h6'];rfl)];rfl)
   ·have h5':(!within f.aT 1 1000000000000)=true:=h5
    exact Ia (by rw[bad (by unfold kA;rw[h4,h5'];rfl)];rfl)
  ·have h4:(!within f.month 1 24)=true:=h4
   exact Ia (by rw[bad (by unfold kA;rw[h4];rfl)];rfl)
 have h3:(f.kind==1)=false:=h3
 exact zeg
def aH3(n:Int):aF prog 172 [vI n] (vB (!iQ n)):=by
 refine eP func172 rfl rfl call172 rfl rfl λR _=>?_
 repeat refine aR ?_
 refine bR (cI _ _ _) ?_
 repeat refine aR ?_
 apply Ia
 show vB (n==30000||within n (-20000) 20000)=vB (!iQ n)
 unfold iQ
 cases h:n==30000 <;> simp[bne,h]
def aAZ(f:Fact):aF prog 170 [pX f] (vI (bif f.kind==3 then f.target else f.kind)):=by
 refine eP func170 rfl rfl call170 rfl rfl λR _=>aI (λh=>?_) (λh=>?_)
 ·have h:(f.kind==3)=true:=h;exact Ia Uk
 have h:(f.kind==3)=false:=h;exact Ia Uk
def mJ(f:Fact):Bool:=
 bif !within f.seq 0 1000000 then false else bif f.kind==1 then !kA f else bif f.kind==0 then !f.levels.any iQ else true
def EG(f:Fact):(within f.month 1 24&&within f.aT 1 1000000000000&&within f.over 0 f.aT&&within f.Jb 0 9)= !kA f:=by
 unfold kA
 cases within f.month 1 24 <;> cases within f.aT 1 1000000000000 <;> cases within f.over 0 f.aT <;> cases within f.Jb 0 9 <;> rfl
def aEO(f:Fact)(hf:f.fits):aF prog 116 [pX f] (vB (mJ f)):=by
 have hl:=hf.levels
 refine eP func116 rfl rfl call116 rfl rfl λR J=>?_
 refine aB (cI _ _ _) ?_
 apply aI<;>intro h1
 ·exact wc (by unfold mJ;rw[h1];rfl)
 apply aI<;>intro h2
 ·have h2:(f.kind==1)=true:=h2
  refine aB (cI _ _ _) ?_
  repeat refine aR ?_
  refine bR (cI _ _ _) ?_
  repeat refine aR ?_
  refine bR (cI _ _ _) ?_
  repeat refine aR ?_
  refine bR (cI _ _ _) ?_
  repeat refine aR ?_
  apply Ia
  have he:mJ f= !kA f:=by unfold mJ;rw[h1,h2];rfl
  rw[he,<-EG]
  rfl
 have h2:(f.kind==1)=false:=h2
 have he:mJ f=bif f.kind==0 then !f.levels.any iQ else true:=by unfold mJ;rw[h1,h2];rfl
 refine Hb (λi:Nat=>⟨[(1,.s (.ptr 1 0)),(3,vI i),(2,.s (.d (.lit false)))],[(1,some (.cells (xT f)))]⟩) (λi=>i<=f.levels.length/\f.levels.any iQ=(f.levels.drop i).any iQ) (λi=>f.levels.length-i) 0 ⟨Nat.zero_le _,rfl⟩ ?_ ?_
 ·exact vl
 ·rintro i ⟨hi,hj⟩
  apply eX J
  repeat refine aR ?_
  apply aI<;>intro h5
  ·have h5:(decide ((i:Int)<f.levels.length)&&f.kind==0)=true:=h5
   simp only[Bool.and_eq_true,ae]at h5
   obtain⟨h5,h0⟩:=h5
   have bC:i<f.levels.length:=O
   have hd:f.levels.drop i=f.levels[i]::f.levels.drop (i+1):=Ve bC
   have hg:f.levels.getD i 0=f.levels[i]:=aX bC
   apply oi Ha
   refine aB (aH3 _) ?_
   rw[hd,Vg,<-hg]at hj
   apply aI<;>intro h6
   ·have h6:(!(!iQ (f.levels.getD i 0)))=true:=h6
    rw[Bool.not_not]at h6
    exact wc (by rw[he,h0,hj,h6];rfl)
   ·have h6:(!(!iQ (f.levels.getD i 0)))=false:=h6
    rw[Bool.not_not]at h6
    exact zaA
  ·have h5:(decide ((i:Int)<f.levels.length)&&f.kind==0)=false:=h5
   apply wc
   rw[he]
   cases h0:f.kind==0 with
   |false=>rfl
   |true=>
    rw[h0,Uh]at h5
    have h5:=bF h5
    have bC:i=f.levels.length:=O
    rw[hj,bC,Sg];rfl
end Go.Pj
namespace Go.Ch
open Go Go.Ax Go.Proofs Go.Proofs.Tryz
def uW(l:List Int)(x:Int):Nat->Nat->Int
 |0,_=> -1
 |n+1,i=>bif x==l.getD i 0 then(i:Int)else uW l x n (i+1)
def aKI(l:List Int)(x:Int)(hl:l.length<=1000000):aF prog 335 [iR l,vI x] (vI (uW l x l.length 0)):=by
 refine eP func335 rfl rfl call335 rfl rfl λR J=>Gb (λi:Nat=>⟨[(0,iR l),(1,vI x),(7,vI l.length),(8,vI i)],[]⟩) (λi=>i<=l.length/\uW l x l.length 0=uW l x (l.length-i) i) (λi=>l.length-i) 0 ⟨Nat.zero_le _,rfl⟩ ?_ ?_
 ·exact Vu
 rintro i ⟨hi,hj⟩;apply eX J;apply aI<;>intro h
 ·have h:(i:Int)<l.length:=bG h;rw[show l.length-i=(l.length-(i+1))+1 by omega,uW]at hj;apply oi Ha;apply aI<;>intro h2
  ·have h2:(x==l.getD i 0)=true:=h2;exact Ia (by rw[hj,h2];rfl)
  have h2:(x==l.getD i 0)=false:=h2;refine⟨i+1,⟨O,by rw[hj,h2];rfl⟩,O,?_⟩;exact zcB
 have h:¬(i:Int)<l.length:=bF h;rw[show l.length-i=0 by omega]at hj;exact Ia (by rw[hj];rfl)
def QN{l:List Int}{x:Int}:∀n i,i+n=l.length->decide (uW l x n i>=0)=(l.drop i).contains x
 |0,i,h=>by rw[Kz O];rfl
 |n+1,i,h=>by
  have hi:i<l.length:=O;rw[uW,Ve hi];have e:l.getD i 0=l[i]:=by simp[hi]
  rw[e]
  cases hx:x==l[i]with
  |true=>simp only[cond_true,ny,hx,Bool.true_or];exact pc O
  |false=>simp only[Ua,ny,hx,Ml];exact QN n (i+1) O
def Z0(l:List Int)(x:Int)(hl:l.length<=1000000):aF prog 293 [iR l,vI x] (vB (l.contains x)):=by
 refine eP func293 rfl rfl call293 rfl rfl λR J=>aB (aKI l x hl) (Ia ?_)
 show vB (decide (uW l x l.length 0>=0))=_;rw[QN l.length 0 O];rfl
end Go.Ch
