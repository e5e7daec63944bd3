/- Part 5: lemmas that the proofs of this seat share; by itself it claims nothing. -/
import Derived.Lib.ItoaNum
import Derived.WalkKit
import Derived.Laws.Externs
import Derived.Test.YtaalojbkjiplcaaGreatDoorPt4
set_option maxRecDepth 100000
set_option maxHeartbeats 1000000
namespace Go.Ch
open Go Go.Ax Go.Proofs Go.Proofs.Tryz
theorem mix:prog.follows .mixedOrders=true:=kR
structure Pt where
 x:Int
 y:Int
 deriving DecidableEq,Inhabited
structure Ap where
 x:Int
 y:Int
 half:Int
 level:Int
 run:Int
 deriving DecidableEq,Inhabited
structure FB where
 name:ByteArray
 kind:Int
 qN:List Pt
 deriving Inhabited
structure kO where
 name:ByteArray
 a8:List Ap
 over:Int
 buffer:Int
 regions:List FB
 deriving Inhabited
structure fS where
 x:Int
 y:Int
 side:Int
 dP:Int
 rows:Int
 levels:List Int
 deriving Inhabited
abbrev dS(s:ByteArray):DV:=.val (.string s)
abbrev vS(s:ByteArray):AV:=.s (.d (dS s))
abbrev pt(p:Pt):AV:=.g [.d (dI p.x),.d (dI p.y)]
abbrev ap(p:Ap):AV:=.g [.d (dI p.x),.d (dI p.y),.d (dI p.half),.d (dI p.level),.d (dI p.run)]
def EX(p:Pt):Nat→DV
 |0=>dI p.x
 |1=>dI p.y
 |_=>.bC
def apD(p:Ap):Nat→DV
 |0=>dI p.x
 |1=>dI p.y
 |2=>dI p.half
 |3=>dI p.level
 |4=>dI p.run
 |_=>.bC
def aLJ(l:List Pt):Nat→Nat→DV:=fun i=>EX (l.getD i default)
def aG8(l:List Pt):DV:=.fJ l.length 2 (aLJ l)
abbrev FY(l:List Pt):AV:=.s (.d (aG8 l))
def aM6(l:List Ap):Nat→Nat→DV:=fun i=>apD (l.getD i default)
def BE(l:List Ap):DV:=.fJ l.length 5 (aM6 l)
def aLF(p:FB):Nat→DV
 |0=>dS p.name
 |1=>dI p.kind
 |2=>aG8 p.qN
 |_=>.bC
abbrev reg(p:FB):AV:=.g [.d (dS p.name),.d (dI p.kind),.d (aG8 p.qN)]
def ZB(l:List FB):Nat→Nat→DV:=fun i=>aLF (l.getD i default)
def HK(l:List FB):DV:=.fJ l.length 3 (ZB l)
abbrev ND(l:List FB):AV:=.s (.d (HK l))
abbrev aK7(l:List Ap):AV:=.s (.d (BE l))
abbrev chan(c:kO):AV:=.g [.d (dS c.name),.d (BE c.a8),.d (dI c.over),.d (dI c.buffer),.d (HK c.regions)]
abbrev yS(g:fS):AV:=.g [.d (dI g.x),.d (dI g.y),.d (dI g.side),.d (dI g.dP),.d (dI g.rows),.d (cG g.levels)]
theorem bA{α:Type} [Inhabited α] {l:List α}{i:Nat}(h:i<l.length){d:α}:l.getD i d=l[i]:=by simp[List.getElem?_eq_getElem h]
theorem cB{p:Prop} [Decidable p] (h:decide p=true):p:=of_decide_eq_true h
theorem cD{p:Prop} [Decidable p] (h:decide p=false):¬p:=of_decide_eq_false h
def within(n lo hi:Int):Bool:=decide (n≥lo)&&decide (n≤hi)
def oZ(a b c:Pt):Int:=aU (aU (aU (b.x - a.x)*aU (c.y - a.y)) - aU (aU (b.y - a.y)*aU (c.x - a.x)))
def dot(a b c:Pt):Int:=aU (aU (aU (b.x - a.x)*aU (c.x - a.x))+aU (aU (b.y - a.y)*aU (c.y - a.y)))
def kX(a b p:Pt):Bool:=oZ a b p==0&&within p.x (mm false a.x b.x) (mm true a.x b.x)&&within p.y (mm false a.y b.y) (mm true a.y b.y)
def sgn(n:Int):Int:=if n<0 then -1 else if n>0 then 1 else 0
def meet(a b c d:Pt):Bool:=
 (((kX a b c||kX a b d)||kX c d a)||kX c d b)||(decide (aU (sgn (oZ a b c)*sgn (oZ a b d))<0)&&decide (aU (sgn (oZ c d a)*sgn (oZ c d b))<0))
def fY(p:Pt):Bool:=within p.x (-1000000) 1000000&&within p.y (-1000000) 1000000
def Ap.pt(a:Ap):Pt:=⟨a.x,a.y⟩
end Go.Ch
namespace Go.Ch
open Go Go.Ax Go.Proofs Go.Proofs.Tryz
theorem eX{cx:Cx}{N:Nat}{ref:List Nat}{c:Code}{σ:St}{K:Exit→St→Prop}(aA:cx.ref=ref)(h:ex Tryz.prog tab N ref [] cx c σ K):AW Tryz.prog cx N c σ K:=ex.sound (rc:=[]) aK mix aA _ h
theorem eP{f N:Nat}{fn:Func}{c:Code}{args:List AV}{r:AV}{rs:List ResultVar}(hf:Tryz.prog.funcs[f]? =some fn)(hb:fn.body=some c)(hN:fn.ntmps=N)(hc:∀vs w, (callFunc f vs).run Tryz.prog w=.ok (.enter f vs) w) (hl:Nat.ble args.length N=true)(hr:fn.results.toList=rs)(h:∀cx:Cx,cx.ref=[]→ex Tryz.prog tab N [] [] cx c (sY args) (VO tab rs r)):aF Tryz.prog f args r:=gA (rc:=[]) hf hb hN hc aK mix hl hr h
theorem eW{f N:Nat}{fn:Func}{c:Code}{args:List AV}{r:AV}{rs:List ResultVar}(hf:Tryz.prog.funcs[f]? =some fn)(hb:fn.body=some c)(hN:fn.ntmps=N)(hc:∀vs w, (callFunc f vs).run Tryz.prog w=.ok (.enter f vs) w) (hl:Nat.ble args.length N=true)(hr:fn.results.toList=rs)(h:∀cx:Cx,cx.ref=[]→AW Tryz.prog cx N c (sY args) (VO tab rs r)):aF Tryz.prog f args r:=EB hf hb hN hc aK hl hr h
theorem sX{cx:Cx}{N:Nat}{ref:List Nat}{x y:Code}{σ:St}{K:Exit→St→Prop}(aA:cx.ref=ref)(h:ex Tryz.prog tab N ref [] cx x σ (NI (fun s=>AW Tryz.prog cx N y s K) K)):AW Tryz.prog cx N (.seq x y) σ K:=AW.seq (eX aA h)
abbrev mC(n:Int):Prop:=(Lit.int .i64 n).wf=true
theorem rI:Rd prog 3 1 (fun n:Int=>[.d (dI n)]) mC:=aFX underlying3 kR
theorem rS:Rd prog 9 1 (fun s:ByteArray=>[.d (dS s)]) (fun s=>s.size≤9223372036854775807):=aFW underlying9 kR
def Pt.ok(p:Pt):Prop:=mC p.x∧mC p.y
def Ap.ok(p:Ap):Prop:=mC p.x∧mC p.y∧mC p.half∧mC p.level∧mC p.run
theorem ZH:Rd prog 22 1 (fun l:List Int=>[.d (cG l)]) (fun l=>l.length≤9223372036854775807∧∀a∈l,mC a):=
 ZF underlying22 kR rI dC (fun n _=>dI n) (fun _=>rfl) (fun a j hj=>by match j,hj with|0,_=>rfl)
def FB.ok(p:FB):Prop:=p.name.size≤9223372036854775807∧mC p.kind∧p.qN.length≤9223372036854775807∧∀a∈p.qN,a.ok
structure kO.ok(c:kO):Prop where
 name:c.name.size≤9223372036854775807
 a8:c.a8.length≤9223372036854775807
 aps:∀a∈c.a8,a.ok
 over:mC c.over
 buffer:mC c.buffer
 regions:c.regions.length≤9223372036854775807
 aLE:∀a∈c.regions,a.ok
structure fS.ok(g:fS):Prop where
 x:mC g.x
 y:mC g.y
 side:mC g.side
 dP:mC g.dP
 rows:mC g.rows
 levels:g.levels.length≤9223372036854775807
 lev:∀a∈g.levels,mC a
def bs(l:List UInt8):ByteArray:=⟨l.toArray⟩
abbrev dT(l:List UInt8):DV:=.val (.string (bs l))
abbrev vT(l:List UInt8):AV:=.s (.d (dT l))
theorem aW(l:List UInt8):(bs l).size=l.length:=by simp[bs,ByteArray.size]
theorem eV(a b:List UInt8):bs a++bs b=bs (a++b):=by
 apply ByteArray.ext
 simp[bs,ByteArray.data_append]
theorem zB(l:List UInt8)(i j:Nat):(bs l).extract i j=bs ((l.take j).drop i):=by
 apply ByteArray.ext
 simp[bs,ByteArray.data_extract,List.drop_take]
theorem mE(l:List UInt8):(bs l).toList=l:=by
 rw[ByteArray.toList_eq];rfl
open Go.Lib in
theorem nI:∀(n u:Nat),u≤n→nDigits u≤u / 10+2
 |n,u,h=>by
  by_cases hu:u<10
  ·rw[nDigits_small hu];omega
  ·rw[nDigits_big hu]
   match n with
   |0=>omega
   |n+1=>
    have:=nI n (u / 10) oM
    omega
def o4(d:Nat):UInt8:=UInt8.ofNat (48+d)
abbrev YO:ByteArray:=⟨#[48,49,50,51,52,53,54,55,56,57]⟩
theorem I6:∀d:Fin 10,YO.extract d.val (d.val+1)=bs [o4 d.val]:=by decide+kernel
theorem MU(l:List UInt8):((bs l).toList==(bs []).toList)=l.isEmpty:=by
 rw[mE,mE];cases l <;> rfl
open Go.Lib in
theorem wN{u:Nat}(h:¬u<10):decDigits u=decDigits (u / 10)++ [o4 (u%10)]:=by rw[decDigits,dif_neg h];rfl
open Go.Lib in
theorem BC{u:Nat}(h:u<10):decDigits u=[o4 u]:=by rw[decDigits,dif_pos h];rfl
open Go.Lib in
theorem aBB(u:Nat):decDigits u≠[]:=by
 by_cases h:u<10
 ·rw[BC h];simp
 ·rw[wN h];simp
open Go.Lib in
def aK1(n0:Int)(q:Int×List UInt8):Prop:=(q.2≠[]∧q.1=0∧q.2=decDigits n0.natAbs)∨((q.1≠0∨q.2=[])∧decDigits q.1.natAbs++q.2=decDigits n0.natAbs∧q.1.natAbs≤n0.natAbs)
def qF(n:Int):Int:=mm true (n.tmod 10) (aU (0 - n.tmod 10))
theorem UN(n:Int):qF n=((n.natAbs%10:Nat):Int):=by
 have h1:=Int.tmod_add_mul_tdiv n 10
 have h2:=Int.tmod_lt_of_pos n (show(0:Int)<10 by decide)
 have h3: -10<n.tmod 10:=by
  have:=Int.tmod_lt_of_pos (-n) (show(0:Int)<10 by decide)
  rw[Int.neg_tmod]at this;omega
 unfold qF
 rw[aG oM oM]
 unfold mm
 simp only
 rcases Int.le_total 0 n with h|h
 ·rw[Int.tmod_eq_emod_of_nonneg h]at*
  split <;> omega
 ·have e:n.tmod 10= -((-n)%10):=by rw[←Int.tmod_eq_emod_of_nonneg (by omega:(0:Int)≤ -n),Int.neg_tmod,Int.neg_neg]
  rw[e]at*
  split <;> omega
theorem UM(n:Int):(n.tdiv 10).natAbs=n.natAbs / 10:=by
 rw[Int.natAbs_tdiv];rfl
open Go.Lib in
theorem BW(n:Int)(h0: -9223372036854775808<n)(h1:n≤9223372036854775807):aF prog 45 [vI n] (vT (itoa n)):=by
 refine eP func45 rfl rfl call45 rfl rfl fun cx aA=>?_
 refine aI (fun h=>?_) (fun h=>?_)
 ·have h:n<0:=cB h
  refine AW.cZ (fun q:Int×List UInt8=>⟨[(0,vI q.1),(3,vT [45]),(4,vT q.2)],[]⟩) (aK1 n) (fun q=>q.1.natAbs+(if q.2=[]then 1 else 0)) (n,[]) (.inr ⟨.inr rfl,sM,Nat.le_refl _⟩) ?_ ?_
  ·exact aP.b7 aA [] rfl trivial ⟨qZ,qZ,qZ,oO⟩
  ·rintro⟨m,s⟩ hJ
   refine eX aA ?_
   repeat refine aR ?_
   refine aI (fun h2=>?_) (fun h2=>?_)
   ·have h2:(((bs s).toList==(bs []).toList)||(m !=0))=true:=h2
    rw[MU]at h2
    obtain⟨hd,e,hle⟩:(m≠0∨s=[])∧decDigits m.natAbs++s=decDigits n.natAbs∧m.natAbs≤n.natAbs:=by
     rcases hJ with⟨q1,q2,_⟩|h
     ·exfalso
      simp only at q1 q2
      rw[q2]at h2
      cases s with
      |nil=>exact q1 rfl
      |cons _ _=>cases h2
     ·exact h
    have hdg:=UN m
    have hlen:s.length≤n.natAbs / 10+2:=by
     have:=congrArg List.length e
     rw[List.length_append,decDigits_length n.natAbs]at this
     have:=nI n.natAbs n.natAbs (Nat.le_refl _)
     omega
    have hw:aU (qF m+1)=qF m+1:=aG oM oM
    have hp:YO.extract (qF m).toNat (aU (qF m+1)).toNat=bs [o4 (m.natAbs%10)]:=by
     rw[hw,hdg]
     exact I6 ⟨m.natAbs%10,oM⟩
    refine oi dC ?_
    refine oi dC ?_
    refine oi ⟨by show 0≤qF m;omega,by show qF m≤aU (qF m+1);omega,by show aU (qF m+1)≤10;omega⟩ ?_
    refine oi (show(YO.extract (qF m).toNat (aU (qF m+1)).toNat).size+(bs s).size≤9223372036854775807 by rw[hp,aW,aW];simp;omega) ?_
    refine oi dC ?_
    have hdv:=UM m
    have hr:m.tdiv 10=aU (m.tdiv 10):=(aG oM oM).symm
    refine⟨(m.tdiv 10,o4 (m.natAbs%10)::s),?_,?_,?_⟩
    ·by_cases h10:m.natAbs<10
     ·left
      refine⟨sM,by show m.tdiv 10=0;omega,?_⟩
      show o4 (m.natAbs%10)::s=_
      rw[←e,BC h10,Nat.mod_eq_of_lt h10];rfl
     ·right
      refine⟨.inl (by show m.tdiv 10≠0;omega),?_,by show(m.tdiv 10).natAbs≤_;omega⟩
      show decDigits (m.tdiv 10).natAbs++o4 (m.natAbs%10)::s=_
      rw[←e,wN h10,hdv];simp
    ·show(m.tdiv 10).natAbs+(if o4 (m.natAbs%10)::s=[]then 1 else 0)<m.natAbs+(if s=[]then 1 else 0)
     rw[if_neg sM,hdv]
     rcases hd with h|h
     ·split <;> omega
     ·rw[if_pos h];omega
    ·exact aP.b7 aA [] rfl trivial ⟨⟨rfl,aM.int hr.symm⟩,qZ,⟨rfl,aM.of_eq (congrArg (fun x=>AV.s (.d (.val (.string x)))) ((congrArg (· ++bs s) hp).trans (eV _ _)))⟩,oO⟩
   ·have h2:(((bs s).toList==(bs []).toList)||(m !=0))=false:=h2
    rw[MU,Bool.or_eq_false_iff]at h2
    have hs:s=decDigits n.natAbs:=by
     rcases hJ with⟨_,_,q3⟩|⟨q1,_,_⟩
     ·exact q3
     ·exfalso
      simp only at q1
      rcases q1 with q1|q1
      ·have:=h2.2;simp at this;exact q1 this
      ·rw[q1]at h2;cases h2.1
    have hlen:s.length≤n.natAbs / 10+2:=by
     rw[hs,decDigits_length]
     exact nI n.natAbs n.natAbs (Nat.le_refl _)
    refine oi (show(bs [45]).size+(bs s).size≤9223372036854775807 by rw[aW,aW];simp;omega) ?_
    refine aC.of_eq (congrArg (fun x=>AV.s (.d (.val (.string x)))) ((eV _ _).trans (congrArg bs ?_)))
    rw[hs]
    unfold itoa
    rw[if_pos h];rfl
 ·have h:¬n<0:=cD h
  refine AW.cZ (fun q:Int×List UInt8=>⟨[(0,vI q.1),(3,vT []),(4,vT q.2)],[]⟩) (aK1 n) (fun q=>q.1.natAbs+(if q.2=[]then 1 else 0)) (n,[]) (.inr ⟨.inr rfl,sM,Nat.le_refl _⟩) ?_ ?_
  ·exact aP.b7 aA [] rfl trivial ⟨qZ,qZ,qZ,oO⟩
  ·rintro⟨m,s⟩ hJ
   refine eX aA ?_
   repeat refine aR ?_
   refine aI (fun h2=>?_) (fun h2=>?_)
   ·have h2:(((bs s).toList==(bs []).toList)||(m !=0))=true:=h2
    rw[MU]at h2
    obtain⟨hd,e,hle⟩:(m≠0∨s=[])∧decDigits m.natAbs++s=decDigits n.natAbs∧m.natAbs≤n.natAbs:=by
     rcases hJ with⟨q1,q2,_⟩|h
     ·exfalso
      simp only at q1 q2
      rw[q2]at h2
      cases s with
      |nil=>exact q1 rfl
      |cons _ _=>cases h2
     ·exact h
    have hdg:=UN m
    have hlen:s.length≤n.natAbs / 10+2:=by
     have:=congrArg List.length e
     rw[List.length_append,decDigits_length n.natAbs]at this
     have:=nI n.natAbs n.natAbs (Nat.le_refl _)
     omega
    have hw:aU (qF m+1)=qF m+1:=aG oM oM
    have hp:YO.extract (qF m).toNat (aU (qF m+1)).toNat=bs [o4 (m.natAbs%10)]:=by
     rw[hw,hdg]
     exact I6 ⟨m.natAbs%10,oM⟩
    refine oi dC ?_
    refine oi dC ?_
    refine oi ⟨by show 0≤qF m;omega,by show qF m≤aU (qF m+1);omega,by show aU (qF m+1)≤10;omega⟩ ?_
    refine oi (show(YO.extract (qF m).toNat (aU (qF m+1)).toNat).size+(bs s).size≤9223372036854775807 by rw[hp,aW,aW];simp;omega) ?_
    refine oi dC ?_
    have hdv:=UM m
    have hr:m.tdiv 10=aU (m.tdiv 10):=(aG oM oM).symm
    refine⟨(m.tdiv 10,o4 (m.natAbs%10)::s),?_,?_,?_⟩
    ·by_cases h10:m.natAbs<10
     ·left
      refine⟨sM,by show m.tdiv 10=0;omega,?_⟩
      show o4 (m.natAbs%10)::s=_
      rw[←e,BC h10,Nat.mod_eq_of_lt h10];rfl
     ·right
      refine⟨.inl (by show m.tdiv 10≠0;omega),?_,by show(m.tdiv 10).natAbs≤_;omega⟩
      show decDigits (m.tdiv 10).natAbs++o4 (m.natAbs%10)::s=_
      rw[←e,wN h10,hdv];simp
    ·show(m.tdiv 10).natAbs+(if o4 (m.natAbs%10)::s=[]then 1 else 0)<m.natAbs+(if s=[]then 1 else 0)
     rw[if_neg sM,hdv]
     rcases hd with h|h
     ·split <;> omega
     ·rw[if_pos h];omega
    ·exact aP.b7 aA [] rfl trivial ⟨⟨rfl,aM.int hr.symm⟩,qZ,⟨rfl,aM.of_eq (congrArg (fun x=>AV.s (.d (.val (.string x)))) ((congrArg (· ++bs s) hp).trans (eV _ _)))⟩,oO⟩
   ·have h2:(((bs s).toList==(bs []).toList)||(m !=0))=false:=h2
    rw[MU,Bool.or_eq_false_iff]at h2
    have hs:s=decDigits n.natAbs:=by
     rcases hJ with⟨_,_,q3⟩|⟨q1,_,_⟩
     ·exact q3
     ·exfalso
      simp only at q1
      rcases q1 with q1|q1
      ·have:=h2.2;simp at this;exact q1 this
      ·rw[q1]at h2;cases h2.1
    have hlen:s.length≤n.natAbs / 10+2:=by
     rw[hs,decDigits_length]
     exact nI n.natAbs n.natAbs (Nat.le_refl _)
    refine oi (show(bs []).size+(bs s).size≤9223372036854775807 by rw[aW,aW];simp;omega) ?_
    refine aC.of_eq (congrArg (fun x=>AV.s (.d (.val (.string x)))) ((eV _ _).trans (congrArg bs ?_)))
    rw[hs]
    unfold itoa
    rw[if_neg h,show n.natAbs=n.toNat by omega];rfl
theorem oS(n lo hi:Int):aF prog 36 [vI n,vI lo,vI hi] (vB (within n lo hi)):=by
 refine eP func36 rfl rfl call36 rfl rfl fun cx _=>?_
 exact⟨fun h=>h,fun h=>h,fun h=>h,trivial,aC.refl _⟩
theorem R3(a b c:Pt):aF prog 333 [pt a,pt b,pt c] (vI (oZ a b c)):=by
 refine eP func333 rfl rfl call333 rfl rfl fun cx _=>?_
 exact aC.refl _
theorem aJ5(a b c:Pt):aF prog 332 [pt a,pt b,pt c] (vI (dot a b c)):=by
 refine eP func332 rfl rfl call332 rfl rfl fun cx _=>?_
 exact aC.refl _
theorem isNaN(n:Int):aF prog 273 [vI n] (vB false):=by
 refine eP func273 rfl rfl call273 rfl rfl fun cx _=>?_
 exact aC.of_eq (by show vB (n !=n)=vB false;simp)
theorem on(a b p:Pt):aF prog 286 [pt a,pt b,pt p] (vB (kX a b p)):=by
 refine eP func286 rfl rfl call286 rfl rfl fun cx _=>?_
 refine aB (R3 a b p) ?_
 repeat first|refine sk ?_|refine st ?_|refine sg ?_
 refine aC.of_eq ?_
 show vB _=vB _
 simp only [kX,within,ge_iff_le,Bool.and_assoc]
theorem Compare(n m:Int):aF prog 227 [vI n,vI m] (vI (sgn (n - m))):=by
 refine eP func227 rfl rfl call227 rfl rfl fun cx _=>?_
 refine aB (isNaN n) ?_
 refine aB (isNaN m) ?_
 refine aI (fun h=>by cases h) (fun _=>And.intro (fun h=>by cases h) (fun _=>And.intro (fun h=>?_) (fun h=>And.intro (fun h'=>?_) (fun h'=>?_))))
 ·have:=cB h
  exact aC.of_eq (by rw[sgn,if_pos oM];rfl)
 ·have:=cB h'
  exact aC.of_eq (by rw[sgn,if_neg oM,if_pos oM];rfl)
 ·have:=cD h
  have:=cD h'
  exact aC.of_eq (by rw[sgn,if_neg oM,if_neg oM];rfl)
theorem side(a b c:Pt):aF prog 335 [pt a,pt b,pt c] (vI (sgn (oZ a b c))):=by
 refine eP func335 rfl rfl call335 rfl rfl fun cx _=>?_
 refine aB (R3 a b c) ?_
 refine aB (Compare _ 0) ?_
 exact aC.of_eq (by show vI _=vI _;rw[Int.sub_zero])
theorem aJ2(p:Pt):aF prog 284 [pt p] (vB (!fY p)):=by
 refine eP func284 rfl rfl call284 rfl rfl fun cx _=>?_
 repeat first|refine sk ?_|refine st ?_|refine sg ?_
 refine aC.of_eq ?_
 show vB _=vB _
 refine congrArg vB ?_
 rw[Bool.eq_iff_iff]
 simp[fY,within]
 omega
theorem outside(n lo hi:Int):aF prog 72 [vI n,vI lo,vI hi] (vB (!within n lo hi)):=by
 refine eP func72 rfl rfl call72 rfl rfl fun cx _=>?_
 repeat first|refine sk ?_|refine st ?_|refine sg ?_
 refine aC.of_eq ?_
 show vB _=vB _
 refine congrArg vB ?_
 rw[Bool.eq_iff_iff]
 simp[within]
theorem aJ3(a b c d:Pt):aF prog 287 [pt a,pt b,pt c,pt d] (vB (meet a b c d)):=by
 refine eP func287 rfl rfl call287 rfl rfl fun cx _=>?_
 refine aB (on a b c) ?_
 repeat first|refine sk ?_|refine st ?_|refine sg ?_
 refine eJ (on a b d) ?_
 repeat first|refine sk ?_|refine st ?_|refine sg ?_
 refine eJ (on c d a) ?_
 repeat first|refine sk ?_|refine st ?_|refine sg ?_
 refine eJ (on c d b) ?_
 repeat first|refine sk ?_|refine st ?_|refine sg ?_
 refine aI (fun h=>?_) (fun h=>?_)
 ·exact aC.lit (by rw[meet,h];rfl)
 ·refine aB (side a b c) ?_
  refine aB (side a b d) ?_
  repeat first|refine sk ?_|refine st ?_|refine sg ?_
  refine eJ (side c d a) ?_
  repeat first|refine sk ?_|refine st ?_|refine sg ?_
  refine eJ (side c d b) ?_
  repeat first|refine sk ?_|refine st ?_|refine sg ?_
  refine aD ?_
  exact aC.of_eq (by rw[meet,h];rfl)
theorem place(a:Ap):aF prog 133 [ap a] (pt a.pt):=by
 refine eP func133 rfl rfl call133 rfl rfl fun cx _=>?_
 exact aC.refl _
theorem aDK(p:Pt):aF prog 132 [pt p] (vB (fY p)):=by
 refine eP func132 rfl rfl call132 rfl rfl fun cx _=>?_
 refine aB (outside _ _ _) ?_
 repeat first|refine sk ?_|refine st ?_|refine sg ?_
 refine eJ (outside _ _ _) ?_
 repeat first|refine sk ?_|refine st ?_|refine sg ?_
 refine aC.of_eq ?_
 show vB _=vB _
 simp[fY]
theorem down(a b:Int)(hb:b≠0):aF prog 358 [vI a,vI b] (vI (if a.tmod b<0 then aU (aU (a.tdiv b) - 1)else aU (a.tdiv b))):=by
 refine eP func358 rfl rfl call358 rfl rfl fun cx _=>?_
 refine ob hb ?_
 refine ob hb ?_
 refine aD ?_
 refine aI (fun h=>?_) (fun h=>?_)
 ·refine aC.of_eq ?_
  rw[if_pos (cB h)];rfl
 ·exact aC.of_eq (by rw[if_neg (cD h)];rfl)
def lvl(off half p6 run:Int):Int×Bool:=
 bif decide (off≤half)then(p6,true)else bif run==0 then(0,false)else(aU (p6+aU (Int.tdiv (aU (off - half)) run)),decide (aU (p6+aU (Int.tdiv (aU (off - half)) run))≤20000))
abbrev part(off half p6 run:Int):AV:=.g [.d (dI off),.d (dI half),.d (dI p6),.d (dI run)]
abbrev rIB(r:Int×Bool):AV:=.t [.s (.d (.val (.int .i64 r.1))),.s (.d (.val (.bool r.2)))]
theorem aC.ib{n m:Int}{b c:Bool}(h:n=m)(k:b=c):aC (.t [.s (.d (.val (.int .i64 n))),.s (.d (.lit b))]) (.t [.s (.d (.val (.int .i64 m))),.s (.d (.val (.bool c)))]):=by
 subst h;subst k;exact aC.t ⟨aJ.refl _,fun _ _ r=>r,oO⟩
theorem level(o h b r:Int):aF prog 280 [part o h b r] (rIB (lvl o h b r)):=by
 refine eP func280 rfl rfl call280 rfl rfl fun cx _=>?_
 refine aI (fun h=>?_) (fun h=>?_)
 ·exact aC.ib (by rw[lvl,h];rfl) (by rw[lvl,h];rfl)
 refine aI (fun h'=>?_) (fun h'=>?_)
 ·exact aC.ib (by rw[lvl,h,h'];rfl) (by rw[lvl,h,h'];rfl)
 refine oi (by simpa using h') ?_
 refine aD ?_
 exact aC.of_eq (by rw[lvl,h,h'];rfl)
def E8(g:fS)(i:Int):Pt:=⟨aU (g.x+aU (i.tmod g.dP*g.side)),aU (g.y+aU (aU (i.tdiv g.dP)*g.side))⟩
def dF(g:fS)(i:Int):Pt:=⟨aU ((E8 g i).x+aU (g.side.tdiv 2)),aU ((E8 g i).y+aU (g.side.tdiv 2))⟩
theorem aD8(g:fS)(i:Int)(h:g.dP≠0):aF prog 233 [yS g,vI i] (pt (E8 g i)):=by
 refine eP func233 rfl rfl call233 rfl rfl fun cx _=>?_
 refine oi h ?_
 refine oi h ?_
 refine aD ?_
 refine aC.of_eq ?_
 rfl
theorem aEA(g:fS)(i:Int)(h:g.dP≠0):aF prog 181 [yS g,vI i] (pt (dF g i)):=by
 refine eP func181 rfl rfl call181 rfl rfl fun cx _=>?_
 refine aB (aD8 g i h) ?_
 refine oi dC ?_
 refine oi dC ?_
 refine aC.of_eq ?_
 rfl
def alike(a b:fS):Bool:=a.x==b.x&&a.y==b.y&&a.side==b.side&&a.dP==b.dP&&a.rows==b.rows
theorem L7(l:List Pt)(i:Nat)(hl:l≠[]):aF prog 285 [FY l,vI i] (pt (l.getD (i%l.length) default)):=by
 have hlen:0<l.length:=List.length_pos_iff.2 hl
 have hm:=Nat.mod_lt i hlen
 have e:(i:Int).tmod l.length=((i%l.length:Nat):Int):=by
  rw[Int.tmod_eq_emod_of_nonneg oM];rfl
 refine eP func285 rfl rfl call285 rfl rfl fun cx _=>?_
 refine oi oM ?_
 refine oi (by rw[e];exact⟨oM,oM⟩) ?_
 refine aC.of_eq ?_
 show pt (l.getD ((i:Int).tmod l.length).toNat default)=_
 rw[e];rfl
def dA{α:Type}(p:α→Bool):List α→Nat→Int
 |[],_=> -1
 |x::r,k=>bif p x then k else dA p r (k+1)
theorem mR{α:Type}(p:α→Bool):∀(l:List α) (k:Nat),decide (dA p l k≥0)=l.any p
 |[],_=>rfl
 |x::r,k=>by
  rw[dA,List.any_cons]
  cases h:p x with
  |true=>simp
  |false=>simpa using mR p r (k+1)
theorem RL(l:List Int)(hl:l.length≤9223372036854775807)(f k:Nat)(c:Nat→DV)(p:Int→Bool)(hp:∀x∈l,aF prog f (vI x::iX c k 0) (vB (p x))):
  aF prog 131 [kA l,.s (.d (.dQ f k c))] (vI (dA p l 0)):=by
 refine eP func131 rfl rfl call131 rfl rfl fun cx aA=>?_
 refine AW.loop (fun i:Nat=>⟨[(0,kA l),(1,.s (.d (.dQ f k c))),(7,vI l.length),(8,vI i),(4,vI 0)],[]⟩) (fun i=>i≤l.length∧dA p l 0=dA p (l.drop i) i) (fun i=>l.length - i) 0 ⟨Nat.zero_le _,rfl⟩ ?_ ?_
 ·refine Sub.b7 aA trivial ⟨rQ,rQ,rQ,rQ,rQ,oO⟩
 ·rintro i ⟨hi,he⟩
  refine eX aA ?_
  refine aI (fun h=>?_) (fun h=>?_)
  ·have h:(i:Int)<l.length:=cB h
   have bN:i<l.length:=oM
   have hd:l.drop i=l[i]::l.drop (i+1):=List.drop_eq_getElem_cons bN
   have hg:l.getD i default=l[i]:=bA bN
   refine oi ⟨oM,oM⟩ ?_
   refine aB ((hp (l.getD i default) (by rw[hg];simp)).conv (args':=_) ⟨aJ.refl _,q9.iX⟩) ?_
   rw[hd,dA]at he
   rw[hg]
   refine aI (fun h=>?_) (fun h=>?_)
   ·refine aC.of_eq ?_
    rw[he,h];rfl
   ·refine⟨i+1,⟨oM,?_⟩,oM,?_⟩
    ·rw[he,h];rfl
    ·refine Sub.b7 aA trivial ⟨rQ,rQ,rQ,⟨rfl,?_⟩,rQ,oO⟩
     exact congrArg vI (aG oM oM)
  ·have h:¬(i:Int)<l.length:=cD h
   have bN:i=l.length:=oM
   subst bN
   refine aC.of_eq ?_
   rw[he,List.drop_length];rfl
theorem sC(l:List Int)(hl:l.length≤9223372036854775807)(f k:Nat)(c:Nat→DV)(p:Int→Bool)(hp:∀x∈l,aF prog f (vI x::iX c k 0) (vB (p x))):
  aF prog 68 [kA l,.s (.d (.dQ f k c))] (vB (l.any p)):=by
 refine eP func68 rfl rfl call68 rfl rfl fun cx aA=>?_
 refine aB (RL l hl f k c p hp) ?_
 exact aC.of_eq (congrArg vB (mR p l 0))
theorem RJ(l:List Pt)(hl:l.length≤9223372036854775807)(f k:Nat)(c:Nat→DV)(p:Pt→Bool)(hp:∀x∈l,aF prog f (pt x::iX c k 0) (vB (p x))):
  aF prog 334 [FY l,.s (.d (.dQ f k c))] (vI (dA p l 0)):=by
 refine eP func334 rfl rfl call334 rfl rfl fun cx aA=>?_
 refine AW.loop (fun i:Nat=>⟨[(0,FY l),(1,.s (.d (.dQ f k c))),(7,vI l.length),(8,vI i),(4,vI 0)],[]⟩) (fun i=>i≤l.length∧dA p l 0=dA p (l.drop i) i) (fun i=>l.length - i) 0 ⟨Nat.zero_le _,rfl⟩ ?_ ?_
 ·refine Sub.b7 aA trivial ⟨rQ,rQ,rQ,rQ,rQ,oO⟩
 ·rintro i ⟨hi,he⟩
  refine eX aA ?_
  refine aI (fun h=>?_) (fun h=>?_)
  ·have h:(i:Int)<l.length:=cB h
   have bN:i<l.length:=oM
   have hd:l.drop i=l[i]::l.drop (i+1):=List.drop_eq_getElem_cons bN
   have hg:l.getD i default=l[i]:=bA bN
   refine oi ⟨oM,oM⟩ ?_
   refine aB ((hp (l.getD i default) (by rw[hg];simp)).conv (args':=_) ⟨⟨aJ.refl _,aJ.refl _,oO⟩,q9.iX⟩) ?_
   rw[hd,dA]at he
   rw[hg]
   refine aI (fun h=>?_) (fun h=>?_)
   ·refine aC.of_eq ?_
    rw[he,h];rfl
   ·refine⟨i+1,⟨oM,?_⟩,oM,?_⟩
    ·rw[he,h];rfl
    ·refine Sub.b7 aA trivial ⟨rQ,rQ,rQ,⟨rfl,?_⟩,rQ,oO⟩
     exact congrArg vI (aG oM oM)
  ·have h:¬(i:Int)<l.length:=cD h
   have bN:i=l.length:=oM
   subst bN
   refine aC.of_eq ?_
   rw[he,List.drop_length];rfl
theorem XB(l:List Pt)(hl:l.length≤9223372036854775807)(f k:Nat)(c:Nat→DV)(p:Pt→Bool)(hp:∀x∈l,aF prog f (pt x::iX c k 0) (vB (p x))):
  aF prog 283 [FY l,.s (.d (.dQ f k c))] (vB (l.any p)):=by
 refine eP func283 rfl rfl call283 rfl rfl fun cx aA=>?_
 refine aB (RJ l hl f k c p hp) ?_
 exact aC.of_eq (congrArg vB (mR p l 0))
theorem GS(l:List FB)(hl:l.length≤9223372036854775807)(f k:Nat)(c:Nat→DV)(p:FB→Bool)(hp:∀x∈l,aF prog f (reg x::iX c k 0) (vB (p x))):
  aF prog 148 [ND l,.s (.d (.dQ f k c))] (vI (dA p l 0)):=by
 refine eP func148 rfl rfl call148 rfl rfl fun cx aA=>?_
 refine AW.loop (fun i:Nat=>⟨[(0,ND l),(1,.s (.d (.dQ f k c))),(7,vI l.length),(8,vI i),(4,vI 0)],[]⟩) (fun i=>i≤l.length∧dA p l 0=dA p (l.drop i) i) (fun i=>l.length - i) 0 ⟨Nat.zero_le _,rfl⟩ ?_ ?_
 ·refine Sub.b7 aA trivial ⟨rQ,rQ,rQ,rQ,rQ,oO⟩
 ·rintro i ⟨hi,he⟩
  refine eX aA ?_
  refine aI (fun h=>?_) (fun h=>?_)
  ·have h:(i:Int)<l.length:=cB h
   have bN:i<l.length:=oM
   have hd:l.drop i=l[i]::l.drop (i+1):=List.drop_eq_getElem_cons bN
   have hg:l.getD i default=l[i]:=bA bN
   refine oi ⟨oM,oM⟩ ?_
   refine aB ((hp (l.getD i default) (by rw[hg];simp)).conv (args':=_) ⟨⟨aJ.refl _,aJ.refl _,aJ.refl _,oO⟩,q9.iX⟩) ?_
   rw[hd,dA]at he
   rw[hg]
   refine aI (fun h=>?_) (fun h=>?_)
   ·refine aC.of_eq ?_
    rw[he,h];rfl
   ·refine⟨i+1,⟨oM,?_⟩,oM,?_⟩
    ·rw[he,h];rfl
    ·refine Sub.b7 aA trivial ⟨rQ,rQ,rQ,⟨rfl,?_⟩,rQ,oO⟩
     exact congrArg vI (aG oM oM)
  ·have h:¬(i:Int)<l.length:=cD h
   have bN:i=l.length:=oM
   subst bN
   refine aC.of_eq ?_
   rw[he,List.drop_length];rfl
theorem XA(l:List FB)(hl:l.length≤9223372036854775807)(f k:Nat)(c:Nat→DV)(p:FB→Bool)(hp:∀x∈l,aF prog f (reg x::iX c k 0) (vB (p x))):
  aF prog 134 [ND l,.s (.d (.dQ f k c))] (vB (l.any p)):=by
 refine eP func134 rfl rfl call134 rfl rfl fun cx aA=>?_
 refine aB (GS l hl f k c p hp) ?_
 exact aC.of_eq (congrArg vB (mR p l 0))
theorem XP(n lo hi:Int)(f g:Nat→DV)(hf:f 0=dI lo)(hg:g 0=dI hi):aF prog 130 [vI n,.s (.d (.rp 1 f)),.s (.d (.rp 1 g))] (vB (!within n lo hi)):=by
 have h1:q9 [vI n,.s (.d (.rp 1 f)),.s (.d (.rp 1 g))] [vI n,.s (.d (.rp 1 fun _=>dI lo)),.s (.d (.rp 1 fun _=>dI hi))]:=
  ⟨aJ.refl _,aJ.rp fun j hj=>aJ.of_eq (by rw[show j=0 by omega];exact hf),aJ.rp fun j hj=>aJ.of_eq (by rw[show j=0 by omega];exact hg),oO⟩
 refine aF.conv ?_ h1
 refine eP func130 rfl rfl call130 rfl rfl fun cx _=>?_
 repeat first|refine sk ?_|refine st ?_|refine sg ?_
 refine aC.of_eq ?_
 show vB _=vB _
 refine congrArg vB ?_
 rw[Bool.eq_iff_iff]
 simp[within]
def II(lo hi:Int)(l:List Int):Bool:=l.any fun n=> !within n lo hi
theorem wS(lo hi:Int)(l:List Int)(hl:l.length≤9223372036854775807):aF prog 67 [vI lo,vI hi,kA l] (vB (!II lo hi l)):=by
 refine eP func67 rfl rfl call67 rfl rfl fun cx _=>?_
 refine aB (sC l hl 130 2 _ (fun n=> !within n lo hi) (fun x _=>XP x lo hi _ _ rfl rfl)) ?_
 exact aC.refl _
theorem aDI(n:Int):aF prog 70 [vI n] (vB (within n (-20000) 20000)):=by
 refine eP func70 rfl rfl call70 rfl rfl fun cx _=>?_
 refine aB ((wS (-20000) 20000 [n] sM).conv (args':=_) ⟨aJ.refl _,aJ.refl _,aJ.fJ fun i j hi hj=>?_,oO⟩) ?_
 ·have:i=0:=by have:i<1:=hi;omega
  have:j=0:=by have:j<1:=hj;omega
  subst i j;exact aJ.refl _
 exact aC.of_eq (by show vB _=vB _;simp[II])
def jD(n:Int):Bool:=n !=30000&& !within n (-20000) 20000
theorem aD9(n:Int):aF prog 69 [vI n] (vB (jD n)):=by
 refine eP func69 rfl rfl call69 rfl rfl fun cx _=>?_
 repeat first|refine sk ?_|refine st ?_|refine sg ?_
 refine eJ (aDI n) ?_
 repeat first|refine sk ?_|refine st ?_|refine sg ?_
 exact aC.refl _
def e1(g:fS):Bool:= !(within g.x (-1000000) 1000000)|| !(within g.y (-1000000) 1000000)|| !(within g.side 100 10000)|| !(within g.dP 1 1024)|| !(within g.rows 1 1024)
def lN(g:fS):Int:=
 bif e1 g then 2
 else bif decide (aU (g.dP*g.rows)>1024)then 8
 else bif decide (aU (g.x+aU (g.dP*g.side))>1000000)||decide (aU (g.y+aU (g.rows*g.side))>1000000)then 2
 else bif (g.levels.length:Int) !=aU (g.dP*g.rows)then 10
 else bif g.levels.any jD then 2 else 0
theorem SX(g:fS)(hl:g.levels.length≤9223372036854775807):aF prog 25 [yS g] (vI (lN g)):=by
 refine eP func25 rfl rfl call25 rfl rfl fun cx _=>?_
 have two:∀(a b:Int) (f:Nat→Nat→DV) (h0:f 0 0=dI a) (h1:f 1 0=dI b),aJ (.fJ 2 1 f) (cG [a,b]):=by
  intro a b f h0 h1
  refine aJ.fJ fun i j hi hj=>?_
  have:j=0:=oM
  subst j
  match i,hi with
  |0,_=>exact aJ.of_eq h0
  |1,_=>exact aJ.of_eq h1
 have one:∀(a:Int) (f:Nat→Nat→DV) (h0:f 0 0=dI a),aJ (.fJ 1 1 f) (cG [a]):=by
  intro a f h0
  refine aJ.fJ fun i j hi hj=>?_
  have:j=0:=oM
  have:i=0:=oM
  subst i j
  exact aJ.of_eq h0
 refine aB ((wS (-1000000) 1000000 [g.x,g.y] sM).conv (args':=_) ⟨aJ.refl _,aJ.refl _,two _ _ _ rfl rfl,oO⟩) ?_
 repeat first|refine sk ?_|refine st ?_|refine sg ?_
 refine aI (fun h1=>?_) (fun h1=>?_)
 ·refine ob (by rw[h1];rfl) ?_
  refine aB ((wS 100 10000 [g.side] sM).conv (args':=_) ⟨aJ.refl _,aJ.refl _,one _ _ rfl,oO⟩) ?_
  repeat first|refine sk ?_|refine st ?_|refine sg ?_
  refine aI (fun h2=>?_) (fun h2=>?_)
  ·skip
   refine ob (by rw[h2];rfl) ?_
   refine ob (by rw[h2];rfl) ?_
   refine aB ((wS 1 1024 [g.dP,g.rows] sM).conv (args':=_) ⟨aJ.refl _,aJ.refl _,two _ _ _ rfl rfl,oO⟩) ?_
   refine aI (fun h3=>?_) (fun h3=>?_)
   ·exact aC.of_eq (by rw[lN,show e1 g=true by simp[II]at h1 h2 h3;simp[e1,h1,h2,h3]];rfl)
   have he:e1 g=false:=by simp[II]at h1 h2 h3;simp[e1,h1,h2,h3]
   refine aI (fun h4=>?_) (fun h4=>?_)
   ·exact aC.of_eq (by rw[lN,he,h4];rfl)
   repeat first|refine sk ?_|refine st ?_|refine sg ?_
   refine aI (fun h5=>?_) (fun h5=>?_)
   ·exact aC.of_eq (by rw[lN,he,h4,h5];rfl)
   refine aI (fun h6=>?_) (fun h6=>?_)
   ·exact aC.of_eq (by rw[lN,he,h4,h5,h6];rfl)
   refine aB ((sC g.levels hl 69 0 (fun _=>.bC) jD (fun x _=>aD9 x)).conv (args':=_) ⟨aJ.refl _,aJ.dQ fun j hj=>absurd hj (Nat.not_lt_zero j),oO⟩) ?_
   refine aI (fun h7=>?_) (fun h7=>?_)
   ·exact aC.of_eq (by rw[lN,he,h4,h5,h6,h7];rfl)
   ·exact aC.of_eq (by rw[lN,he,h4,h5,h6,h7];rfl)
  ·exact aC.of_eq (by rw[lN,show e1 g=true by simp[II]at h1 h2;simp[e1,h1,h2]];rfl)
 ·exact aC.of_eq (by rw[lN,show e1 g=true by simp[II]at h1;simp[e1,h1]];rfl)
theorem WZ{g:fS}(h:lN g=0):1≤g.dP∧g.dP≤1024:=by
 cases he:e1 g with
 |true=>rw[lN,he]at h;cases h
 |false=>
  simp[e1,within]at he
  omega
theorem aM2(g:fS)(i:Int)(he:lN g=0)(h0:0≤i)(hi:i<g.levels.length)(hl:g.levels.length≤9223372036854775807):aF prog 180 [yS g,vI i] (vI 0):=by
 refine eP func180 rfl rfl call180 rfl rfl fun cx _=>?_
 refine aB (SX g hl) ?_
 refine aI (fun h=>?_) (fun h=>?_)
 ·rw[he]at h;cases h
 refine aB ((wS 0 (aU (g.levels.length - 1)) [i] sM).conv (args':=_) ⟨aJ.refl _,aJ.refl _,aJ.fJ fun i j hi hj=>?_,oO⟩) ?_
 ·have:i=0:=by have:i<1:=hi;omega
  have:j=0:=by have:j<1:=hj;omega
  subst i j;exact aJ.refl _
 refine aI (fun h=>?_) (fun h=>?_)
 ·rw[aG oM oM]at h
  simp[II,within]at h
  omega
 ·exact aC.of_eq rfl
theorem MW(g:fS)(i:Int)(he:lN g=0)(h0:0≤i)(hi:i<g.levels.length)(hl:g.levels.length≤9223372036854775807):aF prog 121 [yS g,vI i] (.t [.g [.d (dI (dF g i).x),.d (dI (dF g i).y)],.s (.d (dI 0))]):=by
 refine eP func121 rfl rfl call121 rfl rfl fun cx _=>?_
 refine aB (aM2 g i he h0 hi hl) ?_
 refine aI (fun h=>by cases h) (fun _=>?_)
 refine aB (aEA g i (by have:=WZ he;omega)) ?_
 exact aC.of_eq rfl
theorem aD6(g:fS)(i:Int)(he:lN g=0)(h0:0≤i)(hi:i<g.levels.length)(hl:g.levels.length≤9223372036854775807):aF prog 232 [yS g,vI i] (pt (dF g i)):=by
 refine eP func232 rfl rfl call232 rfl rfl fun cx _=>?_
 refine aB (MW g i he h0 hi hl) ?_
 exact aC.of_eq rfl
def u8(s:ByteArray)(i:Nat):Int:=(s[i]!.toNat:Int)
def letter(c:Int):Bool:=(decide (c≥97)&&decide (c≤122))||(decide (c≥65)&&decide (c≤90))
def uT(i:Int)(c:Int):Bool:= !letter c&&(i==0|| !((decide (c≥48)&&decide (c≤57))||c==45))
theorem xH(i c:Int):(!letter c&&(i==0||(c !=45&&(decide (c<48)||decide (c>57)))))=uT i c:=by
 rw[uT,Bool.eq_iff_iff]
 simp
 intro _
 omega
def fH(s:ByteArray):Nat→Nat→Bool
 |0,_=>false
 |n+1,i=>uT i (u8 s i)||fH s n (i+1)
def isName(s:ByteArray):Bool:= !(decide ((s.size:Int)<1)||decide ((s.size:Int)>12))&& !fH s s.size 0
theorem LY(s:ByteArray):isName s=(!(s.toList==(ByteArray.mk #[]).toList||decide ((s.size:Int)>12))&& !fH s s.size 0):=by
 have:decide ((s.size:Int)<1)=(s.toList==(ByteArray.mk #[]).toList):=by
  rw[Bool.eq_iff_iff]
  rw[show((s.toList==(ByteArray.mk #[]).toList)=true)=(s.data.toList=[]) by rw[ByteArray.toList_eq,ByteArray.toList_eq];simp]
  have h1:s.size=s.data.toList.length:=by show s.data.size=_;simp
  rw[←List.length_eq_zero_iff,←h1]
  rw[decide_eq_true_iff]
  omega
 rw[isName,this]
theorem named(s:ByteArray)(hl:s.size≤9223372036854775807):aF prog 71 [vS s] (vB (isName s)):=by
 refine eP func71 rfl rfl call71 rfl rfl fun cx aA=>?_
 repeat refine aR ?_
 refine aI (fun h=>?_) (fun h=>?_)
 ·exact aC.lit (by rw[LY,h];rfl)
 refine AW.loop (fun i:Nat=>⟨[(0,vS s),(15,vI s.size),(16,vI i),(2,.s (.d (.lit false)))],[]⟩) (fun i=>i≤s.size∧fH s s.size 0=fH s (s.size - i) i) (fun i=>s.size - i) 0 ⟨Nat.zero_le _,rfl⟩ ?_ ?_
 ·refine Sub.b7 aA trivial ⟨rQ,rQ,rQ,rQ,oO⟩
 ·rintro i ⟨hi,hj⟩
  refine eX aA ?_
  refine aI (fun h5=>?_) (fun h5=>?_)
  ·have h5:(i:Int)<s.size:=cB h5
   rw[show s.size - i=(s.size - (i+1))+1 by omega,fH]at hj
   refine oi ⟨oM,oM⟩ ?_
   repeat refine aR ?_
   refine aI (fun h6=>?_) (fun h6=>?_)
   ·have h6:uT i (u8 s i)=true:=h6
    exact aC.lit (by rw[LY,h,hj,h6];rfl)
   ·have h6:uT i (u8 s i)=false:=h6
    refine⟨i+1,⟨oM,by rw[hj,h6];rfl⟩,oM,?_⟩
    refine Sub.b7 aA trivial ⟨rQ,rQ,⟨rfl,?_⟩,rQ,oO⟩
    exact congrArg vI (aG oM oM)
  ·have h5:¬(i:Int)<s.size:=cD h5
   have bN:i=s.size:=oM
   exact aC.lit (by rw[LY,h,hj,bN,Nat.sub_self];rfl)
theorem S5(s:ByteArray)(hl:s.size≤9223372036854775807):aF prog 32 [vS s] (vB (isName s)):=by
 refine eP func32 rfl rfl call32 rfl rfl fun cx aA=>?_
 repeat refine aR ?_
 refine aI (fun h=>?_) (fun h=>?_)
 ·exact aC.lit (by rw[isName,h];rfl)
 refine AW.loop (fun i:Nat=>⟨[(0,vS s),(3,vI i),(2,.s (.d (.lit false)))],[]⟩) (fun i=>i≤s.size∧fH s s.size 0=fH s (s.size - i) i) (fun i=>s.size - i) 0 ⟨Nat.zero_le _,rfl⟩ ?_ ?_
 ·refine Sub.b7 aA trivial ⟨rQ,rQ,rQ,oO⟩
 ·rintro i ⟨hi,hj⟩
  refine eX aA ?_
  refine aI (fun h5=>?_) (fun h5=>?_)
  ·have h5:(i:Int)<s.size:=cB h5
   rw[show s.size - i=(s.size - (i+1))+1 by omega,fH]at hj
   refine oi ⟨oM,oM⟩ ?_
   repeat refine aR ?_
   refine aI (fun h6=>?_) (fun h6=>?_)
   ·have h6:uT i (u8 s i)=true:=(xH i (u8 s i)).symm.trans h6
    exact aC.lit (by rw[isName,h,hj,h6];rfl)
   ·have h6:uT i (u8 s i)=false:=(xH i (u8 s i)).symm.trans h6
    refine⟨i+1,⟨oM,by rw[hj,h6];rfl⟩,oM,?_⟩
    refine Sub.b7 aA trivial ⟨rQ,⟨rfl,?_⟩,rQ,oO⟩
    exact congrArg vI (aG oM oM)
  ·have h5:¬(i:Int)<s.size:=cD h5
   have bN:i=s.size:=oM
   exact aC.lit (by rw[isName,h,hj,bN,Nat.sub_self];rfl)
def KA(s:Int):Nat→Int→Int→Int
 |0,lo,_=>lo
 |k+1,lo,hi=>bif decide (lo<hi)then(bif decide (((lo+hi) / 2)*((lo+hi) / 2)≥s)then KA s k lo ((lo+hi) / 2)else KA s k ((lo+hi) / 2+1) hi)else lo
def span(a b:Pt):Int:=KA (dot a b b) 23 0 4000000
theorem cdot(c:kO)(k:Nat)(p:Pt)(hk:k+1<c.a8.length)(hl:c.a8.length≤9223372036854775807):
  aF prog 356 [chan c,vI k,pt p] (.t [.s (.d (dI (dot (c.a8.getD k default).pt (c.a8.getD (k+1) default).pt p))),.s (.d (dI (dot (c.a8.getD k default).pt (c.a8.getD (k+1) default).pt (c.a8.getD (k+1) default).pt)))]):=by
 refine eP func356 rfl rfl call356 rfl rfl fun cx _=>?_
 have e:aU ((k:Int)+1)=((k+1:Nat):Int):=aG oM oM
 refine oi ⟨oM,oM⟩ ?_
 refine oi (by show 0≤aU ((k:Int)+1)∧aU ((k:Int)+1)<_;rw[e];exact⟨oM,oM⟩) ?_
 refine aD ?_
 refine aD ?_
 refine aC.of_eq ?_
 show AV.t [.s (.d (dI (dot (c.a8.getD k default).pt (c.a8.getD (aU ((k:Int)+1)).toNat default).pt p))),.s (.d (dI (dot (c.a8.getD k default).pt (c.a8.getD (aU ((k:Int)+1)).toNat default).pt (c.a8.getD (aU ((k:Int)+1)).toNat default).pt)))]=_
 rw[e];rfl
theorem AX(l:List Pt)(hl:l.length≤9223372036854775807):aF prog 241 [FY l] (vB (l.any fun p=> !fY p)):=by
 refine eP func241 rfl rfl call241 rfl rfl fun cx _=>?_
 refine aB ((XB l hl 284 0 (fun _=>.bC) (fun p=> !fY p) (fun x _=>aJ2 x)).conv (args':=_) ⟨aJ.refl _,aJ.dQ fun j hj=>absurd hj (Nat.not_lt_zero j),oO⟩) ?_
 exact aC.refl _
theorem aDC(a b p:Pt)(ha:fY a=true)(hb:fY b=true)(hp:fY p=true)(IQ:a≠b):aF prog 363 [pt a,pt b,pt p] (vI 0):=by
 refine eP func363 rfl rfl call363 rfl rfl fun cx _=>?_
 refine aB ((AX [a,b,p] sM).conv (args':=_) ⟨aJ.fJ fun i j hi hj=>aJ.of_eq ?_,oO⟩) ?_
 ·have hi:i<3:=hi
  have hj:j<2:=hj
  match i,j,hi,hj with
  |0,0,_,_=>rfl
  |0,1,_,_=>rfl
  |1,0,_,_=>rfl
  |1,1,_,_=>rfl
  |2,0,_,_=>rfl
  |2,1,_,_=>rfl
 refine aI (fun h=>?_) (fun h=>?_)
 ·simp[ha,hb,hp]at h
 refine aI (fun h=>?_) (fun h=>?_)
 ·refine absurd ?_ IQ
  simp at h
  cases a;cases b;simp_all
 ·exact aC.of_eq rfl
end Go.Ch
namespace Go.Ch
open Go Go.Ax Go.Proofs Go.Proofs.Tryz Go.RowKit
theorem YT(b r:Nat)(h:FloatKind.f64.format.sqrt b=some r)(w:World):(callFunc 367 #[.float .f64 b]).run prog w=.ok (.value (.float .f64 r)) w:=by
 rw[run_callFunc_extern (P:=prog) (f:=367) (fn:=f367) (e:=Extern.MathSqrt.sqrt) func367 kR rfl kR kR]
 have e:Extern.MathSqrt.sqrt #[.float .f64 b]=(match FloatKind.f64.format.sqrt b with|some r=>pure (.float .f64 r)|none=>do pure (.float .f64 (←choose (.nanBits .f64 b b)))):=rfl
 rw[e,h]
 rfl
theorem S2(b r:Nat)(h:FloatKind.f64.format.sqrt b=some r)(w:World):Calls prog 366 #[.float .f64 b] w fun e w'=>e=.returned (.float .f64 r)∧w'=w:=by
 have hs:=YT b r h w
 go_enter func366,Tryz.ntmps366
 go_wp2
 go_ret
 exact⟨rfl,rfl⟩
theorem Sqrt(b r:Nat)(h:FloatKind.f64.format.sqrt b=some r):aF prog 366 [.s (.d (.val (.float .f64 b)))] (.s (.d (.val (.float .f64 r)))):=by
 refine⟨call366,fun M w vs _ hr hM=>?_⟩
 match vs,hr with
 |[v],⟨h1,_⟩=>
  obtain rfl:v=.float .f64 b:=h1
  refine(S2 b r h w).mono ?_
  rintro e w' ⟨rfl,rfl⟩
  exact⟨_,M,rfl,rfl,Grow.refl _ _,hM,⟨Below.refl _ _,oO⟩⟩
end Go.Ch
namespace Go.Ch
open Go Go.Ax Go.Proofs Go.Proofs.Tryz
theorem G8{p:Pt}:fY p=true↔(-1000000≤p.x∧p.x≤1000000)∧(-1000000≤p.y∧p.y≤1000000):=by
 simp[fY,within]
theorem j5{a b A B:Int}(ha: -A≤a)(ha':a≤A)(hb: -B≤b)(YC:b≤B): -(A*B)≤a*b∧a*b≤A*B:=by
 have hA:0≤A:=oM
 have hB:0≤B:=oM
 have h1:0≤(A - a)*(B - b):=Int.mul_nonneg oM oM
 have h2:0≤(A+a)*(B+b):=Int.mul_nonneg oM oM
 have h3:0≤(A - a)*(B+b):=Int.mul_nonneg oM oM
 have h4:0≤(A+a)*(B - b):=Int.mul_nonneg oM oM
 simp only [Int.mul_add,Int.mul_sub,Int.add_mul,Int.sub_mul]at h1 h2 h3 h4
 omega
def mW(a b c:Pt):Int:=(b.x - a.x)*(c.x - a.x)+(b.y - a.y)*(c.y - a.y)
def MM(a b c:Pt):Int:=(b.x - a.x)*(c.y - a.y) - (b.y - a.y)*(c.x - a.x)
theorem y2{a b c:Pt}(ha:fY a=true)(hb:fY b=true)(hc:fY c=true):dot a b c=mW a b c∧ -8000000000000≤mW a b c∧mW a b c≤8000000000000:=by
 rw[G8]at ha hb hc
 have h1:=j5 (a:=b.x - a.x) (b:=c.x - a.x) (A:=2000000) (B:=2000000) oM oM oM oM
 have h2:=j5 (a:=b.y - a.y) (b:=c.y - a.y) (A:=2000000) (B:=2000000) oM oM oM oM
 unfold dot mW
 rw[aG (n:=b.x - a.x) oM oM,aG (n:=c.x - a.x) oM oM,aG (n:=b.y - a.y) oM oM,aG (n:=c.y - a.y) oM oM]
 rw[aG (n:=(b.x - a.x)*(c.x - a.x)) oM oM,aG (n:=(b.y - a.y)*(c.y - a.y)) oM oM,aG oM oM]
 exact⟨rfl,oM,oM⟩
theorem P1{a b c:Pt}(ha:fY a=true)(hb:fY b=true)(hc:fY c=true):oZ a b c=MM a b c∧ -8000000000000≤MM a b c∧MM a b c≤8000000000000:=by
 rw[G8]at ha hb hc
 have h1:=j5 (a:=b.x - a.x) (b:=c.y - a.y) (A:=2000000) (B:=2000000) oM oM oM oM
 have h2:=j5 (a:=b.y - a.y) (b:=c.x - a.x) (A:=2000000) (B:=2000000) oM oM oM oM
 unfold oZ MM
 rw[aG (n:=b.x - a.x) oM oM,aG (n:=c.x - a.x) oM oM,aG (n:=b.y - a.y) oM oM,aG (n:=c.y - a.y) oM oM]
 rw[aG (n:=(b.x - a.x)*(c.y - a.y)) oM oM,aG (n:=(b.y - a.y)*(c.x - a.x)) oM oM,aG oM oM]
 exact⟨rfl,oM,oM⟩
theorem jX(x:Int):0≤x*x:=by
 rcases Int.le_total 0 x with h|h
 ·exact Int.mul_nonneg h h
 ·exact Int.mul_nonneg_of_nonpos_of_nonpos h h
theorem sq_nonneg(a b:Pt):0≤mW a b b:=by
 have h1:=jX (b.x - a.x)
 have h2:=jX (b.y - a.y)
 unfold mW;omega
theorem AH{x:Int}(h:x≠0):0<x*x:=by
 have h1:=jX x
 have h2:x*x≠0:=fun e=>by rcases Int.mul_eq_zero.1 e with h'|h' <;> exact h h'
 omega
theorem sq_pos{a b:Pt}(h:a≠b):0<mW a b b:=by
 have h1:=jX (b.x - a.x)
 have h2:=jX (b.y - a.y)
 by_cases hx:b.x - a.x=0
 ·by_cases hy:b.y - a.y=0
  ·exact absurd (by cases a;cases b;simp at hx hy ⊢;omega) h
  ·have:=AH hy
   unfold mW;omega
 ·have:=AH hx
  unfold mW;omega
def wY(s n:Int):Prop:=0≤n∧s≤n*n∧(n=0∨(n - 1)*(n - 1)<s)
theorem TD{a b:Int}(h0:0≤a)(h:a≤b):a*a≤b*b:=Int.mul_le_mul h h h0 oM
theorem wY.le{s n m:Int}(h:wY s n)(hm:0≤m)(h2:s≤m*m):n≤m:=by
 obtain⟨h0,h1,h3⟩:=h
 rcases Int.lt_or_le m n with fR|EL
 ·rcases h3 with rfl|h3
  ·omega
  ·have:=TD hm (show m≤n - 1 by omega)
   omega
 ·exact EL
theorem wY.unique{s n m:Int}(h:wY s n)(k:wY s m):n=m:=Int.le_antisymm (h.le k.1 k.2.1) (k.le h.1 h.2.1)
theorem yR(s:Int):∀(k:Nat) (lo hi:Int),0≤lo→lo≤hi→hi - lo<2^k→s≤hi*hi→(lo=0∨(lo - 1)*(lo - 1)<s)→wY s (KA s k lo hi)
 |0,lo,hi,h0,h1,h2,h3,h4=>by
  rw[KA]
  have:lo=hi:=by simp at h2;omega
  subst this
  exact⟨h0,h3,h4⟩
 |k+1,lo,hi,h0,h1,h2,h3,h4=>by
  rw[KA]
  rw[Int.pow_succ]at h2
  by_cases fR:lo<hi
  ·rw[decide_eq_true fR]
   simp only [cond_true]
   by_cases hm:(lo+hi) / 2*((lo+hi) / 2)≥s
   ·rw[decide_eq_true hm]
    exact yR s k lo _ h0 oM oM hm h4
   ·rw[decide_eq_false hm]
    refine yR s k _ hi oM oM oM h3 (.inr ?_)
    have:(lo+hi) / 2+1 - 1=(lo+hi) / 2:=oM
    rw[this];omega
  ·rw[decide_eq_false fR]
   have:lo=hi:=oM
   subst this
   exact⟨h0,h3,h4⟩
theorem JD{a b:Pt}(ha:fY a=true)(hb:fY b=true):wY (mW a b b) (span a b):=by
 obtain⟨h1,h2,h3⟩:=y2 ha hb hb
 unfold span
 rw[h1]
 exact yR _ 23 0 4000000 oM oM dC oM (.inl rfl)
theorem NP{a b:Pt}(ha:fY a=true)(hb:fY b=true)(IQ:a≠b):0<span a b:=by
 have h:=JD ha hb
 have:=sq_pos IQ
 have h0:=h.1
 rcases Int.lt_or_le 0 (span a b)with h'|h'
 ·exact h'
 ·have:span a b=0:=oM
  have h1:=h.2.1
  rw[this]at h1
  omega
theorem aE6(a b:Pt)(ha:fY a=true)(hb:fY b=true):aF prog 365 [pt a,pt b] (vI (span a b)):=by
 obtain⟨hd,hd1,hd2⟩:=y2 ha hb hb
 have hs0:=sq_nonneg a b
 obtain⟨r,n,hr,hn,hn0,hn1⟩:=aK0.QZ (dot a b b) oM oM
 have aES:=JD ha hb
 rw[←hd]at aES
 refine eP func365 rfl rfl call365 rfl rfl fun cx aA=>?_
 refine aB (aJ5 a b b) ?_
 refine aB (Sqrt _ r hr) ?_
 refine⟨n,⟨hn,by show -9223372036854775808≤n;omega,by show n≤9223372036854775807;omega⟩,?_⟩
 refine AW.loop (fun i:Int=>⟨[(5,vI (dot a b b)),(6,vI i)],[]⟩) (fun i=>0≤i∧i<2^24) (fun i=>(2^24 - i).toNat) n ⟨hn0,hn1⟩ ?_ ?_
 ·exact Sub.b7 aA trivial ⟨rQ,rQ,oO⟩
 ·rintro i ⟨RV,M7⟩
  have hii:=TD RV (show i≤16777216 by omega)
  have aNF:=Int.mul_nonneg RV RV
  have hw:aU (i*i)=i*i:=aG oM oM
  refine eX aA ?_
  refine aI (fun h=>?_) (fun h=>?_)
  ·have h:aU (i*i)<dot a b b:=cB h
   rw[hw]at h
   have fR:i<3000000:=by
    rcases Int.lt_or_le i 3000000 with h'|h'
    ·exact h'
    ·have:=TD oM h'
     omega
   refine⟨i+1,⟨oM,oM⟩,oM,?_⟩
   refine Sub.b7 aA trivial ⟨rQ,⟨rfl,congrArg vI (aG oM oM)⟩,oO⟩
  ·have h:¬aU (i*i)<dot a b b:=cD h
   rw[hw]at h
   refine AW.loop (fun i:Int=>⟨[(5,vI (dot a b b)),(6,vI i)],[]⟩) (fun i=>0≤i∧i<2^24∧dot a b b≤i*i) (fun i=>i.toNat) i ⟨RV,M7,oM⟩ ?_ ?_
   ·exact Sub.b7 aA trivial ⟨rQ,rQ,oO⟩
   ·rintro i ⟨RV,M7,hi2⟩
    have hii:=TD RV (show i≤16777216 by omega)
    refine eX aA ?_
    have T5:aU (i - 1)=i - 1:=aG oM oM
    have key:aU (aU (i - 1)*aU (i - 1))=(i - 1)*(i - 1):=by
     rw[T5]
     have:=j5 (a:=i - 1) (b:=i - 1) (A:=16777216) (B:=16777216) oM oM oM oM
     exact aG oM oM
    repeat refine aR ?_
    refine aI (fun h=>?_) (fun h=>?_)
    ·have h:(decide (i>0)&&decide (aU (aU (i - 1)*aU (i - 1))≥dot a b b))=true:=h
     rw[key]at h
     simp at h
     refine⟨i - 1,⟨oM,oM,oM⟩,oM,?_⟩
     refine Sub.b7 aA trivial ⟨rQ,⟨rfl,congrArg vI T5⟩,oO⟩
    ·have h:(decide (i>0)&&decide (aU (aU (i - 1)*aU (i - 1))≥dot a b b))=false:=h
     rw[key]at h
     simp at h
     refine aC.of_eq (congrArg vI ?_)
     refine wY.unique ⟨RV,hi2,?_⟩ aES
     by_cases h0:i=0
     ·exact .inl h0
     ·exact .inr (by have:=h oM;omega)
theorem aJ6(a b:Pt)(ha:fY a=true)(hb:fY b=true):aF prog 359 [pt a,pt b] (vI (span a b)):=by
 refine eP func359 rfl rfl call359 rfl rfl fun cx aA=>?_
 refine aB ((AX [a,b] sM).conv (args':=_) ⟨aJ.fJ fun i j hi hj=>aJ.of_eq ?_,oO⟩) ?_
 ·have hi:i<2:=hi
  have hj:j<2:=hj
  match i,j,hi,hj with
  |0,0,_,_=>rfl
  |0,1,_,_=>rfl
  |1,0,_,_=>rfl
  |1,1,_,_=>rfl
 refine aI (fun h=>?_) (fun h=>?_)
 ·simp[ha,hb]at h
 exact aB (aE6 a b ha hb) (aC.refl _)
def LK(a b p:Pt):Int:=mm true (oZ a b p) (aU (0 - oZ a b p)) / span a b
theorem ZR{c:Int}(h: -8000000000000≤c)(k:c≤8000000000000):0≤mm true c (aU (0 - c))∧mm true c (aU (0 - c))≤8000000000000∧mm true c (aU (0 - c))=(if c<0 then aU (0 - c)else c):=by
 rw[aG oM oM]
 unfold mm
 simp only
 split <;> split <;> omega
theorem aC7{a b p:Pt}(ha:fY a=true)(hb:fY b=true)(hp:fY p=true)(IQ:a≠b):0≤LK a b p∧LK a b p≤8000000000000:=by
 obtain⟨h1,h2,h3⟩:=P1 ha hb hp
 have hs:=NP ha hb IQ
 obtain⟨h4,h5,_⟩:=ZR (c:=oZ a b p) oM oM
 unfold LK
 exact⟨Int.ediv_nonneg h4 oM,Int.le_trans (Int.ediv_le_self _ h4) h5⟩
theorem aDN(a b p:Pt)(ha:fY a=true)(hb:fY b=true)(hp:fY p=true)(IQ:a≠b):aF prog 364 [pt a,pt b,pt p] (vI (LK a b p)):=by
 obtain⟨h1,h2,h3⟩:=P1 ha hb hp
 have hs:=NP ha hb IQ
 obtain⟨h4,h5,_⟩:=ZR (c:=oZ a b p) oM oM
 have ho:=aC7 ha hb hp IQ
 refine eP func364 rfl rfl call364 rfl rfl fun cx aA=>?_
 refine aB (R3 a b p) ?_
 refine aB (aE6 a b ha hb) ?_
 refine oi oM ?_
 refine aC.of_eq (congrArg vI ?_)
 show aU (Int.tdiv (mm true (oZ a b p) (aU (0 - oZ a b p))) (span a b))=_
 rw[Int.tdiv_eq_ediv_of_nonneg h4]
 exact aG (by have:=ho.1;unfold LK at this;omega) (by have:=ho.2;unfold LK at this;omega)
theorem aDP(a b p:Pt)(ha:fY a=true)(hb:fY b=true)(hp:fY p=true)(IQ:a≠b):aF prog 357 [pt a,pt b,pt p] (.t [.s (.d (dI (LK a b p))),.s (.d (dI 0))]):=by
 refine eP func357 rfl rfl call357 rfl rfl fun cx aA=>?_
 refine aB (aDC a b p ha hb hp IQ) ?_
 refine aI (fun h=>by cases h) (fun _=>?_)
 refine aB (aDN a b p ha hb hp IQ) ?_
 exact aC.of_eq rfl
structure FC where
 offset:Int
 half:Int
 p6:Int
 run:Int
 deriving DecidableEq,Inhabited
def VV(p:FC):Nat→DV
 |0=>dI p.offset
 |1=>dI p.half
 |2=>dI p.p6
 |3=>dI p.run
 |_=>.bC
def tU(l:List FC):Nat→Nat→DV:=fun i=>VV (l.getD i default)
def PW(l:List FC):DV:=.fJ l.length 4 (tU l)
abbrev aLK(p:FC):List SV:=[.d (dI p.offset),.d (dI p.half),.d (dI p.p6),.d (dI p.run)]
def Q9(o:Option FC):FC:=o.getD ⟨0,0,0,0⟩
abbrev ZG(o:Option FC):AV:=.t [.g (aLK (Q9 o)),.s (.d (.val (.bool o.isSome)))]
structure Val(c:kO):Prop where
 n2:2≤c.a8.length
 n20:c.a8.length≤20
 FY:∀i,i<c.a8.length→fY (c.a8.getD i default).pt=true
 half:∀i,i<c.a8.length→1≤(c.a8.getD i default).half∧(c.a8.getD i default).half≤100000
 level:∀i,i<c.a8.length→c.over - 20000≤(c.a8.getD i default).level∧(c.a8.getD i default).level≤20000
 run:∀i,i<c.a8.length→0≤(c.a8.getD i default).run∧(c.a8.getD i default).run≤1000
 apart:∀i,i+1<c.a8.length→(c.a8.getD i default).pt≠(c.a8.getD (i+1) default).pt
 over:0≤c.over∧c.over≤1000
 buffer:0≤c.buffer∧c.buffer≤100000
theorem aA9{a b q r:Int}(hb:0<b)(h:a=q*b+r)(h0:0≤r)(h1:r<b):a / b=q:=by
 rw[h,Int.add_comm,Int.add_mul_ediv_right _ _ oM,Int.ediv_eq_zero_of_lt h0 h1,Int.zero_add]
theorem tdm(a b:Int):a=a.tdiv b*b+a.tmod b:=by
 have:=Int.tmod_add_mul_tdiv a b
 rw[Int.mul_comm]at this;omega
theorem aCG{a b:Int}(hb:0<b): -b<a.tmod b∧a.tmod b<b:=by
 rcases Int.le_total 0 a with h|h
 ·rw[Int.tmod_eq_emod_of_nonneg h]
  have:=Int.emod_nonneg a (show b≠0 by omega)
  have:=Int.emod_lt_of_pos a hb
  omega
 ·obtain⟨n,rfl⟩:∃n:Int,a= -n:=⟨-a,oM⟩
  rw[Int.neg_tmod,Int.tmod_eq_emod_of_nonneg oM]
  have:=Int.emod_nonneg n (show b≠0 by omega)
  have:=Int.emod_lt_of_pos n hb
  omega
theorem aDV{a b:Int}(hb:0<b)(h: -9000000000000000000≤a)(k:a≤9000000000000000000):
  (if a.tmod b<0 then aU (aU (a.tdiv b) - 1)else aU (a.tdiv b))=a / b:=by
 have h1:=tdm a b
 have h2:=aCG (a:=a) hb
 have hq: -9000000000000000000≤a.tdiv b∧a.tdiv b≤9000000000000000000:=by
  rcases Int.le_total 0 a with h0|h0
  ·rw[Int.tdiv_eq_ediv_of_nonneg h0]
   have:=Int.ediv_le_self b h0
   have:=Int.ediv_nonneg h0 (show 0≤b by omega)
   omega
  ·obtain⟨n,rfl⟩:∃n:Int,a= -n:=⟨-a,oM⟩
   rw[Int.neg_tdiv,Int.tdiv_eq_ediv_of_nonneg oM]
   have:=Int.ediv_le_self (a:=n) b oM
   have:=Int.ediv_nonneg (a:=n) oM (show 0≤b by omega)
   omega
 split
 ·rw[aG (n:=a.tdiv b) oM oM,aG oM oM]
  exact(aA9 (r:=a.tmod b+b) hb (by rw[Int.sub_mul];omega) oM oM).symm
 ·rw[aG oM oM]
  exact(aA9 hb h1 oM oM).symm
def ZT(u v s d:Int):Int:=(u*(s - d)+v*d) / s
theorem aGD{u v s d U:Int}(hs:0<s)(M5:s≤8000000000000)(hd:0≤d)(hd2:d≤s)(hU:0≤U)(hU2:U≤100000)(hu: -U≤u)(hu2:u≤U)(hv: -U≤v)(X6:v≤U):
  aU (aU (u*aU (s - d))+aU (v*d))=u*(s - d)+v*d∧ -800000000000000000≤u*(s - d)+v*d∧u*(s - d)+v*d≤800000000000000000:=by
 have hsd:aU (s - d)=s - d:=aG oM oM
 rw[hsd]
 have h1:=j5 (a:=u) (b:=s - d) (A:=100000) (B:=s - d) oM oM oM oM
 have h2:=j5 (a:=v) (b:=d) (A:=100000) (B:=d) oM oM oM oM
 rw[aG (n:=u*(s - d)) oM oM,aG (n:=v*d) oM oM,aG oM oM]
 exact⟨rfl,oM,oM⟩
def ZZ(a b:Ap)(p:Pt):Option FC:=
 bif decide (mW a.pt b.pt p<0)||decide (mW a.pt b.pt p>mW a.pt b.pt b.pt)then none
 else some ⟨LK a.pt b.pt p,ZT a.half b.half (mW a.pt b.pt b.pt) (mW a.pt b.pt p),ZT a.level b.level (mW a.pt b.pt b.pt) (mW a.pt b.pt p),a.run⟩
def EH(c:kO)(k:Nat)(p:Pt):Option FC:=ZZ (c.a8.getD k default) (c.a8.getD (k+1) default) p
theorem TK{a b c d:Int}{l:Bool}{o:Option FC}(h:⟨a,b,c,d⟩=Q9 o)(k:l=o.isSome):aC (.t [.g [.d (dI a),.d (dI b),.d (dI c),.d (dI d)],.s (.d (.lit l))]) (ZG o):=by
 subst k
 unfold ZG
 rw[←h]
 exact aC.t ⟨⟨aJ.refl _,aJ.refl _,aJ.refl _,aJ.refl _,oO⟩,fun _ _ r=>r,oO⟩
theorem PU{u v s d U:Int}(hs:0<s)(M5:s≤8000000000000)(hd:0≤d)(hd2:d≤s)(hU:0≤U)(hU2:U≤100000)(hu: -U≤u)(hu2:u≤U)(hv: -U≤v)(X6:v≤U):
  (if(aU (aU (u*aU (s - d))+aU (v*d))).tmod s<0 then aU (aU ((aU (aU (u*aU (s - d))+aU (v*d))).tdiv s) - 1)else aU ((aU (aU (u*aU (s - d))+aU (v*d))).tdiv s))=ZT u v s d:=by
 obtain⟨h1,h2,h3⟩:=aGD hs M5 hd hd2 hU hU2 hu hu2 hv X6
 rw[h1]
 exact aDV hs oM oM
abbrev up(k:Nat):Nat:=(aU ((k:Int)+1)).toNat
theorem aIB{k:Nat}(h:k≤1000000):up k=k+1:=by
 unfold up
 rw[aG oM oM];omega
theorem TL{s0 s1 s2 s3 t:SV}{o:Option FC}{p:FC}{l:Bool}(ho:Q9 o=p)(hl:o.isSome=l)(h0:YE s0 (.d (dI p.offset)))(h1:YE s1 (.d (dI p.half)))(h2:YE s2 (.d (dI p.p6)))(h3:YE s3 (.d (dI p.run)))(h4:YE t (.d (.val (.bool l)))):
  aC (.t [.g [s0,s1,s2,s3],.s t]) (ZG o):=by
 subst ho;subst hl
 exact aC.t ⟨⟨h0,h1,h2,h3,oO⟩,h4,oO⟩
abbrev a8(c:kO)(k:Nat):Ap:=c.a8.getD k default
def aIO(a b:Ap)(p:Pt):FC:=⟨LK a.pt b.pt p,ZT a.half b.half (mW a.pt b.pt b.pt) (mW a.pt b.pt p),ZT a.level b.level (mW a.pt b.pt b.pt) (mW a.pt b.pt p),a.run⟩
theorem aIR(c:kO)(k:Nat)(p:Pt)(hv:Val c)(hk:k+1<c.a8.length)(hp:fY p=true):aF prog 330 [chan c,vI k,pt p] (ZG (EH c k p)):=by
 have hn:=hv.n20
 have ha:=hv.FY k oM
 have hb:=hv.FY (k+1) hk
 have IQ:=hv.apart k hk
 obtain⟨d1,d2,d3⟩:=y2 ha hb hp
 obtain⟨s1,s2,s3⟩:=y2 ha hb hb
 have s4:=sq_pos IQ
 have hh:=hv.half k oM
 have AR:=hv.half (k+1) hk
 have hl:=hv.level k oM
 have hl':=hv.level (k+1) hk
 have ho:=hv.over
 have e:aU ((k:Int)+1)=((k+1:Nat):Int):=aG oM oM
 have eup:up k=k+1:=aIB oM
 have eu:(aU ((k:Int)+1)).toNat=k+1:=eup
 refine eP func330 rfl rfl call330 rfl rfl fun cx aA=>?_
 refine aB (cdot c k p hk oM) ?_
 rw[d1,s1]
 repeat refine aR ?_
 refine aI (fun h=>?_) (fun h=>?_)
 ·exact TK (by unfold EH ZZ;rw[h];rfl) (by unfold EH ZZ;rw[h];rfl)
 have h:(decide (mW (c.a8.getD k default).pt (c.a8.getD (k+1) default).pt p<0)||decide (mW (c.a8.getD k default).pt (c.a8.getD (k+1) default).pt p>mW (c.a8.getD k default).pt (c.a8.getD (k+1) default).pt (c.a8.getD (k+1) default).pt))=false:=h
 have h':=h
 simp only [Bool.or_eq_false_iff,decide_eq_false_iff_not]at h'
 refine oi ⟨oM,oM⟩ ?_
 refine oi (by show 0≤aU ((k:Int)+1)∧aU ((k:Int)+1)<_;rw[e];exact⟨oM,oM⟩) ?_
 refine aD ?_
 refine aB (place (c.a8.getD k default)) ?_
 refine aB (place (c.a8.getD (up k) default)) ?_
 refine aB (aDP (c.a8.getD k default).pt (c.a8.getD (up k) default).pt p ha (by rw[eup];exact hb) hp (by rw[eup];exact IQ)) ?_
 refine aD ?_
 refine aB (down _ _ oM) ?_
 refine aB (down _ _ oM) ?_
 refine aD ?_
 refine TL (p:=aIO (a8 c k) (a8 c (k+1)) p) (l:=true) (by unfold EH ZZ;rw[h];rfl) (by unfold EH ZZ;rw[h];rfl) ?_ ?_ ?_ ?_ ?_
 ·exact aJ.of_eq (congrArg dI (by rw[eup];rfl))
 ·refine aJ.of_eq (congrArg dI ?_)
  simp only [eu,Int.toNat_natCast]
  exact PU (U:=100000) s4 oM oM oM oM oM oM oM oM oM
 ·refine aJ.of_eq (congrArg dI ?_)
  simp only [eu,Int.toNat_natCast]
  exact PU (U:=20000) s4 oM oM oM oM oM oM oM oM oM
 ·exact aJ.refl _
 ·exact fun _ _ r=>r
def QF(a q b:Ap)(p:Pt):Option FC:=
 bif decide (mW a.pt q.pt p≤mW a.pt q.pt q.pt)||decide (mW q.pt b.pt p≥0)then none else some ⟨span q.pt p,q.half,q.level,q.run⟩
def uD(c:kO)(j:Nat)(p:Pt):Option FC:=QF (a8 c j) (a8 c (j+1)) (a8 c (j+2)) p
theorem aF9(c:kO)(j:Nat)(p:Pt)(hv:Val c)(hk:j+2<c.a8.length)(hp:fY p=true):aF prog 331 [chan c,vI ((j+1:Nat):Int),pt p] (ZG (uD c j p)):=by
 have hn:=hv.n20
 have ha:=hv.FY j oM
 have hq:=hv.FY (j+1) oM
 have hb:=hv.FY (j+2) hk
 obtain⟨d1,_,_⟩:=y2 ha hq hp
 obtain⟨s1,_,_⟩:=y2 ha hq hq
 obtain⟨e1,_,_⟩:=y2 hq hb hp
 have em:aU (((j+1:Nat):Int) - 1)=(j:Int):=by rw[aG oM oM];omega
 have c1:aF prog 356 [chan c,vI (aU (((j+1:Nat):Int) - 1)),pt p] (.t [.s (.d (dI (mW (a8 c j).pt (a8 c (j+1)).pt p))),.s (.d (dI (mW (a8 c j).pt (a8 c (j+1)).pt (a8 c (j+1)).pt)))]):=by
  rw[em,←d1,←s1];exact cdot c j p oM oM
 have c2:=cdot c (j+1) p hk oM
 rw[e1]at c2
 refine eP func331 rfl rfl call331 rfl rfl fun cx aA=>?_
 refine aB c1 ?_
 refine aB c2 ?_
 repeat refine aR ?_
 refine aI (fun h=>?_) (fun h=>?_)
 ·exact TK (by unfold uD QF;rw[h];rfl) (by unfold uD QF;rw[h];rfl)
 refine oi ⟨oM,oM⟩ ?_
 refine aB (place (a8 c (j+1))) ?_
 refine aB (aJ6 (a8 c (j+1)).pt p hq hp) ?_
 refine aD ?_
 refine TL (p:=⟨span (a8 c (j+1)).pt p,(a8 c (j+1)).half,(a8 c (j+1)).level,(a8 c (j+1)).run⟩) (l:=true) (by unfold uD QF;rw[h];rfl) (by unfold uD QF;rw[h];rfl) ?_ ?_ ?_ ?_ ?_
 ·exact aJ.refl _
 ·exact aJ.refl _
 ·exact aJ.refl _
 ·exact aJ.refl _
 ·exact fun _ _ r=>r
def kK(c:kO)(p:Pt)(i:Nat):List FC:=(List.range i).filterMap fun k=>EH c k p
def lF(c:kO)(p:Pt)(i:Nat):List FC:=(List.range i).filterMap fun j=>uD c j p
def F6(c:kO)(p:Pt):List FC:=kK c p (c.a8.length - 1)++lF c p (c.a8.length - 2)
abbrev P9(c:kO):jM:=.cells [.d (dS c.name),.d (BE c.a8),.d (dI c.over),.d (dI c.buffer),.d (HK c.regions)]
abbrev ptB(p:Pt):jM:=.cells [.d (dI p.x),.d (dI p.y)]
theorem parts(c:kO)(p:Pt)(hv:Val c)(hp:fY p=true):aF prog 279 [chan c,pt p] (.s (.d (PW (F6 c p)))):=by
 have h2:=hv.n2
 have h20:=hv.n20
 have el:aU ((c.a8.length:Int) - 1)=(c.a8.length:Int) - 1:=aG oM oM
 refine eP func279 rfl rfl call279 rfl rfl fun cx aA=>?_
 refine AW.cZ (fun i:Nat=>⟨[(2,.s (.ptr 2 0)),(3,.s (.ptr 3 0)),(5,.s (.mo (kK c p i).isEmpty 100)),(15,vI (aU ((c.a8.length:Int) - 1))),(16,vI i)],[(2,some (P9 c)),(3,some (ptB p)),(100,some (.bW 348 (kK c p i).length 4 (tU (kK c p i))))]⟩)
  (fun i=>i≤c.a8.length - 1) (fun i=>c.a8.length - 1 - i) 0 (Nat.zero_le _) ?_ ?_
 ·exact aP.b7 aA [(100,1000)] rfl ⟨bQ,bQ,⟨rfl,rfl⟩,oO⟩ ⟨qZ,qZ,⟨rfl,aM.nil rfl⟩,qZ,qZ,oO⟩
 ·intro i hi
  refine eX aA ?_
  refine aI (fun h=>?_) (fun h=>?_)
  ·have h:(i:Int)<aU ((c.a8.length:Int) - 1):=cB h
   rw[el]at h
   refine aB (aIR c i p hv oM hp) ?_
   refine aI (fun h'=>?_) (fun h'=>?_)
   ·have h':(EH c i p).isSome=true:=h'
    have e':kK c p (i+1)=kK c p i++ [Q9 (EH c i p)]:=by
     unfold kK
     rw[cR]
     obtain⟨x,hx⟩:=Option.isSome_iff_exists.1 h'
     rw[hx];rfl
    have hlen:(kK c p i).length≤i:=by unfold kK;exact Nat.le_trans (List.length_filterMap_le _ _) sM
    refine ob dC ?_
    refine ob (by rw[dW];show _*32≤_;omega) ?_
    refine ob (mT (lt4 rfl rfl rfl rfl)) ?_
    refine⟨i+1,oM,oM,?_⟩
    refine aP.b7 aA [(100,30)] rfl ⟨bQ,bQ,⟨rfl,?_⟩,oO⟩ ⟨qZ,qZ,⟨rfl,aM.mo ?_⟩,qZ,⟨rfl,aM.of_eq (congrArg vI (aG oM oM))⟩,oO⟩
    ·show aQ _ (.bW 348 (kK c p (i+1)).length 4 (tU (kK c p (i+1))))
     rw[e']
     exact aQ.snoc (el:=VV) (x:=Q9 (EH c i p)) (lt4 rfl rfl rfl rfl)
    ·rw[e'];exact b9 _ _
   ·have h':(EH c i p).isSome=false:=h'
    have e':kK c p (i+1)=kK c p i:=by
     unfold kK
     rw[cR]
     cases hx:EH c i p with
     |none=>simp
     |some x=>rw[hx]at h';cases h'
    refine⟨i+1,oM,oM,?_⟩
    refine aP.b7 aA [] rfl ⟨bQ,bQ,⟨rfl,aQ.of_eq (by rw[e'];rfl)⟩,oO⟩ ⟨qZ,qZ,⟨rfl,aM.of_eq (by rw[e'];rfl)⟩,qZ,⟨rfl,aM.of_eq (congrArg vI (aG oM oM))⟩,oO⟩
  ·have h:¬(i:Int)<aU ((c.a8.length:Int) - 1):=cD h
   rw[el]at h
   have bN:i=c.a8.length - 1:=oM
   subst bN
   refine AW.cZ (fun j:Nat=>⟨[(2,.s (.ptr 2 0)),(3,.s (.ptr 3 0)),(5,.s (.mo (kK c p (c.a8.length - 1)++lF c p j).isEmpty 100)),(9,vI ((j+1:Nat):Int))],[(2,some (P9 c)),(3,some (ptB p)),(100,some (.bW 348 (kK c p (c.a8.length - 1)++lF c p j).length 4 (tU (kK c p (c.a8.length - 1)++lF c p j))))]⟩)
    (fun j=>j≤c.a8.length - 2) (fun j=>c.a8.length - j) 0 (Nat.zero_le _) ?_ ?_
   ·exact aP.b7 aA [] rfl ⟨bQ,bQ,⟨rfl,aQ.of_eq (by simp[lF,jN])⟩,oO⟩ ⟨qZ,qZ,⟨rfl,aM.of_eq (by simp[lF,nH,uL];rfl)⟩,qZ,oO⟩
   ·intro j hj
    refine eX aA ?_
    refine aI (fun h=>?_) (fun h=>?_)
    ·have h:((j+1:Nat):Int)<aU ((c.a8.length:Int) - 1):=cB h
     rw[el]at h
     refine aB (aF9 c j p hv oM hp) ?_
     refine aI (fun h'=>?_) (fun h'=>?_)
     ·have h':(uD c j p).isSome=true:=h'
      have e':kK c p (c.a8.length - 1)++lF c p (j+1)=(kK c p (c.a8.length - 1)++lF c p j)++ [Q9 (uD c j p)]:=by
       unfold lF
       rw[cR,List.append_assoc]
       obtain⟨x,hx⟩:=Option.isSome_iff_exists.1 h'
       rw[hx];rfl
      have hlen:(kK c p (c.a8.length - 1)++lF c p j).length≤c.a8.length - 1+j:=by
       rw[List.length_append]
       exact Nat.add_le_add (Nat.le_trans (List.length_filterMap_le _ _) sM) (Nat.le_trans (List.length_filterMap_le _ _) sM)
      refine ob dC ?_
      refine ob (by rw[dW];show _*32≤_;omega) ?_
      refine ob (mT (lt4 rfl rfl rfl rfl)) ?_
      refine⟨j+1,oM,oM,?_⟩
      refine aP.b7 aA [(100,51)] rfl ⟨bQ,bQ,⟨rfl,?_⟩,oO⟩ ⟨qZ,qZ,⟨rfl,aM.mo ?_⟩,⟨rfl,aM.of_eq (congrArg vI (aG oM oM))⟩,oO⟩
      ·show aQ _ (.bW 348 (kK c p (c.a8.length - 1)++lF c p (j+1)).length 4 (tU (kK c p (c.a8.length - 1)++lF c p (j+1))))
       rw[e']
       exact aQ.snoc (el:=VV) (x:=Q9 (uD c j p)) (lt4 rfl rfl rfl rfl)
      ·rw[e'];exact b9 _ _
     ·have h':(uD c j p).isSome=false:=h'
      have e':lF c p (j+1)=lF c p j:=by
       unfold lF
       rw[cR]
       cases hx:uD c j p with
       |none=>simp
       |some x=>rw[hx]at h';cases h'
      refine⟨j+1,oM,oM,?_⟩
      refine aP.b7 aA [] rfl ⟨bQ,bQ,⟨rfl,aQ.of_eq (by rw[e'];rfl)⟩,oO⟩ ⟨qZ,qZ,⟨rfl,aM.of_eq (by rw[e'];rfl)⟩,⟨rfl,aM.of_eq (congrArg vI (aG oM oM))⟩,oO⟩
    ·have h:¬((j+1:Nat):Int)<aU ((c.a8.length:Int) - 1):=cD h
     rw[el]at h
     have xS:j=c.a8.length - 2:=oM
     subst xS
     exact aC.mo
def RD(x:FC):Int×Bool:=lvl x.offset x.half x.p6 x.run
def NL(r:Int×Bool)(x:FC):Int×Bool:=bif (RD x).2&&(!r.2||decide ((RD x).1<r.1))then((RD x).1,true)else r
def EM(l:List FC):Int×Bool:=l.foldl NL (0,false)
theorem W4(l:List FC)(x:FC):EM (l++ [x])=NL (EM l) x:=by simp[EM]
def SF(c:kO)(p:Pt):Int×Bool:=EM (F6 c p)
theorem U9{l:List FC}{i:Nat}(h:i<l.length):EM (l.take (i+1))=NL (EM (l.take i)) (l.getD i default):=by
 rw[List.take_succ_eq_append_getElem h,W4,bA h]
theorem aG6(c:kO)(p:Pt)(hv:Val c)(hp:fY p=true):aF prog 231 [chan c,pt p] (rIB (SF c p)):=by
 have hlen:(F6 c p).length≤40:=by
  have:=hv.n20
  unfold F6 kK lF
  rw[List.length_append]
  have h1:=List.length_filterMap_le (fun k=>EH c k p) (List.range (c.a8.length - 1))
  have h2:=List.length_filterMap_le (fun k=>uD c k p) (List.range (c.a8.length - 2))
  simp at h1 h2;omega
 unfold SF
 refine eP func231 rfl rfl call231 rfl rfl fun cx aA=>?_
 refine aB (parts c p hv hp) ?_
 generalize F6 c p=l at hlen
 refine AW.cZ (fun i:Nat=>⟨[(6,vI (EM (l.take i)).1),(7,vB (EM (l.take i)).2),(14,.s (.d (PW l))),(15,vI l.length),(16,vI i)],[]⟩) (fun i=>i≤l.length) (fun i=>l.length - i) 0 (Nat.zero_le _) ?_ ?_
 ·exact aP.b7 aA [] rfl trivial ⟨qZ,⟨rfl,aM.lit rfl⟩,qZ,qZ,qZ,oO⟩
 ·intro i hi
  refine eX aA ?_
  refine aI (fun h=>?_) (fun h=>?_)
  ·have h:(i:Int)<l.length:=cB h
   have bN:i<l.length:=oM
   have ew:aU ((i:Int)+1)=((i+1:Nat):Int):=aG oM oM
   have jE:=U9 bN
   refine oi ⟨oM,oM⟩ ?_
   refine aB (level (l.getD i default).offset (l.getD i default).half (l.getD i default).p6 (l.getD i default).run) ?_
   repeat refine aR ?_
   refine aI (fun h'=>?_) (fun h'=>?_)
   ·have h':((RD (l.getD i default)).2&&(!(EM (l.take i)).2||decide ((RD (l.getD i default)).1<(EM (l.take i)).1)))=true:=h'
    unfold NL at jE
    rw[h']at jE
    refine⟨i+1,oM,oM,?_⟩
    exact aP.b7 aA [] rfl trivial ⟨⟨rfl,aM.int (by rw[jE];rfl)⟩,⟨rfl,aM.lit (by rw[jE];rfl)⟩,qZ,qZ,⟨rfl,aM.int ew⟩,oO⟩
   ·have h':((RD (l.getD i default)).2&&(!(EM (l.take i)).2||decide ((RD (l.getD i default)).1<(EM (l.take i)).1)))=false:=h'
    unfold NL at jE
    rw[h']at jE
    refine⟨i+1,oM,oM,?_⟩
    exact aP.b7 aA [] rfl trivial ⟨⟨rfl,aM.int (by rw[jE];rfl)⟩,⟨rfl,aM.bool (by rw[jE];rfl)⟩,qZ,qZ,⟨rfl,aM.int ew⟩,oO⟩
  ·have h:¬(i:Int)<l.length:=cD h
   have bN:i=l.length:=oM
   subst bN
   exact aC.of_eq (by rw[List.take_length];rfl)
abbrev JO(l:List Pt)(i:Nat):Pt:=l.getD i default
abbrev y8(l:List Pt)(i:Nat):Pt:=l.getD (i%l.length) default
def CA(a b:Pt):Bool:=a.x==b.x&&(a.y==b.y&&true)
theorem Q2{a b:Pt}:CA a b=true↔a=b:=by
 cases a;cases b;simp[CA]
def QI(n:Nat)(p:Nat→Bool):Bool:=(List.range n).any p
theorem C2{n:Nat}{p:Nat→Bool}{i:Nat}(h:i<n)(hp:p i=true):QI n p=true:=by
 unfold QI;rw[List.any_eq_true];exact⟨i,List.mem_range.2 h,hp⟩
theorem HY{n:Nat}{p:Nat→Bool}(h:∀i,i<n→p i=false):QI n p=false:=by
 unfold QI;rw[List.any_eq_false];intro i hi;rw[h i (List.mem_range.1 hi)];simp
def ME(l:List Pt)(i:Nat):Bool:=kX (JO l i) (y8 l (i+1)) (y8 l (i+2))||kX (y8 l (i+1)) (y8 l (i+2)) (JO l i)
def ZU(l:List Pt)(i k:Nat):Bool:=((((k+1)%l.length:Nat):Int) !=(i:Int))&&meet (JO l i) (y8 l (i+1)) (JO l k) (y8 l (k+1))
def qJ(l:List Pt)(i k:Nat):Bool:=decide (i+2≤k)&&ZU l i k
def aEC(l:List Pt)(i:Nat):Bool:=ME l i||QI l.length (qJ l i)
def aBR(l:List Pt)(i:Nat):Bool:=CA (JO l i) (y8 l (i+1))||aEC l i
def tC(l:List Pt):Bool:=QI l.length (aBR l)
theorem simple(l:List Pt)(h3:3≤l.length)(h40:l.length≤40):aF prog 243 [FY l] (vB (!tC l)):=by
 have hV:l≠[]:=by intro h;subst h;simp at h3
 refine eP func243 rfl rfl call243 rfl rfl fun cx aA=>?_
 refine AW.cZ (fun i:Nat=>⟨[(0,FY l),(3,vI l.length),(11,vI l.length),(12,vI i)],[]⟩) (fun i=>i≤l.length∧∀j,j<i→aBR l j=false) (fun i=>l.length - i) 0 ⟨Nat.zero_le _,fun j hj=>absurd hj (Nat.not_lt_zero j)⟩ ?_ ?_
 ·exact aP.b7 aA [] rfl trivial ⟨qZ,qZ,qZ,qZ,oO⟩
 ·rintro i ⟨hi,hj⟩
  refine eX aA ?_
  refine aI (fun h=>?_) (fun h=>?_)
  ·have h:(i:Int)<l.length:=cB h
   have e1:aU ((i:Int)+1)=((i+1:Nat):Int):=aG oM oM
   have e2:aU ((i:Int)+2)=((i+2:Nat):Int):=aG oM oM
   have c1:aF prog 285 [FY l,vI (aU ((i:Int)+1))] (pt (y8 l (i+1))):=by rw[e1];exact L7 l (i+1) hV
   have c2:aF prog 285 [FY l,vI (aU ((i:Int)+2))] (pt (y8 l (i+2))):=by rw[e2];exact L7 l (i+2) hV
   refine oi ⟨oM,oM⟩ ?_
   refine aB c1 ?_
   refine aB c2 ?_
   refine aD ?_
   repeat refine aR ?_
   refine eJ (on (JO l i) (y8 l (i+1)) (y8 l (i+2))) ?_
   repeat refine aR ?_
   refine eJ (on (y8 l (i+1)) (y8 l (i+2)) (JO l i)) ?_
   repeat refine aR ?_
   refine aI (fun h'=>?_) (fun h'=>?_)
   ·have h':(CA (JO l i) (y8 l (i+1))||kX (JO l i) (y8 l (i+1)) (y8 l (i+2))||kX (y8 l (i+1)) (y8 l (i+2)) (JO l i))=true:=h'
    refine aC.lit ?_
    have:tC l=true:=C2 (i:=i) oM (by unfold aBR aEC ME;rw[Bool.or_assoc]at h';rw[←Bool.or_assoc,h'];rfl)
    rw[this];rfl
   ·have h':(CA (JO l i) (y8 l (i+1))||kX (JO l i) (y8 l (i+1)) (y8 l (i+2))||kX (y8 l (i+1)) (y8 l (i+2)) (JO l i))=false:=h'
    refine AW.cZ (fun k:Nat=>⟨[(0,FY l),(3,vI l.length),(11,vI l.length),(12,vI i),(4,vI i),(5,.s (.ptr 5 0)),(6,.s (.ptr 6 0)),(8,vI k)],[(5,some (ptB (JO l i))),(6,some (ptB (y8 l (i+1))))]⟩) (fun k=>i+2≤k∧k≤l.length+2∧∀m,m<k→qJ l i m=false) (fun k=>l.length+2 - k) (i+2) ⟨oM,oM,fun m hm=>by unfold qJ;rw[decide_eq_false oM];rfl⟩ ?_ ?_
    ·exact aP.b7 aA [] rfl ⟨bQ,bQ,oO⟩ ⟨qZ,qZ,qZ,qZ,qZ,qZ,qZ,⟨rfl,aM.int e2⟩,oO⟩
    ·rintro k ⟨hk1,X9,hm⟩
     refine eX aA ?_
     refine aI (fun h''=>?_) (fun h''=>?_)
     ·have h'':(k:Int)<l.length:=cB h''
      have e3:aU ((k:Int)+1)=((k+1:Nat):Int):=aG oM oM
      have e4:(aU ((k:Int)+1)).tmod l.length=(((k+1)%l.length:Nat):Int):=by
       rw[e3,Int.tmod_eq_emod_of_nonneg oM];rfl
      have c3:aF prog 285 [FY l,vI (aU ((k:Int)+1))] (pt (y8 l (k+1))):=by rw[e3];exact L7 l (k+1) hV
      refine oi oM ?_
      repeat refine aR ?_
      refine og (fun _=>⟨oM,oM⟩) ?_
      repeat refine aR ?_
      refine eJ c3 ?_
      repeat refine aR ?_
      refine eJ (aJ3 (JO l i) (y8 l (i+1)) (JO l k) (y8 l (k+1))) ?_
      repeat refine aR ?_
      refine aD ?_
      have key:(((aU ((k:Int)+1)).tmod l.length !=(i:Int))&&meet (JO l i) (y8 l (i+1)) (JO l k) (y8 l (k+1)))=qJ l i k:=by
       unfold qJ ZU
       rw[decide_eq_true hk1,e4];rfl
      refine aI (fun UD=>?_) (fun UD=>?_)
      ·have UD:qJ l i k=true:=key.symm.trans UD
       refine aC.lit ?_
       have:tC l=true:=C2 (i:=i) oM (by unfold aBR aEC;rw[C2 (i:=k) oM UD];simp)
       rw[this];rfl
      ·have UD:qJ l i k=false:=key.symm.trans UD
       refine⟨k+1,⟨oM,oM,fun m QQ=>?_⟩,oM,?_⟩
       ·by_cases hmk:m=k
        ·rw[hmk];exact UD
        ·exact hm m oM
       ·exact aP.b7 aA [] rfl ⟨bQ,bQ,oO⟩ ⟨qZ,qZ,qZ,qZ,qZ,qZ,qZ,⟨rfl,aM.int e3⟩,oO⟩
     ·have h'':¬(k:Int)<l.length:=cD h''
      refine⟨i+1,⟨oM,fun j xS=>?_⟩,oM,?_⟩
      ·by_cases EK:j=i
       ·subst EK
        have hb:QI l.length (qJ l j)=false:=HY fun m QQ=>hm m oM
        unfold aBR aEC ME
        rw[hb]
        simp only [Bool.or_eq_false_iff]at h' ⊢
        exact⟨h'.1.1,⟨h'.1.2,h'.2⟩,oO⟩
       ·exact hj j oM
      ·exact aP.b7 aA [] rfl trivial ⟨qZ,qZ,qZ,⟨rfl,aM.int e1⟩,oO⟩
  ·have h:¬(i:Int)<l.length:=cD h
   refine aC.lit ?_
   have:tC l=false:=HY fun j xS=>hj j oM
   rw[this];rfl
def tH(l:List Pt):Int:=
 bif decide ((l.length:Int)<3)then 10 else bif decide ((l.length:Int)>40)then 8 else bif l.any (fun p=> !fY p)then 2 else bif tC l then 3 else 0
theorem aFU(l:List Pt):aF prog 238 [FY l] (vB (decide ((l.length:Int)<3))):=by
 refine eP func238 rfl rfl call238 rfl rfl fun cx aA=>?_
 exact aC.refl _
theorem aFT(l:List Pt):aF prog 239 [FY l] (vB (decide ((l.length:Int)>40))):=by
 refine eP func239 rfl rfl call239 rfl rfl fun cx aA=>?_
 exact aC.refl _
theorem aFS(l:List Pt)(hl:l.length≤9223372036854775807):aF prog 240 [FY l] (vB (l.any fun p=> !fY p)):=by
 refine eP func240 rfl rfl call240 rfl rfl fun cx aA=>?_
 exact aB (AX l hl) (aC.refl _)
theorem aFR(l:List Pt)(h3:3≤l.length)(h40:l.length≤40):aF prog 242 [FY l] (vB (tC l)):=by
 refine eP func242 rfl rfl call242 rfl rfl fun cx aA=>?_
 exact aB (simple l h3 h40) (aC.of_eq (by show vB (!(!_))=_;simp))
abbrev YX:List SV:=[.d (dI 10),.d (.dQ 238 0 fun _=>.bC),.d (dI 8),.d (.dQ 239 0 fun _=>.bC),.d (dI 2),.d (.dQ 240 0 fun _=>.bC),.d (dI 3),.d (.dQ 242 0 fun _=>.bC)]
theorem aFQ:aF prog 190 [] (.g YX):=by
 refine eP func190 rfl rfl call190 rfl rfl fun cx aA=>?_
 exact aC.le ⟨aJ.refl _,aJ.dQ fun j hj=>absurd hj (Nat.not_lt_zero j),aJ.refl _,aJ.dQ fun j hj=>absurd hj (Nat.not_lt_zero j),aJ.refl _,aJ.dQ fun j hj=>absurd hj (Nat.not_lt_zero j),aJ.refl _,aJ.dQ fun j hj=>absurd hj (Nat.not_lt_zero j),oO⟩
theorem IT(l:List Pt)(hl:l.length≤9223372036854775807):aF prog 136 [FY l] (vI (tH l)):=by
 refine eP func136 rfl rfl call136 rfl rfl fun cx aA=>?_
 refine aB aFQ ?_
 refine AW.cZ (fun i:Nat=>⟨[(0,FY l),(5,.g YX),(6,vI i)],[]⟩)
  (fun i=>i≤4∧(0<i→decide ((l.length:Int)<3)=false)∧(1<i→decide ((l.length:Int)>40)=false)∧(2<i→(l.any fun p=> !fY p)=false)∧(3<i→tC l=false)) (fun i=>4 - i) 0 ⟨oM,fun h=>absurd h oM,fun h=>absurd h oM,fun h=>absurd h oM,fun h=>absurd h oM⟩ ?_ ?_
 ·exact aP.b7 aA [] rfl trivial ⟨qZ,qZ,qZ,oO⟩
 ·rintro i ⟨hi,h1,h2,h3,h4⟩
  refine eX aA ?_
  match i,hi with
  |0,_=>
   refine aI (fun _=>?_) (fun h=>by cases h)
   refine oi ⟨oM,oM⟩ ?_
   refine aB (aFU l) ?_
   refine aI (fun h=>?_) (fun h=>?_)
   ·exact aC.of_eq (by unfold tH;rw[h];rfl)
   ·refine⟨1,⟨oM,fun _=>h,fun h=>absurd h oM,fun h=>absurd h oM,fun h=>absurd h oM⟩,oM,?_⟩
    exact aP.b7 aA [] rfl trivial ⟨qZ,qZ,qZ,oO⟩
  |1,_=>
   refine aI (fun _=>?_) (fun h=>by cases h)
   refine oi ⟨oM,oM⟩ ?_
   refine aB (aFT l) ?_
   refine aI (fun h=>?_) (fun h=>?_)
   ·exact aC.of_eq (by unfold tH;rw[h1 oM,h];rfl)
   ·refine⟨2,⟨oM,fun _=>h1 oM,fun _=>h,fun h=>absurd h oM,fun h=>absurd h oM⟩,oM,?_⟩
    exact aP.b7 aA [] rfl trivial ⟨qZ,qZ,qZ,oO⟩
  |2,_=>
   refine aI (fun _=>?_) (fun h=>by cases h)
   refine oi ⟨oM,oM⟩ ?_
   refine aB (aFS l hl) ?_
   refine aI (fun h=>?_) (fun h=>?_)
   ·exact aC.of_eq (by unfold tH;rw[h1 oM,h2 oM,h];rfl)
   ·refine⟨3,⟨oM,fun _=>h1 oM,fun _=>h2 oM,fun _=>h,fun h=>absurd h oM⟩,oM,?_⟩
    exact aP.b7 aA [] rfl trivial ⟨qZ,qZ,qZ,oO⟩
  |3,_=>
   refine aI (fun _=>?_) (fun h=>by cases h)
   refine oi ⟨oM,oM⟩ ?_
   have g1:=cD (h1 oM)
   have g2:=cD (h2 oM)
   refine aB (aFR l oM oM) ?_
   refine aI (fun h=>?_) (fun h=>?_)
   ·exact aC.of_eq (by unfold tH;rw[h1 oM,h2 oM,h3 oM,h];rfl)
   ·refine⟨4,⟨oM,fun _=>h1 oM,fun _=>h2 oM,fun _=>h3 oM,fun _=>h⟩,oM,?_⟩
    exact aP.b7 aA [] rfl trivial ⟨qZ,qZ,qZ,oO⟩
  |4,_=>
   refine aI (fun h=>by cases h) (fun _=>?_)
   exact aC.of_eq (by unfold tH;rw[h1 oM,h2 oM,h3 oM,h4 oM];rfl)

def dE(a b:ByteArray):Bool:=a.toList==b.toList
def yH(r:FB)(before:List FB):Int:=
 bif !isName r.name then 4 else bif before.any (fun q=>dE q.name r.name)then 5 else bif !within r.kind 0 3 then 2 else tH r.qN
def SO(s:ByteArray):Nat→DV
 |0=>dS s
 |_=>.bC
theorem aCU(q:FB)(s:ByteArray)(f:Nat→DV)(hf:f 0=dS s):aF prog 135 [reg q,.s (.d (.rp 3 f))] (vB (dE q.name s)):=by
 refine aF.conv (args:=[reg q,.s (.d (.rp 3 (SO s)))]) ?_ ⟨⟨aJ.refl _,aJ.refl _,aJ.refl _,oO⟩,aJ.rp fun j hj=>?_,oO⟩
 ·refine eP func135 rfl rfl call135 rfl rfl fun cx _=>?_
  exact aC.refl _
 ·match j with
  |0=>exact aJ.of_eq hf
  |_+1=>exact fun _ _ _=>trivial
theorem P6(r:FB)(before:List FB)(hr:r.name.size≤9223372036854775807)(hc:r.qN.length≤9223372036854775807)(hb:before.length≤9223372036854775807):
  aF prog 74 [reg r,ND before] (vI (yH r before)):=by
 refine eP func74 rfl rfl call74 rfl rfl fun cx aA=>?_
 refine aB (named r.name hr) ?_
 refine aI (fun h1=>?_) (fun h1=>?_)
 ·exact aC.of_eq (by unfold yH;rw[h1];rfl)
 refine aB (XA before hb 135 1 _ (fun q=>dE q.name r.name) (fun q _=>aCU q r.name _ rfl)) ?_
 refine aI (fun h2=>?_) (fun h2=>?_)
 ·exact aC.of_eq (by unfold yH;rw[h1,h2];rfl)
 refine aB (outside _ _ _) ?_
 refine aI (fun h3=>?_) (fun h3=>?_)
 ·exact aC.of_eq (by unfold yH;rw[h1,h2,h3];rfl)
 refine aB (IT r.qN hc) ?_
 exact aC.of_eq (by unfold yH;rw[h1,h2,h3];rfl)
def SY(over:Int)(a:Ap):Bool:= !fY a.pt|| !within a.half 1 100000|| !within a.level (aU (over - 20000)) 20000|| !within a.run 0 1000
def FO(l:List Ap)(i:Nat):Bool:=decide ((i:Int)>0)&&CA (l.getD i default).pt (l.getD (aU ((i:Int) - 1)).toNat default).pt
def wT(over:Int)(l:List Ap):Nat→Nat→Int
 |0,_=>0
 |n+1,i=>bif SY over (l.getD i default)then 2 else bif FO l i then 5 else wT over l n (i+1)
def uE(c:kO):Int:=bif decide ((c.a8.length:Int)<2)then 10 else bif decide ((c.a8.length:Int)>20)then 8 else wT c.over c.a8 c.a8.length 0
theorem XK(c:kO):aF prog 73 [chan c] (vI (uE c)):=by
 refine eP func73 rfl rfl call73 rfl rfl fun cx aA=>?_
 refine aI (fun h1=>?_) (fun h1=>?_)
 ·exact aC.of_eq (by unfold uE;rw[h1];rfl)
 refine aI (fun h2=>?_) (fun h2=>?_)
 ·exact aC.of_eq (by unfold uE;rw[h1,h2];rfl)
 have g2:=cD h2
 refine AW.cZ (fun i:Nat=>⟨[(1,.s (.ptr 1 0)),(14,aK7 c.a8),(15,vI c.a8.length),(16,vI i)],[(1,some (P9 c))]⟩) (fun i=>i≤c.a8.length∧wT c.over c.a8 c.a8.length 0=wT c.over c.a8 (c.a8.length - i) i) (fun i=>c.a8.length - i) 0 ⟨Nat.zero_le _,rfl⟩ ?_ ?_
 ·exact aP.b7 aA [] rfl ⟨bQ,oO⟩ ⟨qZ,qZ,qZ,qZ,oO⟩
 ·rintro i ⟨hi,hj⟩
  refine eX aA ?_
  refine aI (fun h=>?_) (fun h=>?_)
  ·have h:(i:Int)<c.a8.length:=cB h
   rw[show c.a8.length - i=(c.a8.length - (i+1))+1 by omega,wT]at hj
   refine oi ⟨oM,oM⟩ ?_
   refine aB (place (a8 c i)) ?_
   refine aB (aDK (a8 c i).pt) ?_
   repeat refine aR ?_
   refine eJ (outside _ _ _) ?_
   repeat refine aR ?_
   refine eJ (outside _ _ _) ?_
   repeat refine aR ?_
   refine eJ (outside _ _ _) ?_
   repeat refine aR ?_
   refine aI (fun h3=>?_) (fun h3=>?_)
   ·have h3:SY c.over (a8 c i)=true:=h3
    exact aC.of_eq (by unfold uE;rw[h1,h2,hj,h3];rfl)
   have h3:SY c.over (a8 c i)=false:=h3
   repeat refine aR ?_
   refine eJ (place (a8 c i)) ?_
   repeat refine aR ?_
   refine og (fun hb=>?_) ?_
   ·have:=cB hb
    show 0≤aU ((i:Int) - 1)∧aU ((i:Int) - 1)<_
    rw[aG (n:=(i:Int) - 1) oM oM]
    exact⟨oM,oM⟩
   repeat refine aR ?_
   refine eJ (place (c.a8.getD (aU ((i:Int) - 1)).toNat default)) ?_
   repeat refine aR ?_
   refine aD ?_
   refine aI (fun h4=>?_) (fun h4=>?_)
   ·have h4:FO c.a8 i=true:=h4
    exact aC.of_eq (by unfold uE;rw[h1,h2,hj,h3,h4];rfl)
   ·have h4:FO c.a8 i=false:=h4
    refine⟨i+1,⟨oM,by rw[hj,h3,h4];rfl⟩,oM,?_⟩
    exact aP.b7 aA [] rfl ⟨bQ,oO⟩ ⟨qZ,qZ,qZ,⟨rfl,aM.int (aG oM oM)⟩,oO⟩
  ·have h:¬(i:Int)<c.a8.length:=cD h
   exact aC.of_eq (by unfold uE;rw[h1,h2,hj,show c.a8.length - i=0 by omega];rfl)
def z8(l:List FB):Nat→Nat→Int
 |0,_=>0
 |n+1,i=>bif yH (l.getD i default) (l.take i) !=0 then yH (l.getD i default) (l.take i)else z8 l n (i+1)
def qY(c:kO):Int:=
 bif !isName c.name then 4
 else bif !within c.over 0 1000|| !within c.buffer 0 100000 then 2
 else bif uE c !=0 then uE c
 else bif decide ((c.regions.length:Int)>20)then 8
 else z8 c.regions c.regions.length 0
theorem VA(l:List FB)(i:Nat)(hi:i≤l.length):aJ (.fJ (i:Int).toNat 3 (ZB l)) (HK (l.take i)):=by
 refine aJ.xL (by simp;omega) fun a b ha hb=>aJ.of_eq ?_
 have ha:a<i:=ha
 unfold ZB
 congr 1
 simp[ha]
theorem FB.okD{l:List FB}(h:∀a∈l,a.ok){i:Nat}(hi:i<l.length):(l.getD i default).ok:=by
 rw[bA hi];exact h _ (List.getElem_mem hi)
theorem aAX(c:kO)(hc:c.ok):aF prog 26 [chan c] (vI (qY c)):=by
 refine eP func26 rfl rfl call26 rfl rfl fun cx aA=>?_
 refine aB (named c.name hc.name) ?_
 refine aI (fun h1=>?_) (fun h1=>?_)
 ·exact aC.of_eq (by unfold qY;rw[h1];rfl)
 refine aB (outside _ _ _) ?_
 repeat refine aR ?_
 refine eJ (outside _ _ _) ?_
 repeat refine aR ?_
 refine aI (fun h2=>?_) (fun h2=>?_)
 ·exact aC.of_eq (by unfold qY;rw[h1,h2];rfl)
 refine aB (XK c) ?_
 refine aI (fun h3=>?_) (fun h3=>?_)
 ·exact aC.of_eq (by unfold qY;rw[h1,h2,h3];rfl)
 refine aI (fun h4=>?_) (fun h4=>?_)
 ·exact aC.of_eq (by unfold qY;rw[h1,h2,h3,h4];rfl)
 have g4:=cD h4
 refine AW.cZ (fun i:Nat=>⟨[(1,.s (.ptr 1 0)),(29,ND c.regions),(30,vI c.regions.length),(31,vI i)],[(1,some (P9 c))]⟩) (fun i=>i≤c.regions.length∧z8 c.regions c.regions.length 0=z8 c.regions (c.regions.length - i) i) (fun i=>c.regions.length - i) 0 ⟨Nat.zero_le _,rfl⟩ ?_ ?_
 ·exact aP.b7 aA [] rfl ⟨bQ,oO⟩ ⟨qZ,qZ,qZ,qZ,oO⟩
 ·rintro i ⟨hi,hj⟩
  refine eX aA ?_
  refine aI (fun h=>?_) (fun h=>?_)
  ·have h:(i:Int)<c.regions.length:=cB h
   rw[show c.regions.length - i=(c.regions.length - (i+1))+1 by omega,z8]at hj
   have fT:=FB.okD hc.aLE (show i<c.regions.length by omega)
   refine oi ⟨oM,oM⟩ ?_
   refine oi ⟨dC,by show(0:Int)≤(i:Int);omega,by show(i:Int)≤_;omega⟩ ?_
   refine aB ((P6 (c.regions.getD i default) (c.regions.take i) fT.1 fT.2.2.1 (by simp;omega)).conv (args':=_) ⟨⟨aJ.refl _,aJ.refl _,aJ.refl _,oO⟩,VA c.regions i hi,oO⟩) ?_
   refine aD ?_
   refine aI (fun h5=>?_) (fun h5=>?_)
   ·exact aC.of_eq (by unfold qY;rw[h1,h2,h3,h4,hj,h5];rfl)
   ·refine⟨i+1,⟨oM,by rw[hj,h5];rfl⟩,oM,?_⟩
    exact aP.b7 aA [] rfl ⟨bQ,oO⟩ ⟨qZ,qZ,qZ,⟨rfl,aM.int (aG oM oM)⟩,oO⟩
  ·have h:¬(i:Int)<c.regions.length:=cD h
   exact aC.of_eq (by unfold qY;rw[h1,h2,h3,h4,hj,show c.regions.length - i=0 by omega];rfl)
def aE7(g:fS):Nat→DV
 |0=>dI g.x
 |1=>dI g.y
 |2=>dI g.side
 |3=>dI g.dP
 |4=>dI g.rows
 |5=>cG g.levels
 |_=>.bC
def CQ(l:List fS):Nat→Nat→DV:=fun i=>aE7 (l.getD i default)
def cP(l:List fS):DV:=.fJ l.length 6 (CQ l)
def G7(l:List fS):Nat→Nat→Int
 |0,_=>bif ((l.length:Int)==2)&& !alike (l.getD 0 default) (l.getD 1 default)then 10 else 0
 |n+1,i=>bif lN (l.getD i default) !=0 then lN (l.getD i default)else G7 l n (i+1)
def lR(c:kO)(l:List fS):Int:=bif qY c !=0 then qY c else G7 l l.length 0
theorem NB(c:kO)(g:fS):lR c [g]=bif qY c !=0 then qY c else lN g:=by
 unfold lR
 cases h:qY c !=0
 ·show G7 [g] 1 0=lN g
  show(bif lN g !=0 then lN g else 0)=lN g
  cases h':lN g !=0
  ·simp at h';exact h'.symm
  ·rfl
 ·rfl
attribute [local irreducible] lN qY in
theorem aKR(c:kO)(g:fS)(hc:c.ok)(hg:g.ok):aF prog 229 [chan c,yS g] (vI (lR c [g])):=by
 rw[NB]
 refine eP func229 rfl rfl call229 rfl rfl fun cx aA=>?_
 refine aB (aAX c hc) ?_
 refine aI (fun h1=>?_) (fun h1=>?_)
 ·exact aC.of_eq (by rw[h1];rfl)
 refine aB (SX g hg.levels) ?_
 exact aC.of_eq (by rw[h1];rfl)
theorem ED{over:Int}{l:List Ap}:∀{n i:Nat},wT over l n i=0→∀j,i≤j→j<i+n→SY over (l.getD j default)=false∧FO l j=false
 |0,i,_,j,h1,h2=>by omega
 |n+1,i,h,j,h1,h2=>by
  rw[wT]at h
  cases hb:SY over (l.getD i default)with
  |true=>rw[hb]at h;cases h
  |false=>
   cases hs:FO l i with
   |true=>rw[hb,hs]at h;cases h
   |false=>
    rw[hb,hs]at h
    by_cases YA:j=i
    ·subst YA;exact⟨hb,hs⟩
    ·exact ED (n:=n) (i:=i+1) h j oM oM
theorem aFH(c:kO)(h:qY c=0):Val c:=by
 unfold qY at h
 cases h1:isName c.name with
 |false=>rw[h1]at h;cases h
 |true=>
  rw[h1]at h
  cases h2:(!within c.over 0 1000|| !within c.buffer 0 100000)with
  |true=>rw[h2]at h;cases h
  |false=>
   rw[h2]at h
   cases h3:uE c !=0 with
   |true=>
    rw[h3]at h
    have h:uE c=0:=h
    rw[h]at h3;cases h3
   |false=>
    have h3:uE c=0:=by simpa using h3
    unfold uE at h3
    cases a1:decide ((c.a8.length:Int)<2)with
    |true=>rw[a1]at h3;cases h3
    |false=>
     cases a2:decide ((c.a8.length:Int)>20)with
     |true=>rw[a1,a2]at h3;cases h3
     |false=>
      rw[a1,a2]at h3
      have h3:wT c.over c.a8 c.a8.length 0=0:=h3
      have g1:=cD a1
      have g2:=cD a2
      simp[within]at h2
      have hov:aU (c.over - 20000)=c.over - 20000:=aG oM oM
      have hA:∀i,i<c.a8.length→SY c.over (a8 c i)=false∧FO c.a8 i=false:=fun i hi=>ED h3 i (Nat.zero_le _) oM
      have hB:∀i,i<c.a8.length→fY (a8 c i).pt=true∧(1≤(a8 c i).half∧(a8 c i).half≤100000)∧(c.over - 20000≤(a8 c i).level∧(a8 c i).level≤20000)∧(0≤(a8 c i).run∧(a8 c i).run≤1000):=by
       intro i hi
       have:=(hA i hi).1
       unfold SY at this
       rw[hov]at this
       simp only [Bool.or_eq_false_iff,Bool.not_eq_false']at this
       obtain⟨⟨⟨q1,q2⟩,q3⟩,q4⟩:=this
       simp only [within,Bool.and_eq_true,decide_eq_true_eq,ge_iff_le]at q2 q3 q4
       exact⟨q1,q2,q3,q4⟩
      refine⟨oM,oM,fun i hi=>(hB i hi).1,fun i hi=>(hB i hi).2.1,fun i hi=>(hB i hi).2.2.1,fun i hi=>(hB i hi).2.2.2,fun i hi=>?_,oM,oM⟩
      intro he
      have:=(hA (i+1) hi).2
      unfold FO at this
      rw[decide_eq_true oM,Bool.true_and,aG oM oM]at this
      have e:((((i+1:Nat):Int) - 1).toNat)=i:=oM
      rw[e]at this
      rw[Q2.2 he.symm]at this
      cases this
structure ES(g:fS):Prop where
 x: -1000000≤g.x∧g.x≤1000000
 y: -1000000≤g.y∧g.y≤1000000
 side:100≤g.side∧g.side≤10000
 dP:1≤g.dP∧g.dP≤1024
 rows:1≤g.rows∧g.rows≤1024
 aLR:g.dP*g.rows≤1024
 right:g.x+g.dP*g.side≤1000000
 top:g.y+g.rows*g.side≤1000000
 len:(g.levels.length:Int)=g.dP*g.rows
 lev:∀n∈g.levels,n=30000∨(-20000≤n∧n≤20000)
theorem ES.of{g:fS}(h:lN g=0):ES g:=by
 unfold lN at h
 cases h1:e1 g with
 |true=>rw[h1]at h;cases h
 |false=>
  rw[h1]at h
  unfold e1 at h1
  simp only [Bool.or_eq_false_iff,Bool.not_eq_false']at h1
  obtain⟨⟨⟨⟨q1,q2⟩,q3⟩,q4⟩,q5⟩:=h1
  simp only [within,Bool.and_eq_true,decide_eq_true_eq,ge_iff_le]at q1 q2 q3 q4 q5
  have m1:=j5 (a:=g.dP) (b:=g.rows) (A:=1024) (B:=1024) oM oM oM oM
  have m2:=j5 (a:=g.dP) (b:=g.side) (A:=1024) (B:=10000) oM oM oM oM
  have m3:=j5 (a:=g.rows) (b:=g.side) (A:=1024) (B:=10000) oM oM oM oM
  rw[aG (n:=g.dP*g.rows) oM oM,aG (n:=g.dP*g.side) oM oM,aG (n:=g.rows*g.side) oM oM,
   aG (n:=g.x+g.dP*g.side) oM oM,aG (n:=g.y+g.rows*g.side) oM oM]at h
  cases h2:decide (g.dP*g.rows>1024)with
  |true=>rw[h2]at h;cases h
  |false=>
   rw[h2]at h
   cases h3:(decide (g.x+g.dP*g.side>1000000)||decide (g.y+g.rows*g.side>1000000))with
   |true=>rw[h3]at h;cases h
   |false=>
    rw[h3]at h
    cases h4:((g.levels.length:Int) !=g.dP*g.rows)with
    |true=>rw[h4]at h;cases h
    |false=>
     rw[h4]at h
     cases h5:g.levels.any jD with
     |true=>rw[h5]at h;cases h
     |false=>
      simp only [Bool.or_eq_false_iff,decide_eq_false_iff_not]at h2 h3
      have h4:(g.levels.length:Int)=g.dP*g.rows:=by simpa using h4
      refine⟨q1,q2,q3,q4,q5,oM,oM,oM,h4,fun n hn=>?_⟩
      rw[List.any_eq_false]at h5
      have:=h5 n hn
      by_cases hu:n=30000
      ·exact .inl hu
      ·right
       simp[jD,within,hu]at this
       omega
theorem ES.n{g:fS}(h:ES g):g.levels.length≤1024:=by have:=h.len;have:=h.aLR;omega
theorem QA{g:fS}(h:ES g){i:Nat}(hi:i<g.levels.length):fY (dF g i)=true∧
  dF g i=⟨g.x+(i:Int)%g.dP*g.side+g.side / 2,g.y+(i:Int) / g.dP*g.side+g.side / 2⟩:=by
 obtain⟨hx,hy,hs,hc,hr,hm,hR,hT,hl,_⟩:=h
 have i0:(0:Int)≤(i:Int):=oM
 have e1:(i:Int).tmod g.dP=(i:Int)%g.dP:=Int.tmod_eq_emod_of_nonneg i0
 have e2:(i:Int).tdiv g.dP=(i:Int) / g.dP:=Int.tdiv_eq_ediv_of_nonneg i0
 have m0:=Int.emod_nonneg (i:Int) (show g.dP≠0 by omega)
 have m1:=Int.emod_lt_of_pos (i:Int) (show 0<g.dP by omega)
 have d0:=Int.ediv_nonneg i0 (show 0≤g.dP by omega)
 have d1:(i:Int) / g.dP<g.rows:=by
  apply Int.ediv_lt_of_lt_mul oM
  rw[Int.mul_comm g.rows,←hl];omega
 have p1:(i:Int)%g.dP*g.side≤(g.dP - 1)*g.side:=Int.mul_le_mul_of_nonneg_right oM oM
 have p0:0≤(i:Int)%g.dP*g.side:=Int.mul_nonneg m0 oM
 have p2:(i:Int) / g.dP*g.side≤(g.rows - 1)*g.side:=Int.mul_le_mul_of_nonneg_right oM oM
 have p3:0≤(i:Int) / g.dP*g.side:=Int.mul_nonneg d0 oM
 rw[Int.sub_mul]at p1 p2
 have hh:g.side.tdiv 2=g.side / 2:=Int.tdiv_eq_ediv_of_nonneg oM
 have key:dF g i=⟨g.x+(i:Int)%g.dP*g.side+g.side / 2,g.y+(i:Int) / g.dP*g.side+g.side / 2⟩:=by
  unfold dF E8
  simp only [e1,e2,hh]
  have lt:(i:Int) / g.dP≤1024:=oM
  rw[aG (n:=(i:Int)%g.dP*g.side) oM oM,aG (n:=(i:Int) / g.dP) oM oM,aG (n:=(i:Int) / g.dP*g.side) oM oM,aG (n:=g.side / 2) oM oM,
   aG (n:=g.x+(i:Int)%g.dP*g.side) oM oM,aG (n:=g.y+(i:Int) / g.dP*g.side) oM oM,aG oM oM,aG oM oM]
 refine⟨?_,key⟩
 rw[G8,key]
 simp only
 omega
abbrev aJ0(g:fS):jM:=.cells [.d (dI g.x),.d (dI g.y),.d (dI g.side),.d (dI g.dP),.d (dI g.rows),.d (cG g.levels)]

def KU(c:kO)(g:fS)(less:Int)(i:Nat):Int:=bif (SF c (dF g i)).2 then aU ((SF c (dF g i)).1 - less)else 30000
def lU(c:kO)(g:fS)(less:Int):fS:={g with levels:=(List.range g.levels.length).map (KU c g less)}
theorem qH{f:Nat→Nat→DV}{i:Nat}{x:DV}:fK f i 0 [.d x] i 0=x:=by
 unfold fK;rw[if_pos rfl];rfl
theorem w8{f:Nat→Nat→DV}{i k j:Nat}{cs:List SV}(h:k≠i):fK f i 0 cs k j=f k j:=by
 unfold fK;rw[if_neg h]
theorem D6(c:kO)(g:fS)(less:Int):(lU c g less).levels.length=g.levels.length:=by simp[lU]
abbrev uI(x:Int):AV:=.s (.d (.val (.int .u64 x)))
abbrev duI(x:Int):DV:=.val (.int .u64 x)
theorem QW{n:Int}(h:0≤n)(k:n≤18446744073709551615):IntKind.u64.wrap n=n:=by
 rw[IntKind.wrap_u64];omega
theorem andM{y:Int}(h:0≤y)(k:y<4294967296):XS .u64 y 4294967295=y:=by
 obtain⟨n,rfl⟩:=Int.eq_ofNat_of_zero_le h
 have hn:n<4294967296:=oM
 unfold XS
 have e:(BitVec.ofInt IntKind.u64.bits (n:Int)&&&BitVec.ofInt IntKind.u64.bits 4294967295).toNat=n:=by
  show(BitVec.ofInt 64 (n:Int)&&&BitVec.ofInt 64 4294967295).toNat=n
  rw[BitVec.toNat_and,show(BitVec.ofInt 64 4294967295).toNat=2^32 - 1 from rfl,Nat.and_two_pow_sub_one_eq_mod,BitVec.toNat_ofInt]
  omega
 rw[e]
 exact QW oM oM
theorem aFP{y:Int}(h:0≤y)(k:y<4294967296):YW .u64 y 32=0:=by
 show y.fdiv 4294967296=0
 rw[Int.fdiv_eq_ediv_of_nonneg _ oM]
 omega
def A6(v:Int)(k:Nat):Nat→Nat→DV:=fun i _=>if i<k then dI v else dI 0
theorem aBH{v:Int}{k q:Nat}{i j:Nat}(hq:q≤k):MN k q (A6 v k) (fun i=>A6 v k (0+i)) i j=A6 v (k+q) i j:=by
 unfold MN
 show(if k≤i∧i<k+q then(if 0+(i - k)<k then dI v else dI 0)else(if i<k then dI v else dI 0))=(if i<k+q then dI v else dI 0)
 by_cases h1:k≤i∧i<k+q
 ·rw[if_pos h1,if_pos oM,if_pos oM]
 ·rw[if_neg h1]
  by_cases h2:i<k
  ·rw[if_pos h2,if_pos oM]
  ·rw[if_neg h2,if_neg oM]




theorem H9{c:kO}{g:fS}(h:lR c [g]=0):qY c=0∧lN g=0:=by
 rw[NB]at h
 cases h1:qY c !=0 with
 |true=>rw[h1]at h;simp at h1;exact absurd h h1
 |false=>rw[h1]at h;exact⟨by simpa using h1,h⟩



abbrev rGE(g:fS)(e:Int):AV:=.t [.g [.d (dI g.x),.d (dI g.y),.d (dI g.side),.d (dI g.dP),.d (dI g.rows),.d (cG g.levels)],.s (.d (dI e))]
def YG:fS:=⟨0,0,0,0,0,[]⟩
theorem YF{e e':Int}(h:e=e'):aC (.t [.g (iE ty24.zero),.s (.d (dI e))]) (rGE YG e'):=by
 subst h
 exact aC.t ⟨⟨aJ.refl _,aJ.refl _,aJ.refl _,aJ.refl _,aJ.refl _,aJ.nil,oO⟩,aJ.refl _,oO⟩





end Go.Ch
namespace Go.Ax
open Go Go.RowKit
theorem cH.rowAt{M:Mem}{β β':Nm}{w:World}{a k:Nat}{e:TypeId}{n m s:Nat}{g g':Nat→Nat→DV}(hn:n=m)(hg:∀i j,i<n→j<s→aJ (g i j) (g' i j))(he:β' k=β a)(h:cH M β w a (.row e n s g)):cH M β' w k (.row e m s g'):=by
 subst hn
 obtain⟨b,c,cur,h1,h2,h3,h4,h5,h6,h7⟩:=h
 exact⟨b,c,cur,he.trans h1,h2,h3,h4,h5,h6,fun i j hi hj=>let⟨u,hu,hr⟩:=h7 i j hi hj;⟨u,hu,hg i j hi hj M u hr⟩⟩
section
variable{P:Program}{f:FuncId}{args:List AV}{a e n m s:Nat}{g g':Nat→Nat→DV}
theorem bM.named(k:Nat){r r':AV}(hn:n=m)(hg:∀i j,i<n→j<s→aJ (g i j) (g' i j))(h:bM P f args [] r [(a,.row e n s g)])(hr:∀(M:Mem) (β β':Nm) v,β' k=β a→r.a7 M β v→r'.a7 M β' v):bM P f args [] r' [(k,.row e m s g')]:=by
 refine⟨h.1,fun M β w vs hG hA hM qE hβ=>(h.2 M β w vs hG hA hM qE hβ).mono ?_⟩
 rintro q w' ⟨v,M',β',he,hle,dU,QT,aGK,fT,EJ,ho,ht,hu,hs,hk,hd⟩
 let β2:Nm:=fun y=>if y=k then β' a else none
 have h2:β2 k=β' a:=if_pos rfl
 have only:∀x,x∈names [(k,jM.row e m s g')]→x=k:=fun x hx=>List.mem_singleton.1 hx
 refine⟨v,M',β2,he,fun x p hx=>absurd (hβ x p hx) (by simp[names]),hr M' β' β2 v h2 dU,QT,aGK,⟨?_,?_,?_,?_⟩,?_,ho,ht,hu,hs,hk,hd⟩
 ·intro x hx
  obtain rfl:=only x hx
  rw[h2]
  exact fT.has a (by simp[names])
 ·intro x b hb
  have hb:=List.mem_singleton.1 hb
  cases hb
  exact cH.rowAt hn hg h2 (fT.rep a _ (List.mem_singleton.2 rfl))
 ·intro x y b c c' hx hy _ _
  rw[only x hx,only y hy]
 ·intro x b c hx hb o
  obtain rfl:=only x hx
  rw[h2]at hb
  exact fT.apart a b c (by simp[names]) hb o
 ·intro x b c hx hb
  obtain rfl:=only x hx
  rw[h2]at hb
  exact EJ a b c (by simp[names]) hb
theorem SV.a7.own{M:Mem}{β β':Nm}{k:Nat}{v:Value}(he:β' k=β a)(h:(SV.own a).a7 M β v):(SV.own k).a7 M β' v:=by
 obtain⟨b,c,h1,h2⟩:=h
 exact⟨b,c,he.trans h1,h2⟩
theorem bM.LN(k:Nat)(hn:n=m)(hg:∀i j,i<n→j<s→aJ (g i j) (g' i j)){x:DV}(h:bM P f args [] (.t [.s (.own a),.s (.d x)]) [(a,.row e n s g)]):bM P f args [] (.t [.s (.own k),.s (.d x)]) [(k,.row e m s g')]:=
 bM.named k hn hg h fun M _ _ v he hr=>by
  obtain⟨vs,e,hr⟩:=hr
  refine⟨vs,e,?_⟩
  match vs,hr with
  |[v1,v2],⟨h1,h2,_⟩=>exact⟨SV.a7.own (M:=M) he h1,h2,oO⟩
end
end Go.Ax
namespace Go.Pj
open Go Go.Ax Go.Ch
structure oT where
 name:ByteArray
 run:Int
 aG7:Int
 num:Int
 den:Int
 deriving Inhabited
def aIF(p:oT):Nat→DV
 |0=>dS p.name
 |1=>dI p.run
 |2=>dI p.aG7
 |3=>dI p.num
 |4=>dI p.den
 |_=>.bC
abbrev xX(p:oT):AV:=.g [.d (dS p.name),.d (dI p.run),.d (dI p.aG7),.d (dI p.num),.d (dI p.den)]
def aFO(l:List oT):Nat→Nat→DV:=fun i=>aIF (l.getD i default)
def mX(l:List oT):DV:=.fJ l.length 5 (aFO l)
abbrev mL(l:List oT):AV:=.s (.d (mX l))
structure uJ where
 top:Int
 aN:ByteArray
 deriving Inhabited
def aLT(p:uJ):Nat→DV
 |0=>dI p.top
 |1=>dS p.aN
 |_=>.bC
def aIX(l:List uJ):Nat→Nat→DV:=fun i=>aLT (l.getD i default)
def nT(l:List uJ):DV:=.fJ l.length 2 (aIX l)
abbrev zM(l:List uJ):AV:=.s (.d (nT l))
structure iM where
 name:ByteArray
 x:Int
 y:Int
 bR:List uJ
 deriving Inhabited
def aMZ(p:iM):Nat→DV
 |0=>dS p.name
 |1=>dI p.x
 |2=>dI p.y
 |3=>nT p.bR
 |_=>.bC
abbrev XO(p:iM):AV:=.g [.d (dS p.name),.d (dI p.x),.d (dI p.y),.d (nT p.bR)]
def aKW(l:List iM):Nat→Nat→DV:=fun i=>aMZ (l.getD i default)
def uB(l:List iM):DV:=.fJ l.length 4 (aKW l)
abbrev FE(l:List iM):AV:=.s (.d (uB l))
structure uG where
 aN:ByteArray
 BI:Int
 deriving Inhabited
def aIN(p:uG):Nat→DV
 |0=>dS p.aN
 |1=>dI p.BI
 |_=>.bC
abbrev aCY(p:uG):AV:=.g [.d (dS p.aN),.d (dI p.BI)]
def aIM(l:List uG):Nat→Nat→DV:=fun i=>aIN (l.getD i default)
def D8(l:List uG):DV:=.fJ l.length 2 (aIM l)
abbrev NF(l:List uG):AV:=.s (.d (D8 l))
structure ER where
 name:ByteArray
 due:Int
 pen:Int
 deriving Inhabited
def aIJ(p:ER):Nat→DV
 |0=>dS p.name
 |1=>dI p.due
 |2=>dI p.pen
 |_=>.bC
abbrev aCO(p:ER):AV:=.g [.d (dS p.name),.d (dI p.due),.d (dI p.pen)]
def aII(l:List ER):Nat→Nat→DV:=fun i=>aIJ (l.getD i default)
def UO(l:List ER):DV:=.fJ l.length 3 (aII l)
abbrev TA(l:List ER):AV:=.s (.d (UO l))
structure xI where
 name:ByteArray
 aBX:Int
 base:Int
 top:Int
 bB:List Int
 JN:Int
 deriving Inhabited
def ZM(p:xI):Nat→DV
 |0=>dS p.name
 |1=>dI p.aBX
 |2=>dI p.base
 |3=>dI p.top
 |4=>cG p.bB
 |5=>dI p.JN
 |_=>.bC
abbrev LI(p:xI):AV:=.g [.d (dS p.name),.d (dI p.aBX),.d (dI p.base),.d (dI p.top),.d (cG p.bB),.d (dI p.JN)]
def DF(l:List xI):Nat→Nat→DV:=fun i=>ZM (l.getD i default)
def qM(l:List xI):DV:=.fJ l.length 6 (DF l)
abbrev zL(l:List xI):AV:=.s (.d (qM l))
structure oG where
 aN:ByteArray
 num:Int
 den:Int
 deriving Inhabited
def aM1(p:oG):Nat→DV
 |0=>dS p.aN
 |1=>dI p.num
 |2=>dI p.den
 |_=>.bC
abbrev aD7(p:oG):AV:=.g [.d (dS p.aN),.d (dI p.num),.d (dI p.den)]
def aFC(l:List oG):Nat→Nat→DV:=fun i=>aM1 (l.getD i default)
def oY(l:List oG):DV:=.fJ l.length 3 (aFC l)
abbrev FF(l:List oG):AV:=.s (.d (oY l))
structure QV where
 batch:Int
 cQ:ByteArray
 jO:Int
 deriving Inhabited
def aDY(p:QV):Nat→DV
 |0=>dI p.batch
 |1=>dS p.cQ
 |2=>dI p.jO
 |_=>.bC
abbrev aDX(p:QV):AV:=.g [.d (dI p.batch),.d (dS p.cQ),.d (dI p.jO)]
def D7(l:List QV):Nat→Nat→DV:=fun i=>aDY (l.getD i default)
def KM(l:List QV):DV:=.fJ l.length 3 (D7 l)
abbrev zN(l:List QV):AV:=.s (.d (KM l))
structure Fact where
 kind:Int
 seq:Int
 aX:Int
 month:Int
 number:Int
 aS:Int
 over:Int
 cls:Int
 target:Int
 aN:ByteArray
 cQ:ByteArray
 cE:ByteArray
 levels:List Int
 deriving Inhabited
def R7(p:Fact):Nat→DV
 |0=>dI p.kind
 |1=>dI p.seq
 |2=>dI p.aX
 |3=>dI p.month
 |4=>dI p.number
 |5=>dI p.aS
 |6=>dI p.over
 |7=>dI p.cls
 |8=>dI p.target
 |9=>dS p.aN
 |10=>dS p.cQ
 |11=>dS p.cE
 |12=>cG p.levels
 |_=>.bC
abbrev oB(p:Fact):AV:=.g [.d (dI p.kind),.d (dI p.seq),.d (dI p.aX),.d (dI p.month),.d (dI p.number),.d (dI p.aS),.d (dI p.over),.d (dI p.cls),.d (dI p.target),.d (dS p.aN),.d (dS p.cQ),.d (dS p.cE),.d (cG p.levels)]
def pV(l:List Fact):Nat→Nat→DV:=fun i=>R7 (l.getD i default)
def UR(l:List Fact):DV:=.fJ l.length 13 (pV l)
abbrev jF(l:List Fact):AV:=.s (.d (UR l))
structure Piece where
 month:Int
 cell:Int
 aN:ByteArray
 jO:Int
 gO:Int
 load:Int
 cQ:ByteArray
 deriving Inhabited
def aC1(p:Piece):Nat→DV
 |0=>dI p.month
 |1=>dI p.cell
 |2=>dS p.aN
 |3=>dI p.jO
 |4=>dI p.gO
 |5=>dI p.load
 |6=>dS p.cQ
 |_=>.bC
abbrev aF5(p:Piece):AV:=.g [.d (dI p.month),.d (dI p.cell),.d (dS p.aN),.d (dI p.jO),.d (dI p.gO),.d (dI p.load),.d (dS p.cQ)]
def dY(l:List Piece):Nat→Nat→DV:=fun i=>aC1 (l.getD i default)
def UQ(l:List Piece):DV:=.fJ l.length 7 (dY l)
abbrev gX(l:List Piece):AV:=.s (.d (UQ l))
structure Due where
 aN:ByteArray
 jO:Int
 JN:Int
 HZ:Int
 deriving Inhabited
def aKF(p:Due):Nat→DV
 |0=>dS p.aN
 |1=>dI p.jO
 |2=>dI p.JN
 |3=>dI p.HZ
 |_=>.bC
def D5(l:List Due):Nat→Nat→DV:=fun i=>aKF (l.getD i default)
def wQ(l:List Due):DV:=.fJ l.length 4 (D5 l)
abbrev aEK(l:List Due):AV:=.s (.d (wQ l))
structure M3 where
 cE:ByteArray
 HZ:Int
 deriving Inhabited
def aLV(p:M3):Nat→DV
 |0=>dS p.cE
 |1=>dI p.HZ
 |_=>.bC
def aI1(l:List M3):Nat→Nat→DV:=fun i=>aLV (l.getD i default)
def wP(l:List M3):DV:=.fJ l.length 2 (aI1 l)
abbrev TB(l:List M3):AV:=.s (.d (wP l))
structure Part where
 aN:ByteArray
 top:Int
 bot:Int
 deriving Inhabited
def VV(p:Part):Nat→DV
 |0=>dS p.aN
 |1=>dI p.top
 |2=>dI p.bot
 |_=>.bC
def tU(l:List Part):Nat→Nat→DV:=fun i=>VV (l.getD i default)
def PW(l:List Part):DV:=.fJ l.length 3 (tU l)
abbrev gW(l:List Part):AV:=.s (.d (PW l))
structure Ground where
 bT:List oT
 eQ:List iM
 deriving Inhabited
abbrev WO(g:Ground):AV:=.g [.d (mX g.bT),.d (uB g.eQ)]
structure Batch where
 number:Int
 aS:Int
 over:Int
 aN:ByteArray
 cls:Int
 deriving Inhabited
abbrev aEB(b:Batch):AV:=.g [.d (dI b.number),.d (dI b.aS),.d (dI b.over),.d (dS b.aN),.d (dI b.cls)]
structure gR where
 a6:List xI
 b8:List oG
 cC:List QV
 carry:List Int
 deriving Inhabited
abbrev xJ(y:gR):AV:=.g [.d (qM y.a6),.d (oY y.b8),.d (KM y.cC),.d (cG y.carry)]
structure Proj where
 name:ByteArray
 aS:fS
 chan:kO
 gr:Ground
 agree:Int
 eU:Int
 eY:List uG
 fV:List ER
 a6:List xI
 b8:List oG
 deriving Inhabited
abbrev LH(p:Proj):AV:=.g [.d (dS p.name),.d (dI p.aS.x),.d (dI p.aS.y),.d (dI p.aS.side),.d (dI p.aS.dP),.d (dI p.aS.rows),.d (cG p.aS.levels),.d (dS p.chan.name),.d (BE p.chan.a8),.d (dI p.chan.over),.d (dI p.chan.buffer),.d (HK p.chan.regions),.d (mX p.gr.bT),.d (uB p.gr.eQ),.d (dI p.agree),.d (dI p.eU),.d (D8 p.eY),.d (UO p.fV),.d (qM p.a6),.d (oY p.b8)]
structure Stmt where
 month:Int
 over:Int
 eU:Int
 total:Int
 W2:List Due
 aLU:List M3
 aMS:List Int
 deriving Inhabited
end Go.Pj
namespace Go.Pj
open Go Go.Ax Go.Ch Go.Proofs Go.Proofs.Tryz
theorem J3(l:List oT)(hl:l.length≤9223372036854775807)(f k:Nat)(c:Nat→DV)(p:oT→Bool)(hp:∀x∈l,aF prog f (xX x::iX c k 0) (vB (p x))):
  aF prog 146 [mL l,.s (.d (.dQ f k c))] (vI (dA p l 0)):=by
 refine eP func146 rfl rfl call146 rfl rfl fun cx aA=>?_
 refine AW.loop (fun i:Nat=>⟨[(0,mL l),(1,.s (.d (.dQ f k c))),(7,vI l.length),(8,vI i),(4,vI 0)],[]⟩) (fun i=>i≤l.length∧dA p l 0=dA p (l.drop i) i) (fun i=>l.length - i) 0 ⟨Nat.zero_le _,rfl⟩ ?_ ?_
 ·refine Sub.b7 aA trivial ⟨rQ,rQ,rQ,rQ,rQ,oO⟩
 ·rintro i ⟨hi,he⟩
  refine eX aA ?_
  refine aI (fun h=>?_) (fun h=>?_)
  ·have h:(i:Int)<l.length:=cB h
   have bN:i<l.length:=oM
   have hd:l.drop i=l[i]::l.drop (i+1):=List.drop_eq_getElem_cons bN
   have hg:l.getD i default=l[i]:=bA bN
   refine oi ⟨oM,oM⟩ ?_
   refine aB ((hp (l.getD i default) (by rw[hg];simp)).conv (args':=_) ⟨⟨aJ.refl _,aJ.refl _,aJ.refl _,aJ.refl _,aJ.refl _,oO⟩,q9.iX⟩) ?_
   rw[hd,dA]at he
   rw[hg]
   refine aI (fun h=>?_) (fun h=>?_)
   ·refine aC.of_eq ?_
    rw[he,h];rfl
   ·refine⟨i+1,⟨oM,?_⟩,oM,?_⟩
    ·rw[he,h];rfl
    ·refine Sub.b7 aA trivial ⟨rQ,rQ,rQ,⟨rfl,?_⟩,rQ,oO⟩
     exact congrArg vI (aG oM oM)
  ·have h:¬(i:Int)<l.length:=cD h
   have bN:i=l.length:=oM
   subst bN
   refine aC.of_eq ?_
   rw[he,List.drop_length];rfl
theorem BG(l:List oT)(hl:l.length≤9223372036854775807)(f k:Nat)(c:Nat→DV)(p:oT→Bool)(hp:∀x∈l,aF prog f (xX x::iX c k 0) (vB (p x))):
  aF prog 80 [mL l,.s (.d (.dQ f k c))] (vB (l.any p)):=by
 refine eP func80 rfl rfl call80 rfl rfl fun cx aA=>?_
 refine aB (J3 l hl f k c p hp) ?_
 exact aC.of_eq (congrArg vB (mR p l 0))
theorem OY(l:List iM)(hl:l.length≤9223372036854775807)(f k:Nat)(c:Nat→DV)(p:iM→Bool)(hp:∀x∈l,aF prog f (XO x::iX c k 0) (vB (p x))):
  aF prog 193 [FE l,.s (.d (.dQ f k c))] (vI (dA p l 0)):=by
 refine eP func193 rfl rfl call193 rfl rfl fun cx aA=>?_
 refine AW.loop (fun i:Nat=>⟨[(0,FE l),(1,.s (.d (.dQ f k c))),(7,vI l.length),(8,vI i),(4,vI 0)],[]⟩) (fun i=>i≤l.length∧dA p l 0=dA p (l.drop i) i) (fun i=>l.length - i) 0 ⟨Nat.zero_le _,rfl⟩ ?_ ?_
 ·refine Sub.b7 aA trivial ⟨rQ,rQ,rQ,rQ,rQ,oO⟩
 ·rintro i ⟨hi,he⟩
  refine eX aA ?_
  refine aI (fun h=>?_) (fun h=>?_)
  ·have h:(i:Int)<l.length:=cB h
   have bN:i<l.length:=oM
   have hd:l.drop i=l[i]::l.drop (i+1):=List.drop_eq_getElem_cons bN
   have hg:l.getD i default=l[i]:=bA bN
   refine oi ⟨oM,oM⟩ ?_
   refine aB ((hp (l.getD i default) (by rw[hg];simp)).conv (args':=_) ⟨⟨aJ.refl _,aJ.refl _,aJ.refl _,aJ.refl _,oO⟩,q9.iX⟩) ?_
   rw[hd,dA]at he
   rw[hg]
   refine aI (fun h=>?_) (fun h=>?_)
   ·refine aC.of_eq ?_
    rw[he,h];rfl
   ·refine⟨i+1,⟨oM,?_⟩,oM,?_⟩
    ·rw[he,h];rfl
    ·refine Sub.b7 aA trivial ⟨rQ,rQ,rQ,⟨rfl,?_⟩,rQ,oO⟩
     exact congrArg vI (aG oM oM)
  ·have h:¬(i:Int)<l.length:=cD h
   have bN:i=l.length:=oM
   subst bN
   refine aC.of_eq ?_
   rw[he,List.drop_length];rfl
theorem HO(l:List iM)(hl:l.length≤9223372036854775807)(f k:Nat)(c:Nat→DV)(p:iM→Bool)(hp:∀x∈l,aF prog f (XO x::iX c k 0) (vB (p x))):
  aF prog 141 [FE l,.s (.d (.dQ f k c))] (vB (l.any p)):=by
 refine eP func141 rfl rfl call141 rfl rfl fun cx aA=>?_
 refine aB (OY l hl f k c p hp) ?_
 exact aC.of_eq (congrArg vB (mR p l 0))
theorem RI(l:List uG)(hl:l.length≤9223372036854775807)(f k:Nat)(c:Nat→DV)(p:uG→Bool)(hp:∀x∈l,aF prog f (aCY x::iX c k 0) (vB (p x))):
  aF prog 147 [NF l,.s (.d (.dQ f k c))] (vI (dA p l 0)):=by
 refine eP func147 rfl rfl call147 rfl rfl fun cx aA=>?_
 refine AW.loop (fun i:Nat=>⟨[(0,NF l),(1,.s (.d (.dQ f k c))),(7,vI l.length),(8,vI i),(4,vI 0)],[]⟩) (fun i=>i≤l.length∧dA p l 0=dA p (l.drop i) i) (fun i=>l.length - i) 0 ⟨Nat.zero_le _,rfl⟩ ?_ ?_
 ·refine Sub.b7 aA trivial ⟨rQ,rQ,rQ,rQ,rQ,oO⟩
 ·rintro i ⟨hi,he⟩
  refine eX aA ?_
  refine aI (fun h=>?_) (fun h=>?_)
  ·have h:(i:Int)<l.length:=cB h
   have bN:i<l.length:=oM
   have hd:l.drop i=l[i]::l.drop (i+1):=List.drop_eq_getElem_cons bN
   have hg:l.getD i default=l[i]:=bA bN
   refine oi ⟨oM,oM⟩ ?_
   refine aB ((hp (l.getD i default) (by rw[hg];simp)).conv (args':=_) ⟨⟨aJ.refl _,aJ.refl _,oO⟩,q9.iX⟩) ?_
   rw[hd,dA]at he
   rw[hg]
   refine aI (fun h=>?_) (fun h=>?_)
   ·refine aC.of_eq ?_
    rw[he,h];rfl
   ·refine⟨i+1,⟨oM,?_⟩,oM,?_⟩
    ·rw[he,h];rfl
    ·refine Sub.b7 aA trivial ⟨rQ,rQ,rQ,⟨rfl,?_⟩,rQ,oO⟩
     exact congrArg vI (aG oM oM)
  ·have h:¬(i:Int)<l.length:=cD h
   have bN:i=l.length:=oM
   subst bN
   refine aC.of_eq ?_
   rw[he,List.drop_length];rfl
theorem IV(l:List uG)(hl:l.length≤9223372036854775807)(f k:Nat)(c:Nat→DV)(p:uG→Bool)(hp:∀x∈l,aF prog f (aCY x::iX c k 0) (vB (p x))):
  aF prog 82 [NF l,.s (.d (.dQ f k c))] (vB (l.any p)):=by
 refine eP func82 rfl rfl call82 rfl rfl fun cx aA=>?_
 refine aB (RI l hl f k c p hp) ?_
 exact aC.of_eq (congrArg vB (mR p l 0))
theorem WA(l:List ER)(hl:l.length≤9223372036854775807)(f k:Nat)(c:Nat→DV)(p:ER→Bool)(hp:∀x∈l,aF prog f (aCO x::iX c k 0) (vB (p x))):
  aF prog 150 [TA l,.s (.d (.dQ f k c))] (vI (dA p l 0)):=by
 refine eP func150 rfl rfl call150 rfl rfl fun cx aA=>?_
 refine AW.loop (fun i:Nat=>⟨[(0,TA l),(1,.s (.d (.dQ f k c))),(7,vI l.length),(8,vI i),(4,vI 0)],[]⟩) (fun i=>i≤l.length∧dA p l 0=dA p (l.drop i) i) (fun i=>l.length - i) 0 ⟨Nat.zero_le _,rfl⟩ ?_ ?_
 ·refine Sub.b7 aA trivial ⟨rQ,rQ,rQ,rQ,rQ,oO⟩
 ·rintro i ⟨hi,he⟩
  refine eX aA ?_
  refine aI (fun h=>?_) (fun h=>?_)
  ·have h:(i:Int)<l.length:=cB h
   have bN:i<l.length:=oM
   have hd:l.drop i=l[i]::l.drop (i+1):=List.drop_eq_getElem_cons bN
   have hg:l.getD i default=l[i]:=bA bN
   refine oi ⟨oM,oM⟩ ?_
   refine aB ((hp (l.getD i default) (by rw[hg];simp)).conv (args':=_) ⟨⟨aJ.refl _,aJ.refl _,aJ.refl _,oO⟩,q9.iX⟩) ?_
   rw[hd,dA]at he
   rw[hg]
   refine aI (fun h=>?_) (fun h=>?_)
   ·refine aC.of_eq ?_
    rw[he,h];rfl
   ·refine⟨i+1,⟨oM,?_⟩,oM,?_⟩
    ·rw[he,h];rfl
    ·refine Sub.b7 aA trivial ⟨rQ,rQ,rQ,⟨rfl,?_⟩,rQ,oO⟩
     exact congrArg vI (aG oM oM)
  ·have h:¬(i:Int)<l.length:=cD h
   have bN:i=l.length:=oM
   subst bN
   refine aC.of_eq ?_
   rw[he,List.drop_length];rfl
theorem MO(l:List ER)(hl:l.length≤9223372036854775807)(f k:Nat)(c:Nat→DV)(p:ER→Bool)(hp:∀x∈l,aF prog f (aCO x::iX c k 0) (vB (p x))):
  aF prog 85 [TA l,.s (.d (.dQ f k c))] (vB (l.any p)):=by
 refine eP func85 rfl rfl call85 rfl rfl fun cx aA=>?_
 refine aB (WA l hl f k c p hp) ?_
 exact aC.of_eq (congrArg vB (mR p l 0))
theorem Z8(l:List xI)(hl:l.length≤9223372036854775807)(f k:Nat)(c:Nat→DV)(p:xI→Bool)(hp:∀x∈l,aF prog f (LI x::iX c k 0) (vB (p x))):
  aF prog 245 [zL l,.s (.d (.dQ f k c))] (vI (dA p l 0)):=by
 refine eP func245 rfl rfl call245 rfl rfl fun cx aA=>?_
 refine AW.loop (fun i:Nat=>⟨[(0,zL l),(1,.s (.d (.dQ f k c))),(7,vI l.length),(8,vI i),(4,vI 0)],[]⟩) (fun i=>i≤l.length∧dA p l 0=dA p (l.drop i) i) (fun i=>l.length - i) 0 ⟨Nat.zero_le _,rfl⟩ ?_ ?_
 ·refine Sub.b7 aA trivial ⟨rQ,rQ,rQ,rQ,rQ,oO⟩
 ·rintro i ⟨hi,he⟩
  refine eX aA ?_
  refine aI (fun h=>?_) (fun h=>?_)
  ·have h:(i:Int)<l.length:=cB h
   have bN:i<l.length:=oM
   have hd:l.drop i=l[i]::l.drop (i+1):=List.drop_eq_getElem_cons bN
   have hg:l.getD i default=l[i]:=bA bN
   refine oi ⟨oM,oM⟩ ?_
   refine aB ((hp (l.getD i default) (by rw[hg];simp)).conv (args':=_) ⟨⟨aJ.refl _,aJ.refl _,aJ.refl _,aJ.refl _,aJ.refl _,aJ.refl _,oO⟩,q9.iX⟩) ?_
   rw[hd,dA]at he
   rw[hg]
   refine aI (fun h=>?_) (fun h=>?_)
   ·refine aC.of_eq ?_
    rw[he,h];rfl
   ·refine⟨i+1,⟨oM,?_⟩,oM,?_⟩
    ·rw[he,h];rfl
    ·refine Sub.b7 aA trivial ⟨rQ,rQ,rQ,⟨rfl,?_⟩,rQ,oO⟩
     exact congrArg vI (aG oM oM)
  ·have h:¬(i:Int)<l.length:=cD h
   have bN:i=l.length:=oM
   subst bN
   refine aC.of_eq ?_
   rw[he,List.drop_length];rfl
theorem WC(l:List oG)(hl:l.length≤9223372036854775807)(f k:Nat)(c:Nat→DV)(p:oG→Bool)(hp:∀x∈l,aF prog f (aD7 x::iX c k 0) (vB (p x))):
  aF prog 351 [FF l,.s (.d (.dQ f k c))] (vI (dA p l 0)):=by
 refine eP func351 rfl rfl call351 rfl rfl fun cx aA=>?_
 refine AW.loop (fun i:Nat=>⟨[(0,FF l),(1,.s (.d (.dQ f k c))),(7,vI l.length),(8,vI i),(4,vI 0)],[]⟩) (fun i=>i≤l.length∧dA p l 0=dA p (l.drop i) i) (fun i=>l.length - i) 0 ⟨Nat.zero_le _,rfl⟩ ?_ ?_
 ·refine Sub.b7 aA trivial ⟨rQ,rQ,rQ,rQ,rQ,oO⟩
 ·rintro i ⟨hi,he⟩
  refine eX aA ?_
  refine aI (fun h=>?_) (fun h=>?_)
  ·have h:(i:Int)<l.length:=cB h
   have bN:i<l.length:=oM
   have hd:l.drop i=l[i]::l.drop (i+1):=List.drop_eq_getElem_cons bN
   have hg:l.getD i default=l[i]:=bA bN
   refine oi ⟨oM,oM⟩ ?_
   refine aB ((hp (l.getD i default) (by rw[hg];simp)).conv (args':=_) ⟨⟨aJ.refl _,aJ.refl _,aJ.refl _,oO⟩,q9.iX⟩) ?_
   rw[hd,dA]at he
   rw[hg]
   refine aI (fun h=>?_) (fun h=>?_)
   ·refine aC.of_eq ?_
    rw[he,h];rfl
   ·refine⟨i+1,⟨oM,?_⟩,oM,?_⟩
    ·rw[he,h];rfl
    ·refine Sub.b7 aA trivial ⟨rQ,rQ,rQ,⟨rfl,?_⟩,rQ,oO⟩
     exact congrArg vI (aG oM oM)
  ·have h:¬(i:Int)<l.length:=cD h
   have bN:i=l.length:=oM
   subst bN
   refine aC.of_eq ?_
   rw[he,List.drop_length];rfl
theorem Z9(l:List QV)(hl:l.length≤9223372036854775807)(f k:Nat)(c:Nat→DV)(p:QV→Bool)(hp:∀x∈l,aF prog f (aDX x::iX c k 0) (vB (p x))):
  aF prog 350 [zN l,.s (.d (.dQ f k c))] (vI (dA p l 0)):=by
 refine eP func350 rfl rfl call350 rfl rfl fun cx aA=>?_
 refine AW.loop (fun i:Nat=>⟨[(0,zN l),(1,.s (.d (.dQ f k c))),(7,vI l.length),(8,vI i),(4,vI 0)],[]⟩) (fun i=>i≤l.length∧dA p l 0=dA p (l.drop i) i) (fun i=>l.length - i) 0 ⟨Nat.zero_le _,rfl⟩ ?_ ?_
 ·refine Sub.b7 aA trivial ⟨rQ,rQ,rQ,rQ,rQ,oO⟩
 ·rintro i ⟨hi,he⟩
  refine eX aA ?_
  refine aI (fun h=>?_) (fun h=>?_)
  ·have h:(i:Int)<l.length:=cB h
   have bN:i<l.length:=oM
   have hd:l.drop i=l[i]::l.drop (i+1):=List.drop_eq_getElem_cons bN
   have hg:l.getD i default=l[i]:=bA bN
   refine oi ⟨oM,oM⟩ ?_
   refine aB ((hp (l.getD i default) (by rw[hg];simp)).conv (args':=_) ⟨⟨aJ.refl _,aJ.refl _,aJ.refl _,oO⟩,q9.iX⟩) ?_
   rw[hd,dA]at he
   rw[hg]
   refine aI (fun h=>?_) (fun h=>?_)
   ·refine aC.of_eq ?_
    rw[he,h];rfl
   ·refine⟨i+1,⟨oM,?_⟩,oM,?_⟩
    ·rw[he,h];rfl
    ·refine Sub.b7 aA trivial ⟨rQ,rQ,rQ,⟨rfl,?_⟩,rQ,oO⟩
     exact congrArg vI (aG oM oM)
  ·have h:¬(i:Int)<l.length:=cD h
   have bN:i=l.length:=oM
   subst bN
   refine aC.of_eq ?_
   rw[he,List.drop_length];rfl
theorem P3(l:List QV)(hl:l.length≤9223372036854775807)(f k:Nat)(c:Nat→DV)(p:QV→Bool)(hp:∀x∈l,aF prog f (aDX x::iX c k 0) (vB (p x))):
  aF prog 325 [zN l,.s (.d (.dQ f k c))] (vB (l.any p)):=by
 refine eP func325 rfl rfl call325 rfl rfl fun cx aA=>?_
 refine aB (Z9 l hl f k c p hp) ?_
 exact aC.of_eq (congrArg vB (mR p l 0))
theorem WB(l:List Fact)(hl:l.length≤9223372036854775807)(f k:Nat)(c:Nat→DV)(p:Fact→Bool)(hp:∀x∈l,aF prog f (oB x::iX c k 0) (vB (p x))):
  aF prog 186 [jF l,.s (.d (.dQ f k c))] (vI (dA p l 0)):=by
 refine eP func186 rfl rfl call186 rfl rfl fun cx aA=>?_
 refine AW.loop (fun i:Nat=>⟨[(0,jF l),(1,.s (.d (.dQ f k c))),(7,vI l.length),(8,vI i),(4,vI 0)],[]⟩) (fun i=>i≤l.length∧dA p l 0=dA p (l.drop i) i) (fun i=>l.length - i) 0 ⟨Nat.zero_le _,rfl⟩ ?_ ?_
 ·refine Sub.b7 aA trivial ⟨rQ,rQ,rQ,rQ,rQ,oO⟩
 ·rintro i ⟨hi,he⟩
  refine eX aA ?_
  refine aI (fun h=>?_) (fun h=>?_)
  ·have h:(i:Int)<l.length:=cB h
   have bN:i<l.length:=oM
   have hd:l.drop i=l[i]::l.drop (i+1):=List.drop_eq_getElem_cons bN
   have hg:l.getD i default=l[i]:=bA bN
   refine oi ⟨oM,oM⟩ ?_
   refine aB ((hp (l.getD i default) (by rw[hg];simp)).conv (args':=_) ⟨⟨aJ.refl _,aJ.refl _,aJ.refl _,aJ.refl _,aJ.refl _,aJ.refl _,aJ.refl _,aJ.refl _,aJ.refl _,aJ.refl _,aJ.refl _,aJ.refl _,aJ.refl _,oO⟩,q9.iX⟩) ?_
   rw[hd,dA]at he
   rw[hg]
   refine aI (fun h=>?_) (fun h=>?_)
   ·refine aC.of_eq ?_
    rw[he,h];rfl
   ·refine⟨i+1,⟨oM,?_⟩,oM,?_⟩
    ·rw[he,h];rfl
    ·refine Sub.b7 aA trivial ⟨rQ,rQ,rQ,⟨rfl,?_⟩,rQ,oO⟩
     exact congrArg vI (aG oM oM)
  ·have h:¬(i:Int)<l.length:=cD h
   have bN:i=l.length:=oM
   subst bN
   refine aC.of_eq ?_
   rw[he,List.drop_length];rfl
theorem VY(n lo hi:Int)(f g:Nat→DV)(hf:f 0=dI lo)(hg:g 0=dI hi):aF prog 79 [vI n,.s (.d (.rp 1 f)),.s (.d (.rp 1 g))] (vB (!within n lo hi)):=by
 have h1:q9 [vI n,.s (.d (.rp 1 f)),.s (.d (.rp 1 g))] [vI n,.s (.d (.rp 1 fun _=>dI lo)),.s (.d (.rp 1 fun _=>dI hi))]:=
  ⟨aJ.refl _,aJ.rp fun j hj=>aJ.of_eq (by rw[show j=0 by omega];exact hf),aJ.rp fun j hj=>aJ.of_eq (by rw[show j=0 by omega];exact hg),oO⟩
 refine aF.conv ?_ h1
 refine eP func79 rfl rfl call79 rfl rfl fun cx _=>?_
 repeat first|refine sk ?_|refine st ?_|refine sg ?_
 refine aC.of_eq ?_
 show vB _=vB _
 refine congrArg vB ?_
 rw[Bool.eq_iff_iff]
 simp[within]
theorem ZN(lo hi:Int)(l:List Int)(hl:l.length≤9223372036854775807):aF prog 28 [vI lo,vI hi,kA l] (vB (!II lo hi l)):=by
 refine eP func28 rfl rfl call28 rfl rfl fun cx _=>?_
 refine aB (sC l hl 79 2 _ (fun n=> !within n lo hi) (fun x _=>VY x lo hi _ _ rfl rfl)) ?_
 exact aC.refl _
theorem aLN{a:Int}{f:Nat→Nat→DV}(h0:f 0 0=dI a):aJ (.fJ 1 1 f) (cG [a]):=by
 refine aJ.fJ fun i j hi hj=>?_
 have:j=0:=oM
 have:i=0:=oM
 subst i j
 exact aJ.of_eq h0
theorem lK(lo hi a:Int){f:Nat→Nat→DV}(h0:f 0 0=dI a):aF prog 28 [vI lo,vI hi,.s (.d (.fJ 1 1 f))] (vB (within a lo hi)):=by
 have h:=(ZN lo hi [a] sM).conv (args':=[vI lo,vI hi,.s (.d (.fJ 1 1 f))]) ⟨aJ.refl _,aJ.refl _,aLN h0,oO⟩
 rwa [show(!II lo hi [a])=within a lo hi by simp[II]]at h
theorem sV(s:ByteArray):isName s=(within s.size 1 12&& !fH s s.size 0):=by
 rw[isName]
 congr 1
 rw[Bool.eq_iff_iff]
 simp[within]
theorem AE(s:ByteArray)(hl:s.size≤9223372036854775807):aF prog 24 [vS s] (vB (isName s)):=by
 refine eP func24 rfl rfl call24 rfl rfl fun cx aA=>?_
 refine aB (lK 1 12 s.size rfl) ?_
 refine aI (fun h=>?_) (fun h=>?_)
 ·have h:within s.size 1 12=false:=by simpa using h
  exact aC.lit (by rw[sV,h];rfl)
 have h:within s.size 1 12=true:=by simpa using h
 refine AW.loop (fun i:Nat=>⟨[(12,.s (.d (.fJ s.size 1 (aBM s)))),(13,vI s.size),(14,vI i),(2,.s (.d (.lit false)))],[]⟩) (fun i=>i≤s.size∧fH s s.size 0=fH s (s.size - i) i) (fun i=>s.size - i) 0 ⟨Nat.zero_le _,rfl⟩ ?_ ?_
 ·refine Sub.b7 aA trivial ⟨rQ,rQ,rQ,rQ,oO⟩
 ·rintro i ⟨hi,hj⟩
  refine eX aA ?_
  refine aI (fun h5=>?_) (fun h5=>?_)
  ·have h5:(i:Int)<s.size:=cB h5
   rw[show s.size - i=(s.size - (i+1))+1 by omega,fH]at hj
   refine oi ⟨oM,oM⟩ ?_
   repeat refine aR ?_
   refine aI (fun h6=>?_) (fun h6=>?_)
   ·have h6:uT i (u8 s i)=true:=(xH i (u8 s i)).symm.trans h6
    exact aC.lit (by rw[sV,h,hj,h6];rfl)
   ·have h6:uT i (u8 s i)=false:=(xH i (u8 s i)).symm.trans h6
    refine⟨i+1,⟨oM,by rw[hj,h6];rfl⟩,oM,?_⟩
    refine Sub.b7 aA trivial ⟨rQ,rQ,⟨rfl,?_⟩,rQ,oO⟩
    exact congrArg vI (aG oM oM)
  ·have h5:¬(i:Int)<s.size:=cD h5
   have bN:i=s.size:=oM
   exact aC.lit (by rw[sV,h,hj,bN,Nat.sub_self];rfl)
theorem sK(n lo hi:Int):aF prog 192 [vI n,vI lo,vI hi] (vB (within n lo hi)):=by
 refine eP func192 rfl rfl call192 rfl rfl fun cx _=>?_
 repeat first|refine sk ?_|refine st ?_|refine sg ?_
 exact aC.refl _
theorem jW(n lo hi:Int):aF prog 157 [vI n,vI lo,vI hi] (vB (within n lo hi)):=by
 refine eP func157 rfl rfl call157 rfl rfl fun cx _=>?_
 repeat first|refine sk ?_|refine st ?_|refine sg ?_
 exact aC.refl _
theorem TE(s:ByteArray)(hl:s.size≤9223372036854775807):aF prog 140 [vS s] (vB (isName s)):=by
 refine eP func140 rfl rfl call140 rfl rfl fun cx aA=>?_
 repeat refine aR ?_
 refine aI (fun h=>?_) (fun h=>?_)
 ·exact aC.lit (by rw[isName,h];rfl)
 refine AW.loop (fun i:Nat=>⟨[(0,vS s),(15,vI s.size),(16,vI i),(2,.s (.d (.lit false)))],[]⟩) (fun i=>i≤s.size∧fH s s.size 0=fH s (s.size - i) i) (fun i=>s.size - i) 0 ⟨Nat.zero_le _,rfl⟩ ?_ ?_
 ·refine Sub.b7 aA trivial ⟨rQ,rQ,rQ,rQ,oO⟩
 ·rintro i ⟨hi,hj⟩
  refine eX aA ?_
  refine aI (fun h5=>?_) (fun h5=>?_)
  ·have h5:(i:Int)<s.size:=cB h5
   rw[show s.size - i=(s.size - (i+1))+1 by omega,fH]at hj
   refine oi ⟨oM,oM⟩ ?_
   repeat refine aR ?_
   refine aI (fun h6=>?_) (fun h6=>?_)
   ·have h6:uT i (u8 s i)=true:=(xH i (u8 s i)).symm.trans h6
    exact aC.lit (by rw[isName,h,hj,h6];rfl)
   ·have h6:uT i (u8 s i)=false:=(xH i (u8 s i)).symm.trans h6
    refine⟨i+1,⟨oM,by rw[hj,h6];rfl⟩,oM,?_⟩
    refine Sub.b7 aA trivial ⟨rQ,rQ,⟨rfl,?_⟩,rQ,oO⟩
    exact congrArg vI (aG oM oM)
  ·have h5:¬(i:Int)<s.size:=cD h5
   have bN:i=s.size:=oM
   exact aC.lit (by rw[isName,h,hj,bN,Nat.sub_self];rfl)
theorem UK(c:Int):aF prog 244 [.s (.d (.val (.int .u8 c)))] (vB (letter c)):=by
 refine eP func244 rfl rfl call244 rfl rfl fun cx _=>?_
 repeat refine aR ?_
 exact aC.refl _
def XQ(c:Int):Bool:= !letter c&&c !=45&& !within c 48 57
def BM(s:ByteArray):Nat→Nat→Bool
 |0,_=>false
 |n+1,i=>XQ (u8 s i)||BM s n (i+1)
theorem aEE(c:Int)(i:Nat)(h:i≠0):uT i c=XQ c:=by
 rw[uT,XQ,Bool.eq_iff_iff]
 simp[within,h]
 exact⟨fun ⟨a,b,c⟩=>⟨⟨a,c⟩,b⟩,fun ⟨⟨a,c⟩,b⟩=>⟨a,b,c⟩⟩
theorem QH(s:ByteArray):∀n i,i≠0→fH s n i=BM s n i
 |0,_,_=>rfl
 |n+1,i,h=>by rw[fH,BM,aEE _ i h,QH s n (i+1) oM]
theorem KX(s:ByteArray)(h:0<s.size):fH s s.size 0=(!letter (u8 s 0)||BM s s.size 0):=by
 obtain⟨n,hn⟩:∃n,s.size=n+1:=⟨s.size - 1,oM⟩
 rw[hn,fH,BM,QH s n 1 oM]
 have:uT ((0:Nat):Int) (u8 s 0)= !letter (u8 s 0):=by simp[uT]
 rw[this,XQ]
 cases letter (u8 s 0) <;> simp
theorem aFA(s:ByteArray)(hl:s.size≤9223372036854775807):aF prog 195 [vS s] (vB (isName s)):=by
 refine eP func195 rfl rfl call195 rfl rfl fun cx aA=>?_
 repeat refine aR ?_
 refine og (fun hb=>⟨oM,?_⟩) ?_
 ·have:decide ((s.size:Int)<1)=false:=by simp[tB]at hb;simpa using hb.1
  have:=cD this;omega
 repeat refine aR ?_
 refine eJ (UK _) ?_
 repeat refine aR ?_
 have z:((0:Int)).toNat=0:=rfl
 refine aI (fun h=>?_) (fun h=>?_)
 ·refine aC.lit ?_
  cases h1:(decide ((s.size:Int)<1)||decide ((s.size:Int)>12))with
  |true=>rw[isName,h1];rfl
  |false=>
   rw[h1]at h
   simp only [Bool.or_eq_false_iff,decide_eq_false_iff_not]at h1
   have h2:letter (u8 s 0)=false:=by simpa [u8]using h
   rw[isName,KX s oM,h2];simp
 have h1:(decide ((s.size:Int)<1)||decide ((s.size:Int)>12))=false:=by
  cases h1:(decide ((s.size:Int)<1)||decide ((s.size:Int)>12))with
  |false=>rfl
  |true=>rw[h1]at h;simp at h
 have h2:letter (u8 s 0)=true:=by rw[h1]at h;simpa [u8]using h
 have hs:0<s.size:=by simp only [Bool.or_eq_false_iff,decide_eq_false_iff_not]at h1;omega
 have hN:isName s= !BM s s.size 0:=by rw[isName,KX s hs,h2,h1];rfl
 refine AW.loop (fun i:Nat=>⟨[(0,vS s),(20,vI s.size),(21,vI i),(2,.s (.d (.lit false)))],[]⟩) (fun i=>i≤s.size∧BM s s.size 0=BM s (s.size - i) i) (fun i=>s.size - i) 0 ⟨Nat.zero_le _,rfl⟩ ?_ ?_
 ·refine Sub.b7 aA trivial ⟨rQ,rQ,rQ,rQ,oO⟩
 ·rintro i ⟨hi,hj⟩
  refine eX aA ?_
  refine aI (fun h5=>?_) (fun h5=>?_)
  ·have h5:(i:Int)<s.size:=cB h5
   rw[show s.size - i=(s.size - (i+1))+1 by omega,BM]at hj
   refine oi ⟨oM,oM⟩ ?_
   refine aB (UK _) ?_
   repeat refine aR ?_
   refine eJ (jW _ _ _) ?_
   repeat refine aR ?_
   have hw:IntKind.i64.wrap (u8 s i)=u8 s i:=by
    have:u8 s i<256:=by have:=(s[i]!).toNat_lt;unfold u8;omega
    have:0≤u8 s i:=by unfold u8;omega
    exact aG oM oM
   refine aI (fun h6=>?_) (fun h6=>?_)
   ·have h6:XQ (u8 s i)=true:=by
     have h6:(!letter (u8 s i)&&u8 s i !=45&& !within (IntKind.i64.wrap (u8 s i)) 48 57)=true:=h6
     rw[hw]at h6;exact h6
    exact aC.lit (by rw[hN,hj,h6];rfl)
   ·have h6:XQ (u8 s i)=false:=by
     have h6:(!letter (u8 s i)&&u8 s i !=45&& !within (IntKind.i64.wrap (u8 s i)) 48 57)=false:=h6
     rw[hw]at h6;exact h6
    refine⟨i+1,⟨oM,by rw[hj,h6];rfl⟩,oM,?_⟩
    refine Sub.b7 aA trivial ⟨rQ,rQ,⟨rfl,?_⟩,rQ,oO⟩
    exact congrArg vI (aG oM oM)
  ·have h5:¬(i:Int)<s.size:=cD h5
   have bN:i=s.size:=oM
   exact aC.lit (by rw[hN,hj,bN,Nat.sub_self];rfl)
abbrev F0(p:Proj):List SV:=[.d (dS p.name),.d (dI p.aS.x),.d (dI p.aS.y),.d (dI p.aS.side),.d (dI p.aS.dP),.d (dI p.aS.rows),.d (cG p.aS.levels),.d (dS p.chan.name),.d (BE p.chan.a8),.d (dI p.chan.over),.d (dI p.chan.buffer),.d (HK p.chan.regions),.d (mX p.gr.bT),.d (uB p.gr.eQ),.d (dI p.agree),.d (dI p.eU),.d (D8 p.eY),.d (UO p.fV),.d (qM p.a6),.d (oY p.b8)]
def YV(l:List oT)(s:ByteArray):Int:=dA (fun x=>dE x.name s) l 0
def ZC(l:List FB)(s:ByteArray):Int:=dA (fun r=>dE r.name s&&r.kind==0) l 0
def aZ(f:Nat→Int):Nat→Nat→Int
 |0,_=>0
 |n+1,i=>bif f i !=0 then f i else aZ f n (i+1)
def F1(p:Proj)(i:Nat):Int:=
 bif !(p.gr.bT.any fun s=>dE s.name (p.eY.getD i default).aN)then 6
 else bif (p.eY.take i).any (fun y=>dE y.aN (p.eY.getD i default).aN)then 5
 else bif !within (p.eY.getD i default).BI 0 1000000 then 2 else 0
def AD(p:Proj):Int:=bif decide ((p.eY.length:Int)>20)then 8 else aZ (F1 p) p.eY.length 0
def B9(p:Proj)(i:Nat):Int:=
 bif decide (ZC p.chan.regions (p.fV.getD i default).name<0)then 6
 else bif (p.fV.take i).any (fun y=>dE y.name (p.fV.getD i default).name)then 5
 else bif !within (p.fV.getD i default).due 1 24|| !within (p.fV.getD i default).pen 0 1000000000 then 2 else 0
def zV(p:Proj):Int:=bif decide ((p.fV.length:Int)>20)then 8 else aZ (B9 p) p.fV.length 0
def yD(p:Proj):Int:=bif AD p !=0 then AD p else zV p
def QC(a b:DV):Nat→DV
 |0=>a
 |1=>b
 |_=>.bC
theorem aF3(q:oT)(s:ByteArray)(f:Nat→DV)(hf:f 0=dS s):aF prog 81 [xX q,.s (.d (.rp 2 f))] (vB (dE q.name s)):=by
 refine aF.conv (args:=[xX q,.s (.d (.rp 2 (SO s)))]) ?_ ⟨⟨aJ.refl _,aJ.refl _,aJ.refl _,aJ.refl _,aJ.refl _,oO⟩,aJ.rp fun j hj=>?_,oO⟩
 ·refine eP func81 rfl rfl call81 rfl rfl fun cx _=>?_
  exact aC.refl _
 ·match j with
  |0=>exact aJ.of_eq hf
  |_+1=>exact fun _ _ _=>trivial
theorem aF2(q:uG)(s:ByteArray)(f:Nat→DV)(hf:f 0=dS s):aF prog 83 [aCY q,.s (.d (.rp 2 f))] (vB (dE q.aN s)):=by
 refine aF.conv (args:=[aCY q,.s (.d (.rp 2 (SO s)))]) ?_ ⟨⟨aJ.refl _,aJ.refl _,oO⟩,aJ.rp fun j hj=>?_,oO⟩
 ·refine eP func83 rfl rfl call83 rfl rfl fun cx _=>?_
  exact aC.refl _
 ·match j with
  |0=>exact aJ.of_eq hf
  |_+1=>exact fun _ _ _=>trivial
theorem aIH(q:ER)(s:ByteArray)(f:Nat→DV)(hf:f 0=dS s):aF prog 86 [aCO q,.s (.d (.rp 3 f))] (vB (dE q.name s)):=by
 refine aF.conv (args:=[aCO q,.s (.d (.rp 3 (SO s)))]) ?_ ⟨⟨aJ.refl _,aJ.refl _,aJ.refl _,oO⟩,aJ.rp fun j hj=>?_,oO⟩
 ·refine eP func86 rfl rfl call86 rfl rfl fun cx _=>?_
  exact aC.refl _
 ·match j with
  |0=>exact aJ.of_eq hf
  |_+1=>exact fun _ _ _=>trivial
theorem aCT(q:FB)(s:ByteArray)(f:Nat→DV)(hf:f 0=dS s):aF prog 149 [reg q,.s (.d (.rp 1 f))] (vB (dE q.name s&&q.kind==0)):=by
 refine aF.conv (args:=[reg q,.s (.d (.rp 1 (SO s)))]) ?_ ⟨⟨aJ.refl _,aJ.refl _,aJ.refl _,oO⟩,aJ.rp fun j hj=>?_,oO⟩
 ·refine eP func149 rfl rfl call149 rfl rfl fun cx _=>?_
  repeat first|refine sk ?_|refine st ?_|refine sg ?_|refine sh ?_
  exact aC.refl _
 ·match j with
  |0=>exact aJ.of_eq hf
  |_+1=>exact fun _ _ _=>trivial
theorem ZA(c:kO)(s:ByteArray)(hl:c.regions.length≤9223372036854775807):aF prog 84 [chan c,vS s] (vI (ZC c.regions s)):=by
 refine eP func84 rfl rfl call84 rfl rfl fun cx aA=>?_
 refine aB (GS c.regions hl 149 1 _ (fun q=>dE q.name s&&q.kind==0) (fun q _=>aCT q s _ rfl)) ?_
 exact aC.refl _
theorem w4{α:Type} [Inhabited α] {s:Nat}{el:α→Nat→DV}(l:List α)(i:Nat)(hi:i≤l.length):
  aJ (.fJ i s (fun k=>el (l.getD k default))) (.fJ (l.take i).length s (fun k=>el ((l.take i).getD k default))):=by
 refine aJ.xL (by simp;omega) fun k j hk hj=>aJ.of_eq ?_
 rw[List.getD_eq_getElem?_getD,List.getD_eq_getElem?_getD,List.getElem?_take_of_lt hk]
theorem aKQ{f m:Nat}{c g h:Nat→DV}(hc:c 0=.rp m h)(hg:∀j,j<m→aJ (h j) (g j)):aJ (.dQ f 1 c) (.dQ f 1 fun _=>.rp m g):=by
 refine aJ.dQ fun j hj=>?_
 have:j=0:=oM
 subst this
 rw[hc]
 exact aJ.rp hg
theorem P7(p:Proj)(hs:p.gr.bT.length≤9223372036854775807)(hp:p.eY.length≤9223372036854775807):aF prog 29 [LH p] (vI (AD p)):=by
 refine eP func29 rfl rfl call29 rfl rfl fun cx aA=>?_
 refine aI (fun h0=>?_) (fun h0=>?_)
 ·exact aC.of_eq (by unfold AD;rw[h0];rfl)
 have hE:AD p=aZ (F1 p) p.eY.length 0:=by unfold AD;rw[h0];rfl
 refine AW.loop (fun i:Nat=>⟨[(1,.s (.ptr 1 0)),(10,NF p.eY),(11,vI p.eY.length),(12,vI i),(2,vI 0)],[(1,some (.cells (F0 p)))]⟩) (fun i=>i≤p.eY.length∧AD p=aZ (F1 p) (p.eY.length - i) i) (fun i=>p.eY.length - i) 0 ⟨Nat.zero_le _,hE⟩ ?_ ?_
 ·refine Sub.b7 aA ⟨rQ,oO⟩ ⟨rQ,rQ,rQ,rQ,rQ,oO⟩
 ·rintro i ⟨hi,hj⟩
  refine eX aA ?_
  refine aI (fun h5=>?_) (fun h5=>?_)
  ·have h5:(i:Int)<p.eY.length:=cB h5
   rw[show p.eY.length - i=(p.eY.length - (i+1))+1 by omega,aZ]at hj
   refine oi ⟨oM,oM⟩ ?_
   refine aB (BG p.gr.bT hs 81 1 _ (fun q=>dE q.name (p.eY.getD i default).aN) (fun q _=>aF3 q _ _ rfl)) ?_
   refine aI (fun h6=>?_) (fun h6=>?_)
   ·have h:F1 p i=6:=by unfold F1;rw[h6];rfl
    exact aC.of_eq (by rw[hj,h];rfl)
   refine oi ⟨dC,by show(0:Int)≤(i:Int);omega,by show(i:Int)≤(p.eY.length:Int);omega⟩ ?_
   refine aB ((IV (p.eY.take i) (by simp;omega) 83 1 (fun _=>.rp 2 (aIN (p.eY.getD i default))) (fun q=>dE q.aN (p.eY.getD i default).aN) (fun q _=>aF2 q _ _ rfl)).conv (args':=_) ⟨w4 p.eY i hi,aKQ rfl (lt2 (aJ.refl _) (aJ.refl _)),oO⟩) ?_
   refine aI (fun h7=>?_) (fun h7=>?_)
   ·have h:F1 p i=5:=by unfold F1;rw[h6,h7];rfl
    exact aC.of_eq (by rw[hj,h];rfl)
   refine aB (lK 0 1000000 (p.eY.getD i default).BI rfl) ?_
   refine aI (fun h8=>?_) (fun h8=>?_)
   ·have h:F1 p i=2:=by unfold F1;rw[h6,h7,h8];rfl
    exact aC.of_eq (by rw[hj,h];rfl)
   have h:F1 p i=0:=by unfold F1;rw[h6,h7,h8];rfl
   refine⟨i+1,⟨oM,by rw[hj,h];rfl⟩,oM,?_⟩
   refine Sub.b7 aA ⟨rQ,oO⟩ ⟨rQ,rQ,rQ,⟨rfl,?_⟩,rQ,oO⟩
   exact congrArg vI (aG oM oM)
  ·have h5:¬(i:Int)<p.eY.length:=cD h5
   have bN:i=p.eY.length:=oM
   exact aC.of_eq (by rw[hj,bN,Nat.sub_self];rfl)
theorem IW(p:Proj)(hs:p.chan.regions.length≤9223372036854775807)(hp:p.fV.length≤9223372036854775807):aF prog 30 [LH p] (vI (zV p)):=by
 refine eP func30 rfl rfl call30 rfl rfl fun cx aA=>?_
 refine aI (fun h0=>?_) (fun h0=>?_)
 ·exact aC.of_eq (by unfold zV;rw[h0];rfl)
 have hE:zV p=aZ (B9 p) p.fV.length 0:=by unfold zV;rw[h0];rfl
 refine AW.loop (fun i:Nat=>⟨[(1,.s (.ptr 1 0)),(10,TA p.fV),(11,vI p.fV.length),(12,vI i),(2,vI 0)],[(1,some (.cells (F0 p)))]⟩) (fun i=>i≤p.fV.length∧zV p=aZ (B9 p) (p.fV.length - i) i) (fun i=>p.fV.length - i) 0 ⟨Nat.zero_le _,hE⟩ ?_ ?_
 ·refine Sub.b7 aA ⟨rQ,oO⟩ ⟨rQ,rQ,rQ,rQ,rQ,oO⟩
 ·rintro i ⟨hi,hj⟩
  refine eX aA ?_
  refine aI (fun h5=>?_) (fun h5=>?_)
  ·have h5:(i:Int)<p.fV.length:=cB h5
   rw[show p.fV.length - i=(p.fV.length - (i+1))+1 by omega,aZ]at hj
   refine oi ⟨oM,oM⟩ ?_
   refine aB (ZA p.chan (p.fV.getD i default).name hs) ?_
   refine aI (fun h6=>?_) (fun h6=>?_)
   ·have h:B9 p i=6:=by unfold B9;rw[h6];rfl
    exact aC.of_eq (by rw[hj,h];rfl)
   refine oi ⟨dC,by show(0:Int)≤(i:Int);omega,by show(i:Int)≤(p.fV.length:Int);omega⟩ ?_
   refine aB ((MO (p.fV.take i) (by simp;omega) 86 1 (fun _=>.rp 3 (aIJ (p.fV.getD i default))) (fun q=>dE q.name (p.fV.getD i default).name) (fun q _=>aIH q _ _ rfl)).conv (args':=_) ⟨w4 p.fV i hi,aKQ rfl (lt3 (aJ.refl _) (aJ.refl _) (aJ.refl _)),oO⟩) ?_
   refine aI (fun h7=>?_) (fun h7=>?_)
   ·have h:B9 p i=5:=by unfold B9;rw[h6,h7];rfl
    exact aC.of_eq (by rw[hj,h];rfl)
   refine aB (lK 1 24 (p.fV.getD i default).due rfl) ?_
   repeat refine aR ?_
   refine aI (fun h8=>?_) (fun h8=>?_)
   ·refine ob (by rw[h8];rfl) ?_
    refine aB (lK 0 1000000000 (p.fV.getD i default).pen rfl) ?_
    repeat refine aR ?_
    refine aI (fun h9=>?_) (fun h9=>?_)
    ·have h9:(!within (p.fV.getD i default).pen 0 1000000000)=true:=h9
     have h:B9 p i=2:=by unfold B9;rw[h6,h7,h8,h9];rfl
     exact aC.of_eq (by rw[hj,h];rfl)
    ·have h9:(!within (p.fV.getD i default).pen 0 1000000000)=false:=h9
     have h:B9 p i=0:=by unfold B9;rw[h6,h7,h8,h9];rfl
     refine⟨i+1,⟨oM,by rw[hj,h];rfl⟩,oM,?_⟩
     refine Sub.b7 aA ⟨rQ,oO⟩ ⟨rQ,rQ,rQ,⟨rfl,?_⟩,rQ,oO⟩
     exact congrArg vI (aG oM oM)
   ·have h8:(!within (p.fV.getD i default).due 1 24)=true:=h8
    have h:B9 p i=2:=by unfold B9;rw[h6,h7,h8];rfl
    exact aC.of_eq (by rw[hj,h];rfl)
  ·have h5:¬(i:Int)<p.fV.length:=cD h5
   have bN:i=p.fV.length:=oM
   exact aC.of_eq (by rw[hj,bN,Nat.sub_self];rfl)
def NR(x:oT):Int:=bif !within x.run 1 1000|| !within x.aG7 1 5000|| !within x.num 1 1000|| !within x.den 1 1000||decide (x.num<x.den)then 2 else 0
def IB(l:List oT)(i:Nat):Int:=
 bif !isName (l.getD i default).name then 4 else bif (l.take i).any (fun y=>dE y.name (l.getD i default).name)then 5 else NR (l.getD i default)
def sN(l:List oT):Int:=bif (l.length:Int)==0 then 10 else bif decide ((l.length:Int)>8)then 8 else aZ (IB l) l.length 0
def GJ(s:List oT)(b:iM)(i:Nat):Int:=
 bif !within (b.bR.getD i default).top (-20000) 20000 then 2
 else bif decide ((i:Int)>0)&&decide ((b.bR.getD i default).top≥(b.bR.getD (i - 1) default).top)then 9
 else bif decide (YV s (b.bR.getD i default).aN<0)then 6 else 0
def HW(s:List oT)(b:iM):Int:=
 bif !fY ⟨b.x,b.y⟩then 2 else bif (b.bR.length:Int)==0 then 10 else bif decide ((b.bR.length:Int)>12)then 8 else aZ (GJ s b) b.bR.length 0
def EO(s:List oT)(l:List iM)(i:Nat):Int:=
 bif !isName (l.getD i default).name then 4 else bif (l.take i).any (fun y=>dE y.name (l.getD i default).name)then 5 else HW s (l.getD i default)
def gF(g:Ground):Int:=
 bif sN g.bT !=0 then sN g.bT else bif (g.eQ.length:Int)==0 then 10 else bif decide ((g.eQ.length:Int)>20)then 8 else aZ (EO g.bT g.eQ) g.eQ.length 0
theorem dZ{α:Type} [Inhabited α] {l:List α}{i:Nat}(h:i<l.length):l.getD i default∈l:=by rw[bA h];simp
theorem numbers(x:oT):aF prog 139 [xX x] (vI (NR x)):=by
 refine eP func139 rfl rfl call139 rfl rfl fun cx _=>?_
 refine aB (sK _ _ _) ?_
 repeat refine aR ?_
 refine eJ (sK _ _ _) ?_
 repeat refine aR ?_
 refine eJ (sK _ _ _) ?_
 repeat refine aR ?_
 refine eJ (sK _ _ _) ?_
 repeat refine aR ?_
 refine aI (fun h=>?_) (fun h=>?_)
 ·exact aC.of_eq (by unfold NR;rw[h];rfl)
 ·exact aC.of_eq (by unfold NR;rw[h];rfl)
theorem NQ(x:oT):aF prog 138 [xX x] (vS x.name):=by
 refine eP func138 rfl rfl call138 rfl rfl fun cx _=>?_
 exact aC.refl _
theorem HV(x:iM):aF prog 77 [XO x] (vS x.name):=by
 refine eP func77 rfl rfl call77 rfl rfl fun cx _=>?_
 exact aC.refl _
theorem YU(q:oT)(s:ByteArray)(c f g:Nat→DV)(hf:f 0=.dQ 138 0 c)(hg:g 0=dS s):aF prog 191 [xX q,.s (.d (.rp 1 f)),.s (.d (.rp 1 g))] (vB (dE q.name s)):=by
 refine aF.conv (args:=[xX q,.s (.d (.rp 1 fun _=>.dQ 138 0 c)),.s (.d (.rp 1 fun _=>dS s))]) ?_ ⟨⟨aJ.refl _,aJ.refl _,aJ.refl _,aJ.refl _,aJ.refl _,oO⟩,aJ.rp fun j hj=>aJ.of_eq (by rw[show j=0 by omega];exact hf),aJ.rp fun j hj=>aJ.of_eq (by rw[show j=0 by omega];exact hg),oO⟩
 refine eP func191 rfl rfl call191 rfl rfl fun cx _=>?_
 refine aB (NQ q) ?_
 refine aD ?_
 exact aC.refl _
theorem SS(q:iM)(s:ByteArray)(c f g:Nat→DV)(hf:f 0=.dQ 77 0 c)(hg:g 0=dS s):aF prog 142 [XO q,.s (.d (.rp 1 f)),.s (.d (.rp 1 g))] (vB (dE q.name s)):=by
 refine aF.conv (args:=[XO q,.s (.d (.rp 1 fun _=>.dQ 77 0 c)),.s (.d (.rp 1 fun _=>dS s))]) ?_ ⟨⟨aJ.refl _,aJ.refl _,aJ.refl _,aJ.refl _,oO⟩,aJ.rp fun j hj=>aJ.of_eq (by rw[show j=0 by omega];exact hf),aJ.rp fun j hj=>aJ.of_eq (by rw[show j=0 by omega];exact hg),oO⟩
 refine eP func142 rfl rfl call142 rfl rfl fun cx _=>?_
 refine aB (HV q) ?_
 refine aD ?_
 exact aC.refl _
theorem aKP{f m n:Nat}{c g h g' h':Nat→DV}(hc:c 0=.rp m h)(PD:c 1=.rp n h')(hg:∀j,j<m→aJ (h j) (g j))(hg':∀j,j<n→aJ (h' j) (g' j)):aJ (.dQ f 2 c) (.dQ f 2 (QC (.rp m g) (.rp n g'))):=by
 refine aJ.dQ fun j hj=>?_
 match j,hj with
 |0,_=>rw[hc];exact aJ.rp hg
 |1,_=>rw[PD];exact aJ.rp hg'
theorem aA5(l:List oT)(c d:Nat→DV)(hl:l.length≤9223372036854775807)(hn:∀x∈l,x.name.size≤9223372036854775807):aF prog 137 [mL l,.s (.d (.dQ 138 0 c)),.s (.d (.dQ 139 0 d))] (vI (aZ (IB l) l.length 0)):=by
 refine eP func137 rfl rfl call137 rfl rfl fun cx aA=>?_
 refine AW.loop (fun i:Nat=>⟨[(0,mL l),(2,.s (.d (.dQ 139 0 d))),(4,.s (.ptr 4 0)),(11,mL l),(12,vI l.length),(13,vI i),(6,vI 0)],[(4,some (.cells [.d (.dQ 138 0 c)]))]⟩) (fun i=>i≤l.length∧aZ (IB l) l.length 0=aZ (IB l) (l.length - i) i) (fun i=>l.length - i) 0 ⟨Nat.zero_le _,rfl⟩ ?_ ?_
 ·refine Sub.b7 aA ⟨rQ,oO⟩ ⟨rQ,rQ,rQ,rQ,rQ,rQ,rQ,oO⟩
 ·rintro i ⟨hi,hj⟩
  refine eX aA ?_
  refine aI (fun h5=>?_) (fun h5=>?_)
  ·have h5:(i:Int)<l.length:=cB h5
   rw[show l.length - i=(l.length - (i+1))+1 by omega,aZ]at hj
   refine oi ⟨oM,oM⟩ ?_
   refine aB (NQ (l.getD i default)) ?_
   refine aB (TE (l.getD i default).name (hn _ (dZ oM))) ?_
   refine aI (fun h6=>?_) (fun h6=>?_)
   ·have h:IB l i=4:=by unfold IB;rw[h6];rfl
    exact aC.of_eq (by rw[hj,h];rfl)
   refine oi ⟨dC,by show(0:Int)≤(i:Int);omega,by show(i:Int)≤(l.length:Int);omega⟩ ?_
   refine aB ((BG (l.take i) (by simp;omega) 191 2 (QC (.rp 1 fun _=>.dQ 138 0 c) (.rp 1 fun _=>dS (l.getD i default).name)) (fun q=>dE q.name (l.getD i default).name) (fun q _=>YU q _ c _ _ rfl rfl)).conv (args':=_) ⟨w4 l i hi,aKP rfl rfl (xO (aJ.refl _)) (xO (aJ.refl _)),oO⟩) ?_
   refine aI (fun h7=>?_) (fun h7=>?_)
   ·have h:IB l i=5:=by unfold IB;rw[h6,h7];rfl
    exact aC.of_eq (by rw[hj,h];rfl)
   refine aB (numbers (l.getD i default)) ?_
   have h:IB l i=NR (l.getD i default):=by unfold IB;rw[h6,h7];rfl
   rw[h]at hj
   refine aI (fun h8=>?_) (fun h8=>?_)
   ·exact aC.of_eq (by rw[hj,h8];rfl)
   refine⟨i+1,⟨oM,by rw[hj,h8];rfl⟩,oM,?_⟩
   refine Sub.b7 aA ⟨rQ,oO⟩ ⟨rQ,rQ,rQ,rQ,rQ,⟨rfl,?_⟩,rQ,oO⟩
   exact congrArg vI (aG oM oM)
  ·have h5:¬(i:Int)<l.length:=cD h5
   have bN:i=l.length:=oM
   exact aC.of_eq (by rw[hj,bN,Nat.sub_self];rfl)
theorem SK(l:List oT)(hl:l.length≤9223372036854775807)(hn:∀x∈l,x.name.size≤9223372036854775807):aF prog 75 [mL l] (vI (sN l)):=by
 refine eP func75 rfl rfl call75 rfl rfl fun cx _=>?_
 refine aI (fun h=>?_) (fun h=>?_)
 ·exact aC.of_eq (by unfold sN;rw[h];rfl)
 refine aI (fun h'=>?_) (fun h'=>?_)
 ·exact aC.of_eq (by unfold sN;rw[h,h'];rfl)
 refine aB ((aA5 l (fun _=>.bC) (fun _=>.bC) hl hn).conv (args':=_) ⟨aJ.refl _,aJ.dQ fun j hj=>absurd hj (Nat.not_lt_zero j),aJ.dQ fun j hj=>absurd hj (Nat.not_lt_zero j),oO⟩) ?_
 exact aC.of_eq (by unfold sN;rw[h,h'];rfl)
theorem ZL(p:Pt):aF prog 143 [pt p] (vB (fY p)):=by
 refine eP func143 rfl rfl call143 rfl rfl fun cx _=>?_
 refine aB (sK _ _ _) ?_
 repeat refine aR ?_
 refine eJ (sK _ _ _) ?_
 repeat refine aR ?_
 exact aC.refl _
theorem NS(n:Int):aF prog 144 [vI n] (vB (within n (-20000) 20000)):=by
 refine eP func144 rfl rfl call144 rfl rfl fun cx _=>?_
 refine aB (sK _ _ _) ?_
 exact aC.refl _
theorem aCN(q:oT)(s:ByteArray)(f:Nat→DV)(hf:f 0=dS s):aF prog 194 [xX q,.s (.d (.rp 1 f))] (vB (dE q.name s)):=by
 refine aF.conv (args:=[xX q,.s (.d (.rp 1 (SO s)))]) ?_ ⟨⟨aJ.refl _,aJ.refl _,aJ.refl _,aJ.refl _,aJ.refl _,oO⟩,aJ.rp fun j hj=>?_,oO⟩
 ·refine eP func194 rfl rfl call194 rfl rfl fun cx _=>?_
  exact aC.refl _
 ·match j with
  |0=>exact aJ.of_eq hf
  |_+1=>exact fun _ _ _=>trivial
theorem aFN(l:List oT)(s:ByteArray)(hl:l.length≤9223372036854775807):aF prog 145 [mL l,vS s] (vI (YV l s)):=by
 refine eP func145 rfl rfl call145 rfl rfl fun cx aA=>?_
 refine aB (J3 l hl 194 1 _ (fun q=>dE q.name s) (fun q _=>aCN q s _ rfl)) ?_
 exact aC.refl _
abbrev aM0(b:iM):List SV:=[.d (dS b.name),.d (dI b.x),.d (dI b.y),.d (nT b.bR)]
theorem XN(g:Ground)(b:iM)(hs:g.bT.length≤9223372036854775807)(hl:b.bR.length≤9223372036854775807):aF prog 78 [WO g,XO b] (vI (HW g.bT b)):=by
 refine eP func78 rfl rfl call78 rfl rfl fun cx aA=>?_
 refine aB (ZL ⟨b.x,b.y⟩) ?_
 refine aI (fun h1=>?_) (fun h1=>?_)
 ·exact aC.of_eq (by unfold HW;rw[h1];rfl)
 refine aI (fun h2=>?_) (fun h2=>?_)
 ·exact aC.of_eq (by unfold HW;rw[h1,h2];rfl)
 refine aI (fun h3=>?_) (fun h3=>?_)
 ·exact aC.of_eq (by unfold HW;rw[h1,h2,h3];rfl)
 have hE:HW g.bT b=aZ (GJ g.bT b) b.bR.length 0:=by unfold HW;rw[h1,h2,h3];rfl
 refine AW.loop (fun i:Nat=>⟨[(2,.s (.ptr 2 0)),(3,.s (.ptr 3 0)),(26,zM b.bR),(27,vI b.bR.length),(28,vI i),(4,vI 0)],[(2,some (.cells [.d (mX g.bT),.d (uB g.eQ)])),(3,some (.cells (aM0 b)))]⟩) (fun i=>i≤b.bR.length∧HW g.bT b=aZ (GJ g.bT b) (b.bR.length - i) i) (fun i=>b.bR.length - i) 0 ⟨Nat.zero_le _,hE⟩ ?_ ?_
 ·refine Sub.b7 aA ⟨rQ,rQ,oO⟩ ⟨rQ,rQ,rQ,rQ,rQ,rQ,oO⟩
 ·rintro i ⟨hi,hj⟩
  refine eX aA ?_
  refine aI (fun h5=>?_) (fun h5=>?_)
  ·have h5:(i:Int)<b.bR.length:=cB h5
   rw[show b.bR.length - i=(b.bR.length - (i+1))+1 by omega,aZ]at hj
   refine oi ⟨oM,oM⟩ ?_
   refine aB (NS _) ?_
   refine aI (fun h6=>?_) (fun h6=>?_)
   ·have h6:(!within (b.bR.getD i default).top (-20000) 20000)=true:=h6
    have h:GJ g.bT b i=2:=by unfold GJ;rw[h6];rfl
    exact aC.of_eq (by rw[hj,h];rfl)
   have h6:(!within (b.bR.getD i default).top (-20000) 20000)=false:=h6
   repeat refine aR ?_
   have gK:0<i→aU ((i:Int) - 1)=((i - 1:Nat):Int):=fun h=>by rw[aG oM oM];omega
   refine og (fun hb=>?_) ?_
   ·have hb:0<i:=by simp[tB]at hb;omega
    show 0≤aU ((i:Int) - 1)∧aU ((i:Int) - 1)<(b.bR.length:Int)
    rw[gK hb];exact⟨oM,oM⟩
   repeat refine aR ?_
   refine aD ?_
   have hk:∀v:Bool,(decide ((i:Int)>0)&&decide ((b.bR.getD i default).top≥(b.bR.getD (aU ((i:Int) - 1)).toNat default).top))=v→(decide ((i:Int)>0)&&decide ((b.bR.getD i default).top≥(b.bR.getD (i - 1) default).top))=v:=by
    intro v h
    by_cases h0:0<i
    ·rw[gK h0]at h;exact h
    ·rw[show decide ((i:Int)>0)=false by simp;omega]at h ⊢;exact h
   refine aI (fun h7=>?_) (fun h7=>?_)
   ·have h7:=hk true h7
    have h:GJ g.bT b i=9:=by unfold GJ;rw[h6,h7];rfl
    exact aC.of_eq (by rw[hj,h];rfl)
   have h7:=hk false h7
   refine aB (aFN g.bT (b.bR.getD i default).aN hs) ?_
   refine aI (fun h8=>?_) (fun h8=>?_)
   ·have h:GJ g.bT b i=6:=by unfold GJ;rw[h6,h7,h8];rfl
    exact aC.of_eq (by rw[hj,h];rfl)
   have h:GJ g.bT b i=0:=by unfold GJ;rw[h6,h7,h8];rfl
   refine⟨i+1,⟨oM,by rw[hj,h];rfl⟩,oM,?_⟩
   refine Sub.b7 aA ⟨rQ,rQ,oO⟩ ⟨rQ,rQ,rQ,rQ,⟨rfl,?_⟩,rQ,oO⟩
   exact congrArg vI (aG oM oM)
  ·have h5:¬(i:Int)<b.bR.length:=cD h5
   have bN:i=b.bR.length:=oM
   exact aC.of_eq (by rw[hj,bN,Nat.sub_self];rfl)
abbrev aJZ(g:Ground):DV:=.bnd 78 2 (QC (mX g.bT) (uB g.eQ))
theorem SC(g:Ground)(l:List iM)(c:Nat→DV)(hs:g.bT.length≤9223372036854775807)(hl:l.length≤9223372036854775807)(hn:∀x∈l,x.name.size≤9223372036854775807)(hy:∀x∈l,x.bR.length≤9223372036854775807):
  aF prog 76 [FE l,.s (.d (.dQ 77 0 c)),.s (.d (aJZ g))] (vI (aZ (EO g.bT l) l.length 0)):=by
 refine eP func76 rfl rfl call76 rfl rfl fun cx aA=>?_
 refine AW.loop (fun i:Nat=>⟨[(0,FE l),(2,.s (.d (aJZ g))),(4,.s (.ptr 4 0)),(11,FE l),(12,vI l.length),(13,vI i),(6,vI 0)],[(4,some (.cells [.d (.dQ 77 0 c)]))]⟩) (fun i=>i≤l.length∧aZ (EO g.bT l) l.length 0=aZ (EO g.bT l) (l.length - i) i) (fun i=>l.length - i) 0 ⟨Nat.zero_le _,rfl⟩ ?_ ?_
 ·refine Sub.b7 aA ⟨rQ,oO⟩ ⟨rQ,rQ,rQ,rQ,rQ,rQ,rQ,oO⟩
 ·rintro i ⟨hi,hj⟩
  refine eX aA ?_
  refine aI (fun h5=>?_) (fun h5=>?_)
  ·have h5:(i:Int)<l.length:=cB h5
   rw[show l.length - i=(l.length - (i+1))+1 by omega,aZ]at hj
   refine oi ⟨oM,oM⟩ ?_
   refine aB (HV (l.getD i default)) ?_
   refine aB (TE (l.getD i default).name (hn _ (dZ oM))) ?_
   refine aI (fun h6=>?_) (fun h6=>?_)
   ·have h:EO g.bT l i=4:=by unfold EO;rw[h6];rfl
    exact aC.of_eq (by rw[hj,h];rfl)
   refine oi ⟨dC,by show(0:Int)≤(i:Int);omega,by show(i:Int)≤(l.length:Int);omega⟩ ?_
   refine aB ((HO (l.take i) (by simp;omega) 142 2 (QC (.rp 1 fun _=>.dQ 77 0 c) (.rp 1 fun _=>dS (l.getD i default).name)) (fun q=>dE q.name (l.getD i default).name) (fun q _=>SS q _ c _ _ rfl rfl)).conv (args':=_) ⟨w4 l i hi,aKP rfl rfl (xO (aJ.refl _)) (xO (aJ.refl _)),oO⟩) ?_
   refine aI (fun h7=>?_) (fun h7=>?_)
   ·have h:EO g.bT l i=5:=by unfold EO;rw[h6,h7];rfl
    exact aC.of_eq (by rw[hj,h];rfl)
   refine⟨_,XN g (l.getD i default) hs (hy _ (dZ oM)),?_⟩
   have h:EO g.bT l i=HW g.bT (l.getD i default):=by unfold EO;rw[h6,h7];rfl
   rw[h]at hj
   refine aI (fun h8=>?_) (fun h8=>?_)
   ·exact aC.of_eq (by rw[hj,h8];rfl)
   refine⟨i+1,⟨oM,by rw[hj,h8];rfl⟩,oM,?_⟩
   refine Sub.b7 aA ⟨rQ,oO⟩ ⟨rQ,rQ,rQ,rQ,rQ,⟨rfl,?_⟩,rQ,oO⟩
   exact congrArg vI (aG oM oM)
  ·have h5:¬(i:Int)<l.length:=cD h5
   have bN:i=l.length:=oM
   exact aC.of_eq (by rw[hj,bN,Nat.sub_self];rfl)
structure Ground.fits(g:Ground):Prop where
 bT:g.bT.length≤9223372036854775807
 eQ:g.eQ.length≤9223372036854775807
 aIG:∀x∈g.bT,x.name.size≤9223372036854775807
 x8:∀x∈g.eQ,x.name.size≤9223372036854775807
 bR:∀x∈g.eQ,x.bR.length≤9223372036854775807
theorem D9(g:Ground)(hg:g.fits):aF prog 27 [WO g] (vI (gF g)):=by
 refine eP func27 rfl rfl call27 rfl rfl fun cx _=>?_
 refine aB (SK g.bT hg.bT hg.aIG) ?_
 refine aI (fun h=>?_) (fun h=>?_)
 ·exact aC.of_eq (by unfold gF;rw[h];rfl)
 refine aI (fun h'=>?_) (fun h'=>?_)
 ·exact aC.of_eq (by unfold gF;rw[h,h'];rfl)
 refine aI (fun h2=>?_) (fun h2=>?_)
 ·exact aC.of_eq (by unfold gF;rw[h,h',h2];rfl)
 refine aB ((SC g g.eQ (fun _=>.bC) hg.bT hg.eQ hg.x8 hg.bR).conv (args':=_) ⟨aJ.refl _,aJ.dQ fun j hj=>absurd hj (Nat.not_lt_zero j),aJ.bnd (lt2 (aJ.refl _) (aJ.refl _)),oO⟩) ?_
 exact aC.of_eq (by unfold gF;rw[h,h',h2];rfl)

theorem CR:∀(l:List (ByteArray×Int)) (a:ByteArray) (v:Int) (k:ByteArray),jB (jG l a v) k=bif k==a then v else jB l k
 |[],a,v,k=>by
  rw[jG]
  cases h:k==a with
  |true=>simp[jB,mU,h]
  |false=>simp[jB,mU,h]
 |(b,u)::r,a,v,k=>by
  rw[jG]
  cases IQ:a==b with
  |true=>
   have e:=eq_of_beq IQ
   subst e
   cases h:k==a with
   |true=>simp[jB,mU,h]
   |false=>simp[jB,mU,h]
  |false=>
   have ih:=CR r a v k
   cases h:k==b with
   |true=>
    have e:=eq_of_beq h
    subst e
    have:(k==a)=false:=by
     rw[Bool.eq_false_iff]at IQ ⊢
     exact fun e=>IQ (by rw[eq_of_beq e];simp)
    simp[jB,mU,this]
   |false=>
    simp only [jB,mU,h,cond_false]at ih ⊢
    exact ih
theorem JH(a b:ByteArray):dE a b=(a==b):=by
 rw[bytes_beq,dE,Bool.eq_iff_iff]
 simp only [beq_iff_eq,decide_eq_true_eq]
 constructor
 ·intro h
  rw[ByteArray.toList_eq,ByteArray.toList_eq]at h
  cases a;cases b
  simp at h
  rw[h]
 ·intro h;rw[h]
def MQ(l:List Int)(i:Nat):Int:=
 bif !within (l.getD i 0) 0 9 then 2 else bif decide ((i:Int)>0)&&decide (l.getD i 0≤l.getD (i - 1) 0)then 9 else 0
def IH(p:xI):Int:=
 bif !within p.aBX 1 1000000000|| !within p.base (-20000) 20000|| !within p.top (-20000) 20000 then 2
 else bif decide (p.top≤p.base)then 9 else bif !within p.JN 0 10000 then 2 else aZ (MQ p.bB) p.bB.length 0
def R6(b:oG):Int:=bif !within b.den 1 1000|| !within b.num 1 (aU (10*b.den))then 2 else 0
def F3(l:List xI)(i:Nat):Int:=
 bif !isName (l.getD i default).name then 4 else bif (l.take i).any (fun y=>dE y.name (l.getD i default).name)then 5 else IH (l.getD i default)
def w6(l:List xI):Nat→List (ByteArray×Int)
 |0=>[]
 |i+1=>jG (w6 l i) (l.getD i default).name 1
theorem vM(l:List xI)(k:ByteArray):∀i,i≤l.length→(jB (w6 l i) k !=0)=(l.take i).any (fun y=>dE y.name k)
 |0,_=>rfl
 |i+1,h=>by
  have hd:l.take (i+1)=l.take i++ [l.getD i default]:=by rw[bA oM];rw[List.take_succ_eq_append_getElem oM]
  rw[w6,CR,hd,List.any_append,←vM l k i oM,List.any_cons,List.any_nil,Bool.or_false,JH]
  cases h:k==(l.getD i default).name with
  |true=>rw[show((l.getD i default).name==k)=true by rw[eq_of_beq h];simp];simp
  |false=>rw[show((l.getD i default).name==k)=false by rw[Bool.eq_false_iff]at h ⊢;exact fun e=>h (by rw[eq_of_beq e];simp)];simp
theorem aCZ(x:xI):aF prog 152 [LI x] (vS x.name):=by
 refine eP func152 rfl rfl call152 rfl rfl fun cx _=>?_
 exact aC.refl _
theorem ZQ(l:List xI)(c d:Nat→DV)(hl:l.length≤9223372036854775807)(hn:∀x∈l,x.name.size≤9223372036854775807)(ho:∀x∈l,aF prog 153 [LI x] (vI (IH x))):
  aF prog 151 [zL l,.s (.d (.dQ 152 0 c)),.s (.d (.dQ 153 0 d))] (vI (aZ (F3 l) l.length 0)):=by
 refine eP func151 rfl rfl call151 rfl rfl fun cx aA=>?_
 refine AW.loop (fun i:Nat=>⟨[(1,.s (.d (.dQ 152 0 c))),(2,.s (.d (.dQ 153 0 d))),(7,.s (.mp 12)),(13,zL l),(14,vI l.length),(15,vI i),(6,vI 0)],[(12,some (.smap .bool (w6 l i)))]⟩) (fun i=>i≤l.length∧aZ (F3 l) l.length 0=aZ (F3 l) (l.length - i) i) (fun i=>l.length - i) 0 ⟨Nat.zero_le _,rfl⟩ ?_ ?_
 ·refine Sub.b7 aA ⟨rQ,oO⟩ ⟨rQ,rQ,rQ,rQ,rQ,rQ,rQ,oO⟩
 ·rintro i ⟨hi,hj⟩
  refine eX aA ?_
  refine aI (fun h5=>?_) (fun h5=>?_)
  ·have h5:(i:Int)<l.length:=cB h5
   rw[show l.length - i=(l.length - (i+1))+1 by omega,aZ]at hj
   refine oi ⟨oM,oM⟩ ?_
   refine aB (aCZ (l.getD i default)) ?_
   refine aB (aFA (l.getD i default).name (hn _ (dZ oM))) ?_
   refine aI (fun h6=>?_) (fun h6=>?_)
   ·have h:F3 l i=4:=by unfold F3;rw[h6];rfl
    exact aC.of_eq (by rw[hj,h];rfl)
   refine aI (fun h7=>?_) (fun h7=>?_)
   ·have h7:(jB (w6 l i) (l.getD i default).name !=0)=true:=h7
    rw[vM l _ i hi]at h7
    have h:F3 l i=5:=by unfold F3;rw[h6,h7];rfl
    exact aC.of_eq (by rw[hj,h];rfl)
   have h7:(jB (w6 l i) (l.getD i default).name !=0)=false:=h7
   rw[vM l _ i hi]at h7
   refine aB (ho (l.getD i default) (dZ oM)) ?_
   have h:F3 l i=IH (l.getD i default):=by unfold F3;rw[h6,h7];rfl
   rw[h]at hj
   refine aI (fun h8=>?_) (fun h8=>?_)
   ·exact aC.of_eq (by rw[hj,h8];rfl)
   refine⟨i+1,⟨oM,by rw[hj,h8];rfl⟩,oM,?_⟩
   refine Sub.b7 aA ⟨rQ,oO⟩ ⟨rQ,rQ,rQ,rQ,rQ,⟨rfl,?_⟩,rQ,oO⟩
   exact congrArg vI (aG oM oM)
  ·have h5:¬(i:Int)<l.length:=cD h5
   have bN:i=l.length:=oM
   exact aC.of_eq (by rw[hj,bN,Nat.sub_self];rfl)
def C1(l:List oG)(i:Nat):Int:=
 bif !isName (l.getD i default).aN then 4 else bif (l.take i).any (fun y=>dE y.aN (l.getD i default).aN)then 5 else R6 (l.getD i default)
def rJ(l:List oG):Nat→List (ByteArray×Int)
 |0=>[]
 |i+1=>jG (rJ l i) (l.getD i default).aN 1
theorem sP(l:List oG)(k:ByteArray):∀i,i≤l.length→(jB (rJ l i) k !=0)=(l.take i).any (fun y=>dE y.aN k)
 |0,_=>rfl
 |i+1,h=>by
  have hd:l.take (i+1)=l.take i++ [l.getD i default]:=by rw[bA oM];rw[List.take_succ_eq_append_getElem oM]
  rw[rJ,CR,hd,List.any_append,←sP l k i oM,List.any_cons,List.any_nil,Bool.or_false,JH]
  cases h:k==(l.getD i default).aN with
  |true=>rw[show((l.getD i default).aN==k)=true by rw[eq_of_beq h];simp];simp
  |false=>rw[show((l.getD i default).aN==k)=false by rw[Bool.eq_false_iff]at h ⊢;exact fun e=>h (by rw[eq_of_beq e];simp)];simp
theorem aBO(x:oG):aF prog 155 [aD7 x] (vS x.aN):=by
 refine eP func155 rfl rfl call155 rfl rfl fun cx _=>?_
 exact aC.refl _
theorem VZ(l:List oG)(c d:Nat→DV)(hl:l.length≤9223372036854775807)(hn:∀x∈l,x.aN.size≤9223372036854775807)(ho:∀x∈l,aF prog 156 [aD7 x] (vI (R6 x))):
  aF prog 154 [FF l,.s (.d (.dQ 155 0 c)),.s (.d (.dQ 156 0 d))] (vI (aZ (C1 l) l.length 0)):=by
 refine eP func154 rfl rfl call154 rfl rfl fun cx aA=>?_
 refine AW.loop (fun i:Nat=>⟨[(1,.s (.d (.dQ 155 0 c))),(2,.s (.d (.dQ 156 0 d))),(7,.s (.mp 12)),(13,FF l),(14,vI l.length),(15,vI i),(6,vI 0)],[(12,some (.smap .bool (rJ l i)))]⟩) (fun i=>i≤l.length∧aZ (C1 l) l.length 0=aZ (C1 l) (l.length - i) i) (fun i=>l.length - i) 0 ⟨Nat.zero_le _,rfl⟩ ?_ ?_
 ·refine Sub.b7 aA ⟨rQ,oO⟩ ⟨rQ,rQ,rQ,rQ,rQ,rQ,rQ,oO⟩
 ·rintro i ⟨hi,hj⟩
  refine eX aA ?_
  refine aI (fun h5=>?_) (fun h5=>?_)
  ·have h5:(i:Int)<l.length:=cB h5
   rw[show l.length - i=(l.length - (i+1))+1 by omega,aZ]at hj
   refine oi ⟨oM,oM⟩ ?_
   refine aB (aBO (l.getD i default)) ?_
   refine aB (aFA (l.getD i default).aN (hn _ (dZ oM))) ?_
   refine aI (fun h6=>?_) (fun h6=>?_)
   ·have h:C1 l i=4:=by unfold C1;rw[h6];rfl
    exact aC.of_eq (by rw[hj,h];rfl)
   refine aI (fun h7=>?_) (fun h7=>?_)
   ·have h7:(jB (rJ l i) (l.getD i default).aN !=0)=true:=h7
    rw[sP l _ i hi]at h7
    have h:C1 l i=5:=by unfold C1;rw[h6,h7];rfl
    exact aC.of_eq (by rw[hj,h];rfl)
   have h7:(jB (rJ l i) (l.getD i default).aN !=0)=false:=h7
   rw[sP l _ i hi]at h7
   refine aB (ho (l.getD i default) (dZ oM)) ?_
   have h:C1 l i=R6 (l.getD i default):=by unfold C1;rw[h6,h7];rfl
   rw[h]at hj
   refine aI (fun h8=>?_) (fun h8=>?_)
   ·exact aC.of_eq (by rw[hj,h8];rfl)
   refine⟨i+1,⟨oM,by rw[hj,h8];rfl⟩,oM,?_⟩
   refine Sub.b7 aA ⟨rQ,oO⟩ ⟨rQ,rQ,rQ,rQ,rQ,⟨rfl,?_⟩,rQ,oO⟩
   exact congrArg vI (aG oM oM)
  ·have h5:¬(i:Int)<l.length:=cD h5
   have bN:i=l.length:=oM
   exact aC.of_eq (by rw[hj,bN,Nat.sub_self];rfl)
def nX(l:List xI)(s:ByteArray):Int:=dA (fun x=>dE x.name s) l 0
abbrev aLL(p:xI):List SV:=[.d (dS p.name),.d (dI p.aBX),.d (dI p.base),.d (dI p.top),.d (cG p.bB),.d (dI p.JN)]
abbrev B1(y:gR):List SV:=[.d (qM y.a6),.d (oY y.b8),.d (KM y.cC),.d (cG y.carry)]
def SN(y:gR)(i:Nat):Int:=bif !within (y.carry.getD i 0) 0 (aU ((y.b8.getD i default).den - 1))then 2 else 0
def CW(y:gR)(i:Nat):Int:=
 bif !within (y.cC.getD i default).batch 1 1000000 then 2
 else bif (y.cC.take i).any (fun d=>d.batch==(y.cC.getD i default).batch)then 5
 else bif decide (nX y.a6 (y.cC.getD i default).cQ<0)then 6
 else bif !within (y.cC.getD i default).jO 0 100000000000000 then 2 else 0
def aKS(p:xI):Int:=aU (p.aBX*aU (p.top - p.base))
def aCH(l:List QV)(n:ByteArray):Nat→Nat→Int→Int
 |0,_,s=>s
 |k+1,i,s=>aCH l n k (i+1) (bif dE (l.getD i default).cQ n then aU (s+(l.getD i default).jO)else s)
def aFJ(y:gR)(n:ByteArray):Int:=aCH y.cC n y.cC.length 0 0
def N3(y:gR)(p:xI):Int:=aU (aKS p - aFJ y p.name)
def SP(y:gR)(i:Nat):Int:=bif decide (N3 y (y.a6.getD i default)<0)then 19 else 0
def BB(y:gR):Int:=
 bif decide ((y.cC.length:Int)>200)then 8
 else bif aZ (CW y) y.cC.length 0 !=0 then aZ (CW y) y.cC.length 0
 else aZ (SP y) y.a6.length 0
def uS(y:gR):Int:=
 bif decide ((y.b8.length:Int)>20)then 8
 else bif aZ (C1 y.b8) y.b8.length 0 !=0 then aZ (C1 y.b8) y.b8.length 0
 else bif (y.carry.length:Int) !=(y.b8.length:Int)then 10
 else aZ (SN y) y.carry.length 0
def nC(y:gR):Int:=
 bif decide ((y.a6.length:Int)>8)then 8
 else bif aZ (F3 y.a6) y.a6.length 0 !=0 then aZ (F3 y.a6) y.a6.length 0
 else bif uS y !=0 then uS y else BB y
theorem aBK(p:xI)(hl:p.bB.length≤9223372036854775807):aF prog 153 [LI p] (vI (IH p)):=by
 refine eP func153 rfl rfl call153 rfl rfl fun cx aA=>?_
 refine aB (jW _ _ _) ?_
 repeat refine aR ?_
 refine eJ (jW _ _ _) ?_
 repeat refine aR ?_
 refine eJ (jW _ _ _) ?_
 repeat refine aR ?_
 refine aI (fun h1=>?_) (fun h1=>?_)
 ·exact aC.of_eq (by unfold IH;rw[h1];rfl)
 refine aI (fun h2=>?_) (fun h2=>?_)
 ·exact aC.of_eq (by unfold IH;rw[h1,h2];rfl)
 refine aB (jW _ _ _) ?_
 refine aI (fun h3=>?_) (fun h3=>?_)
 ·exact aC.of_eq (by unfold IH;rw[h1,h2,h3];rfl)
 have hE:IH p=aZ (MQ p.bB) p.bB.length 0:=by unfold IH;rw[h1,h2,h3];rfl
 refine AW.loop (fun i:Nat=>⟨[(1,.s (.ptr 1 0)),(34,kA p.bB),(35,vI p.bB.length),(36,vI i),(2,vI 0)],[(1,some (.cells (aLL p)))]⟩) (fun i=>i≤p.bB.length∧IH p=aZ (MQ p.bB) (p.bB.length - i) i) (fun i=>p.bB.length - i) 0 ⟨Nat.zero_le _,hE⟩ ?_ ?_
 ·refine Sub.b7 aA ⟨rQ,oO⟩ ⟨rQ,rQ,rQ,rQ,rQ,oO⟩
 ·rintro i ⟨hi,hj⟩
  refine eX aA ?_
  refine aI (fun h5=>?_) (fun h5=>?_)
  ·have h5:(i:Int)<p.bB.length:=cB h5
   rw[show p.bB.length - i=(p.bB.length - (i+1))+1 by omega,aZ]at hj
   refine oi ⟨oM,oM⟩ ?_
   refine aB (jW _ _ _) ?_
   refine aI (fun h6=>?_) (fun h6=>?_)
   ·have h6:(!within (p.bB.getD i 0) 0 9)=true:=h6
    have h:MQ p.bB i=2:=by unfold MQ;rw[h6];rfl
    exact aC.of_eq (by rw[hj,h];rfl)
   have h6:(!within (p.bB.getD i 0) 0 9)=false:=h6
   repeat refine aR ?_
   have gK:0<i→aU ((i:Int) - 1)=((i - 1:Nat):Int):=fun h=>by rw[aG oM oM];omega
   refine og (fun hb=>?_) ?_
   ·have hb:0<i:=by simp[tB]at hb;omega
    show 0≤aU ((i:Int) - 1)∧aU ((i:Int) - 1)<(p.bB.length:Int)
    rw[gK hb];exact⟨oM,oM⟩
   repeat refine aR ?_
   have hk:∀v:Bool,(decide ((i:Int)>0)&&decide (p.bB.getD i 0≤p.bB.getD (aU ((i:Int) - 1)).toNat 0))=v→(decide ((i:Int)>0)&&decide (p.bB.getD i 0≤p.bB.getD (i - 1) 0))=v:=by
    intro v h
    by_cases h0:0<i
    ·rw[gK h0]at h;exact h
    ·rw[show decide ((i:Int)>0)=false by simp;omega]at h ⊢;exact h
   refine aI (fun h7=>?_) (fun h7=>?_)
   ·have h7:=hk true h7
    have h:MQ p.bB i=9:=by unfold MQ;rw[h6,h7];rfl
    exact aC.of_eq (by rw[hj,h];rfl)
   have h7:=hk false h7
   have h:MQ p.bB i=0:=by unfold MQ;rw[h6,h7];rfl
   refine⟨i+1,⟨oM,by rw[hj,h];rfl⟩,oM,?_⟩
   refine Sub.b7 aA ⟨rQ,oO⟩ ⟨rQ,rQ,rQ,⟨rfl,?_⟩,rQ,oO⟩
   exact congrArg vI (aG oM oM)
  ·have h5:¬(i:Int)<p.bB.length:=cD h5
   have bN:i=p.bB.length:=oM
   exact aC.of_eq (by rw[hj,bN,Nat.sub_self];rfl)
theorem P8(b:oG):aF prog 156 [aD7 b] (vI (R6 b)):=by
 refine eP func156 rfl rfl call156 rfl rfl fun cx _=>?_
 refine aB (jW _ _ _) ?_
 repeat refine aR ?_
 refine eJ (jW _ _ _) ?_
 repeat refine aR ?_
 refine aI (fun h=>?_) (fun h=>?_)
 ·exact aC.of_eq (by unfold R6;rw[h];rfl)
 ·exact aC.of_eq (by unfold R6;rw[h];rfl)
theorem aF4(q:xI)(s:ByteArray)(f:Nat→DV)(hf:f 0=dS s):aF prog 246 [LI q,.s (.d (.rp 1 f))] (vB (dE q.name s)):=by
 refine aF.conv (args:=[LI q,.s (.d (.rp 1 (SO s)))]) ?_ ⟨⟨aJ.refl _,aJ.refl _,aJ.refl _,aJ.refl _,aJ.refl _,aJ.refl _,oO⟩,aJ.rp fun j hj=>?_,oO⟩
 ·refine eP func246 rfl rfl call246 rfl rfl fun cx _=>?_
  exact aC.refl _
 ·match j with
  |0=>exact aJ.of_eq hf
  |_+1=>exact fun _ _ _=>trivial
theorem aEP(y:gR)(s:ByteArray)(hl:y.a6.length≤9223372036854775807):aF prog 196 [xJ y,vS s] (vI (nX y.a6 s)):=by
 refine eP func196 rfl rfl call196 rfl rfl fun cx aA=>?_
 refine aB (Z8 y.a6 hl 246 1 _ (fun q=>dE q.name s) (fun q _=>aF4 q s _ rfl)) ?_
 exact aC.refl _
theorem capacity(p:xI):aF prog 247 [LI p] (vI (aKS p)):=by
 refine eP func247 rfl rfl call247 rfl rfl fun cx _=>?_
 exact aC.refl _
theorem taken(y:gR)(n:ByteArray)(hl:y.cC.length≤9223372036854775807):aF prog 248 [xJ y,vS n] (vI (aFJ y n)):=by
 refine eP func248 rfl rfl call248 rfl rfl fun cx aA=>?_
 refine AW.loop (fun s:Nat×Int=>⟨[(1,vS n),(2,.s (.ptr 2 0)),(5,vI s.2),(9,zN y.cC),(10,vI y.cC.length),(11,vI s.1),(4,vI 0)],[(2,some (.cells (B1 y)))]⟩) (fun s=>s.1≤y.cC.length∧aFJ y n=aCH y.cC n (y.cC.length - s.1) s.1 s.2) (fun s=>y.cC.length - s.1) (0,0) ⟨Nat.zero_le _,rfl⟩ ?_ ?_
 ·refine Sub.b7 aA ⟨rQ,oO⟩ ⟨rQ,rQ,rQ,rQ,rQ,rQ,rQ,oO⟩
 ·rintro⟨i,s⟩ ⟨hi,hj⟩
  simp only at hi hj
  refine eX aA ?_
  refine aI (fun h5=>?_) (fun h5=>?_)
  ·have h5:(i:Int)<y.cC.length:=cB h5
   rw[show y.cC.length - i=(y.cC.length - (i+1))+1 by omega,aCH]at hj
   refine oi ⟨oM,oM⟩ ?_
   refine aI (fun h6=>?_) (fun h6=>?_)
   ·have h6:dE (y.cC.getD i default).cQ n=true:=h6
    rw[h6]at hj
    refine⟨(i+1,aU (s+(y.cC.getD i default).jO)),⟨by show i+1≤_;omega,hj⟩,by show _ - (i+1)<_;omega,?_⟩
    refine Sub.b7 aA ⟨rQ,oO⟩ ⟨rQ,rQ,rQ,rQ,rQ,⟨rfl,?_⟩,rQ,oO⟩
    exact congrArg vI (aG oM oM)
   ·have h6:dE (y.cC.getD i default).cQ n=false:=h6
    rw[h6]at hj
    refine⟨(i+1,s),⟨by show i+1≤_;omega,hj⟩,by show _ - (i+1)<_;omega,?_⟩
    refine Sub.b7 aA ⟨rQ,oO⟩ ⟨rQ,rQ,rQ,rQ,rQ,⟨rfl,?_⟩,rQ,oO⟩
    exact congrArg vI (aG oM oM)
  ·have h5:¬(i:Int)<y.cC.length:=cD h5
   have bN:i=y.cC.length:=oM
   exact aC.of_eq (by rw[hj,bN,Nat.sub_self];rfl)
theorem aE9(y:gR)(p:xI)(hl:y.cC.length≤9223372036854775807):aF prog 197 [xJ y,LI p] (vI (N3 y p)):=by
 refine eP func197 rfl rfl call197 rfl rfl fun cx _=>?_
 refine aB (capacity p) ?_
 refine aB (taken y p.name hl) ?_
 refine aD ?_
 exact aC.refl _
def JG(l:List QV):Nat→List (Int×Int)
 |0=>[]
 |i+1=>o5 (JG l i) (l.getD i default).batch 1
theorem KF(k v x:Int):∀l:List (Int×Int),oA (o5 l k v) x=bif x==k then some v else oA l x
 |[]=>rfl
 |(a,u)::r=>by
  rw[o5]
  cases hk:k==a with
  |true=>
   simp only [cond_true,oA]
   have:k=a:=by simpa using hk
   subst this
   cases x==k <;> rfl
  |false=>
   simp only [cond_false,oA,KF k v x r]
   cases hx:x==a with
   |true=>
    have:x=a:=by simpa using hx
    subst this
    have:(x==k)=false:=by
     cases h:x==k with
     |false=>rfl
     |true=>have:x=k:=(by simpa using h);subst this;simp at hk
    rw[this];rfl
   |false=>rfl
theorem WS(l:List (Int×Int))(a v k:Int):getM (o5 l a v) k=bif k==a then v else getM l k:=by
 rw[getM,KF]
 cases k==a <;> rfl
theorem B8(l:List QV)(k:Int):∀i,i≤l.length→(getM (JG l i) k !=0)=(l.take i).any (fun y=>y.batch==k)
 |0,_=>rfl
 |i+1,h=>by
  have hd:l.take (i+1)=l.take i++ [l.getD i default]:=by rw[bA oM];rw[List.take_succ_eq_append_getElem oM]
  rw[JG,WS,hd,List.any_append,←B8 l k i oM,List.any_cons,List.any_nil,Bool.or_false]
  by_cases h:k=(l.getD i default).batch
  ·subst h;simp
  ·have h1:(k==(l.getD i default).batch)=false:=by simpa using h
   have h2:((l.getD i default).batch==k)=false:=by simpa using fun e=>h e.symm
   rw[h1,h2];simp
structure gR.fits(y:gR):Prop where
 a6:y.a6.length≤9223372036854775807
 b8:y.b8.length≤9223372036854775807
 cC:y.cC.length≤9223372036854775807
 carry:y.carry.length≤9223372036854775807
 DE:∀x∈y.a6,x.name.size≤9223372036854775807
 x8:∀x∈y.b8,x.aN.size≤9223372036854775807
 bB:∀x∈y.a6,x.bB.length≤9223372036854775807
theorem IX(y:gR)(hy:y.fits):aF prog 158 [xJ y] (vI (BB y)):=by
 have hl:=hy.cC
 have hp:=hy.a6
 refine eP func158 rfl rfl call158 rfl rfl fun cx aA=>?_
 refine aI (fun h0=>?_) (fun h0=>?_)
 ·exact aC.of_eq (by unfold BB;rw[h0];rfl)
 refine AW.loop (fun i:Nat=>⟨[(1,.s (.ptr 1 0)),(3,.s (.mp 12)),(14,zN y.cC),(15,vI y.cC.length),(16,vI i),(2,vI 0)],[(1,some (.cells (B1 y))),(12,some (.map .bool (JG y.cC i)))]⟩) (fun i=>i≤y.cC.length∧aZ (CW y) y.cC.length 0=aZ (CW y) (y.cC.length - i) i) (fun i=>y.cC.length - i) 0 ⟨Nat.zero_le _,rfl⟩ ?_ ?_
 ·refine Sub.b7 aA ⟨rQ,rQ,oO⟩ ⟨rQ,rQ,rQ,rQ,rQ,rQ,oO⟩
 ·rintro i ⟨hi,hj⟩
  refine eX aA ?_
  refine aI (fun h5=>?_) (fun h5=>?_)
  ·have h5:(i:Int)<y.cC.length:=cB h5
   rw[show y.cC.length - i=(y.cC.length - (i+1))+1 by omega,aZ]at hj
   refine oi ⟨oM,oM⟩ ?_
   refine aB (jW _ _ _) ?_
   have hE:∀e:Int,e≠0→CW y i=e→BB y=e:=fun e he h=>by
    have hV:(CW y i !=0)=true:=by rw[h];simpa using he
    rw[hV]at hj
    have IP:(e !=0)=true:=by simpa using he
    unfold BB;rw[h0,hj,h]
    simp only [cond_false,cond_true];rw[IP];rfl
   refine aI (fun h6=>?_) (fun h6=>?_)
   ·have h6:(!within (y.cC.getD i default).batch 1 1000000)=true:=h6
    exact aC.of_eq (by rw[hE 2 dC (by unfold CW;rw[h6];rfl)];rfl)
   have h6:(!within (y.cC.getD i default).batch 1 1000000)=false:=h6
   refine oi (.inr rfl) ?_
   refine aI (fun h7=>?_) (fun h7=>?_)
   ·have h7:(getM (JG y.cC i) (y.cC.getD i default).batch !=0)=true:=h7
    rw[B8 _ _ i hi]at h7
    exact aC.of_eq (by rw[hE 5 dC (by unfold CW;rw[h6,h7];rfl)];rfl)
   have h7:(getM (JG y.cC i) (y.cC.getD i default).batch !=0)=false:=h7
   rw[B8 _ _ i hi]at h7
   refine aB (aEP y (y.cC.getD i default).cQ hp) ?_
   refine aI (fun h8=>?_) (fun h8=>?_)
   ·exact aC.of_eq (by rw[hE 6 dC (by unfold CW;rw[h6,h7,h8];rfl)];rfl)
   refine aB (jW _ _ _) ?_
   refine aI (fun h9=>?_) (fun h9=>?_)
   ·have h9:(!within (y.cC.getD i default).jO 0 100000000000000)=true:=h9
    exact aC.of_eq (by rw[hE 2 dC (by unfold CW;rw[h6,h7,h8,h9];rfl)];rfl)
   have h9:(!within (y.cC.getD i default).jO 0 100000000000000)=false:=h9
   have h:CW y i=0:=by unfold CW;rw[h6,h7,h8,h9];rfl
   refine⟨i+1,⟨oM,by rw[hj,h];rfl⟩,oM,?_⟩
   refine Sub.b7 aA ⟨rQ,rQ,oO⟩ ⟨rQ,rQ,rQ,rQ,⟨rfl,?_⟩,rQ,oO⟩
   exact congrArg vI (aG oM oM)
  ·have h5:¬(i:Int)<y.cC.length:=cD h5
   have bN:i=y.cC.length:=oM
   have hz:aZ (CW y) y.cC.length 0=0:=by rw[hj,bN,Nat.sub_self];rfl
   have hD:BB y=aZ (SP y) y.a6.length 0:=by unfold BB;rw[h0,hz];rfl
   clear hj hi
   refine AW.loop (fun i:Nat=>⟨[(1,.s (.ptr 1 0)),(46,zL y.a6),(47,vI y.a6.length),(48,vI i),(2,vI 0)],[(1,some (.cells (B1 y)))]⟩) (fun i=>i≤y.a6.length∧BB y=aZ (SP y) (y.a6.length - i) i) (fun i=>y.a6.length - i) 0 ⟨Nat.zero_le _,hD⟩ ?_ ?_
   ·refine Sub.b7 aA ⟨rQ,oO⟩ ⟨rQ,rQ,rQ,rQ,rQ,oO⟩
   ·rintro i ⟨hi,hj⟩
    refine eX aA ?_
    refine aI (fun h5=>?_) (fun h5=>?_)
    ·have h5:(i:Int)<y.a6.length:=cB h5
     rw[show y.a6.length - i=(y.a6.length - (i+1))+1 by omega,aZ]at hj
     refine oi ⟨oM,oM⟩ ?_
     refine aB (aE9 y (y.a6.getD i default) hl) ?_
     refine aI (fun h6=>?_) (fun h6=>?_)
     ·have h:SP y i=19:=by unfold SP;rw[h6];rfl
      exact aC.of_eq (by rw[hj,h];rfl)
     have h:SP y i=0:=by unfold SP;rw[h6];rfl
     refine⟨i+1,⟨oM,by rw[hj,h];rfl⟩,oM,?_⟩
     refine Sub.b7 aA ⟨rQ,oO⟩ ⟨rQ,rQ,rQ,⟨rfl,?_⟩,rQ,oO⟩
     exact congrArg vI (aG oM oM)
    ·have h5:¬(i:Int)<y.a6.length:=cD h5
     have bN:i=y.a6.length:=oM
     exact aC.of_eq (by rw[hj,bN,Nat.sub_self];rfl)
theorem aBD(y:gR)(hy:y.fits):aF prog 87 [xJ y] (vI (nC y)):=by
 refine eP func87 rfl rfl call87 rfl rfl fun cx aA=>?_
 refine aI (fun h0=>?_) (fun h0=>?_)
 ·exact aC.of_eq (by unfold nC;rw[h0];rfl)
 refine aB ((ZQ y.a6 (fun _=>.bC) (fun _=>.bC) hy.a6 hy.DE (fun x hx=>aBK x (hy.bB x hx))).conv (args':=_) ⟨aJ.refl _,aJ.dQ fun j hj=>absurd hj (Nat.not_lt_zero j),aJ.dQ fun j hj=>absurd hj (Nat.not_lt_zero j),oO⟩) ?_
 refine aI (fun h1=>?_) (fun h1=>?_)
 ·exact aC.of_eq (by unfold nC;rw[h0,h1];rfl)
 have hY:uS y≠0→nC y=uS y:=fun hV=>by unfold nC;rw[h0,h1,show(uS y !=0)=true by simpa using hV];rfl
 have hZ:uS y=0→nC y=BB y:=fun he=>by unfold nC;rw[h0,h1,he];rfl
 refine aI (fun h2=>?_) (fun h2=>?_)
 ·have:uS y=8:=by unfold uS;rw[h2];rfl
  exact aC.of_eq (by rw[hY (by rw[this];decide),this];rfl)
 refine aB ((VZ y.b8 (fun _=>.bC) (fun _=>.bC) hy.b8 hy.x8 (fun x _=>P8 x)).conv (args':=_) ⟨aJ.refl _,aJ.dQ fun j hj=>absurd hj (Nat.not_lt_zero j),aJ.dQ fun j hj=>absurd hj (Nat.not_lt_zero j),oO⟩) ?_
 refine aI (fun h3=>?_) (fun h3=>?_)
 ·have:uS y=aZ (C1 y.b8) y.b8.length 0:=by unfold uS;rw[h2,h3];rfl
  exact aC.of_eq (by rw[hY (by rw[this];simpa using h3),this];rfl)
 refine aI (fun h4=>?_) (fun h4=>?_)
 ·have h4:((y.carry.length:Int) !=(y.b8.length:Int))=true:=h4
  have:uS y=10:=by unfold uS;rw[h2,h3,h4];rfl
  exact aC.of_eq (by rw[hY (by rw[this];decide),this];rfl)
 have h4:((y.carry.length:Int) !=(y.b8.length:Int))=false:=h4
 have uA:y.carry.length=y.b8.length:=by have:(y.carry.length:Int)=y.b8.length:=(by simpa using h4);omega
 have hE:uS y=aZ (SN y) y.carry.length 0:=by unfold uS;rw[h2,h3,h4];rfl
 have hc:=hy.carry
 refine AW.loop (fun i:Nat=>⟨[(1,.s (.ptr 1 0)),(35,kA y.carry),(36,vI y.carry.length),(37,vI i),(2,vI 0)],[(1,some (.cells (B1 y)))]⟩) (fun i=>i≤y.carry.length∧uS y=aZ (SN y) (y.carry.length - i) i) (fun i=>y.carry.length - i) 0 ⟨Nat.zero_le _,hE⟩ ?_ ?_
 ·refine Sub.b7 aA ⟨rQ,oO⟩ ⟨rQ,rQ,rQ,rQ,rQ,oO⟩
 ·rintro i ⟨hi,hj⟩
  refine eX aA ?_
  refine aI (fun h5=>?_) (fun h5=>?_)
  ·have h5:(i:Int)<y.carry.length:=cB h5
   rw[show y.carry.length - i=(y.carry.length - (i+1))+1 by omega,aZ]at hj
   refine oi ⟨oM,oM⟩ ?_
   refine oi ⟨oM,oM⟩ ?_
   refine aB (jW _ _ _) ?_
   refine aI (fun h6=>?_) (fun h6=>?_)
   ·have h6:(!within (y.carry.getD i 0) 0 (aU ((y.b8.getD i default).den - 1)))=true:=h6
    have h:SN y i=2:=by unfold SN;rw[h6];rfl
    have:uS y=2:=by rw[hj,h];rfl
    exact aC.of_eq (by rw[hY (by rw[this];decide),this];rfl)
   have h6:(!within (y.carry.getD i 0) 0 (aU ((y.b8.getD i default).den - 1)))=false:=h6
   have h:SN y i=0:=by unfold SN;rw[h6];rfl
   refine⟨i+1,⟨oM,by rw[hj,h];rfl⟩,oM,?_⟩
   refine Sub.b7 aA ⟨rQ,oO⟩ ⟨rQ,rQ,rQ,⟨rfl,?_⟩,rQ,oO⟩
   exact congrArg vI (aG oM oM)
  ·have h5:¬(i:Int)<y.carry.length:=cD h5
   have bN:i=y.carry.length:=oM
   have hz:uS y=0:=by rw[hj,bN,Nat.sub_self];rfl
   refine aB (IX y hy) ?_
   exact aC.of_eq (by rw[hZ hz];rfl)
theorem o9{f:Nat→Int}:∀{n i:Nat},aZ f n i=0→∀j,i≤j→j<i+n→f j=0
 |0,_,_,j,h1,h2=>by omega
 |n+1,i,h,j,h1,h2=>by
  rw[aZ]at h
  cases hf:(f i !=0)with
  |true=>rw[hf]at h;simp only [cond_true]at h;rw[h]at hf;simp at hf
  |false=>
   rw[hf]at h
   by_cases hj:j=i
   ·subst hj;simpa using hf
   ·exact o9 (n:=n) (i:=i+1) h j oM oM
theorem within_iff{n lo hi:Int}:within n lo hi=true↔lo≤n∧n≤hi:=by simp[within]

def XI(z:List Value)(n:Nat)(g:Nat→Nat→DV):Nat→Nat→DV:=MN 0 n (fun _ j=>match (iE z)[j]? with|some c=>M9 c|none=>.bC) g
theorem HQ{z:List Value}{n:Nat}{g:Nat→Nat→DV}{i j:Nat}(h:i<n):XI z n g i j=g i j:=by
 unfold XI MN
 rw[if_pos ⟨Nat.zero_le _,oM⟩,Nat.sub_zero]
theorem y9(l:List xI)(h0:0<l.length)(hl:l.length≤1000000):bM prog 159 [zL l] [] (.s (.own 9)) [(9,.row 69 l.length 6 (XI ty69.zero l.length (DF l)))]:=by
 refine fG (rc:=[]) (N:=14) func159 rfl rfl call159 aK mix rfl rfl rfl rfl (fun cx _=>?_)
 refine aI (fun h=>?_) (fun _=>?_)
 ·have h:((l.length:Int)==0)=true:=h
  have:(l.length:Int)=0:=by simpa using h
  omega
 refine⟨oM,Int.le_refl _,by show(72:Int)*(l.length:Int)≤281474976710656;omega,?_⟩
 refine ob (fun k j hk hj=>by
  have hj:j<6:=hj
  match j,hj with
  |0,_=>rfl
  |1,_=>rfl
  |2,_=>rfl
  |3,_=>rfl
  |4,_=>rfl
  |5,_=>rfl) ?_
 refine⟨aM.rfl,?_,oO⟩
 have e:Nat.min l.length l.length=l.length:=Nat.min_self _
 show some (some (jM.row 69 l.length 6 (XI ty69.zero (Nat.min l.length l.length) (DF l))))=_
 rw[e]
theorem XF(l:List xI)(hl:l.length≤1000000):aF prog 159 [zL l] (zL l):=by
 refine eP func159 rfl rfl call159 rfl rfl fun cx _=>?_
 refine aI (fun h=>?_) (fun _=>?_)
 ·have h:((l.length:Int)==0)=true:=h
  have:l=[]:=by
   have:(l.length:Int)=0:=by simpa using h
   exact List.eq_nil_of_length_eq_zero oM
  subst this
  exact aC.le aJ.nil
 refine⟨oM,Int.le_refl _,by show(72:Int)*(l.length:Int)≤281474976710656;omega,?_⟩
 refine ob (fun k j hk hj=>by
  have hj:j<6:=hj
  match j,hj with
  |0,_=>rfl
  |1,_=>rfl
  |2,_=>rfl
  |3,_=>rfl
  |4,_=>rfl
  |5,_=>rfl) ?_
 have e:Nat.min l.length l.length=l.length:=Nat.min_self _
 refine aC.le (x:=.s (.d (.fJ l.length 6 (XI ty69.zero (Nat.min l.length l.length) (DF l))))) (aJ.fJ fun i j hi hj=>aJ.of_eq ?_)
 rw[e]
 exact HQ hi
theorem tO(l:List oG)(hl:l.length≤1000000):aF prog 160 [FF l] (FF l):=by
 refine eP func160 rfl rfl call160 rfl rfl fun cx _=>?_
 refine aI (fun h=>?_) (fun _=>?_)
 ·have h:((l.length:Int)==0)=true:=h
  have:l=[]:=by
   have:(l.length:Int)=0:=by simpa using h
   exact List.eq_nil_of_length_eq_zero oM
  subst this
  exact aC.le aJ.nil
 refine⟨oM,Int.le_refl _,by show(32:Int)*(l.length:Int)≤281474976710656;omega,?_⟩
 refine ob (fun k j hk hj=>by
  have hj:j<3:=hj
  match j,hj with
  |0,_=>rfl
  |1,_=>rfl
  |2,_=>rfl) ?_
 have e:Nat.min l.length l.length=l.length:=Nat.min_self _
 refine aC.le (x:=.s (.d (.fJ l.length 3 (XI ty145.zero (Nat.min l.length l.length) (aFC l))))) (aJ.fJ fun i j hi hj=>aJ.of_eq ?_)
 rw[e]
 exact HQ hi
theorem SJ(l:List QV)(h0:0<l.length)(hl:l.length≤1000000):bM prog 161 [zN l] [] (.s (.own 9)) [(9,.row 177 l.length 3 (XI ty177.zero l.length (D7 l)))]:=by
 refine fG (rc:=[]) (N:=14) func161 rfl rfl call161 aK mix rfl rfl rfl rfl (fun cx _=>?_)
 refine aI (fun h=>?_) (fun _=>?_)
 ·have h:((l.length:Int)==0)=true:=h
  have:(l.length:Int)=0:=by simpa using h
  omega
 refine⟨oM,Int.le_refl _,by show(32:Int)*(l.length:Int)≤281474976710656;omega,?_⟩
 refine ob (fun k j hk hj=>by
  have hj:j<3:=hj
  match j,hj with
  |0,_=>rfl
  |1,_=>rfl
  |2,_=>rfl) ?_
 refine⟨aM.rfl,?_,oO⟩
 have e:Nat.min l.length l.length=l.length:=Nat.min_self _
 show some (some (jM.row 177 l.length 3 (XI ty177.zero (Nat.min l.length l.length) (D7 l))))=_
 rw[e]
theorem KT(l:List QV)(hl:l.length≤1000000):aF prog 161 [zN l] (zN l):=by
 refine eP func161 rfl rfl call161 rfl rfl fun cx _=>?_
 refine aI (fun h=>?_) (fun _=>?_)
 ·have h:((l.length:Int)==0)=true:=h
  have:l=[]:=by
   have:(l.length:Int)=0:=by simpa using h
   exact List.eq_nil_of_length_eq_zero oM
  subst this
  exact aC.le aJ.nil
 refine⟨oM,Int.le_refl _,by show(32:Int)*(l.length:Int)≤281474976710656;omega,?_⟩
 refine ob (fun k j hk hj=>by
  have hj:j<3:=hj
  match j,hj with
  |0,_=>rfl
  |1,_=>rfl
  |2,_=>rfl) ?_
 have e:Nat.min l.length l.length=l.length:=Nat.min_self _
 refine aC.le (x:=.s (.d (.fJ l.length 3 (XI ty177.zero (Nat.min l.length l.length) (D7 l))))) (aJ.fJ fun i j hi hj=>aJ.of_eq ?_)
 rw[e]
 exact HQ hi
theorem HP(l:List Int)(h0:0<l.length)(hl:l.length≤1000000):bM prog 162 [kA l] [] (.s (.own 9)) [(9,.row 3 l.length 1 (XI ty3.zero l.length (dM l)))]:=by
 refine fG (rc:=[]) (N:=14) func162 rfl rfl call162 aK mix rfl rfl rfl rfl (fun cx _=>?_)
 refine aI (fun h=>?_) (fun _=>?_)
 ·have h:((l.length:Int)==0)=true:=h
  have:(l.length:Int)=0:=by simpa using h
  omega
 refine⟨oM,Int.le_refl _,by show(8:Int)*(l.length:Int)≤281474976710656;omega,?_⟩
 refine ob (fun k j hk hj=>by
  have hj:j<1:=hj
  match j,hj with
  |0,_=>rfl) ?_
 refine⟨aM.rfl,?_,oO⟩
 have e:Nat.min l.length l.length=l.length:=Nat.min_self _
 show some (some (jM.row 3 l.length 1 (XI ty3.zero (Nat.min l.length l.length) (dM l))))=_
 rw[e]
theorem sD(l:List Int)(hl:l.length≤1000000):aF prog 162 [kA l] (kA l):=by
 refine eP func162 rfl rfl call162 rfl rfl fun cx _=>?_
 refine aI (fun h=>?_) (fun _=>?_)
 ·have h:((l.length:Int)==0)=true:=h
  have:l=[]:=by
   have:(l.length:Int)=0:=by simpa using h
   exact List.eq_nil_of_length_eq_zero oM
  subst this
  exact aC.le aJ.nil
 refine⟨oM,Int.le_refl _,by show(8:Int)*(l.length:Int)≤281474976710656;omega,?_⟩
 refine ob (fun k j hk hj=>by
  have hj:j<1:=hj
  match j,hj with
  |0,_=>rfl) ?_
 have e:Nat.min l.length l.length=l.length:=Nat.min_self _
 refine aC.le (x:=.s (.d (.fJ l.length 1 (XI ty3.zero (Nat.min l.length l.length) (dM l))))) (aJ.fJ fun i j hi hj=>aJ.of_eq ?_)
 rw[e]
 exact HQ hi
structure gR.small(y:gR):Prop where
 a6:y.a6.length≤1000000
 b8:y.b8.length≤1000000
 cC:y.cC.length≤1000000
 carry:y.carry.length≤1000000
 bB:∀x∈y.a6,x.bB.length≤1000000
theorem xF{α:Type} [Inhabited α] {z:List Value}{s:Nat}{el:α→Nat→DV}(l:List α):gH s l.length (XI z l.length (fun i=>el (l.getD i default))) el l:=
 ⟨rfl,fun _ _ hi _=>HQ hi⟩
theorem MP(l:List xI)(i:Nat):gH 6 l.length (fK (DF l) i 4 [.d (cG (l.getD i default).bB)]) ZM l:=by
 refine⟨rfl,fun k j hk hj=>?_⟩
 unfold fK
 by_cases h:k=i
 ·subst h
  rw[if_pos rfl]
  match j,hj with
  |0,_=>rfl
  |1,_=>rfl
  |2,_=>rfl
  |3,_=>rfl
  |4,_=>rfl
  |5,_=>rfl
 ·rw[if_neg h];rfl
theorem copied(y:gR)(h:y.small):aF prog 88 [xJ y] (xJ y):=by
 have hp:=h.a6
 by_cases h0:y.a6=[]
 ·refine eP func88 rfl rfl call88 rfl rfl fun cx aA=>?_
  refine aB (XF y.a6 h.a6) ?_
  refine aB (tO y.b8 h.b8) ?_
  refine aB (KT y.cC h.cC) ?_
  refine aB (sD y.carry h.carry) ?_
  refine aD ?_
  have hz:y.a6.length=0:=by rw[h0];rfl
  refine AW.loop (fun _:Nat=>⟨[(2,.s (.ptr 2 0)),(3,.s (.ptr 3 0)),(20,vI y.a6.length),(21,vI 0)],[(2,some (.cells (iE ty88.zero))),(3,some (.cells (B1 y)))]⟩) (fun _=>True) (fun _=>0) 0 trivial ?_ ?_
  ·refine Sub.b7 aA ⟨rQ,rQ,oO⟩ ⟨rQ,rQ,rQ,rQ,oO⟩
  ·rintro i -
   refine eX aA ?_
   refine aI (fun h5=>?_) (fun h5=>?_)
   ·have h5:(0:Int)<y.a6.length:=cB h5
    omega
   ·exact aC.refl _
 ·have wG:0<y.a6.length:=List.length_pos_iff.2 h0
  refine gA (rc:=[1000159]) (N:=38) func88 rfl rfl call88 aK mix rfl rfl (fun cx aA=>?_)
  refine⟨[(9,501)],_,_,_,_,y9 y.a6 wG h.a6,rfl,rfl,rfl,?_⟩
  refine aB (tO y.b8 h.b8) ?_
  refine aB (KT y.cC h.cC) ?_
  refine aB (sD y.carry h.carry) ?_
  refine aD ?_
  refine AW.cZ (fun i:Nat=>⟨[(2,.s (.ptr 2 0)),(3,.s (.ptr 3 0)),(20,vI y.a6.length),(21,vI i)],[(2,some (.cells (iE ty88.zero))),(3,some (.cells [.own 501,.d (oY y.b8),.d (KM y.cC),.d (cG y.carry)])),(501,some (.row 69 y.a6.length 6 (DF y.a6)))]⟩) (fun i=>i≤y.a6.length) (fun i=>y.a6.length - i) 0 (Nat.zero_le _) ?_ ?_
  ·exact aP.b7 aA [] rfl ⟨bQ,bQ,⟨rfl,(xF (el:=ZM) y.a6).row⟩,oO⟩ ⟨qZ,qZ,qZ,qZ,oO⟩
  ·intro i hi
   refine eX aA ?_
   refine aI (fun h5=>?_) (fun h5=>?_)
   ·have h5:(i:Int)<y.a6.length:=cB h5
    refine oi ⟨oM,oM⟩ ?_
    refine oi (by show(i:Int).toNat<y.a6.length;omega) ?_
    refine aB (sD (y.a6.getD i default).bB (h.bB _ (dZ oM))) ?_
    refine oi ⟨oM,oM⟩ ?_
    refine ob (by show(i:Int).toNat<y.a6.length;omega) ?_
    refine aD ?_
    refine⟨i+1,oM,oM,?_⟩
    exact aP.b7 aA [] rfl ⟨bQ,bQ,⟨rfl,(MP y.a6 i).row⟩,oO⟩ ⟨qZ,qZ,qZ,⟨rfl,aM.int (aG oM oM)⟩,oO⟩
   ·exact aC.refl _
def GC(p:List xI)(b:List oG):gR:=⟨p,b,[],List.replicate b.length 0⟩
def noY:gR:=⟨[],[],[],[]⟩
def OB(p:List xI)(b:List oG):Int:=nC (GC p b)
def GD(p:List xI)(b:List oG):gR:=bif OB p b !=0 then noY else GC p b
theorem JQ{p:List xI}{b:List oG}(h:(GC p b).small)(h1:∀x∈p,x.name.size≤9223372036854775807)(h2:∀x∈b,x.aN.size≤9223372036854775807):(GC p b).fits where
 a6:=by have:=h.a6;omega
 b8:=by have:=h.b8;omega
 cC:=by have:=h.cC;omega
 carry:=by have:=h.carry;omega
 DE:=h1
 x8:=h2
 bB:=fun x hx=>by have:=h.bB x hx;omega
theorem aEJ(n:Nat):aJ (.fJ n 1 fun _ j=>match (iE [Value.int .i64 0])[j]? with|some c=>M9 c|none=>.bC) (cG (List.replicate n 0)):=by
 refine aJ.xL sM fun i j hi hj=>?_
 have:j=0:=oM
 subst this
 refine aJ.of_eq ?_
 show dI 0=dI _
 rw[bA (by simpa using hi)]
 simp
theorem aKI(p:List xI)(b:List oG)(h:(GC p b).small)(h1:∀x∈p,x.name.size≤9223372036854775807)(h2:∀x∈b,x.aN.size≤9223372036854775807):
  aF prog 31 [zL p,FF b] (.t [.g (B1 (GD p b)),.s (.d (dI (OB p b)))]):=by
 have hb:=h.b8
 have hb:b.length≤1000000:=hb
 refine gA (rc:=[2000088]) (N:=22) func31 rfl rfl call31 aK mix rfl rfl (fun cx aA=>?_)
 refine⟨oM,Int.le_refl _,by show(8:Int)*(b.length:Int)≤281474976710656;omega,?_⟩
 refine aB ((aBD (GC p b) (JQ h h1 h2)).conv (args':=_) ⟨⟨aJ.refl _,aJ.refl _,aJ.nil,aEJ _,oO⟩,oO⟩) ?_
 refine aI (fun h5=>?_) (fun h5=>?_)
 ·have hr:GD p b=noY:=by unfold GD OB;rw[h5];rfl
  rw[hr]
  exact aC.t ⟨⟨aJ.nil,aJ.nil,aJ.nil,aJ.nil,oO⟩,aJ.refl _,oO⟩
 ·have hr:GD p b=GC p b:=by unfold GD OB;rw[h5];rfl
  have h0:OB p b=0:=by unfold OB;simpa using h5
  rw[hr,h0]
  refine⟨[12],_,(copied (GC p b) h).conv (args':=_) ⟨⟨aJ.refl _,aJ.refl _,aJ.nil,aEJ _,oO⟩,oO⟩,?_⟩
  exact aC.refl _
structure Proj.fits(p:Proj):Prop where
 name:p.name.size≤9223372036854775807
 aS:p.aS.levels.length≤9223372036854775807
 chan:p.chan.ok
 regions:p.chan.regions.length≤9223372036854775807
 gr:p.gr.fits
 eY:p.eY.length≤9223372036854775807
 fV:p.fV.length≤9223372036854775807
 small:(GC p.a6 p.b8).small
 DE:∀x∈p.a6,x.name.size≤9223372036854775807
 x8:∀x∈p.b8,x.aN.size≤9223372036854775807
def l8(p:Proj):Int:=
 bif !isName p.name then 4
 else bif lN p.aS !=0 then lN p.aS
 else bif decide (p.aS.side>1000)||decide ((p.aS.levels.length:Int)>100)then 8
 else bif qY p.chan !=0 then qY p.chan
 else bif gF p.gr !=0 then gF p.gr
 else bif !within p.agree 0 1000|| !within p.eU 0 1000000 then 2
 else bif yD p !=0 then yD p
 else OB p.a6 p.b8
theorem MS(p:Proj)(h:p.fits):aF prog 8 [LH p] (vI (l8 p)):=by
 refine eP func8 rfl rfl call8 rfl rfl fun cx aA=>?_
 refine aB (AE p.name h.name) ?_
 refine aI (fun h1=>?_) (fun h1=>?_)
 ·exact aC.of_eq (by unfold l8;rw[h1];rfl)
 refine aB (SX p.aS h.aS) ?_
 refine aI (fun h2=>?_) (fun h2=>?_)
 ·exact aC.of_eq (by unfold l8;rw[h1,h2];rfl)
 repeat refine aR ?_
 refine aI (fun h3=>?_) (fun h3=>?_)
 ·exact aC.of_eq (by unfold l8;rw[h1,h2,h3];rfl)
 refine aB (aAX p.chan h.chan) ?_
 refine aI (fun h4=>?_) (fun h4=>?_)
 ·exact aC.of_eq (by unfold l8;rw[h1,h2,h3,h4];rfl)
 refine aB (D9 p.gr h.gr) ?_
 refine aI (fun h5=>?_) (fun h5=>?_)
 ·exact aC.of_eq (by unfold l8;rw[h1,h2,h3,h4,h5];rfl)
 refine aB (lK 0 1000 p.agree rfl) ?_
 repeat refine aR ?_
 have rest:(!within p.agree 0 1000|| !within p.eU 0 1000000)=true→l8 p=2:=fun h6=>by unfold l8;rw[h1,h2,h3,h4,h5,h6];rfl
 refine aI (fun h6=>?_) (fun h6=>?_)
 ·refine ob (by rw[h6];rfl) ?_
  refine aB (lK 0 1000000 p.eU rfl) ?_
  repeat refine aR ?_
  refine aI (fun h7=>?_) (fun h7=>?_)
  ·have h7:(!within p.eU 0 1000000)=true:=h7
   exact aC.of_eq (by rw[rest (by rw[h6,h7];rfl)];rfl)
  have h7:(!within p.eU 0 1000000)=false:=h7
  have h8:(!within p.agree 0 1000|| !within p.eU 0 1000000)=false:=by rw[h6,h7];rfl
  refine aB (P7 p h.gr.bT h.eY) ?_
  refine aI (fun h9=>?_) (fun h9=>?_)
  ·have ht:yD p=AD p:=by unfold yD;rw[h9];rfl
   exact aC.of_eq (by unfold l8;rw[h1,h2,h3,h4,h5,h8,ht,h9];rfl)
  have ht:yD p=zV p:=by unfold yD;rw[h9];rfl
  refine aB (IW p h.regions h.fV) ?_
  refine aI (fun h10=>?_) (fun h10=>?_)
  ·exact aC.of_eq (by unfold l8;rw[h1,h2,h3,h4,h5,h8,ht,h10];rfl)
  refine aB (aKI p.a6 p.b8 h.small h.DE h.x8) ?_
  exact aC.of_eq (by unfold l8;rw[h1,h2,h3,h4,h5,h8,ht,h10];rfl)
 ·have h6:(!within p.agree 0 1000)=true:=h6
  exact aC.of_eq (by rw[rest (by rw[h6];rfl)];rfl)

abbrev tG(f:Fact):List SV:=[.d (dI f.kind),.d (dI f.seq),.d (dI f.aX),.d (dI f.month),.d (dI f.number),.d (dI f.aS),.d (dI f.over),.d (dI f.cls),.d (dI f.target),.d (dS f.aN),.d (dS f.cQ),.d (dS f.cE),.d (cG f.levels)]
def iB(f:Fact):Bool:= !within f.month 1 24|| !within f.aS 1 1000000000000|| !within f.over 0 f.aS|| !within f.cls 0 9
def iF(f:Fact):Int:=
 bif !within f.seq 0 1000000 then 2
 else bif f.kind==0 then(bif f.levels.any jD then 2 else bif decide ((f.levels.length:Int)>100)then 8 else 0)
 else bif f.kind==1 then(bif iB f then 2 else bif !isName f.aN|| !isName f.cQ then 4 else 0)
 else 0
theorem VP(n:Int):aF prog 107 [vI n] (vB (jD n)):=by
 refine eP func107 rfl rfl call107 rfl rfl fun cx _=>?_
 repeat refine aR ?_
 refine aI (fun h=>?_) (fun h=>?_)
 ·refine ob (by rw[h];rfl) ?_
  refine aB (lK (-20000) 20000 n rfl) ?_
  repeat refine aR ?_
  exact aC.of_eq (by show vB _=vB _;unfold jD;rw[h];rfl)
 ·have h:(n !=30000)=false:=h
  exact aC.lit (by unfold jD;rw[h];rfl)
structure Fact.fits(f:Fact):Prop where
 levels:f.levels.length≤9223372036854775807
 aN:f.aN.size≤9223372036854775807
 cQ:f.cQ.size≤9223372036854775807
 cE:f.cE.size≤9223372036854775807
theorem sE(f:Fact)(hf:f.fits):aF prog 46 [oB f] (vI (iF f)):=by
 refine eP func46 rfl rfl call46 rfl rfl fun cx _=>?_
 refine aB (lK 0 1000000 f.seq rfl) ?_
 refine aI (fun h1=>?_) (fun h1=>?_)
 ·exact aC.of_eq (by unfold iF;rw[h1];rfl)
 refine aI (fun h2=>?_) (fun h2=>?_)
 ·have h2:(f.kind==0)=true:=h2
  refine aB ((sC f.levels hf.levels 107 0 (fun _=>.bC) jD (fun x _=>VP x)).conv (args':=_) ⟨aJ.refl _,aJ.dQ fun j hj=>absurd hj (Nat.not_lt_zero j),oO⟩) ?_
  refine aI (fun h3=>?_) (fun h3=>?_)
  ·exact aC.of_eq (by unfold iF;rw[h1,h2,h3];rfl)
  refine aI (fun h4=>?_) (fun h4=>?_)
  ·exact aC.of_eq (by unfold iF;rw[h1,h2,h3,h4];rfl)
  ·exact aC.of_eq (by unfold iF;rw[h1,h2,h3,h4];rfl)
 have h2:(f.kind==0)=false:=h2
 refine aI (fun h3=>?_) (fun h3=>?_)
 ·have h3:(f.kind==1)=true:=h3
  refine aB (lK 1 24 f.month rfl) ?_
  repeat refine aR ?_
  have bad:iB f=true→iF f=2:=fun h=>by unfold iF;rw[h1,h2,h3,h];rfl
  refine aI (fun h4=>?_) (fun h4=>?_)
  ·refine ob (by rw[h4];rfl) ?_
   refine aB (lK 1 1000000000000 f.aS rfl) ?_
   repeat refine aR ?_
   refine aI (fun h5=>?_) (fun h5=>?_)
   ·have h5':(!within f.aS 1 1000000000000)=false:=h5
    refine ob (by rw[h5];rfl) ?_
    refine ob (by rw[h5];rfl) ?_
    refine aB (lK 0 f.aS f.over rfl) ?_
    repeat refine aR ?_
    refine aI (fun h6=>?_) (fun h6=>?_)
    ·have h6':(!within f.over 0 f.aS)=false:=h6
     refine ob (by rw[h6];rfl) ?_
     refine aB (lK 0 9 f.cls rfl) ?_
     repeat refine aR ?_
     refine aI (fun h7=>?_) (fun h7=>?_)
     ·have h7':(!within f.cls 0 9)=true:=h7
      exact aC.of_eq (by rw[bad (by unfold iB;rw[h4,h5',h6',h7'];rfl)];rfl)
     have h7':(!within f.cls 0 9)=false:=h7
     have hb:iB f=false:=by unfold iB;rw[h4,h5',h6',h7'];rfl
     refine aB (AE f.aN hf.aN) ?_
     repeat refine aR ?_
     refine eJ (AE f.cQ hf.cQ) ?_
     repeat refine aR ?_
     refine aI (fun h8=>?_) (fun h8=>?_)
     ·have h8:(!isName f.aN|| !isName f.cQ)=true:=h8
      exact aC.of_eq (by unfold iF;rw[h1,h2,h3,hb,h8];rfl)
     ·have h8:(!isName f.aN|| !isName f.cQ)=false:=h8
      exact aC.of_eq (by unfold iF;rw[h1,h2,h3,hb,h8];rfl)
    ·have h6':(!within f.over 0 f.aS)=true:=h6
     exact aC.of_eq (by rw[bad (by unfold iB;rw[h4,h5',h6'];rfl)];rfl)
   ·have h5':(!within f.aS 1 1000000000000)=true:=h5
    exact aC.of_eq (by rw[bad (by unfold iB;rw[h4,h5'];rfl)];rfl)
  ·have h4:(!within f.month 1 24)=true:=h4
   exact aC.of_eq (by rw[bad (by unfold iB;rw[h4];rfl)];rfl)
 have h3:(f.kind==1)=false:=h3
 exact aC.of_eq (by unfold iF;rw[h1,h2,h3];rfl)
theorem aFV(n:Int):aF prog 170 [vI n] (vB (!jD n)):=by
 refine eP func170 rfl rfl call170 rfl rfl fun cx _=>?_
 repeat refine aR ?_
 refine eJ (oS _ _ _) ?_
 repeat refine aR ?_
 refine aC.of_eq ?_
 show vB (n==30000||within n (-20000) 20000)=vB (!jD n)
 unfold jD
 cases h:n==30000 <;> simp[bne,h]
theorem Y4(f:Fact):aF prog 44 [oB f] (vI (bif f.kind==3 then f.target else f.kind)):=by
 refine eP func44 rfl rfl call44 rfl rfl fun cx _=>?_
 refine aI (fun h=>?_) (fun h=>?_)
 ·have h:(f.kind==3)=true:=h
  exact aC.of_eq (by rw[h];rfl)
 ·have h:(f.kind==3)=false:=h
  exact aC.of_eq (by rw[h];rfl)
def lS(f:Fact):Bool:=
 bif !within f.seq 0 1000000 then false else bif f.kind==1 then !iB f else bif f.kind==0 then !f.levels.any jD else true
theorem DH(f:Fact):(within f.month 1 24&&within f.aS 1 1000000000000&&within f.over 0 f.aS&&within f.cls 0 9)= !iB f:=by
 unfold iB
 cases within f.month 1 24 <;> cases within f.aS 1 1000000000000 <;> cases within f.over 0 f.aS <;> cases within f.cls 0 9 <;> rfl
theorem aCP(f:Fact)(hf:f.fits):aF prog 111 [oB f] (vB (lS f)):=by
 have hl:=hf.levels
 refine eP func111 rfl rfl call111 rfl rfl fun cx aA=>?_
 refine aB (oS _ _ _) ?_
 refine aI (fun h1=>?_) (fun h1=>?_)
 ·exact aC.lit (by unfold lS;rw[h1];rfl)
 refine aI (fun h2=>?_) (fun h2=>?_)
 ·have h2:(f.kind==1)=true:=h2
  refine aB (oS _ _ _) ?_
  repeat refine aR ?_
  refine eJ (oS _ _ _) ?_
  repeat refine aR ?_
  refine eJ (oS _ _ _) ?_
  repeat refine aR ?_
  refine eJ (oS _ _ _) ?_
  repeat refine aR ?_
  refine aC.of_eq ?_
  have he:lS f= !iB f:=by unfold lS;rw[h1,h2];rfl
  rw[he,←DH]
  rfl
 have h2:(f.kind==1)=false:=h2
 have he:lS f=bif f.kind==0 then !f.levels.any jD else true:=by unfold lS;rw[h1,h2];rfl
 refine AW.loop (fun i:Nat=>⟨[(1,.s (.ptr 1 0)),(3,vI i),(2,.s (.d (.lit false)))],[(1,some (.cells (tG f)))]⟩) (fun i=>i≤f.levels.length∧f.levels.any jD=(f.levels.drop i).any jD) (fun i=>f.levels.length - i) 0 ⟨Nat.zero_le _,rfl⟩ ?_ ?_
 ·refine Sub.b7 aA ⟨rQ,oO⟩ ⟨rQ,rQ,rQ,oO⟩
 ·rintro i ⟨hi,hj⟩
  refine eX aA ?_
  repeat refine aR ?_
  refine aI (fun h5=>?_) (fun h5=>?_)
  ·have h5:(decide ((i:Int)<f.levels.length)&&f.kind==0)=true:=h5
   simp only [Bool.and_eq_true,decide_eq_true_eq]at h5
   obtain⟨h5,h0⟩:=h5
   have bN:i<f.levels.length:=oM
   have hd:f.levels.drop i=f.levels[i]::f.levels.drop (i+1):=List.drop_eq_getElem_cons bN
   have hg:f.levels.getD i 0=f.levels[i]:=bA bN
   refine oi ⟨oM,oM⟩ ?_
   refine aB (aFV _) ?_
   rw[hd,List.any_cons,←hg]at hj
   refine aI (fun h6=>?_) (fun h6=>?_)
   ·have h6:(!(!jD (f.levels.getD i 0)))=true:=h6
    rw[Bool.not_not]at h6
    exact aC.lit (by rw[he,h0,hj,h6];rfl)
   ·have h6:(!(!jD (f.levels.getD i 0)))=false:=h6
    rw[Bool.not_not]at h6
    refine⟨i+1,⟨oM,by rw[hj,h6];rfl⟩,oM,?_⟩
    refine Sub.b7 aA ⟨rQ,oO⟩ ⟨rQ,⟨rfl,?_⟩,rQ,oO⟩
    exact congrArg vI (aG oM oM)
  ·have h5:(decide ((i:Int)<f.levels.length)&&f.kind==0)=false:=h5
   refine aC.lit ?_
   rw[he]
   cases h0:f.kind==0 with
   |false=>rfl
   |true=>
    rw[h0,Bool.and_true]at h5
    have h5:=cD h5
    have bN:i=f.levels.length:=oM
    rw[hj,bN,List.drop_length];rfl
end Go.Pj
namespace Go.Ch
open Go Go.Ax Go.Proofs Go.Proofs.Tryz


def sZ(l:List Int)(x:Int):Nat→Nat→Int
 |0,_=> -1
 |n+1,i=>bif x==l.getD i 0 then(i:Int)else sZ l x n (i+1)
theorem aH4(l:List Int)(x:Int)(hl:l.length≤1000000):aF prog 353 [kA l,vI x] (vI (sZ l x l.length 0)):=by
 refine eP func353 rfl rfl call353 rfl rfl fun cx aA=>?_
 refine AW.cZ (fun i:Nat=>⟨[(0,kA l),(1,vI x),(7,vI l.length),(8,vI i)],[]⟩) (fun i=>i≤l.length∧sZ l x l.length 0=sZ l x (l.length - i) i) (fun i=>l.length - i) 0 ⟨Nat.zero_le _,rfl⟩ ?_ ?_
 ·exact aP.b7 aA [] rfl trivial ⟨qZ,qZ,qZ,qZ,oO⟩
 ·rintro i ⟨hi,hj⟩
  refine eX aA ?_
  refine aI (fun h=>?_) (fun h=>?_)
  ·have h:(i:Int)<l.length:=cB h
   rw[show l.length - i=(l.length - (i+1))+1 by omega,sZ]at hj
   refine oi ⟨oM,oM⟩ ?_
   refine aI (fun h2=>?_) (fun h2=>?_)
   ·have h2:(x==l.getD i 0)=true:=h2
    exact aC.of_eq (by rw[hj,h2];rfl)
   ·have h2:(x==l.getD i 0)=false:=h2
    refine⟨i+1,⟨oM,by rw[hj,h2];rfl⟩,oM,?_⟩
    exact aP.b7 aA [] rfl trivial ⟨qZ,qZ,qZ,⟨rfl,aM.int (aG oM oM)⟩,oO⟩
  ·have h:¬(i:Int)<l.length:=cD h
   rw[show l.length - i=0 by omega]at hj
   exact aC.of_eq (by rw[hj];rfl)
theorem O0{l:List Int}{x:Int}:∀n i,i+n=l.length→decide (sZ l x n i≥0)=(l.drop i).contains x
 |0,i,h=>by
  rw[List.drop_eq_nil_of_le oM];rfl
 |n+1,i,h=>by
  have hi:i<l.length:=oM
  rw[sZ,List.drop_eq_getElem_cons hi]
  have e:l.getD i 0=l[i]:=by simp[hi]
  rw[e]
  cases hx:x==l[i]with
  |true=>
   simp only [cond_true,List.contains_cons,hx,Bool.true_or]
   exact decide_eq_true oM
  |false=>
   simp only [cond_false,List.contains_cons,hx,Bool.false_or]
   exact O0 n (i+1) oM
theorem X3(l:List Int)(x:Int)(hl:l.length≤1000000):aF prog 328 [kA l,vI x] (vB (l.contains x)):=by
 refine eP func328 rfl rfl call328 rfl rfl fun cx aA=>?_
 refine aB (aH4 l x hl) ?_
 refine aC.of_eq ?_
 show vB (decide (sZ l x l.length 0≥0))=_
 rw[O0 l.length 0 oM];rfl
end Go.Ch
