/- Part 2: lemmas that the proofs of this seat share; by itself it claims nothing. -/
import Derived.Scope
import Derived.Control
import Ieee.Arith
import GoSem.Core.Float
import Derived.ProofKit
import Derived.OpenShut
import Derived.Deep.Slices
import Derived.Test.YtaalojbkjiplcaaGreatDoorPt1
namespace Go.Ax
open Go.RowKit
def look(ren:List (Nat×Nat))(x:Nat):Nat:=
 match ren with
 |[]=>x
 |(a,b)::r=>bif Nat.beq a x then b else look r x
def FM(ren:List (Nat×Nat)):CV→CV
 |.d x=>.d x
 |.ptr x off=>.ptr (look ren x) off
def FK(ren:List (Nat×Nat)):List CV→List CV
 |[]=>[]
 |x::r=>FM ren x::FK ren r
def vD(ren:List (Nat×Nat)):SV→SV
 |.d x=>.d x
 |.ptr x off=>.ptr (look ren x) off
 |.own x=>.own (look ren x)
 |.mo z x=>.mo z (look ren x)
 |.rw x i s o=>.rw (look ren x) i s o
 |.dR f cs=>.dR f (FK ren cs)
 |.jH x s lo n=>.jH (look ren x) s lo n
 |.mp x=>.mp (look ren x)
def lP(ren:List (Nat×Nat)):List SV→List SV
 |[]=>[]
 |x::r=>vD ren x::lP ren r
def YT(ren:List (Nat×Nat)):TV→TV
 |.s x=>.s (vD ren x)
 |.g cs=>.g (lP ren cs)
def AE(ren:List (Nat×Nat)):List TV→List TV
 |[]=>[]
 |x::r=>YT ren x::AE ren r
def nH(ren:List (Nat×Nat)):AV→AV
 |.s x=>.s (vD ren x)
 |.g cs=>.g (lP ren cs)
 |.ib b x=>.ib b (vD ren x)
 |.ig b cs=>.ig b (lP ren cs)
 |.t ts=>.t (AE ren ts)
def yF(ren:List (Nat×Nat)):List AV→List AV
 |[]=>[]
 |x::r=>nH ren x::yF ren r
def jF(ren:List (Nat×Nat)):jE→jE
 |.cells cs=>.cells (lP ren cs)
 |.row e n s f=>.row e n s f
 |.cA e n s f=>.cA e n s f
 |.map vk l=>.map vk l
 |.smap vk l=>.smap vk l
 |.dm l n=>.dm l n
 |.fresh T vs=>.fresh T vs
 |.iter m n seen=>.iter (look ren m) n seen
def inC(xs:List Nat):List CV→Bool
 |[]=>true
 |.d _::r=>inC xs r
 |.ptr x _::r=>xs.contains x&&inC xs r
def JU(xs:List Nat):SV→Bool
 |.d _=>true
 |.ptr x _=>xs.contains x
 |.own x=>xs.contains x
 |.mo _ x=>xs.contains x
 |.rw x _ _ _=>xs.contains x
 |.dR _ cs=>inC xs cs
 |.jH x _ _ _=>xs.contains x
 |.mp x=>xs.contains x
def GJ(xs:List Nat):List SV→Bool
 |[]=>true
 |x::r=>JU xs x&&GJ xs r
def inT(xs:List Nat):TV→Bool
 |.s x=>JU xs x
 |.g cs=>GJ xs cs
def OM(xs:List Nat):List TV→Bool
 |[]=>true
 |x::r=>inT xs x&&OM xs r
def V4(xs:List Nat):AV→Bool
 |.s x=>JU xs x
 |.g cs=>GJ xs cs
 |.t ts=>OM xs ts
 |_=>false
def ZR(xs:List Nat):List AV→Bool
 |[]=>true
 |x::r=>V4 xs x&&ZR xs r
def QC(xs:List Nat):jE→Bool
 |.cells cs=>GJ xs cs
 |.row _ _ _ _=>true
 |.cA _ _ _ _=>false
 |.map _ _=>true
 |.smap _ _=>true
 |.dm _ _=>true
 |.fresh _ _=>true
 |.iter m _ _=>xs.contains m
section
variable{M:Mem}{ren:List (Nat×Nat)}{xs:List Nat}{β β':Nm}
theorem FM.rep(h:∀x,x∈xs→∀p,β (look ren x)=some p→β' x=some p):∀{cs:List CV} {vs:List Value},inC xs cs=true→uK M β (FK ren cs) vs→uK M β' cs vs
 |[],[],_,_=>trivial
 |.d _::_,_::_,hi,⟨a,r⟩=>⟨a,FM.rep h (by simpa [inC]using hi) r⟩
 |.ptr x off::_,_::_,hi,⟨⟨b,c,e,hv⟩,r⟩=>by
  simp only [inC,Bool.and_eq_true]at hi
  exact⟨⟨b,c,h x (by simpa using hi.1) _ e,hv⟩,FM.rep h hi.2 r⟩
 |[],_::_,_,h=>h.elim
 |_::_,[],_,h=>h.elim
theorem vD.rep(h:∀x,x∈xs→∀p,β (look ren x)=some p→β' x=some p){x:SV}{v:Value}(hi:JU xs x=true)(r:(vD ren x).bD M β v):x.bD M β' v:=by
 cases x with
 |d x=>exact r
 |ptr x off=>obtain⟨b,c,e,hv⟩:=r;exact⟨b,c,h x (by simpa [JU]using hi) _ e,hv⟩
 |own x=>obtain⟨b,c,e,hv⟩:=r;exact⟨b,c,h x (by simpa [JU]using hi) _ e,hv⟩
 |mo z x=>exact⟨r.1,fun hz=>let⟨b,c,e,hv⟩:=r.2 hz;⟨b,c,h x (by simpa [JU]using hi) _ e,hv⟩⟩
 |rw x i s o=>obtain⟨b,c,e,hv⟩:=r;exact⟨b,c,h x (by simpa [JU]using hi) _ e,hv⟩
 |dR f cs=>obtain⟨vs,e,hv⟩:=r;exact⟨vs,e,FM.rep h hi hv⟩
 |jH x s lo n=>obtain⟨b,c,o,e,hv⟩:=r;exact⟨b,c,o,h x (by simpa [JU]using hi) _ e,hv⟩
 |mp x=>obtain⟨b,c,e,hv⟩:=r;exact⟨b,c,h x (by simpa [JU]using hi) _ e,hv⟩
theorem lP.rep(h:∀x,x∈xs→∀p,β (look ren x)=some p→β' x=some p):∀{cs:List SV} {vs:List Value},GJ xs cs=true→cO M β (lP ren cs) vs→cO M β' cs vs
 |[],[],_,_=>trivial
 |_::_,_::_,hi,⟨a,r⟩=>by
  simp only [GJ,Bool.and_eq_true]at hi
  exact⟨vD.rep h hi.1 a,lP.rep h hi.2 r⟩
 |[],_::_,_,h=>h.elim
 |_::_,[],_,h=>h.elim
theorem nH.rep(h:∀x,x∈xs→∀p,β (look ren x)=some p→β' x=some p){x:AV}{v:Value}(hi:V4 xs x=true)(r:(nH ren x).bD M β v):x.bD M β' v:=by
 cases x with
 |s x=>exact vD.rep h hi r
 |g cs=>obtain⟨vs,e,hv⟩:=r;exact⟨vs,e,lP.rep h hi hv⟩
 |t ts=>
  obtain⟨vs,e,hv⟩:=r
  refine⟨vs,e,?_⟩
  have:∀{ts:List TV} {vs:List Value},OM xs ts=true→qK M β (AE ren ts) vs→qK M β' ts vs:=by
   intro ts
   induction ts with
   |nil=>
    intro vs _ hr
    cases vs with
    |nil=>trivial
    |cons _ _=>exact hr.elim
   |cons t r ih=>
    intro vs hi hr
    simp only [OM,Bool.and_eq_true]at hi
    cases vs with
    |nil=>exact hr.elim
    |cons u us=>
     refine⟨?_,ih hi.2 hr.2⟩
     cases t with
     |s x=>exact vD.rep h hi.1 hr.1
     |g cs=>obtain⟨q,e,hq⟩:=hr.1;exact⟨q,e,lP.rep h hi.1 hq⟩
  exact this hi hv
 |_=>cases hi
theorem yF.rep(h:∀x,x∈xs→∀p,β (look ren x)=some p→β' x=some p):∀{cs:List AV} {vs:List Value},ZR xs cs=true→gM M β (yF ren cs) vs→gM M β' cs vs
 |[],[],_,_=>trivial
 |_::_,_::_,hi,⟨a,r⟩=>by
  simp only [ZR,Bool.and_eq_true]at hi
  exact⟨nH.rep h hi.1 a,yF.rep h hi.2 r⟩
 |[],_::_,_,h=>h.elim
 |_::_,[],_,h=>h.elim
theorem jF.rep(h:∀x,x∈xs→∀p,β (look ren x)=some p→β' x=some p){w:World}{x:Nat}{b:jE}(hx:x∈xs)(hi:QC xs b=true)(r:cH M β w (look ren x) (jF ren b)):cH M β' w x b:=by
 cases b with
 |cells cs=>obtain⟨k,c,vs,T,us,e,hh,hr⟩:=r;exact⟨k,c,vs,T,us,h x hx _ e,hh,lP.rep h hi hr⟩
 |row e n s f=>obtain⟨k,c,cur,e',r⟩:=r;exact⟨k,c,cur,h x hx _ e',r⟩
 |cA e n s f=>cases hi
 |map vk l=>obtain⟨k,c,e,hh⟩:=r;exact⟨k,c,h x hx _ e,hh⟩
 |smap vk l=>obtain⟨k,c,e,hh⟩:=r;exact⟨k,c,h x hx _ e,hh⟩
 |dm l n=>obtain⟨k,c,vs,e,hh⟩:=r;exact⟨k,c,vs,h x hx _ e,hh⟩
 |fresh T vs=>obtain⟨k,c,e,hh⟩:=r;exact⟨k,c,h x hx _ e,hh⟩
 |iter m n seen=>obtain⟨k,c,bm,cm,e,em,hh⟩:=r;exact⟨k,c,bm,cm,h x hx _ e,h m (by simpa [QC]using hi) _ em,hh⟩
theorem FM.back(h:∀x,x∈xs→∀p,β' x=some p→β (look ren x)=some p):∀{cs:List CV} {vs:List Value},inC xs cs=true→uK M β' cs vs→uK M β (FK ren cs) vs
 |[],[],_,_=>trivial
 |.d _::_,_::_,hi,⟨a,r⟩=>⟨a,FM.back h (by simpa [inC]using hi) r⟩
 |.ptr x off::_,_::_,hi,⟨⟨b,c,e,hv⟩,r⟩=>by
  simp only [inC,Bool.and_eq_true]at hi
  exact⟨⟨b,c,h x (by simpa using hi.1) _ e,hv⟩,FM.back h hi.2 r⟩
 |[],_::_,_,h=>h.elim
 |_::_,[],_,h=>h.elim
theorem vD.back(h:∀x,x∈xs→∀p,β' x=some p→β (look ren x)=some p){x:SV}{v:Value}(hi:JU xs x=true)(r:x.bD M β' v):(vD ren x).bD M β v:=by
 cases x with
 |d x=>exact r
 |ptr x off=>obtain⟨b,c,e,hv⟩:=r;exact⟨b,c,h x (by simpa [JU]using hi) _ e,hv⟩
 |own x=>obtain⟨b,c,e,hv⟩:=r;exact⟨b,c,h x (by simpa [JU]using hi) _ e,hv⟩
 |mo z x=>exact⟨r.1,fun hz=>let⟨b,c,e,hv⟩:=r.2 hz;⟨b,c,h x (by simpa [JU]using hi) _ e,hv⟩⟩
 |rw x i s o=>obtain⟨b,c,e,hv⟩:=r;exact⟨b,c,h x (by simpa [JU]using hi) _ e,hv⟩
 |dR f cs=>obtain⟨vs,e,hv⟩:=r;exact⟨vs,e,FM.back h hi hv⟩
 |jH x s lo n=>obtain⟨b,c,o,e,hv⟩:=r;exact⟨b,c,o,h x (by simpa [JU]using hi) _ e,hv⟩
 |mp x=>obtain⟨b,c,e,hv⟩:=r;exact⟨b,c,h x (by simpa [JU]using hi) _ e,hv⟩
theorem lP.back(h:∀x,x∈xs→∀p,β' x=some p→β (look ren x)=some p):∀{cs:List SV} {vs:List Value},GJ xs cs=true→cO M β' cs vs→cO M β (lP ren cs) vs
 |[],[],_,_=>trivial
 |_::_,_::_,hi,⟨a,r⟩=>by
  simp only [GJ,Bool.and_eq_true]at hi
  exact⟨vD.back h hi.1 a,lP.back h hi.2 r⟩
 |[],_::_,_,h=>h.elim
 |_::_,[],_,h=>h.elim
theorem nH.back(h:∀x,x∈xs→∀p,β' x=some p→β (look ren x)=some p){x:AV}{v:Value}(hi:V4 xs x=true)(r:x.bD M β' v):(nH ren x).bD M β v:=by
 cases x with
 |s x=>exact vD.back h hi r
 |g cs=>obtain⟨vs,e,hv⟩:=r;exact⟨vs,e,lP.back h hi hv⟩
 |t ts=>
  obtain⟨vs,e,hv⟩:=r
  refine⟨vs,e,?_⟩
  have:∀{ts:List TV} {vs:List Value},OM xs ts=true→qK M β' ts vs→qK M β (AE ren ts) vs:=by
   intro ts
   induction ts with
   |nil=>
    intro vs _ hr
    cases vs with
    |nil=>trivial
    |cons _ _=>exact hr.elim
   |cons t r ih=>
    intro vs hi hr
    simp only [OM,Bool.and_eq_true]at hi
    cases vs with
    |nil=>exact hr.elim
    |cons u us=>
     refine⟨?_,ih hi.2 hr.2⟩
     cases t with
     |s x=>exact vD.back h hi.1 hr.1
     |g cs=>obtain⟨q,e,hq⟩:=hr.1;exact⟨q,e,lP.back h hi.1 hq⟩
  exact this hi hv
 |_=>cases hi
theorem jF.back(h:∀x,x∈xs→∀p,β' x=some p→β (look ren x)=some p){w:World}{x:Nat}{b:jE}(hx:x∈xs)(hi:QC xs b=true)(r:cH M β' w x b):cH M β w (look ren x) (jF ren b):=by
 cases b with
 |cells cs=>obtain⟨k,c,vs,T,us,e,hh,hr⟩:=r;exact⟨k,c,vs,T,us,h x hx _ e,hh,lP.back h hi hr⟩
 |row e n s f=>obtain⟨k,c,cur,e',r⟩:=r;exact⟨k,c,cur,h x hx _ e',r⟩
 |cA e n s f=>cases hi
 |map vk l=>obtain⟨k,c,e,hh⟩:=r;exact⟨k,c,h x hx _ e,hh⟩
 |smap vk l=>obtain⟨k,c,e,hh⟩:=r;exact⟨k,c,h x hx _ e,hh⟩
 |dm l n=>obtain⟨k,c,vs,e,hh⟩:=r;exact⟨k,c,vs,h x hx _ e,hh⟩
 |fresh T vs=>obtain⟨k,c,e,hh⟩:=r;exact⟨k,c,h x hx _ e,hh⟩
 |iter m n seen=>obtain⟨k,c,bm,cm,e,em,hh⟩:=r;exact⟨k,c,bm,cm,h x hx _ e,h m (by simpa [QC]using hi) _ em,hh⟩
end
abbrev eJ:=List (Nat×jE)
def names:eJ→List Nat
 |[]=>[]
 |(x,_)::r=>x::names r
theorem dA{x:Nat}{b:jE}:∀{bx:eJ},(x,b)∈bx→x∈names bx
 |[],h=>by cases h
 |(y,c)::r,h=>by
  cases h with
  |head=>simp[names]
  |tail _ h=>exact List.mem_cons_of_mem _ (dA h)
theorem jA{x:Nat}:∀{bx:eJ},x∈names bx→∃b,(x,b)∈bx
 |[],h=>by cases h
 |(y,c)::r,h=>by
  simp only [names,List.mem_cons]at h
  rcases h with rfl|h
  ·exact⟨c,sM⟩
  ·obtain⟨b,hb⟩:=jA h;exact⟨b,List.mem_cons_of_mem _ hb⟩
structure rB(M:Mem)(β:Nm)(w:World)(bx:eJ):Prop where
 has:∀x,x∈names bx→∃b c,β x=some (b,c)
 rep:∀x b,(x,b)∈bx→cH M β w x b
 inj:∀x y b c c',x∈names bx→y∈names bx→β x=some (b,c)→β y=some (b,c')→x=y
 apart:∀x b c,x∈names bx→β x=some (b,c)→∀o,M b o=none
def bT(P:Program)(f:FuncId)(args:List AV)(bx:eJ)(r:AV)(bx':eJ):Prop:=
 (∀vs w,(callFunc f vs).run P w=.ok (.enter f vs) w)∧
 ∀(M:Mem) (β:Nm) (w:World) (vs:List Value),(∃bs,BU bs w∧∀g t,(g,t)∈qU bs→∀x c,β x≠some (g,c))→gM M β args vs→kF M w→rB M β w bx→(∀x p,β x=some p→x∈names bx)→
  Calls P f vs.toArray w fun e w'=>∃v M' β',e=.returned v∧Nm.le β β'∧r.bD M' β' v∧Grow w.heap.size M M'∧kF M' w'∧rB M' β' w' bx'∧
   (∀x b c,x∈names bx'→β' x=some (b,c)→w.heap.size≤b∨∃y c',β y=some (b,c'))∧
   w'.os=w.os∧w'.tape=w.tape∧w'.output=w.output∧w.heap.size≤w'.heap.size∧(∀k,k<w.heap.size→(∀y c,β y≠some (k,c))→w'.heap[k]? =w.heap[k]?)∧Dr w w'
def mO(ren:List (Nat×Nat))(box:aN):eJ→Prop
 |[]=>True
 |(x,b)::r=>aH box (look ren x)=some (some (jF ren b))∧mO ren box r
theorem mO.get{ren:List (Nat×Nat)}{box:aN}{x:Nat}{b:jE}:∀{bx:eJ},mO ren box bx→(x,b)∈bx→aH box (look ren x)=some (some (jF ren b))
 |[],_,h=>by cases h
 |(y,c)::r,⟨h,hr⟩,hm=>by
  cases hm with
  |head=>exact h
  |tail _ hm=>exact mO.get hr hm
def rO(ren:List (Nat×Nat))(box:aN):eJ→aN
 |[]=>box
 |(x,b)::r=>(look ren x,some (jF ren b))::rO ren box r
def jB(ren:List (Nat×Nat))(box:aN):eJ→aN
 |[]=>box
 |(x,_)::r=>(look ren x,none)::jB ren box r
theorem rO.get{ren:List (Nat×Nat)}{box:aN}{y:Nat}:∀{bx:eJ},(∃x b,(x,b)∈bx∧look ren x=y∧aH (rO ren box bx) y=some (some (jF ren b)))∨((∀x,x∈names bx→look ren x≠y)∧aH (rO ren box bx) y=aH box y)
 |[]=>.inr ⟨fun x h=>(by cases h),rfl⟩
 |(x,b)::r=>by
  by_cases h:look ren x=y
  ·exact .inl ⟨x,b,sM,h,by simp only [rO];rw[aK,if_pos h]⟩
  ·rcases rO.get (ren:=ren) (box:=box) (y:=y) (bx:=r)with⟨x',b',h1,h2,h3⟩|⟨h1,h2⟩
   ·exact .inl ⟨x',b',List.mem_cons_of_mem _ h1,h2,by simp only [rO];rw[aK,if_neg h];exact h3⟩
   ·refine .inr ⟨fun z hz=>?_,by simp only [rO];rw[aK,if_neg h];exact h2⟩
    simp only [names,List.mem_cons]at hz
    rcases hz with rfl|hz
    ·exact h
    ·exact h1 z hz
theorem jB.get{ren:List (Nat×Nat)}{box:aN}{y:Nat}:∀{bx:eJ},((∃x,x∈names bx∧look ren x=y)∧aH (jB ren box bx) y=some none)∨((∀x,x∈names bx→look ren x≠y)∧aH (jB ren box bx) y=aH box y)
 |[]=>.inr ⟨fun x h=>(by cases h),rfl⟩
 |(x,b)::r=>by
  by_cases h:look ren x=y
  ·exact .inl ⟨⟨x,by simp[names],h⟩,by simp only [jB];rw[aK,if_pos h]⟩
  ·rcases jB.get (ren:=ren) (box:=box) (y:=y) (bx:=r)with⟨⟨x',h1,h2⟩,h3⟩|⟨h1,h2⟩
   ·exact .inl ⟨⟨x',List.mem_cons_of_mem _ h1,h2⟩,by simp only [jB];rw[aK,if_neg h];exact h3⟩
   ·refine .inr ⟨fun z hz=>?_,by simp only [jB];rw[aK,if_neg h];exact h2⟩
    simp only [names,List.mem_cons]at hz
    rcases hz with rfl|hz
    ·exact h
    ·exact h1 z hz
def GK(xs:List Nat):eJ→Bool
 |[]=>true
 |(_,b)::r=>QC xs b&&GK xs r
theorem QC.real{xs:List Nat}{b:jE}(h:QC xs b=true):b.real=true:=by
 cases b with
 |cA e n s f=>cases h
 |_=>rfl
theorem GK.get{xs:List Nat}{x:Nat}{b:jE}:∀{bx:eJ},GK xs bx=true→(x,b)∈bx→QC xs b=true
 |[],_,h=>by cases h
 |(y,c)::r,h,hm=>by
  simp only [GK,Bool.and_eq_true]at h
  cases hm with
  |head=>exact h.1
  |tail _ hm=>exact GK.get h.2 hm
def GH(ren:List (Nat×Nat))(xs:List Nat):Bool:=xs.all fun x=>xs.all fun y=>Nat.beq x y|| !(Nat.beq (look ren x) (look ren y))
def nL(ren:List (Nat×Nat))(box:aN)(xs:List Nat):List Nat→Bool
 |[]=>true
 |x::r=>(xs.contains x||(match aH box (look ren x)with|none=>true|some _=>false))&&nL ren box xs r
theorem nL.get{ren:List (Nat×Nat)}{box:aN}{xs:List Nat}{x:Nat}:∀{l:List Nat},nL ren box xs l=true→x∈l→x∉xs→aH box (look ren x)=none
 |[],_,h,_=>by cases h
 |y::r,h,hm,hx=>by
  simp only [nL,Bool.and_eq_true,Bool.or_eq_true]at h
  cases hm with
  |head=>
   rcases h.1 with h1|h1
   ·exact absurd (by simpa using h1) hx
   ·split at h1
    ·assumption
    ·cases h1
  |tail _ hm=>exact nL.get h.2 hm hx
def AG(ren:List (Nat×Nat))(box:aN)(args:List AV)(bx:eJ)(r:AV)(bx':eJ):Bool:=
 ZR (names bx) args&&GK (names bx) bx&&V4 (names bx') r&&GK (names bx') bx'&&GH ren (names bx++names bx')&&nL ren box (names bx) (names bx')
def aDG(P:Program)(σ:St)(f:FuncId)(ars:List AV)(K:AV→aN→Prop):Prop:=
 ∃ren args bx r bx',bT P f args bx r bx'∧ars=yF ren args∧mO ren σ.box bx∧AG ren σ.box args bx r bx'=true∧K (nH ren r) (rO ren (jB ren σ.box bx) bx')
def HL(P:Program)(σ:St)(vf:AV)(args:List AV)(K:AV→aN→Prop):Prop:=
 match vf with
 |.s (.dR f cs)=>aDG P σ f (args++vL cs) K
 |_=>False
theorem Inv.aBP{P:Program}{cx:Cx}{N:Nat}{M:Mem}{β:Nm}{σ:St}{a:Act}{w:World}(i:Inv cx N M β σ a w){ren:List (Nat×Nat)}{f:FuncId}{args:List AV}{bx:eJ}{r:AV}{bx':eJ}
  (hc:bT P f args bx r bx') (hm:mO ren σ.box bx) (fG:AG ren σ.box args bx r bx'=true) {vs:List Value} (hv:gM M β (yF ren args) vs):
  Calls P f vs.toArray w fun e w'=>∃v M' β',e=.returned v∧(nH ren r).bD M' β' v∧Inv cx N M' β' ⟨σ.env,rO ren (jB ren σ.box bx) bx'⟩ a w'∧Grow cx.B M M'∧b8 cx w w'∧((∀x,x∈names bx'→x∈names bx)→β'=β):=by
 classical
 simp only [AG,Bool.and_eq_true]at fG
 obtain⟨⟨⟨⟨⟨k1,k2⟩,k3⟩,k4⟩,k5⟩,k6⟩:=fG
 have OY:∀x y,x∈names bx++names bx'→y∈names bx++names bx'→look ren x=look ren y→x=y:=by
  intro x y hx hy e
  simp only [GH,List.all_eq_true]at k5
  have:=k5 x hx y hy
  simp only [Bool.or_eq_true]at this
  rcases this with h|h
  ·exact Nat.eq_of_beq_eq_true h
  ·rw[e]at h;simp at h
 let βh:Nm:=fun x=>if x∈names bx then β (look ren x)else none
 have hβh:∀x,x∈names bx→∀p,β (look ren x)=some p→βh x=some p:=fun x hx p e=>by simp[βh,hx,e]
 have yH:∀x p,βh x=some p→x∈names bx∧β (look ren x)=some p:=fun x p e=>by
  simp only [βh]at e
  split at e
  ·exact⟨by assumption,e⟩
  ·cases e
 have cK:∀x,x∈names bx→∃b,aH σ.box (look ren x)=some (some b):=fun x hx=>by
  obtain⟨b,hb⟩:=jA hx
  exact⟨_,hm.get hb⟩
 have RV:rB M βh w bx:=by
  have dU:∀x b,(x,b)∈bx→cH M βh w x b:=fun x b hb=>jF.rep hβh (dA hb) (GK.get k2 hb) (i.box _ _ (hm.get hb))
  refine⟨fun x hx=>let⟨b,hb⟩:=jA hx;(dU x b hb).exb (QC.real (GK.get k2 hb)),dU,fun x y b c c' hx hy e1 e2=>?_,fun x b c hx e o=>?_⟩
  ·obtain⟨bX,hX⟩:=cK x hx
   obtain⟨bY,hY⟩:=cK y hy
   have:=i.inj _ _ _ _ b c c' hX hY (yH x _ e1).2 (yH y _ e2).2
   exact OY x y (List.mem_append_left _ hx) (List.mem_append_left _ hy) this
  ·obtain⟨bX,hX⟩:=cK x hx
   exact i.apart _ _ b c hX (yH x _ e).2 o
 have aMT:∃bs,BU bs w∧∀g t,(g,t)∈qU bs→∀x c,βh x≠some (g,c):=by
  obtain⟨bs,t1,t2⟩:=i.heap.tab
  refine⟨bs,t1,fun g t m x c e=>?_⟩
  obtain⟨hxn,e⟩:=yH x _ e
  obtain⟨bX,hX⟩:=cK x hxn
  obtain⟨q1,q2⟩:=t2 g t m
  rcases i.low _ _ g c hX e with h|h
  ·omega
  ·exact q2 h
 refine(hc.2 M βh w vs aMT (yF.rep hβh k1 hv) i.mem RV (fun x p e=>(yH x p e).1)).mono ?_
 rintro e w' ⟨v,M',β1,rfl,hle,hr,hg,jX,WD,hblk,ho,htp,hou,l5,yI,hdr⟩
 let β2:Nm:=fun y=>if h:∃x,x∈names bx'∧x∉names bx∧look ren x=y then β1 (Classical.choose h)else β y
 have WA:∀x,x∈names bx'→x∉names bx→β2 (look ren x)=β1 x:=by
  intro x hx hn
  have hex:∃z,z∈names bx'∧z∉names bx∧look ren z=look ren x:=⟨x,hx,hn,rfl⟩
  have hs:=Classical.choose_spec hex
  have:Classical.choose hex=x:=OY _ _ (List.mem_append_right _ hs.1) (List.mem_append_right _ hx) hs.2.2
  simp only [β2,dif_pos hex,this]
 have OV:∀y,(∀x,x∈names bx'→x∉names bx→look ren x≠y)→β2 y=β y:=by
  intro y hy
  have:¬∃x,x∈names bx'∧x∉names bx∧look ren x=y:=fun ⟨x,h1,h2,h3⟩=>hy x h1 h2 h3
  simp only [β2,dif_neg this]
 have ZV:Nm.le β β2:=by
  intro y p e
  rw[OV y (fun x h1 h2 h3=>?_)]
  ·exact e
  ·obtain⟨q,hq⟩:=i.keys y p e
   rw[←h3,nL.get k6 h1 h2]at hq
   cases hq
 have kM:∀x,x∈names bx'→∀p,β1 x=some p→β2 (look ren x)=some p:=by
  intro x hx p e
  by_cases hn:x∈names bx
  ·obtain⟨bX,hX⟩:=jA hn
   obtain⟨b,c,e'⟩:=RV.has x hn
   have:=hle x _ e'
   rw[this]at e;cases e
   exact ZV _ _ (yH x _ e').2
  ·rw[WA x hx hn];exact e
 have aJX:∀x,x∈names bx'→∀p,β2 (look ren x)=some p→β1 x=some p:=by
  intro x hx p e
  by_cases hn:x∈names bx
  ·obtain⟨bX,hX⟩:=jA hn
   obtain⟨b,c,e'⟩:=RV.has x hn
   have h1:=hle x _ e'
   have h2:=ZV _ _ (yH x _ e').2
   rw[h2]at e;cases e
   exact h1
  ·rw[WA x hx hn]at e;exact e
 have aEI:∀y bc,aH (rO ren (jB ren σ.box bx) bx') y=some (some bc)→(∃x b,(x,b)∈bx'∧look ren x=y∧bc=jF ren b)∨
   ((∀x,x∈names bx'→look ren x≠y)∧(∀x,x∈names bx→look ren x≠y)∧aH σ.box y=some (some bc)):=by
  intro y bc e
  rcases rO.get (ren:=ren) (box:=jB ren σ.box bx) (y:=y) (bx:=bx')with⟨x,b,h1,h2,h3⟩|⟨h1,h2⟩
  ·rw[h3]at e;cases e
   exact .inl ⟨x,b,h1,h2,rfl⟩
  ·rw[h2]at e
   rcases jB.get (ren:=ren) (box:=σ.box) (y:=y) (bx:=bx)with⟨_,h4⟩|⟨h3,h4⟩
   ·rw[h4]at e;cases e
   ·rw[h4]at e
    exact .inr ⟨h1,h3,e⟩
 have aGK:∀y bc b c,aH σ.box y=some (some bc)→(∀x,x∈names bx→look ren x≠y)→β y=some (b,c)→∀z c',βh z≠some (b,c'):=by
  intro y bc b c hy hny e z c' hz
  obtain⟨hzn,hz2⟩:=yH z _ hz
  obtain⟨bZ,hZ⟩:=cK z hzn
  exact hny z hzn (i.inj _ _ _ _ b c' c hZ hy hz2 e)
 have iF:∀y bc b c,aH (rO ren (jB ren σ.box bx) bx') y=some (some bc)→β2 y=some (b,c)→(∃x,x∈names bx'∧look ren x=y∧β1 x=some (b,c))∨
   ((∀x,x∈names bx→look ren x≠y)∧aH σ.box y=some (some bc)∧β y=some (b,c)):=by
  intro y bc b c e e2
  rcases aEI y bc e with⟨x,b',h1,rfl,_⟩|⟨h1,h2,h3⟩
  ·exact .inl ⟨x,dA h1,rfl,aJX x (dA h1) _ e2⟩
  ·rw[OV y (fun x hx _=>h1 x hx)]at e2
   exact .inr ⟨h2,h3,e2⟩
 have kp:b8 cx w w':=⟨ho,htp,hou,l5,fun k hk hmw=>by
   refine yI k (Nat.lt_of_lt_of_le hk i.heap.le) (fun z c hz=>?_)
   obtain⟨hzn,hz2⟩:=yH z _ hz
   obtain⟨bZ,hZ⟩:=cK z hzn
   rcases i.low _ _ k c hZ hz2 with h|h
   ·omega
   ·exact hmw h,hdr⟩
 refine⟨v,M',β2,rfl,nH.back (fun x hx p e=>kM x hx p e) k3 hr,⟨i.defers,i.tmps,i.heap.keep kp,fun t=>AV.bD.mono hg.le ZV (i.env t),jX,?_,?_,?_,?_,?_,?_⟩,
  ⟨hg.le,fun b o u e=>(hg.new b o u e).imp id (fun h=>Nat.le_trans i.heap.le h)⟩,kp,fun fD=>funext fun y=>OV y (fun x h1 h2 _=>h2 (fD x h1))⟩
 ·intro y p e
  rcases rO.get (ren:=ren) (box:=jB ren σ.box bx) (y:=y) (bx:=bx')with⟨x,b,h1,h2,h3⟩|⟨h1,h2⟩
  ·exact⟨_,h3⟩
  ·rw[OV y (fun x hx _=>h1 x hx)]at e
   rcases jB.get (ren:=ren) (box:=σ.box) (y:=y) (bx:=bx)with⟨_,h4⟩|⟨_,h4⟩
   ·exact⟨_,h2.trans h4⟩
   ·obtain⟨q,hq⟩:=i.keys y p e
    exact⟨q,h2.trans (h4.trans hq)⟩
 ·intro y bc e
  rcases aEI y bc e with⟨x,b',h1,rfl,rfl⟩|⟨h1,h2,h3⟩
  ·exact jF.back (fun z hz p e=>kM z hz p e) (dA h1) (GK.get k4 h1) (WD.rep x b' h1)
  ·have Z4:=i.box y bc h3
   exact cH.mono hg.le ZV (OV y (fun x hx _=>h1 x hx)) (fun b c e'=>yI b (i.uH h3 e') (fun z c'=>aGK y bc b c h3 h2 e' z c')) Z4
 ·intro y z by' bz b c c' ey ez hy hz
  rcases iF y by' b c ey hy with⟨x,h1,rfl,h3⟩|⟨h1,h2,h3⟩
  ·rcases iF z bz b c' ez hz with⟨x',k1',rfl,k3'⟩|⟨k1',k2',k3'⟩
   ·rw[WD.inj x x' b c c' h1 k1' h3 k3']
   ·exfalso
    rcases hblk x b c h1 h3 with hb|⟨u,cu,hu⟩
    ·have:=i.uH k2' k3';omega
    ·exact aGK z bz b c' k2' k1' k3' u cu hu
  ·rcases iF z bz b c' ez hz with⟨x',k1',rfl,k3'⟩|⟨k1',k2',k3'⟩
   ·exfalso
    rcases hblk x' b c' k1' k3' with hb|⟨u,cu,hu⟩
    ·have:=i.uH h2 h3;omega
    ·exact aGK y by' b c h2 h1 h3 u cu hu
   ·exact i.inj y z by' bz b c c' h2 k2' h3 k3'
 ·intro y bc b c e e2 o
  rcases iF y bc b c e e2 with⟨x,h1,rfl,h3⟩|⟨h1,h2,h3⟩
  ·exact WD.apart x b c h1 h3 o
  ·cases hmm:M' b o with
   |none=>rfl
   |some u=>
    rcases hg.new b o u hmm with h|h
    ·rw[i.apart y bc b c h2 h3 o]at h;cases h
    ·have:=i.uH h2 h3;omega
 ·intro y bc b c e e2
  rcases iF y bc b c e e2 with⟨x,h1,rfl,h3⟩|⟨h1,h2,h3⟩
  ·rcases hblk x b c h1 h3 with hb|⟨u,cu,hu⟩
   ·exact .inl (Nat.le_trans i.heap.le hb)
   ·obtain⟨T0,hu2⟩:=yH u _ hu
    obtain⟨bU,hU⟩:=cK u T0
    exact i.low _ _ b cu hU hu2
  ·exact i.low y bc b c h2 h3
 ·intro x hx
  obtain⟨h1,p,h2⟩:=i.ref x hx
  have:=ZV x p h2
  exact⟨by rw[this,←h1,h2],p,this⟩
section
variable{P:Program}{σ:St}{o:Oper}
theorem aBA.spec{fo:Operand}{l:List Operand}{K:AV→aN→Prop}(ho:∃args vQ,o.op=.call {callee:=.value fo,args:=args,argTypes:=vQ}∧args.toList=l)
  (h:fe none (ev σ fo) fun vf=>dQ none σ l fun ars=>HL P σ vf ars K):
  ∃r bx,K r bx∧∀cx N M β a w,Inv cx N M β σ a w→∃f vs,(execOp a.eval o).run P w=.ok (.enter f vs) w∧
   Calls P f vs w fun e w'=>∃v M' β',e=.returned v∧r.bD M' β' v∧Inv cx N M' β' ⟨σ.env,bx⟩ a w'∧Grow cx.B M M'∧b8 cx w w':=by
 obtain⟨args,vQ,ho,rfl⟩:=ho
 replace h:=fe.ev h
 obtain⟨vf,h,hf⟩:=h
 replace h:=dQ.spec h
 obtain⟨ars,h,has⟩:=h
 unfold HL at h
 split at h
 case h_2=>cases h
 rename_i f cs
 obtain⟨ren,ar,bx,r,bx',hc,he,hm,fG,hk⟩:=h
 refine⟨_,_,hk,fun cx N M β a w i=>?_⟩
 obtain⟨us,eu,QD⟩:=hf iD cx N M β a w i
 have uU:=(has iD cx N M β a w i).append (vL.rep QD)
 rw[he]at uU
 refine⟨f,(args.toList.map a.eval++us).toArray,?_,(Inv.aBP i hc hm fG uU).mono fun e w' ⟨v,M',β',h1,h2,h3,h4,h5,_⟩=>⟨v,M',β',h1,h2,h3,h4,h5⟩⟩
 have:(args.map a.eval++us.toArray)=(args.toList.map a.eval++us).toArray:=by
  apply Array.ext';simp
 simp[execOp,ho,resolve,eu,Deferred.ofValue,invoke,this,hc.1]
end
def dM{α:Type}(f:α→List Nat):List α→List Nat
 |[]=>[]
 |x::r=>f x++dM f r
theorem iA{α:Type}{f:α→List Nat}{n:Nat}:∀{l:List α} {j:Nat} {c:α},l[j]? =some c→n∈f c→n∈dM f l
 |[],_,_,h,_=>by simp at h
 |x::r,0,c,h,hn=>by simp at h;subst h;exact List.mem_append_left _ hn
 |x::r,j+1,c,h,hn=>List.mem_append_right _ (iA (j:=j) (by simpa using h) hn)
def reach:Nat→St→SV→List Nat
 |_,_,.d _=>[]
 |0,_,.ptr x _=>[x]
 |n+1,σ,.ptr x _=>x::match aH σ.box x with
  |some (some (.cells cs))=>dM (reach n σ) cs
  |_=>[]
 |_,_,.own x=>[x]
 |_,_,.mo _ x=>[x]
 |_,_,.rw x _ _ _=>[x]
 |0,_,.jH x _ _ _=>[x]
 |n+1,σ,.jH x _ _ _=>x::match aH σ.box x with
  |some (some (.cells cs))=>dM (reach n σ) cs
  |_=>[]
 |_,_,.mp x=>[x]
 |0,_,.dR _ _=>[]
 |n+1,σ,.dR _ cs=>dM (fun c=>match c with|.d _=>[]|.ptr x off=>reach n σ (.ptr x off)) cs
def bV(σ:St):AV→List Nat
 |.s x=>reach 4 σ x
 |.ib _ x=>reach 4 σ x
 |.g cs=>dM (reach 4 σ) cs
 |.ig _ cs=>dM (reach 4 σ) cs
 |.t _=>[]
def okK(ren:List (Nat×Nat))(args:List AV)(bx:eJ):Bool:=ZR (names bx) args&&GK (names bx) bx&&GH ren (names bx)
def BX(P:Program)(σ:St)(f:FuncId)(ars:List AV)(r:AV):Prop:=
 ∃ren args bx,bT P f args bx r bx∧ars=yF ren args∧mO ren σ.box bx∧okK ren args bx=true∧A6 r=true∧((names bx).all fun x=>(dM (bV σ) ars).contains (look ren x))=true
theorem aDZ{ren:List (Nat×Nat)}{box:aN}{bx:eJ}(hm:mO ren box bx)(y:Nat):aH (rO ren (jB ren box bx) bx) y=aH box y:=by
 rcases rO.get (ren:=ren) (box:=jB ren box bx) (y:=y) (bx:=bx)with⟨x,b,h1,rfl,h3⟩|⟨h1,h2⟩
 ·rw[h3,hm.get h1]
 ·rw[h2]
  rcases jB.get (ren:=ren) (box:=box) (y:=y) (bx:=bx)with⟨⟨x,hx,hy⟩,_⟩|⟨_,h4⟩
  ·exact absurd hy (h1 x hx)
  ·exact h4
theorem Inv.boxes{cx:Cx}{N:Nat}{M:Mem}{β:Nm}{E:List (Nat×AV)}{b1 b2:aN}{a:Act}{w:World}(i:Inv cx N M β ⟨E,b1⟩ a w)(h:∀y,aH b1 y=aH b2 y):Inv cx N M β ⟨E,b2⟩ a w:=
 ⟨i.defers,i.tmps,i.heap,i.env,i.mem,fun x p e=>by obtain⟨y,hy⟩:=i.keys x p e;exact⟨y,(h x).symm.trans hy⟩,fun x bc e=>i.box x bc ((h x).trans e),
  fun x y bx yB b c c' ex ey=>i.inj x y bx yB b c c' ((h x).trans ex) ((h y).trans ey),fun x bc b c e=>i.apart x bc b c ((h x).trans e),fun x bc b c e=>i.low x bc b c ((h x).trans e),i.ref⟩
theorem ZS{xs:List Nat}:∀{r:AV},A6 r=true→V4 xs r=true:=by
 have h1:∀x:SV,w4 x=true→JU xs x=true:=fun x h=>by cases x <;> first|rfl|cases h
 have h2:∀cs:List SV,nM cs=true→GJ xs cs=true:=by
  intro cs
  induction cs with
  |nil=>intro _;rfl
  |cons c r ih=>intro h;simp only [nM,Bool.and_eq_true]at h;simp only [GJ,Bool.and_eq_true];exact⟨h1 c h.1,ih h.2⟩
 have h3:∀cs:List TV,p6 cs=true→OM xs cs=true:=by
  intro cs
  induction cs with
  |nil=>intro _;rfl
  |cons c r ih=>
   intro h
   simp only [p6,Bool.and_eq_true]at h
   simp only [OM,Bool.and_eq_true]
   refine⟨?_,ih h.2⟩
   cases c with
   |s x=>exact h1 x h.1
   |g l=>exact h2 l h.1
 intro r h
 cases r with
 |s x=>exact h1 x h
 |g l=>exact h2 l h
 |t l=>exact h3 l h
 |_=>cases h
theorem BX.spec{P:Program}{cx:Cx}{N:Nat}{M:Mem}{β:Nm}{σ:St}{a:Act}{w:World}(i:Inv cx N M β σ a w){f:FuncId}{ars:List AV}{r:AV}(h:BX P σ f ars r){vs:List Value}(hv:gM M β ars vs):
  (∀vs w,(callFunc f vs).run P w=.ok (.enter f vs) w)∧Calls P f vs.toArray w fun e w'=>∃v M',e=.returned v∧r.bD M' β v∧Inv cx N M' β σ a w'∧Grow cx.B M M'∧b8 cx w w':=by
 obtain⟨ren,args,bx,hc,rfl,hm,fG,hf,_⟩:=h
 simp only [okK,Bool.and_eq_true]at fG
 obtain⟨⟨k1,k2⟩,k3⟩:=fG
 have aMR:AG ren σ.box args bx r bx=true:=by
  simp only [AG,Bool.and_eq_true]
  refine⟨⟨⟨⟨⟨k1,k2⟩,ZS hf⟩,k2⟩,?_⟩,?_⟩
  ·simp only [GH,List.all_append,Bool.and_eq_true]at k3 ⊢
   have h1:((names bx).all fun x=>((names bx).all fun y=>Nat.beq x y|| !(Nat.beq (look ren x) (look ren y)))&&(names bx).all fun y=>Nat.beq x y|| !(Nat.beq (look ren x) (look ren y)))=true:=by
    rw[List.all_eq_true]at k3 ⊢
    intro x hx
    simp[k3 x hx]
   exact⟨h1,h1⟩
  ·have:∀l:List Nat,(∀x,x∈l→x∈names bx)→nL ren σ.box (names bx) l=true:=by
    intro l
    induction l with
    |nil=>intro _;rfl
    |cons x r ih=>
     intro h
     simp only [nL,Bool.and_eq_true,Bool.or_eq_true]
     exact⟨.inl (by simpa using h x sM),ih (fun y hy=>h y (List.mem_cons_of_mem _ hy))⟩
   exact this _ (fun x hx=>hx)
 refine⟨hc.1,(Inv.aBP i hc hm aMR hv).mono ?_⟩
 rintro e w' ⟨v,M',β',h1,h2,h3,h4,h5,h6⟩
 obtain rfl:=h6 (fun x hx=>hx)
 refine⟨v,M',h1,?_,h3.boxes (aDZ hm),h4,h5⟩
 have hr:nH ren r=r:=by
  have q1:∀x:SV,w4 x=true→vD ren x=x:=fun x h=>by cases x <;> first|rfl|cases h
  have q2:∀cs:List SV,nM cs=true→lP ren cs=cs:=by
   intro cs
   induction cs with
   |nil=>intro _;rfl
   |cons c r ih=>intro h;simp only [nM,Bool.and_eq_true]at h;simp only [lP];rw[q1 c h.1,ih h.2]
  have q3:∀cs:List TV,p6 cs=true→AE ren cs=cs:=by
   intro cs
   induction cs with
   |nil=>intro _;rfl
   |cons c r ih=>
    intro h
    simp only [p6,Bool.and_eq_true]at h
    simp only [AE]
    rw[ih h.2]
    cases c with
    |s x=>simp only [YT];rw[q1 x h.1]
    |g l=>simp only [YT];rw[q2 l h.1]
  cases r with
  |s x=>simp only [nH];rw[q1 x hf]
  |g l=>simp only [nH];rw[q2 l hf]
  |t l=>simp only [nH];rw[q3 l hf]
  |_=>cases hf
 rw[hr]at h2
 exact h2
section
variable{P:Program}{σ:St}{g:Option Bool}{K:AV→Prop}{o:Oper}
def kY(P:Program)(σ:St)(g:Option Bool)(f:FuncId)(args:List AV)(K:AV→Prop):Prop:=
 l9 P σ g f args K∨∃r,imp g (BX P σ f args r)∧K r
def mA(P:Program)(σ:St)(g:Option Bool)(vf:AV)(args:List AV)(K:AV→Prop):Prop:=
 match vf with
 |.s (.dR f cs)=>kY P σ g f (args++vL cs) K
 |.s (.d (.dR f k c))=>kY P σ g f (args++iJ c k 0) K
 |.s (.d (.bnd f k c))=>l9 P σ g f (.g (gD c k 0)::args) K
 |_=>False
theorem aK4.spec{fo:Operand}{args:Array Operand}{vQ:Array TypeId}(ho:o.op=.call {callee:=.value fo,args:=args,argTypes:=vQ})
  (h:fe g (ev σ fo) fun vf=>dQ g σ args.toList fun ars=>mA P σ g vf ars K):
  ∃r,K r∧(act g→∀cx N M β a w,Inv cx N M β σ a w→∃f vs,(execOp a.eval o).run P w=.ok (.enter f vs) w∧
   Calls P f vs w fun e w'=>∃v M',e=.returned v∧r.bD M' β v∧Inv cx N M' β σ a w'∧Grow cx.B M M'∧b8 cx w w'):=by
 replace h:=fe.ev h
 obtain⟨vf,h,hf⟩:=h
 replace h:=dQ.spec h
 obtain⟨ars,h,has⟩:=h
 have key:∀(f:FuncId) (extra:List AV),kY P σ g f (ars++extra) K→
   (act g→∀cx N M β a w,Inv cx N M β σ a w→∃us:List Value,a.eval fo=.func (.func f) #[] us.toArray∧gM M β extra us)→
   ∃r,K r∧(act g→∀cx N M β a w,Inv cx N M β σ a w→∃f vs,(execOp a.eval o).run P w=.ok (.enter f vs) w∧
   Calls P f vs w fun e w'=>∃v M',e=.returned v∧r.bD M' β v∧Inv cx N M' β σ a w'∧Grow cx.B M M'∧b8 cx w w'):=by
  intro f extra hd hx
  rcases hd with hd|⟨r,hc,hk⟩
  ·exact call.key ho has hd hx
  ·refine⟨r,hk,fun ha cx N M β a w i=>?_⟩
   obtain⟨us,eu,QD⟩:=hx ha cx N M β a w i
   have uU:=(has ha cx N M β a w i).append QD
   obtain⟨y1,dV⟩:=BX.spec i (hc.get ha) uU
   refine⟨f,(args.toList.map a.eval++us).toArray,?_,dV⟩
   have:(args.map a.eval++us.toArray)=(args.toList.map a.eval++us).toArray:=by
    apply Array.ext';simp
   simp[execOp,ho,resolve,eu,Deferred.ofValue,invoke,this,y1]
 unfold mA at h
 split at h
 case h_4=>cases h
 ·rename_i f cs
  refine key f _ h fun ha cx N M β a w i=>?_
  obtain⟨vs,e,hv⟩:=hf ha cx N M β a w i
  exact⟨vs,e,vL.rep hv⟩
 ·rename_i f k c
  refine key f _ h fun ha cx N M β a w i=>?_
  obtain⟨vs,e,hl,hv⟩:=hf ha cx N M β a w i
  exact⟨vs,e,by rw[←hl];exact iJ.rep (fun i u hu=>by rw[Nat.zero_add];exact hv i u hu)⟩
 ·rename_i f k c
  refine call.aJC (pre:=[.g (gD c k 0)]) (extra:=[]) ho has (by rw[List.append_nil];exact h) fun ha cx N M β a w i=>?_
  obtain⟨vs,e,hl,hv⟩:=hf ha cx N M β a w i
  exact⟨[.agg vs.toArray],[],e,⟨⟨vs,rfl,by rw[←hl];exact gD.rep (fun i u hu=>by rw[Nat.zero_add];exact hv i u hu)⟩,trivial⟩,trivial⟩
end
def gS(zs:List Nat):aN→aN
 |[]=>[]
 |(x,b)::r=>(x,bif zs.contains x then b else none)::gS zs r
def lA(zs:List Nat):aN→aN
 |[]=>[]
 |(x,b)::r=>(x,bif zs.contains x then none else b)::lA zs r
theorem gS.get{zs:List Nat}{x:Nat}{b:jE}:∀{box:aN},aH (gS zs box) x=some (some b)→zs.contains x=true∧aH box x=some (some b)
 |[],h=>by cases h
 |(k,c)::r,h=>by
  rw[gS,aK]at h
  rw[aK]
  by_cases e:k=x
  ·subst e
   rw[if_pos rfl]at h
   cases hz:zs.contains k with
   |true=>rw[hz]at h;exact⟨rfl,by rw[if_pos rfl];exact h⟩
   |false=>rw[hz]at h;cases h
  ·rw[if_neg e]at h ⊢
   exact gS.get h
theorem lA.get{zs:List Nat}{x:Nat}{b:jE}:∀{box:aN},aH (lA zs box) x=some (some b)→zs.contains x=false∧aH box x=some (some b)
 |[],h=>by cases h
 |(k,c)::r,h=>by
  rw[lA,aK]at h
  rw[aK]
  by_cases e:k=x
  ·subst e
   rw[if_pos rfl]at h
   cases hz:zs.contains k with
   |true=>rw[hz]at h;cases h
   |false=>rw[hz]at h;exact⟨rfl,by rw[if_pos rfl];exact h⟩
  ·rw[if_neg e]at h ⊢
   exact lA.get h
theorem gS.has{zs:List Nat}{x:Nat}{y:Option jE}:∀{box:aN},aH box x=some y→∃y',aH (gS zs box) x=some y'
 |[],h=>by cases h
 |(k,c)::r,h=>by
  rw[aK]at h
  rw[gS,aK]
  by_cases e:k=x
  ·rw[if_pos e];exact⟨_,rfl⟩
  ·rw[if_neg e]at h ⊢;exact gS.has h
theorem lA.has{zs:List Nat}{x:Nat}{y:Option jE}:∀{box:aN},aH box x=some y→∃y',aH (lA zs box) x=some y'
 |[],h=>by cases h
 |(k,c)::r,h=>by
  rw[aK]at h
  rw[lA,aK]
  by_cases e:k=x
  ·rw[if_pos e];exact⟨_,rfl⟩
  ·rw[if_neg e]at h ⊢;exact lA.has h
section
variable{P:Program}{cx:Cx}{N:Nat}{σ:St}{M:Mem}{β:Nm}{a:Act}{w:World}
theorem Inv.gS(i:Inv cx N M β σ a w)(zs:List Nat):Inv cx N M β ⟨σ.env,gS zs σ.box⟩ a w:=by
 refine⟨i.defers,i.tmps,i.heap,i.env,i.mem,?_,?_,?_,?_,?_,i.ref⟩
 ·intro x p e
  obtain⟨y,hy⟩:=i.keys x p e
  exact gS.has hy
 ·exact fun x bc h=>i.box x bc (gS.get h).2
 ·exact fun x y bx yB b c c' hx hy=>i.inj x y bx yB b c c' (gS.get hx).2 (gS.get hy).2
 ·exact fun x bc b c h=>i.apart x bc b c (gS.get h).2
 ·exact fun x bc b c h=>i.low x bc b c (gS.get h).2
open Classical in
noncomputable def vJ (σ:St) (zs:List Nat) (β:Nm) (M:Mem) (w:World):Mem:=fun b o=>if ∃x bc c,zs.contains x=true∧aH σ.box x=some (some bc)∧β x=some (b,c)then w.cell? ⟨b,o,none⟩else M b o
theorem vJ.le(i:Inv cx N M β σ a w)(zs:List Nat):Mem.le M (vJ σ zs β M w):=by
 intro b o u h
 unfold vJ
 by_cases hb:∃x bc c,zs.contains x=true∧aH σ.box x=some (some bc)∧β x=some (b,c)
 ·obtain⟨x,bc,c,_,hg,e⟩:=hb
  rw[i.apart x bc b c hg e o]at h;cases h
 ·rw[if_neg hb];exact h
theorem vJ.ok(i:Inv cx N M β σ a w)(zs:List Nat):kF (vJ σ zs β M w) w:=by
 intro b o u h
 unfold vJ at h
 by_cases hb:∃x bc c,zs.contains x=true∧aH σ.box x=some (some bc)∧β x=some (b,c)
 ·rw[if_pos hb]at h;exact h
 ·rw[if_neg hb]at h;exact i.mem b o u h
theorem Inv.eat(i:Inv cx N M β σ a w)(aA:cx.ref=[])(zs:List Nat):Inv cx N (vJ σ zs β M w) β ⟨σ.env,lA zs σ.box⟩ a w∧Grow cx.B M (vJ σ zs β M w):=by
 have hM:=vJ.le i zs
 refine⟨⟨i.defers,i.tmps,i.heap,fun t=>AV.bD.mono hM (Nm.le_refl β) (i.env t),vJ.ok i zs,?_,?_,?_,?_,?_,i.ref⟩,⟨hM,?_⟩⟩
 ·intro x p e
  obtain⟨y,hy⟩:=i.keys x p e
  exact lA.has hy
 ·exact fun x bc h=>cH.mono hM (Nm.le_refl β) rfl (fun _ _ _=>rfl) (i.box x bc (lA.get h).2)
 ·exact fun x y bx yB b c c' hx hy=>i.inj x y bx yB b c c' (lA.get hx).2 (lA.get hy).2
 ·intro x bc b c h e o
  obtain⟨h1,h2⟩:=lA.get h
  unfold vJ
  have hn:¬∃x bc c,zs.contains x=true∧aH σ.box x=some (some bc)∧β x=some (b,c):=by
   rintro⟨y,bc',c',hy,hg,e'⟩
   have:=i.inj x y bc bc' b c c' h2 hg e e'
   subst this
   rw[h1]at hy;cases hy
  rw[if_neg hn]
  exact i.apart x bc b c h2 e o
 ·exact fun x bc b c h=>i.low x bc b c (lA.get h).2
 ·intro b o u h
  unfold vJ at h
  by_cases hb:∃x bc c,zs.contains x=true∧aH σ.box x=some (some bc)∧β x=some (b,c)
  ·obtain⟨x,bc,c,_,hg,e⟩:=hb
   rcases i.low x bc b c hg e with h1|⟨y,c',hy,_⟩
   ·exact .inr h1
   ·rw[aA]at hy;cases hy
  ·rw[if_neg hb]at h;exact .inl h
def aDC(P:Program)(σ:St)(vf:AV)(args:List AV)(K:AV→aN→Prop):Prop:=
 match vf with
 |.s (.dR f cs)=>∃zs r,aF P f (iI ⟨σ.env,gS zs σ.box⟩ (args++vL cs)) r∧K r (lA zs σ.box)
 |_=>False
def OK(rc ref:List Nat)(σ:St)(op:Op):Option (Operand×List Operand):=
 match op with
 |.call {callee:=.value fo,args, .. }=>match ev σ fo with
  |.s (.dR f _)=>bif rc.contains (f+2000000)&&ref.isEmpty then some (fo,args.toList)else none
  |_=>none
 |_=>none
theorem OK.op{rc ref:List Nat}{op:Op}{fo:Operand}{l:List Operand}(h:OK rc ref σ op=some (fo,l)):ref=[]∧∃args vQ,op=.call {callee:=.value fo,args:=args,argTypes:=vQ}∧args.toList=l:=by
 unfold OK at h
 split at h
 ·split at h
  ·rename_i f cs hf
   cases hr:(rc.contains (f+2000000)&&ref.isEmpty)with
   |true=>
    rw[hr]at h
    cases h
    rw[Bool.and_eq_true]at hr
    exact⟨List.isEmpty_iff.1 hr.2,_,_,rfl,rfl⟩
   |false=>rw[hr]at h;cases h
  ·cases h
 ·cases h
theorem eat.spec{o:Oper}{fo:Operand}{l:List Operand}{K:AV→aN→Prop}(ho:∃args vQ,o.op=.call {callee:=.value fo,args:=args,argTypes:=vQ}∧args.toList=l)
  (h:fe none (ev σ fo) fun vf=>dQ none σ l fun ars=>aDC P σ vf ars K):
  ∃r bx,K r bx∧∀cx N M β a w,cx.ref=[]→Inv cx N M β σ a w→∃f vs,(execOp a.eval o).run P w=.ok (.enter f vs) w∧
   Calls P f vs w fun e w'=>∃v M' β',e=.returned v∧r.bD M' β' v∧Inv cx N M' β' ⟨σ.env,bx⟩ a w'∧Grow cx.B M M'∧b8 cx w w':=by
 obtain⟨args,vQ,ho,rfl⟩:=ho
 replace h:=fe.ev h
 obtain⟨vf,h,hf⟩:=h
 replace h:=dQ.spec h
 obtain⟨ars,h,has⟩:=h
 unfold aDC at h
 split at h
 case h_2=>cases h
 rename_i f cs
 obtain⟨zs,r,⟨y1,dV⟩,hk⟩:=h
 refine⟨_,_,hk,fun cx N M β a w aA i=>?_⟩
 obtain⟨us,eu,QD⟩:=hf iD cx N M β a w i
 have uU:=(has iD cx N M β a w i).append (vL.rep QD)
 have hM:=vJ.le i zs
 have iN:=iI.rep (i.gS zs) hM (fun x bc b c hg e o u hu=>by
  obtain⟨h1,h2⟩:=gS.get hg
  unfold vJ
  rw[if_pos ⟨x,bc,c,h1,h2,e⟩];exact hu) uU
 obtain⟨i2,g2⟩:=i.eat aA zs
 refine⟨f,(args.toList.map a.eval++us).toArray,?_,(dV _ w _ i.heap.aC8 iN (vJ.ok i zs)).mono ?_⟩
 ·have:(args.map a.eval++us.toArray)=(args.toList.map a.eval++us).toArray:=by
   apply Array.ext';simp
  simp[execOp,ho,resolve,eu,Deferred.ofValue,invoke,this,y1]
 ·rintro e w' ⟨v,M',rfl,RI,hg,hm,O2⟩
  obtain⟨i3,g3,k3⟩:=i2.after O2 hg hm
  exact⟨v,M',β,rfl,AV.bD.mono (Mem.le_refl _) (fun _ _ h=>by cases h) RI,i3,g2.trans g3,k3⟩
def aDD(zs:List Nat)(σ:St)(v:AV):AV:=
 match v with
 |.s (.own b)=>bif zs.contains b then oZ ⟨σ.env,gS zs σ.box⟩ (.s (.own b))else .s (.own b)
 |.s (.mo z b)=>bif zs.contains b then oZ ⟨σ.env,gS zs σ.box⟩ (.s (.mo z b))else .s (.mo z b)
 |v=>v
def aDE(zs:List Nat)(σ:St):List (Nat×AV)→List (Nat×AV)
 |[]=>[]
 |(t,v)::r=>(t,aDD zs σ v)::aDE zs σ r
def BD(zs:List Nat)(σ:St):St:=⟨aDE zs σ σ.env,lA zs σ.box⟩
theorem O5{zs:List Nat}{t:Nat}:∀{l:List (Nat×AV)},eY (aDE zs σ l) t=aDD zs σ (eY l t)
 |[]=>rfl
 |(k,v)::r=>by
  rw[aDE]
  unfold eY
  cases Nat.beq k t with
  |true=>rfl
  |false=>exact O5
theorem Inv.BD(i:Inv cx N M β σ a w)(aA:cx.ref=[])(zs:List Nat):∃M',Inv cx N M' β (BD zs σ) a w∧Grow cx.B M M':=by
 obtain⟨i2,g2⟩:=i.eat aA zs
 refine⟨_,⟨i2.defers,i2.tmps,i2.heap,fun t=>?_,i2.mem,i2.keys,i2.box,i2.inj,i2.apart,i2.low,i2.ref⟩,g2⟩
 have hM:=vJ.le i zs
 have r0:=i.env t
 have conv:∀x:AV,x.bD M β (a.tmps.getD t undef)→(oZ ⟨σ.env,Go.Ax.gS zs σ.box⟩ x).bD (vJ σ zs β M w) (fun _=>none) (a.tmps.getD t undef):=fun x hx=>
  oZ.rep (i.gS zs) hM (fun x bc b c hg e o u hu=>by
   obtain⟨h1,h2⟩:=gS.get hg
   unfold vJ
   rw[if_pos ⟨x,bc,c,h1,h2,e⟩];exact hu) hx
 have e0:eY (Go.Ax.BD zs σ).env t=aDD zs σ (eY σ.env t):=O5
 rw[e0]
 unfold aDD
 split
 ·rename_i b hv
  rw[hv]at r0
  cases zs.contains b with
  |true=>exact AV.bD.mono (Mem.le_refl _) (fun _ _ h=>by cases h) (conv _ r0)
  |false=>exact AV.bD.mono hM (Nm.le_refl β) r0
 ·rename_i z b hv
  rw[hv]at r0
  cases zs.contains b with
  |true=>exact AV.bD.mono (Mem.le_refl _) (fun _ _ h=>by cases h) (conv _ r0)
  |false=>exact AV.bD.mono hM (Nm.le_refl β) r0
 ·exact AV.bD.mono hM (Nm.le_refl β) r0
end
def VZ(rc ref:List Nat)(d:Nat):Bool:=rc.contains (d+3000000)&&ref.isEmpty
def lR(P:Program)(T:List (Nat×bP))(op:Op)(σ:St)(g:Option Bool)(K:AV→Prop):Prop:=
 match op with
 |.move x=>fe g (ev σ x) K
 |.assign x=>fe g (ev σ x) K
 |.pick c x y=>fe g (ev σ c) fun vc=>uR g vc (ev σ x) (ev σ y) K
 |.load t x=>fe g (ev σ x) fun va=>match cZ T t with|some ti=>jU σ ti.agg ti.size g va K|none=>False
 |.fieldAddr s x f=>fe g (ev σ x) fun va=>rM T s f va K
 |.binOp op t x y _=>fe g (ev σ x) fun va=>fe g (ev σ y) fun vb=>bin T op t g va vb K
 |.unOp op _ x=>fe g (ev σ x) fun va=>unV op va K
 |.convert src dst x=>fe g (ev σ x) fun va=>sW T src dst va K
 |.nilCheck x=>fe g (ev σ x) fun va=>LD va K
 |.extract x k=>IN k (ev σ x) K
 |.indexAddr t x y=>fe g (ev σ x) fun va=>fe g (ev σ y) fun vi=>pU T σ t g va vi K
 |.index t x y=>fe g (ev σ x) fun va=>fe g (ev σ y) fun vi=>B4 T t g va vi K
 |.lookup t x y ok=>fe g (ev σ x) fun va=>fe g (ev σ y) fun vi=>qY T σ t ok g va vi K
 |.slice t x lo hi none=>fe g (ev σ x) fun va=>kH T σ t g va lo hi K
 |.build t pa=>parts g σ pa.toList fun ps=>qE T t ps K
 |.makeFunc (.func f) fs HJ=>match fs.toList with
  |[]=>match pL σ HJ.toList with|some cs=>K (.s (.dR f cs))|none=>False
  |[y]=>match HJ.toList with
   |[]=>fe g (ev σ y) fun va=>match va with|.g cs=>bif oE cs then K (.s (.d (aHR f cs)))else False|_=>False
   |_=>False
  |_=>False
 |.call c=>match c.callee with
  |.value fo=>fe g (ev σ fo) fun vf=>dQ g σ c.args.toList fun ars=>mA P σ g vf ars K
  |.builtin .len=>match c.args.toList,c.argTypes.toList with
   |[x],[t]=>fe g (ev σ x) fun va=>pS T σ t va K
   |_,_=>False
  |.builtin .cap=>match c.args.toList,c.argTypes.toList with
   |[x],[t]=>fe g (ev σ x) fun va=>IU T t va K
   |_,_=>False
  |.builtin .max=>ints g σ c.args.toList fun l=>match l with|(k,n)::r=>K (mmL true k n r)|[]=>False
  |.builtin .min=>ints g σ c.args.toList fun l=>match l with|(k,n)::r=>K (mmL false k n r)|[]=>False
  |_=>False
 |_=>False
def XL(P:Program)(o:Oper)(σ:St)(r:AV):Prop:=
 ∀cx N M β a w,Inv cx N M β σ a w→
  (∃v,(execOp a.eval o).run P w=.ok (.value v) w∧r.bD M β v)∨
  (∃f vs,(execOp a.eval o).run P w=.ok (.enter f vs) w∧
   Calls P f vs w fun e w'=>∃v M',e=.returned v∧r.bD M' β v∧Inv cx N M' β σ a w'∧Grow cx.B M M'∧b8 cx w w')
theorem jD.aNB{P:Program}{o:Oper}{σ:St}{g:Option Bool}{r:AV}(h:jD P o σ g r)(ha:act g):XL P o σ r:=
 fun cx N M β a w i=>.inl (h ha cx N M β a w i)
theorem lR.spec{P:Program}{T:List (Nat×bP)}(hT:b7 P T){o:Oper}{σ:St}{g:Option Bool}{K:AV→Prop}(h:lR P T o.op σ g K):
  ∃r,K r∧(act g→XL P o σ r):=by
 have up:(∃r,K r∧jD P o σ g r)→∃r,K r∧(act g→XL P o σ r):=fun ⟨r,hk,hp⟩=>⟨r,hk,hp.aNB⟩
 generalize nW:o.op=op at h
 cases op with
 |move x=>exact up (move.spec (.inl nW) h)
 |assign x=>exact up (move.spec (.inr nW) h)
 |pick c x y=>exact up (pick.spec nW h)
 |load t x=>exact up (load.spec hT nW h)
 |fieldAddr s x f=>exact up (field.spec hT nW h)
 |binOp op t x y ty=>
  simp only [lR]at h
  replace h:=fe.ev h
  obtain⟨va,h,hra⟩:=h
  replace h:=fe.ev h
  obtain⟨vb,h,hrb⟩:=h
  obtain⟨r,hk,hr⟩:=bin.spec hT nW h
  exact⟨r,hk,fun ha cx N M β a w i=>.inl (hr ha M β a w (hra ha cx N M β a w i) (hrb ha cx N M β a w i))⟩
 |unOp op t x=>exact up (un.spec nW h)
 |convert src dst x=>exact up (conv.spec hT nW h)
 |nilCheck x=>exact up (nil.spec nW h)
 |extract x k=>exact up (ext.spec nW h)
 |indexAddr t x y=>exact up (idx.spec hT nW h)
 |index t x y=>exact up (str.spec hT nW h)
 |lookup t x y ok=>exact up (qY.spec hT nW h)
 |slice t x lo hi mx=>
  cases mx with
  |none=>exact up (kH.spec hT nW h)
  |some m=>exact h.elim
 |build t pa=>exact up (build.spec hT nW h)
 |makeFunc fn fs HJ=>
  cases fn with
  |func f=>
   simp only [lR]at h
   split at h
   ·rename_i XW
    have:fs= #[]:=by apply Array.ext';simpa using XW
    subst this
    exact up (mkf.spec nW h)
   ·split at h
    ·rename_i y XW _ lM
     have e1:fs= #[y]:=by apply Array.ext';simpa using XW
     have e2:HJ= #[]:=by apply Array.ext';simpa using lM
     subst e1;subst e2
     exact up (mkb.spec nW h)
    ·cases h
   ·cases h
  |_=>exact h.elim
 |call c=>
  obtain⟨callee,args,vQ⟩:=c
  simp only [lR]at h
  split at h
  ·obtain⟨r,hk,hr⟩:=aK4.spec nW h
   exact⟨r,hk,fun ha cx N M β a w i=>.inr (hr ha cx N M β a w i)⟩
  ·split at h
   ·rename_i x t hx ht
    have e1:args= #[x]:=by apply Array.ext';simpa using hx
    have e2:vQ= #[t]:=by apply Array.ext';simpa using ht
    subst e1;subst e2
    exact up (len.spec hT nW h)
   ·cases h
  ·split at h
   ·rename_i x t hx ht
    have e1:args= #[x]:=by apply Array.ext';simpa using hx
    have e2:vQ= #[t]:=by apply Array.ext';simpa using ht
    subst e1;subst e2
    exact up (cap.spec hT nW h)
   ·cases h
  ·exact up (mm.spec true nW h)
  ·exact up (mm.spec false nW h)
  ·cases h
 |_=>exact h.elim
def ID(T:List (Nat×bP))(ref:List Nat)(d:Nat)(op:Op)(σ:St)(K:AV→aN→Prop):Prop:=
 match op with
 |.alloc t=>xJ T σ d t K
 |.box _ x=>IW σ d x K
 |.store t x y=>oF T σ t x y K
 |.buildSlice t len pa=>IV T σ d t len pa.toList K
 |.makeSlice t x y=>mkX T σ d t x y K
 |.makeMap t none=>F4 T σ d t K
 |.mapUpdate t x y z=>X7 T σ t x y z K
 |.range t x=>FO T σ d t x K
 |.next x false=>NZ σ x K
 |.entry x=>G8 σ x fun v=>K v σ.box
 |.convert t t' x=>aBC T σ t t' x K
 |.call c=>match c.callee with
  |.builtin .append=>match c.args.toList,c.argTypes.toList with
   |[x,y],[t,t']=>bif Nat.beq t t' then(match ev σ x with
    |.s (.jH _ _ _ _)=>aBK T σ d t x y K
    |_=>xI T σ ref d t x y K)else aBL T σ d t t' x y K
   |_,_=>False
  |.builtin .copy=>match c.args.toList,c.argTypes.toList with
   |[x,y],[t,_]=>KH T σ t x y K
   |_,_=>False
  |_=>False
 |_=>False
def aE0(P:Program)(o:Oper)(σ:St)(K:AV→aN→Prop)(cx:Cx)(N:Nat)(M:Mem)(a:Act)(w:World):Prop:=
 ∃r bx,K r bx∧∃v w' M' β',
  ((execOp a.eval o).run P w=.ok (.value v) w'∨((execOp a.eval o).run P w=.ok .skip w'∧v=undef))∧
  r.bD M' β' v∧Inv cx N M' β' ⟨σ.env,bx⟩ a w'∧Grow cx.B M M'∧b8 cx w w'
theorem ID.spec{P:Program}{T:List (Nat×bP)}(hT:b7 P T){ref:List Nat}{d:Nat}{o:Oper}{σ:St}{K:AV→aN→Prop}(h:ID T ref d o.op σ K)
  {cx:Cx} {N:Nat} {M:Mem} {β:Nm} {a:Act} {w:World} (aA:cx.ref=ref) (i:Inv cx N M β σ a w):aE0 P o σ K cx N M a w:=by
 have up:(∃r bx,K r bx∧I2 P o σ r bx)→aE0 P o σ K cx N M a w:=fun ⟨r,bx,hk,hp⟩=>⟨r,bx,hk,hp cx N M β a w i⟩
 generalize nW:o.op=op at h
 cases op with
 |alloc t=>exact up (alloc.spec hT nW h)
 |box t x=>exact up (box.spec nW h)
 |store t x y=>exact up (store.spec hT nW h)
 |buildSlice t len pa=>exact up (bsl.spec hT nW h)
 |makeSlice t x y=>exact up (mk.spec hT nW h)
 |makeMap t r=>cases r with
  |none=>exact up (F4.spec nW h)
  |some x=>exact h.elim
 |mapUpdate t x y z=>exact up (X7.spec hT nW h)
 |range t x=>exact up (FO.spec hT nW h)
 |next x s=>cases s with
  |true=>cases h
  |false=>
   obtain⟨r,bx,hk,v,w',h1,h2,h3,h4⟩:=NZ.spec nW h i
   exact⟨r,bx,hk,v,w',M,β,.inl h1,h2,h3,Grow.refl _ _,h4⟩
 |entry x=>
  obtain⟨r,hk,hp⟩:=G8.spec (K:=fun v=>K v σ.box) nW h
  obtain⟨v,h1,h2⟩:=hp iD cx N M β a w i
  exact⟨r,σ.box,hk,v,w,M,β,.inl h1,h2,i,Grow.refl _ _,b8.refl _ _⟩
 |convert t t' x=>exact up (byte.spec hT nW h)
 |call c=>
  obtain⟨callee,args,vQ⟩:=c
  simp only [ID]at h
  split at h
  ·split at h
   ·rename_i x y t t' hx ht
    have e1:args= #[x,y]:=by apply Array.ext';simpa using hx
    have e2:vQ= #[t,t']:=by apply Array.ext';simpa using ht
    subst e1;subst e2
    cases DN:Nat.beq t t' with
    |false=>
     rw[DN]at h
     exact up (aNM.spec hT nW h)
    |true=>
     rw[DN]at h
     have e0:=Nat.eq_of_beq_eq_true DN
     subst e0
     simp only [cond_true]at h
     split at h
     ·exact aNL.spec hT nW h i
     ·obtain⟨r,bx,hk,hs⟩:=app.spec hT nW h
      exact⟨r,bx,hk,hs cx N M β a w aA i⟩
   ·cases h
  ·split at h
   ·rename_i x y t t' hx ht
    have e1:args= #[x,y]:=by apply Array.ext';simpa using hx
    have e2:vQ= #[t,t']:=by apply Array.ext';simpa using ht
    subst e1;subst e2
    exact up (KH.spec hT nW h)
   ·cases h
  ·cases h
 |_=>exact h.elim
def LO:Op→Bool
 |.alloc _=>true
 |.box _ _=>true
 |.store _ _ _=>true
 |.buildSlice _ _ _=>true
 |.makeSlice _ _ _=>true
 |.makeMap _ _=>true
 |.mapUpdate _ _ _ _=>true
 |.range _ _=>true
 |.next _ _=>true
 |.entry _=>true
 |.convert _ t _=>aHO.contains t
 |.call c=>match c.callee with
  |.builtin .append=>true
  |.builtin .copy=>true
  |_=>false
 |_=>false
def vV(b:Bool):AV→AV
 |.s x=>.ib b x
 |.g cs=>.ig b cs
 |_=>.s (.d .bF)
def oH(σ:St)(d:Nat)(v:AV):St:=⟨(d,v)::σ.env,σ.box⟩
def QB(rc:List Nat)(σ:St)(op:Op):Option (Operand×List Operand):=
 match op with
 |.call {callee:=.value fo,args, .. }=>match ev σ fo with
  |.s (.dR f _)=>bif rc.contains f then some (fo,args.toList)else none
  |_=>none
 |_=>none
def GF(T:List (Nat×bP))(σ:St)(op:Op):Option (Nat×Bool):=
 match op with
 |.binOp bo t x y _=>match bo with
  |.eql=>match cZ T t with
   |some i=>match i.jK with
    |.slice _=>match ev σ x,ev σ y with
     |.s (.d (.fW n _ _)),.s (.d (.val (.slice none 0 0)))=>some (n,true)
     |_,_=>none
    |_=>none
   |none=>none
  |.neq=>match cZ T t with
   |some i=>match i.jK with
    |.slice _=>match ev σ x,ev σ y with
     |.s (.d (.fW n _ _)),.s (.d (.val (.slice none 0 0)))=>some (n,false)
     |_,_=>none
    |.iface=>match ev σ x,y with
     |.s (.d (.err e)),.const .nilIface=>some (1,!e)
     |_,_=>none
    |_=>none
   |none=>none
  |_=>none
 |_=>none
theorem NM{P:Program}{M:Mem}{e:Bool}{v:Value}(r:(DV.err e).bD M v)(w:World){t:TypeId}{ms}(h:P.underlying t=some (.interface ms)):(binOp .neq t v .nilIface).run P w=.ok (.bool e) w:=by
 have key:∀d,(Op.equalIn (d+1) t v .nilIface).run P w=.ok (!e) w:=by
  intro d
  rcases r with⟨rfl,rfl⟩|⟨rfl,u,x,rfl⟩ <;> simp[Op.equalIn,run_underlying h]
 have:(binOp .neq t v .nilIface)=(do return .bool (!(←Op.equal t v .nilIface))):=by
  rcases r with⟨rfl,rfl⟩|⟨rfl,u,x,rfl⟩ <;> rfl
 rw[this]
 simp[Op.equal,Op.maxDepth,key 9999]
theorem H6{P:Program}{M:Mem}{e:Bool}{v:Value}(r:(DV.err e).bD M v)(w:World)(t:TypeId)(x:Operand):(eqGuard .neq t x (.const .nilIface) v .nilIface).run P w=.ok () w:=by
 rcases r with⟨rfl,rfl⟩|⟨rfl,u,q,rfl⟩
 ·unfold eqGuard
  simp
 ·unfold eqGuard
  simp
theorem GF.spec{P:Program}{T:List (Nat×bP)}(hT:b7 P T){o:Oper}{σ:St}{n:Nat}{p:Bool}(h:GF T σ o.op=some (n,p)){cx:Cx}{N:Nat}{M:Mem}{β:Nm}{a:Act}{w:World}(iv:Inv cx N M β σ a w):
  ∃b:Bool,(b=p→n=0)∧(execOp a.eval o).run P w=.ok (.value (.bool b)) w:=by
 have key:∀(v:Value) (m s:Nat) (f:Nat→Nat→DV),(DV.fW m s f).bD M v→∃(ad:Option Addr) (k c:Nat),v=.slice ad k c∧(ad.isNone=true→m=0):=by
  rintro v m s f ⟨ad,cap,e,_,h⟩
  refine⟨ad,m,cap,e,fun h0=>?_⟩
  rcases h with h|⟨b,o,h,_⟩
  ·exact h
  ·subst h;cases h0
 unfold GF at h
 split at h
 case h_2=>cases h
 rename_i bo t x y ty nW
 split at h
 case h_3=>cases h
 ·split at h
  case h_2=>cases h
  rename_i i hi
  split at h
  case h_2=>cases h
  rename_i e hu
  split at h
  case h_2=>cases h
  rename_i m s f hx hy
  cases h
  have rx:=ev.rep iv x
  have ry:=ev.rep iv y
  rw[hx]at rx;rw[hy]at ry
  obtain⟨ad,k,c,ex,h0⟩:=key _ _ _ _ rx
  have ey:a.eval y=.slice none 0 0:=ry
  refine⟨ad.isNone,h0,?_⟩
  simp only [execOp,nW,ex,ey,Sem.run_bind,dZ BinOp.eql t x y (.slice ad k c) (.slice none 0 0) w sM sM,Result.andThen,yT w ((hT.get hi).wS hu),Sem.run_pure]
 ·split at h
  case h_2=>cases h
  rename_i i hi
  split at h
  case h_3=>cases h
  case h_2=>
   rename_i hu
   split at h
   case h_2=>cases h
   rename_i e hx
   cases h
   have rx:=ev.rep iv x
   rw[hx]at rx
   obtain⟨ds,q1,q2⟩:=(hT.get hi).jK
   rw[hu]at q2
   obtain⟨ms,rfl⟩:∃ms,ds=.interface ms:=by cases ds <;> first|exact⟨_,rfl⟩|cases q2
   have ey:a.eval (.const .nilIface)=.nilIface:=rfl
   have rx':(DV.err e).bD M (a.eval x):=rx
   refine⟨e,fun h=>(by cases e <;> cases h),?_⟩
   simp only [execOp,nW,ey,Sem.run_bind,H6 rx' w t x,Result.andThen,NM rx' w q1,Sem.run_pure]
  rename_i e hu
  split at h
  case h_2=>cases h
  rename_i m s f hx hy
  cases h
  have rx:=ev.rep iv x
  have ry:=ev.rep iv y
  rw[hx]at rx;rw[hy]at ry
  obtain⟨ad,k,c,ex,h0⟩:=key _ _ _ _ rx
  have ey:a.eval y=.slice none 0 0:=ry
  refine⟨!ad.isNone,fun hb=>h0 (by simpa using hb),?_⟩
  simp only [execOp,nW,ex,ey,Sem.run_bind,dZ BinOp.neq t x y (.slice ad k c) (.slice none 0 0) w sM sM,Result.andThen,wJ w ((hT.get hi).wS hu),Sem.run_pure]
def TK(P:Program)(T:List (Nat×bP))(N:Nat)(ref rc:List Nat)(o:Oper)(σ:St)(K:St→Prop):Prop:=
 match o.dst with
 |some d=>bif Nat.blt d N then
   (bif LO o.op then(bif VZ rc ref d then ∃zs,ID T ref d o.op (BD zs σ) fun v bx=>K ⟨(d,v)::(BD zs σ).env,bx⟩else ID T ref d o.op σ fun v bx=>K ⟨(d,v)::σ.env,bx⟩)
   else match QB rc σ o.op with
    |some (fo,args)=>bif VZ rc ref d then ∃zs,fe none (ev (BD zs σ) fo) fun vf=>dQ none (BD zs σ) args fun ars=>HL P (BD zs σ) vf ars fun v bx=>K ⟨(d,v)::(BD zs σ).env,bx⟩
     else fe none (ev σ fo) fun vf=>dQ none σ args fun ars=>HL P σ vf ars fun v bx=>K ⟨(d,v)::σ.env,bx⟩
    |none=>match OK rc ref σ o.op with
     |some (fo,args)=>fe none (ev σ fo) fun vf=>dQ none σ args fun ars=>aDC P σ vf ars fun v bx=>K ⟨(d,v)::σ.env,bx⟩
     |none=>match AT T σ o.op with
      |some (l,k)=>∀r,findD l k=r→K (oH σ d (.s (.d (aH6 r))))
      |none=>match GF T σ o.op with
      |some (n,p)=>∀b:Bool,(b=p→n=0)→K (oH σ d (k8 b))
      |none=>lR P T o.op σ none fun v=>K (oH σ d v))else False
 |none=>bif LO o.op then ID T ref 0 o.op σ fun _ bx=>K ⟨σ.env,bx⟩else False
def z1(N:Nat)(o:Oper)(σ:St)(K:St→Prop):Prop:=
 match o.dst with
 |some d=>bif Nat.blt d N then K (oH σ d (.s (.d .bF)))else False
 |none=>K σ
def sO(all:List Oper)(j:Nat):Option Nat:=(all[j]?).bind (·.dst)
def isS(rc:List Nat)(σ:St)(op:Op):Bool:=match LO op with
 |true=>true
 |false=>match QB rc σ op with
  |some _=>true
  |none=>false
def rL(nA b:Bool):Bool:=match nA with|true=>b|false=> !b
def YD(P:Program)(T:List (Nat×bP))(N:Nat)(ref rc:List Nat)(all:List Oper)(o:Oper)(next:St→(St→Prop)→Prop)(σ:St)(K:St→Prop):Prop:=
  match o.guard with
  |none=>TK P T N ref rc o σ fun σ'=>next σ' K
  |some (j,nA)=>match sO all j with
   |none=>False
   |some t=>match eY σ.env t with
    |.s (.d (.lit b))=>match b,nA with
     |true,true=>TK P T N ref rc o σ fun σ'=>next σ' K
     |false,false=>TK P T N ref rc o σ fun σ'=>next σ' K
     |_,_=>z1 N o σ fun σ'=>next σ' K
    |.s (.d (.val (.bool b)))=>match isS rc σ o.op with
     |true=>
      (b=nA→TK P T N ref rc o (oH σ t (.s (.d (.lit nA)))) fun σ'=>next σ' K)∧
      (b= !nA→z1 N o (oH σ t (.s (.d (.lit (!nA))))) fun σ'=>next σ' K)
     |false=>match o.dst with
      |some d=>bif Nat.blt d N then lR P T o.op σ (some (rL nA b)) fun v=>
        next (oH σ d (vV (rL nA b) v)) K else False
      |none=>False
    |.ib c (.d (.val (.bool b)))=>match isS rc σ o.op with
     |true=>
      (c=true→b=nA→TK P T N ref rc o (oH σ t (.s (.d (.lit nA)))) fun σ'=>next σ' K)∧
      (c=true→b= !nA→z1 N o (oH σ t (.s (.d (.lit (!nA))))) fun σ'=>next σ' K)∧
      (c=false→z1 N o σ fun σ'=>next σ' K)
     |false=>match o.dst with
      |some d=>bif Nat.blt d N then lR P T o.op σ (some (c&&rL nA b)) fun v=>
        next (oH σ d (vV (c&&rL nA b) v)) K else False
      |none=>False
    |_=>False
def lF(P:Program)(T:List (Nat×bP))(N:Nat)(ref rc:List Nat)(all:List Oper)(l:List Oper):St→(St→Prop)→Prop:=
 @List.rec Oper (fun _=>St→(St→Prop)→Prop) (fun σ K=>K σ) (fun o _ ih σ K=>YD P T N ref rc all o ih σ K) l
section
variable{P:Program}{T:List (Nat×bP)}{N:Nat}{ref rc:List Nat}{cx:Cx}{M:Mem}{β:Nm}{σ:St}{a:Act}{w:World}
theorem Inv.put(i:Inv cx N M β σ a w){d:Nat}{r:AV}{v:Value}(hd:d<N)(hr:r.bD M β v):Inv cx N M β (oH σ d r) (a.put (some d) v) w:=by
 refine⟨i.defers,by simp[Act.put,i.tmps],i.heap,fun t=>?_,i.mem,i.keys,i.box,i.inj,i.apart,i.low,i.ref⟩
 simp only [oH]
 rw[gA]
 by_cases h:d=t
 ·subst h
  rw[if_pos rfl]
  have:d<a.tmps.size:=by rw[i.tmps];exact hd
  simpa [Act.put,this]using hr
 ·rw[if_neg h]
  have:=i.env t
  simpa [Act.put,Array.getElem?_setIfInBounds_ne h]using this
def I0(cx:Cx)(N:Nat)(M:Mem)(w:World)(K:St→Prop)(a':Act)(w':World):Prop:=
 ∃σ' M' β',K σ'∧Inv cx N M' β' σ' a' w'∧Grow cx.B M M'∧b8 cx w w'
theorem SL{r:Option Nat}{n:Nat}{f:FuncId}{args:Array Value}{R:Ending→World→Prop}:CallsIn (FW r) n P f args w R↔Calls P f args w R:=callsIn_wide (n:=n)
theorem VB{r:Option Nat}{n:Nat}{row:String}{args:Array Value}{R:Value→World→Prop}:RowsIn (FW r) n P row args w R↔Rows P row args w R:=
 ⟨fun h c cs=>let⟨v,w',h1,h2⟩:=h c cs (room_wide _);⟨v,w',h1,h2.steps⟩,fun h c cs _=>let⟨v,w',h1,h2⟩:=h c cs;⟨v,w',h1,(stepsIn_wide (P:=P)).2 h2⟩⟩
theorem EX{o:Oper}{r:AV}{d:Nat}{K:St→Prop}{Q:Exit→Act→World→Prop}(hd:o.dst=some d)(hN:d<N)(h:XL P o σ r)(i:Inv cx N M β σ a w)(hk:K (oH σ d r)):
  o.wp P a w (I0 cx N M w K) Q:=by
 unfold Oper.wp
 rcases h cx N M β a w i with⟨v,e,hr⟩|⟨f,vs,e,hc⟩
 ·rw[e,Oper.upon_value,hd]
  exact⟨_,M,β,hk,i.put hN hr,Grow.refl _ _,b8.refl _ _⟩
 ·rw[e,Oper.upon_enter]
  refine hc.mono ?_
  rintro e' w' ⟨v,M',rfl,hr,i',hg,kG⟩
  simp only [hd]
  exact⟨_,M',β,hk,i'.put hN hr,hg,kG⟩
theorem LA{r:Option Nat}{o:Oper}{next:Act→World→Prop}{Q:Exit→Act→World→Prop}(XT:∀c,o.op≠.defer c)(h:o.wp P a w next Q):o.wpIn (FW r) 0 P a w next Q:=by
 refine⟨fun _ _=>trivial,?_⟩
 rw[Oper.semAt_eq _ _ _ XT]
 unfold Oper.wp at h
 generalize (execOp a.eval o).run P w=res at h ⊢
 unfold Oper.upon at h
 split at h
 ·exact h
 ·exact h
 ·exact h
 ·exact⟨fun e=>(by cases e),SL.2 h⟩
 ·exact⟨fun e=>(by cases e),VB.2 h⟩
 ·exact h
 ·cases h
theorem QB.op{rc:List Nat}{σ:St}{o:Oper}{fo:Operand}{l:List Operand}(h:QB rc σ o.op=some (fo,l)):∃args vQ,o.op=.call {callee:=.value fo,args:=args,argTypes:=vQ}∧args.toList=l:=by
 unfold QB at h
 split at h
 ·rename_i fo' args vQ nW
  split at h
  ·rename_i f cs hv
   cases hc:rc.contains f with
   |false=>rw[hc]at h;cases h
   |true=>rw[hc]at h;simp only [cond_true,Option.some.injEq,Prod.mk.injEq]at h;obtain⟨rfl,rfl⟩:=h;exact⟨_,_,nW,rfl⟩
  ·cases h
 ·cases h
theorem TK.sound(hT:b7 P T){o:Oper}{K:St→Prop}{Q:Exit→Act→World→Prop}(h:TK P T N ref rc o σ K)(aA:cx.ref=ref)(i:Inv cx N M β σ a w):
  o.wp P a w (I0 cx N M w K) Q:=by
 unfold TK at h
 split at h
 ·rename_i d hd
  cases hN:Nat.blt d N with
  |false=>rw[hN]at h;cases h
  |true=>
   rw[hN]at h
   have hN:d<N:=Nat.le_of_ble_eq_true hN
   simp only [cond_true]at h
   cases hx:LO o.op with
   |true=>
    rw[hx]at h
    simp only [cond_true]at h
    cases XV:VZ rc ref d with
    |true=>
     rw[XV]at h
     simp only [cond_true]at h
     obtain⟨zs,h⟩:=h
     unfold VZ at XV
     rw[Bool.and_eq_true]at XV
     obtain⟨M1,i1,g1⟩:=i.BD (aA.trans (List.isEmpty_iff.1 XV.2)) zs
     obtain⟨r,bx,hk,v,w',M',β',a6,hr,hi,hg,kG⟩:=ID.spec hT h aA i1
     unfold Oper.wp
     rcases a6 with a6|⟨a6,rfl⟩
     ·rw[a6,Oper.upon_value,hd]
      exact⟨_,M',β',hk,hi.put (σ:=⟨(BD zs σ).env,bx⟩) hN hr,g1.trans hg,kG⟩
     ·rw[a6,Oper.upon_skip,hd]
      exact⟨_,M',β',hk,hi.put (σ:=⟨(BD zs σ).env,bx⟩) hN hr,g1.trans hg,kG⟩
    |false=>
    rw[XV]at h
    simp only [cond_false]at h
    obtain⟨r,bx,hk,v,w',M',β',a6,hr,hi,hg,kG⟩:=ID.spec hT h aA i
    unfold Oper.wp
    rcases a6 with a6|⟨a6,rfl⟩
    ·rw[a6,Oper.upon_value,hd]
     exact⟨_,M',β',hk,hi.put (σ:=⟨σ.env,bx⟩) hN hr,hg,kG⟩
    ·rw[a6,Oper.upon_skip,hd]
     exact⟨_,M',β',hk,hi.put (σ:=⟨σ.env,bx⟩) hN hr,hg,kG⟩
   |false=>
    rw[hx]at h
    simp only [cond_false]at h
    split at h
    ·rename_i fo args hR
     cases XV:VZ rc ref d with
     |true=>
      rw[XV]at h
      simp only [cond_true]at h
      obtain⟨zs,h⟩:=h
      unfold VZ at XV
      rw[Bool.and_eq_true]at XV
      obtain⟨M1,i1,g1⟩:=i.BD (aA.trans (List.isEmpty_iff.1 XV.2)) zs
      obtain⟨v,bx,hk,hs⟩:=aBA.spec (QB.op hR) h
      obtain⟨f,vs,a6,dV⟩:=hs cx N M1 β a w i1
      unfold Oper.wp
      rw[a6,Oper.upon_enter]
      refine dV.mono ?_
      rintro e' w' ⟨v',M',β',rfl,hr,i',hg,kG⟩
      simp only [hd]
      exact⟨_,M',β',hk,i'.put (σ:=⟨(BD zs σ).env,bx⟩) hN hr,g1.trans hg,kG⟩
     |false=>
     rw[XV]at h
     simp only [cond_false]at h
     obtain⟨v,bx,hk,hs⟩:=aBA.spec (QB.op hR) h
     obtain⟨f,vs,a6,dV⟩:=hs cx N M β a w i
     unfold Oper.wp
     rw[a6,Oper.upon_enter]
     refine dV.mono ?_
     rintro e' w' ⟨v',M',β',rfl,hr,i',hg,kG⟩
     simp only [hd]
     exact⟨_,M',β',hk,i'.put (σ:=⟨σ.env,bx⟩) hN hr,hg,kG⟩
    ·split at h
     ·rename_i fo args hR
      obtain⟨hr0,hR⟩:=OK.op hR
      obtain⟨v,bx,hk,hs⟩:=eat.spec hR h
      obtain⟨f,vs,a6,dV⟩:=hs cx N M β a w (by rw[aA,hr0]) i
      unfold Oper.wp
      rw[a6,Oper.upon_enter]
      refine dV.mono ?_
      rintro e' w' ⟨v',M',β',rfl,hr,i',hg,kG⟩
      simp only [hd]
      exact⟨_,M',β',hk,i'.put (σ:=⟨σ.env,bx⟩) hN hr,hg,kG⟩
     split at h
     ·rename_i l k hq
      obtain⟨v,a6,hv⟩:=AT.spec hT hq i
      unfold Oper.wp
      rw[a6,Oper.upon_value,hd]
      exact⟨_,M,β,h _ rfl,i.put hN hv,Grow.refl _ _,b8.refl _ _⟩
     split at h
     ·rename_i n p hq
      obtain⟨b,hb,a6⟩:=GF.spec hT hq i
      unfold Oper.wp
      rw[a6,Oper.upon_value,hd]
      exact⟨_,M,β,h b hb,i.put hN rfl,Grow.refl _ _,b8.refl _ _⟩
     ·obtain⟨r,hk,hs⟩:=lR.spec hT h
      exact EX hd hN (hs iD) i hk
 ·rename_i hd
  cases hx:LO o.op with
  |false=>rw[hx]at h;cases h
  |true=>
   rw[hx]at h
   obtain⟨r,bx,hk,v,w',M',β',a6,hr,hi,hg,kG⟩:=ID.spec hT h aA i
   unfold Oper.wp
   rcases a6 with a6|⟨a6,rfl⟩
   ·rw[a6,Oper.upon_value,hd]
    exact⟨_,M',β',hk,hi,hg,kG⟩
   ·rw[a6,Oper.upon_skip,hd]
    exact⟨_,M',β',hk,hi,hg,kG⟩
theorem lR.nd{o:Oper}{σ:St}{g:Option Bool}{K:AV→Prop}(h:lR P T o.op σ g K):∀c,o.op≠.defer c:=by
 intro c e
 rw[e]at h
 cases h
theorem TK.nd{o:Oper}{K:St→Prop}(h:TK P T N ref rc o σ K):∀c,o.op≠.defer c:=by
 intro c e
 unfold TK at h
 rw[e]at h
 split at h
 ·rename_i d hd
  cases hN:Nat.blt d N with
  |false=>rw[hN]at h;cases h
  |true=>rw[hN]at h;cases h
 ·cases h
theorem z1.sound{o:Oper}{K:St→Prop}(h:z1 N o σ K)(i:Inv cx N M β σ a w):
  I0 cx N M w K (a.put o.dst undef) w:=by
 unfold z1 at h
 split at h
 ·rename_i d hd
  cases hN:Nat.blt d N with
  |false=>rw[hN]at h;cases h
  |true=>
   rw[hN]at h
   have hN:d<N:=Nat.le_of_ble_eq_true hN
   rw[hd]
   exact⟨_,M,β,h,i.put hN trivial,Grow.refl _ _,b8.refl _ _⟩
 ·rename_i hd
  rw[hd]
  exact⟨_,M,β,h,i,Grow.refl _ _,b8.refl _ _⟩
theorem WI{A:Array Value}{t:Nat}{b:Bool}(h:A.getD t undef=.bool b):A[t]? =some (.bool b):=by
 by_cases ht:t<A.size
 ·simp[ht]at h ⊢;exact h
 ·simp[ht,undef]at h
theorem pC{all:List Oper}{o:Oper}{j t:Nat}{nA b:Bool}(hg:o.guard=some (j,nA))(hj:sO all j=some t)(hb:a.tmps.getD t undef=.bool b):
  Region.wanted o (yielded all.toArray a.tmps)=(b==nA):=by
 have h1:((all[j]?).bind (·.dst))=some t:=hj
 simp[Region.wanted,hg,yielded,h1,WI hb]
theorem zP{all:List Oper}{o:Oper}{j t:Nat}{nA:Bool}(hg:o.guard=some (j,nA))(hj:sO all j=some t)(hb:a.tmps.getD t undef=undef):
  Region.wanted o (yielded all.toArray a.tmps)=false:=by
 have h1:((all[j]?).bind (·.dst))=some t:=hj
 have h2:∀b,a.tmps[t]? ≠some (.bool b):=by
  intro b e
  simp[e,undef]at hb
 simp only [Region.wanted,hg,yielded]
 simp[h1]
theorem YL{t:Nat}{b nA:Bool}(i:Inv cx N M β σ a w)(hv:eY σ.env t=.s (.d (.val (.bool b))))(hb:b=nA):Inv cx N M β (oH σ t (.s (.d (.lit nA)))) a w:=by
 refine⟨i.defers,i.tmps,i.heap,fun u=>?_,i.mem,i.keys,i.box,i.inj,i.apart,i.low,i.ref⟩
 simp only [oH]
 rw[gA]
 split
 ·rename_i h
  subst h
  have:=i.env t
  rw[hv]at this
  rw[←hb]
  exact this
 ·exact i.env u
theorem TA{t:Nat}{b nA c:Bool}(i:Inv cx N M β σ a w)(hv:eY σ.env t=.ib c (.d (.val (.bool b))))(hc:c=true)(hb:b=nA):Inv cx N M β (oH σ t (.s (.d (.lit nA)))) a w:=by
 refine⟨i.defers,i.tmps,i.heap,fun u=>?_,i.mem,i.keys,i.box,i.inj,i.apart,i.low,i.ref⟩
 simp only [oH]
 rw[gA]
 split
 ·rename_i h
  subst h
  have:=i.env t
  rw[hv]at this
  rw[←hb]
  exact this.1 hc
 ·exact i.env u
theorem I0.trans{K:St→Prop}{M1:Mem}{w1:World}{a':Act}{w':World}(hg:Grow cx.B M M1)(hk:b8 cx w w1)(h:I0 cx N M1 w1 K a' w'):I0 cx N M w K a' w':=by
 obtain⟨σ',M',β',h1,h2,h3,h4⟩:=h
 exact⟨σ',M',β',h1,h2,hg.trans h3,hk.trans h4⟩
theorem lF.QR(hT:b7 P T){all:List Oper}{K:St→Prop}{Q:Exit→Act→World→Prop}(aA:cx.ref=ref)(l2:List Oper):∀(l:List Oper) {M:Mem} {β:Nm} {σ:St} {a:Act} {w:World},
  lF P T N ref rc all l σ K→Inv cx N M β σ a w→(∀a' w',I0 cx N M w K a' w'→wpListIn (FW cx.rd) 0 P all.toArray Q l2 a' w')→wpListIn (FW cx.rd) 0 P all.toArray Q (l++l2) a w
 |[],M,β,σ,a,w,h,i,hQ=>hQ a w ⟨σ,M,β,h,i,Grow.refl _ _,b8.refl _ _⟩
 |o::rest,M,β,σ,a,w,h,i,hQ=>by
  have next:∀{a' w'},I0 cx N M w (fun σ'=>lF P T N ref rc all rest σ' K) a' w'→wpListIn (FW cx.rd) 0 P all.toArray Q (rest++l2) a' w':=by
   rintro a' w' ⟨σ',M',β',h1,h2,h3,h4⟩
   exact lF.QR hT aA l2 rest h1 h2 fun a2 w2 hp=>hQ a2 w2 (hp.trans h3 h4)
  have yes:∀{σ0:St},Inv cx N M β σ0 a w→TK P T N ref rc o σ0 (fun σ'=>lF P T N ref rc all rest σ' K)→Region.wanted o (yielded all.toArray a.tmps)=true→wpListIn (FW cx.rd) 0 P all.toArray Q (o::(rest++l2)) a w:=by
   intro σ0 i0 h hw
   unfold wpListIn
   rw[if_pos hw]
   exact LA (TK.nd h) (Oper.wp_mono (fun a' w' hp=>next hp) (TK.sound hT h aA i0))
  have no:∀{σ0:St},Inv cx N M β σ0 a w→z1 N o σ0 (fun σ'=>lF P T N ref rc all rest σ' K)→Region.wanted o (yielded all.toArray a.tmps)=false→wpListIn (FW cx.rd) 0 P all.toArray Q (o::(rest++l2)) a w:=by
   intro σ0 i0 h hw
   unfold wpListIn
   rw[if_neg (by simp[hw])]
   exact⟨fun _ _=>trivial,next (z1.sound h i0)⟩
  have part:∀{d:Nat} {gb:Bool},o.dst=some d→d<N→lR P T o.op σ (some gb) (fun v=>lF P T N ref rc all rest (oH σ d (vV gb v)) K)→
    Region.wanted o (yielded all.toArray a.tmps)=gb→wpListIn (FW cx.rd) 0 P all.toArray Q (o::(rest++l2)) a w:=by
   intro d gb hd hN h hw
   obtain⟨r,hk,hs⟩:=lR.spec hT h
   unfold wpListIn
   cases hgb:gb with
   |true=>
    rw[if_pos (by rw[hw,hgb])]
    have GX:act (some gb):=fun c e=>by cases e;exact hgb
    have hdo:XL P o σ (vV gb r):=by
     intro cx N M β a w i
     have Z0:∀{M β v},r.bD M β v→(vV gb r).bD M β v:=by
      intro M β v hr
      cases r with
      |s x=>exact⟨fun _=>hr,fun h=>by rw[hgb]at h;cases h⟩
      |g cs=>exact⟨fun _=>hr,fun h=>by rw[hgb]at h;cases h⟩
      |_=>exact trivial
     rcases hs GX cx N M β a w i with⟨v,e,hr⟩|⟨f,vs,e,hc⟩
     ·exact .inl ⟨v,e,Z0 hr⟩
     ·exact .inr ⟨f,vs,e,hc.mono fun e' w' ⟨v,M',h1,h2,h3⟩=>⟨v,M',h1,Z0 h2,h3⟩⟩
    exact LA (lR.nd h) (Oper.wp_mono (fun a' w' hp=>next hp) (EX hd hN hdo i hk))
   |false=>
    rw[if_neg (by rw[hw,hgb];simp)]
    refine⟨fun _ _=>trivial,next ⟨_,M,β,hk,?_,Grow.refl _ _,b8.refl _ _⟩⟩
    rw[hd]
    refine i.put hN ?_
    cases r with
    |s x=>exact⟨fun h=>(by rw[hgb]at h;cases h),fun _=>rfl⟩
    |g cs=>exact⟨fun h=>(by rw[hgb]at h;cases h),fun _=>rfl⟩
    |_=>exact trivial
  replace h:YD P T N ref rc all o (lF P T N ref rc all rest) σ K:=h
  unfold YD at h
  split at h
  ·rename_i hg
   exact yes i h (by simp[Region.wanted,hg])
  ·rename_i j nA hg
   split at h
   ·cases h
   ·rename_i t ht
    split at h
    ·rename_i b hv
     have hb:a.tmps.getD t undef=.bool b:=by have:=i.env t;rw[hv]at this;exact this
     have hw:=pC hg ht hb
     cases b <;> cases nA
     ·exact yes i h hw
     ·exact no i h hw
     ·exact no i h hw
     ·exact yes i h hw
    ·rename_i b hv
     have hb:a.tmps.getD t undef=.bool b:=by have:=i.env t;rw[hv]at this;exact this
     have hw:=pC hg ht hb
     cases hx:isS rc σ o.op with
     |true=>
      rw[hx]at h
      by_cases hbp:b=nA
      ·exact yes (YL i hv hbp) (h.1 hbp) (by rw[hw,hbp];simp)
      ·have hbn:b= !nA:=by cases b <;> cases nA <;> first|rfl|exact absurd rfl hbp
       exact no (YL i hv hbn) (h.2 hbn) (by rw[hw,hbn];cases nA <;> rfl)
     |false=>
      rw[hx]at h
      simp only at h
      split at h
      ·rename_i d hd
       cases hN:Nat.blt d N with
       |false=>rw[hN]at h;cases h
       |true=>
        rw[hN]at h
        exact part hd (Nat.le_of_ble_eq_true hN) h (by rw[hw];cases b <;> cases nA <;> rfl)
      ·cases h
    ·rename_i c b hv
     have hr:(AV.ib c (.d (.val (.bool b)))).bD M β (a.tmps.getD t undef):=by have:=i.env t;rw[hv]at this;exact this
     have hw:Region.wanted o (yielded all.toArray a.tmps)=(c&&rL nA b):=by
      cases c with
      |true=>rw[pC hg ht (hr.1 rfl)];cases b <;> cases nA <;> rfl
      |false=>exact zP hg ht (hr.2 rfl)
     split at h
     ·obtain⟨h1,h2,h3⟩:=h
      cases c with
      |false=>exact no i (h3 rfl) (by rw[hw];rfl)
      |true=>
       by_cases hbp:b=nA
       ·exact yes (TA i hv rfl hbp) (h1 rfl hbp) (by rw[hw,hbp];cases nA <;> rfl)
       ·have hbn:b= !nA:=by cases b <;> cases nA <;> first|rfl|exact absurd rfl hbp
        exact no (TA i hv rfl hbn) (h2 rfl hbn) (by rw[hw,hbn];cases nA <;> rfl)
     ·split at h
      ·rename_i d hd
       cases hN:Nat.blt d N with
       |false=>rw[hN]at h;cases h
       |true=>
        rw[hN]at h
        exact part hd (Nat.le_of_ble_eq_true hN) h hw
      ·cases h
    ·cases h
theorem lF.sound(hT:b7 P T){all:List Oper}{K:St→Prop}{Q:Exit→Act→World→Prop}(aA:cx.ref=ref)(l:List Oper){M:Mem}{β:Nm}{σ:St}{a:Act}{w:World}
  (h:lF P T N ref rc all l σ K) (i:Inv cx N M β σ a w) (hQ:∀a' w',I0 cx N M w K a' w'→Q .normal a' w'):wpListIn (FW cx.rd) 0 P all.toArray Q l a w:=by
 have:=lF.QR (Q:=Q) hT aA [] l h i (fun a' w' hp=>wpListIn_nil (hQ a' w' hp))
 rwa [List.append_nil]at this
end
def vU(xs:List Nat)(σ σ':St):Prop:=∀x,x∈xs→aH σ'.box x=aH σ.box x
theorem dS.congr{σ σ':St}:∀(n:Nat) (x:SV),vU (reach n σ x) σ σ'→dS n σ' x=dS n σ x:=by
 intro n
 induction n with
 |zero=>
  intro x h
  cases x with
  |own x=>simp only [dS,h x (by simp[reach])]
  |mo z x=>simp only [dS,h x (by simp[reach])]
  |jH x s lo m=>simp only [dS,h x (by simp[reach])]
  |_=>rfl
 |succ n ih=>
  intro x h
  cases x with
  |d x=>rfl
  |ptr x off=>
   simp only [dS,h x (by simp[reach])]
   cases hb:aH σ.box x with
   |none=>rfl
   |some y=>cases y with
    |none=>rfl
    |some bc=>cases bc with
     |row e n s f=>rfl
     |cA e n s f=>rfl
     |map vk l=>rfl
     |smap vk l=>rfl
     |dm l n=>rfl
     |fresh T vs=>rfl
     |iter q n t=>rfl
     |cells cs=>
      simp only
      congr 1
      funext j
      cases hc:cs[off+j]? with
      |none=>rfl
      |some c=>exact ih c (fun m hm=>h m (by simp only [reach,hb];exact List.mem_cons_of_mem _ (iA hc hm)))
  |own x=>simp only [dS,h x (by simp[reach])]
  |mo z x=>simp only [dS,h x (by simp[reach])]
  |rw x i s o=>rfl
  |mp x=>rfl
  |jH x s lo m=>
   simp only [dS,h x (by simp[reach])]
   cases hb:aH σ.box x with
   |none=>rfl
   |some y=>cases y with
    |none=>rfl
    |some bc=>cases bc with
     |row e n s f=>rfl
     |cA e n s f=>rfl
     |map vk l=>rfl
     |smap vk l=>rfl
     |dm l n=>rfl
     |fresh T vs=>rfl
     |iter q n t=>rfl
     |cells cs=>
      simp only
      congr 1
      congr 1
      funext i j
      cases hc:cs[(lo+i)*s+j]? with
      |none=>rfl
      |some c=>exact ih c (fun m hm=>h m (by simp only [reach,hb];exact List.mem_cons_of_mem _ (iA hc hm)))
  |dR f cs=>
   simp only [dS]
   congr 1
   funext i
   cases hc:cs[i]? with
   |none=>rfl
   |some c=>cases c with
    |d x=>rfl
    |ptr x off=>exact ih (.ptr x off) (fun m hm=>h m (iA (f:=fun c=>match c with|.d _=>[]|.ptr x off=>reach n σ (.ptr x off)) hc hm))
theorem vU.mono{xs ys:List Nat}{σ σ':St}(h:vU xs σ σ')(hs:∀x,x∈ys→x∈xs):vU ys σ σ':=fun x hx=>h x (hs x hx)
theorem YY{σ:St}:∀(n:Nat) (x:SV) (m:Nat),m∈reach n σ x→m∈reach (n+1) σ x:=by
 intro n
 induction n with
 |zero=>
  intro x m h
  cases x with
  |ptr x off=>simp[reach]at h;subst h;simp[reach]
  |dR f cs=>simp[reach]at h
  |jH x s lo q=>simp[reach]at h;subst h;simp[reach]
  |_=>exact h
 |succ n ih=>
  intro x m h
  have lift:∀{α:Type} {f g:α→List Nat} (_:∀c,m∈f c→m∈g c) {l:List α},m∈dM f l→m∈dM g l:=by
   intro α f g hfg l
   induction l with
   |nil=>exact fun h=>h
   |cons c r ihl=>
    intro h
    simp only [dM,List.mem_append]at h ⊢
    exact h.imp (hfg c) ihl
  cases x with
  |ptr x off=>
   simp only [reach,List.mem_cons]at h ⊢
   refine h.imp id ?_
   cases hb:aH σ.box x with
   |none=>simp
   |some y=>cases y with
    |none=>simp
    |some bc=>cases bc with
     |row e n s f=>simp
     |cA e n s f=>simp
     |map vk l=>simp
     |smap vk l=>simp
     |dm l n=>simp
     |fresh T vs=>simp
     |iter q n t=>simp
     |cells cs=>exact lift (fun c hc=>ih c m hc)
  |jH x s lo q=>
   simp only [reach,List.mem_cons]at h ⊢
   refine h.imp id ?_
   cases hb:aH σ.box x with
   |none=>simp
   |some y=>cases y with
    |none=>simp
    |some bc=>cases bc with
     |row e n s f=>simp
     |cA e n s f=>simp
     |map vk l=>simp
     |smap vk l=>simp
     |dm l n=>simp
     |fresh T vs=>simp
     |iter q n t=>simp
     |cells cs=>exact lift (fun c hc=>ih c m hc)
  |dR f cs=>
   simp only [reach]at h ⊢
   refine lift (fun c hc=>?_) h
   cases c with
   |d x=>exact hc
   |ptr x off=>exact ih _ m hc
  |_=>exact h
theorem uV.congr{σ σ':St}{x:SV}(h:vU (reach 4 σ x) σ σ'):uV σ' x=uV σ x:=by
 unfold uV
 rw[dS.congr 3 x (h.mono (fun m hm=>YY 3 x m hm))]
theorem j9.congr{σ σ':St}:∀{cs:List SV},vU (dM (reach 4 σ) cs) σ σ'→j9 σ' cs=j9 σ cs
 |[],_=>rfl
 |c::r,h=>by
  simp only [j9]
  rw[uV.congr (h.mono fun m hm=>List.mem_append_left _ hm),j9.congr (cs:=r) (h.mono fun m hm=>List.mem_append_right _ hm)]
theorem oZ.congr{σ σ':St}{x:AV}(h:vU (bV σ x) σ σ'):oZ σ' x=oZ σ x:=by
 cases x with
 |s x=>simp only [oZ];rw[uV.congr h]
 |g cs=>simp only [oZ];rw[j9.congr h]
 |_=>rfl
theorem iI.congr{σ σ':St}:∀{l:List AV},vU (dM (bV σ) l) σ σ'→iI σ' l=iI σ l
 |[],_=>rfl
 |c::r,h=>by
  simp only [iI]
  rw[oZ.congr (h.mono fun m hm=>List.mem_append_left _ hm),iI.congr (l:=r) (h.mono fun m hm=>List.mem_append_right _ hm)]
def BS(v r:AV):Prop:=v=r∨(∃b x,v=.ib b x∧r=.s x)∨(∃b cs,v=.ig b cs∧r=.g cs)
theorem BS.reach{v r:AV}(h:BS v r)(σ:St):bV σ r=bV σ v:=by
 rcases h with rfl|⟨b,x,rfl,rfl⟩|⟨b,cs,rfl,rfl⟩ <;> rfl
theorem fe.imp{g:Option Bool}{v:AV}{K K':AV→Prop}(hk:∀r,BS v r→K r→K' r)(h:fe g v K):fe g v K':=by
 cases v with
 |s x=>exact hk _ (.inl rfl) h
 |g cs=>exact hk _ (.inl rfl) h
 |t ts=>exact hk _ (.inl rfl) h
 |ib b x=>cases g with
  |none=>exact⟨h.1,hk _ (.inr (.inl ⟨b,x,rfl,rfl⟩)) h.2⟩
  |some gb=>exact⟨h.1,hk _ (.inr (.inl ⟨b,x,rfl,rfl⟩)) h.2⟩
 |ig b cs=>cases g with
  |none=>exact⟨h.1,hk _ (.inr (.inr ⟨b,cs,rfl,rfl⟩)) h.2⟩
  |some gb=>exact⟨h.1,hk _ (.inr (.inr ⟨b,cs,rfl,rfl⟩)) h.2⟩
section
variable{P:Program}{T:List (Nat×bP)}{σ σ':St}{g:Option Bool}{K:AV→Prop}
theorem jU.congr{agg:Bool}{size:Nat}{va:AV}(h:vU (bV σ va) σ σ')(k:jU σ agg size g va K):jU σ' agg size g va K:=by
 unfold jU at*
 cases va with
 |s x=>cases x with
  |ptr x off=>simp only [h x (by simp[bV,reach])];exact k
  |rw x i s o=>simp only [h x (by simp[bV,reach])];exact k
  |d x=>cases x <;> exact k
  |_=>exact k
 |_=>exact k
theorem pU.congr{t:Nat}{va vi:AV}(h:vU (bV σ va) σ σ')(k:pU T σ t g va vi K):pU T σ' t g va vi K:=by
 have e:pU T σ' t g va vi K=pU T σ t g va vi K:=by
  unfold pU
  cases va with
  |s x=>cases x with
   |own x=>
    have hh:=h x (by simp[bV,reach])
    cases cZ T t with
    |none=>rfl
    |some ti=>
     simp only
     generalize ti.jK=u
     cases u with
     |slice e=>
      simp only
      cases cZ T e with
      |none=>rfl
      |some te=>
       cases vi with
       |s y=>cases y with
        |d z=>cases z with
         |val v=>cases v <;> first|rfl|simp only [hh]
         |_=>rfl
        |_=>rfl
       |_=>rfl
     |_=>rfl
   |mo z x=>
    have hh:=h x (by simp[bV,reach])
    cases cZ T t with
    |none=>rfl
    |some ti=>
     simp only
     generalize ti.jK=u
     cases u with
     |slice e=>
      simp only
      cases cZ T e with
      |none=>rfl
      |some te=>
       cases vi with
       |s y=>cases y with
        |d z=>cases z with
         |val v=>cases v <;> first|rfl|simp only [hh]
         |_=>rfl
        |_=>rfl
       |_=>rfl
     |_=>rfl
   |jH x s lo m=>
    have hh:=h x (by simp[bV,reach])
    cases cZ T t with
    |none=>rfl
    |some ti=>
     simp only
     generalize ti.jK=u
     cases u with
     |slice e=>
      simp only
      cases cZ T e with
      |none=>rfl
      |some te=>
       cases vi with
       |s y=>cases y with
        |d z=>cases z with
         |val v=>cases v <;> first|rfl|simp only [hh]
         |_=>rfl
        |_=>rfl
       |_=>rfl
     |_=>rfl
   |d x=>cases x <;> rfl
   |_=>rfl
  |_=>rfl
 rw[e];exact k
theorem pS.congr{t:Nat}{va:AV}(h:vU (bV σ va) σ σ')(k:pS T σ t va K):pS T σ' t va K:=by
 have e:pS T σ' t va K=pS T σ t va K:=by
  unfold pS
  cases cZ T t with
  |none=>rfl
  |some ti=>
   simp only
   generalize ti.jK=u
   cases va with
   |s x=>cases x with
    |own x=>
     have hh:=h x (by simp[bV,reach])
     cases u <;> first|rfl|simp only [hh]
    |mo z x=>
     have hh:=h x (by simp[bV,reach])
     cases u <;> first|rfl|simp only [hh]
    |d x=>cases x with
     |val v=>cases v <;> cases u <;> rfl
     |_=>cases u <;> rfl
    |_=>cases u <;> rfl
   |_=>cases u <;> rfl
 rw[e];exact k
theorem l9.congr{f:FuncId}{args:List AV}(h:vU (dM (bV σ) args) σ σ')(k:l9 P σ g f args K):l9 P σ' g f args K:=by
 unfold l9 at*
 rw[iI.congr h]
 exact k
theorem reach.congr:∀(n:Nat) (x:SV),vU (reach n σ x) σ σ'→reach n σ' x=reach n σ x:=by
 intro n
 induction n with
 |zero=>intro x _;cases x <;> rfl
 |succ n ih=>
  intro x h
  have cat:∀{α:Type} (f f':α→List Nat) (l:List α),(∀c,c∈l→f' c=f c)→dM f' l=dM f l:=by
   intro α f f' l hl
   induction l with
   |nil=>rfl
   |cons c r ihl=>simp only [dM];rw[hl c sM,ihl (fun c hc=>hl c (List.mem_cons_of_mem _ hc))]
  cases x with
  |ptr x off=>
   simp only [reach,h x (by simp[reach])]
   congr 1
   cases hb:aH σ.box x with
   |none=>rfl
   |some y=>cases y with
    |none=>rfl
    |some bc=>cases bc with
     |row e n s f=>rfl
     |cA e n s f=>rfl
     |map vk l=>rfl
     |smap vk l=>rfl
     |dm l n=>rfl
     |fresh T vs=>rfl
     |iter q n t=>rfl
     |cells cs=>
      simp only
      refine cat _ _ cs (fun c hc=>ih c (fun m hm=>h m ?_))
      simp only [reach,hb]
      obtain⟨j,hj⟩:=List.getElem?_of_mem hc
      exact List.mem_cons_of_mem _ (iA hj hm)
  |jH x s lo q=>
   simp only [reach,h x (by simp[reach])]
   congr 1
   cases hb:aH σ.box x with
   |none=>rfl
   |some y=>cases y with
    |none=>rfl
    |some bc=>cases bc with
     |row e n s f=>rfl
     |cA e n s f=>rfl
     |map vk l=>rfl
     |smap vk l=>rfl
     |dm l n=>rfl
     |fresh T vs=>rfl
     |iter q n t=>rfl
     |cells cs=>
      simp only
      refine cat _ _ cs (fun c hc=>ih c (fun m hm=>h m ?_))
      simp only [reach,hb]
      obtain⟨j,hj⟩:=List.getElem?_of_mem hc
      exact List.mem_cons_of_mem _ (iA hj hm)
  |dR f cs=>
   simp only [reach]
   refine cat _ _ cs (fun c hc=>?_)
   cases c with
   |d x=>rfl
   |ptr x off=>
    refine ih _ (fun m hm=>h m ?_)
    obtain⟨j,hj⟩:=List.getElem?_of_mem hc
    exact iA (f:=fun c=>match c with|.d _=>[]|.ptr x off=>reach n σ (.ptr x off)) hj hm
  |_=>rfl
theorem bV.congr(v:AV):vU (bV σ v) σ σ'→bV σ' v=bV σ v:=by
 have lM:∀cs:List SV,vU (dM (reach 4 σ) cs) σ σ'→dM (reach 4 σ') cs=dM (reach 4 σ) cs:=by
  intro cs
  induction cs with
  |nil=>intro _;rfl
  |cons c r ih=>intro h;simp only [dM];rw[reach.congr 4 c (h.mono fun m hm=>List.mem_append_left _ hm),ih (h.mono fun m hm=>List.mem_append_right _ hm)]
 intro h
 cases v with
 |s x=>exact reach.congr 4 x h
 |ib b x=>exact reach.congr 4 x h
 |g cs=>exact lM cs h
 |ig b cs=>exact lM cs h
 |t ts=>rfl
theorem YZ.congr:∀(l:List AV),vU (dM (bV σ) l) σ σ'→dM (bV σ') l=dM (bV σ) l
 |[],_=>rfl
 |v::r,h=>by
  simp only [dM]
  rw[bV.congr v (h.mono fun m hm=>List.mem_append_left _ hm),YZ.congr r (h.mono fun m hm=>List.mem_append_right _ hm)]
theorem mO.congr{ren:List (Nat×Nat)}:∀{bx:eJ},(∀x,x∈names bx→aH σ'.box (look ren x)=aH σ.box (look ren x))→mO ren σ.box bx→mO ren σ'.box bx
 |[],_,_=>trivial
 |(x,b)::r,h,⟨h1,h2⟩=>⟨(h x (by simp[names])).trans h1,mO.congr (fun y hy=>h y (by simp only [names];exact List.mem_cons_of_mem _ hy)) h2⟩
theorem BX.congr{f:FuncId}{args:List AV}{r:AV}(h:vU (dM (bV σ) args) σ σ')(k:BX P σ f args r):BX P σ' f args r:=by
 obtain⟨ren,ar,bx,hc,he,hm,fG,hf,hx⟩:=k
 have OP:∀x,x∈names bx→look ren x∈dM (bV σ) args:=fun x LU=>by
  rw[List.all_eq_true]at hx
  simpa using hx x LU
 refine⟨ren,ar,bx,hc,he,hm.congr (fun x LU=>h _ (OP x LU)),fG,hf,?_⟩
 rw[YZ.congr args h]
 exact hx
theorem kY.congr{f:FuncId}{args:List AV}(h:vU (dM (bV σ) args) σ σ')(k:kY P σ g f args K):kY P σ' g f args K:=by
 rcases k with k|⟨r,h1,h2⟩
 ·exact .inl (l9.congr h k)
 ·refine .inr ⟨r,?_,h2⟩
  cases g with
  |none=>exact BX.congr h h1
  |some b=>exact fun hb=>BX.congr h (h1 hb)
theorem xF{α:Type}(f:α→List Nat):∀(a b:List α),dM f (a++b)=dM f a++dM f b
 |[],b=>rfl
 |x::a,b=>by simp only [List.cons_append,dM,xF f a b,List.append_assoc]
theorem CA(n:Nat):∀(cs:List CV) (m:Nat),m∈dM (bV σ) (vL cs)→n=4→m∈dM (fun c=>match c with|.d _=>[]|.ptr x off=>reach 4 σ (.ptr x off)) cs
 |[],_,h,_=>h
 |.d _::r,m,h,hn=>by
  simp only [vL,dM,bV,reach,List.nil_append]at h ⊢
  exact CA n r m h hn
 |.ptr x off::r,m,h,hn=>by
  simp only [vL,dM,List.mem_append]at h ⊢
  exact h.imp id (fun h=>CA n r m h hn)
theorem HK(c:Nat→DV):∀(k j m:Nat),m∈dM (bV σ) (iJ c k j)→False
 |0,_,_,h=>by simp[iJ,dM]at h
 |k+1,j,m,h=>by
  simp only [iJ,dM,bV,reach,List.nil_append]at h
  exact HK c k (j+1) m h
theorem O7(c:Nat→DV):∀(k j m:Nat),m∈dM (reach 4 σ) (gD c k j)→False
 |0,_,_,h=>by simp[gD,dM]at h
 |k+1,j,m,h=>by
  simp only [gD,dM,reach,List.nil_append]at h
  exact O7 c k (j+1) m h
def tN(σ:St):AV→List Nat
 |.s (.dR _ cs)=>dM (fun c=>match c with|.d _=>[]|.ptr x off=>reach 4 σ (.ptr x off)) cs
 |.ib _ (.dR _ cs)=>dM (fun c=>match c with|.d _=>[]|.ptr x off=>reach 4 σ (.ptr x off)) cs
 |_=>[]
theorem BS.tN{v r:AV}(h:BS v r)(σ:St):tN σ r=tN σ v:=by
 rcases h with rfl|⟨b,x,rfl,rfl⟩|⟨b,cs,rfl,rfl⟩
 ·rfl
 ·cases x <;> rfl
 ·rfl
theorem mA.congr{vf:AV}{args:List AV}(h:vU (tN σ vf++dM (bV σ) args) σ σ')(k:mA P σ g vf args K):mA P σ' g vf args K:=by
 unfold mA at*
 split at k
 ·refine kY.congr (fun m hm=>h m ?_) k
  rw[xF,List.mem_append]at hm
  rcases hm with hm|hm
  ·exact List.mem_append_right _ hm
  ·exact List.mem_append_left _ (CA 4 _ m hm rfl)
 ·refine kY.congr (fun m hm=>h m ?_) k
  rw[xF,List.mem_append]at hm
  rcases hm with hm|hm
  ·exact List.mem_append_right _ hm
  ·exact(HK _ _ _ m hm).elim
 ·refine l9.congr (fun m hm=>h m ?_) k
  simp only [dM,List.mem_append]at hm
  rcases hm with hm|hm
  ·exact(O7 _ _ _ m hm).elim
  ·exact List.mem_append_right _ hm
 ·exact k.elim
def UW(xs:List Operand)(σ σ':St):Prop:=∀x,x∈xs→ev σ' x=ev σ x
theorem dQ.congr:∀{l:List Operand} {K K':List AV→Prop},UW l σ σ'→(∀ars,(∀m,m∈dM (bV σ) ars→m∈dM (fun x=>bV σ (ev σ x)) l)→K ars→K' ars)→dQ g σ l K→dQ g σ' l K'
 |[],_,_,_,hk,h=>hk [] (fun m hm=>hm) h
 |x::r,K,K',he,hk,h=>by
  simp only [dQ]at*
  rw[he x sM]
  refine fe.imp (fun va hs h=>?_) h
  refine dQ.congr (fun y hy=>he y (List.mem_cons_of_mem _ hy)) (fun ars hm h=>hk _ ?_ h) h
  intro m LU
  simp only [dM,List.mem_append]at LU ⊢
  rcases LU with h1|h1
  ·rw[hs.reach σ]at h1;exact .inl h1
  ·exact .inr (hm m h1)
theorem ints.congr:∀{l:List Operand} {K:List (IntKind×Int)→Prop},UW l σ σ'→ints g σ l K→ints g σ' l K
 |[],_,_,h=>h
 |x::r,K,he,h=>by
  simp only [ints]at*
  rw[he x sM]
  refine fe.imp (fun va hs h=>?_) h
  split at h
  ·exact ints.congr (fun y hy=>he y (List.mem_cons_of_mem _ hy)) h
  ·cases h
theorem parts.congr:∀{l:List (Nat×Operand)} {K:List (Nat×List SV)→Prop},UW (l.map (·.2)) σ σ'→parts g σ l K→parts g σ' l K
 |[],_,_,h=>h
 |(i,x)::r,K,he,h=>by
  simp only [parts]at*
  rw[he x sM]
  refine fe.imp (fun va hs h=>?_) h
  split at h
  ·rename_i cs lM
   try simp only [lM]
   cases ho:lL cs with
   |false=>rw[ho]at h;cases h
   |true=>
    rw[ho]at h
    exact parts.congr (fun y hy=>he y (List.mem_cons_of_mem _ hy)) h
  ·cases h
theorem pL.congr:∀{l:List Operand},UW l σ σ'→pL σ' l=pL σ l
 |[],_=>rfl
 |x::r,he=>by
  simp only [pL]
  rw[he x sM,pL.congr (l:=r) (fun y hy=>he y (List.mem_cons_of_mem _ hy))]
def sE(σ:St)(op:Op):List Nat:=
 match op with
 |.call {callee:=.value fo,args, .. }=>tN σ (ev σ fo)++dM (fun x=>bV σ (ev σ x)) args.toList
 |.move _=>[]
 |.assign _=>[]
 |.pick _ _ _=>[]
 |.fieldAddr _ _ _=>[]
 |.nilCheck _=>[]
 |.binOp _ _ _ _ _=>[]
 |.unOp _ _ _=>[]
 |.convert _ _ _=>[]
 |.extract _ _=>[]
 |.build _ _=>[]
 |.makeFunc _ _ _=>[]
 |.store _ _ _=>[]
 |.box _ _=>[]
 |.alloc _=>[]
 |.buildSlice _ _ _=>[]
 |op=>dM (fun x=>bV σ (ev σ x)) op.operands.toList
theorem lR.congr{op:Op}(he:UW op.operands.toList σ σ')(hb:vU (sE σ op) σ σ')(h:lR P T op σ g K):lR P T op σ' g K:=by
 cases op with
 |move x=>simp only [lR]at*;rw[he x (by simp[Op.operands])];exact h
 |assign x=>simp only [lR]at*;rw[he x (by simp[Op.operands])];exact h
 |pick c x y=>simp only [lR]at*;rw[he c (by simp[Op.operands]),he x (by simp[Op.operands]),he y (by simp[Op.operands])];exact h
 |load t x=>
  simp only [lR]at*
  rw[he x (by simp[Op.operands])]
  refine fe.imp (fun va hs h=>?_) h
  split at h
  ·exact jU.congr (hb.mono (fun m hm=>by rw[hs.reach σ]at hm;simp[sE,Op.operands,dM,hm])) h
  ·cases h
 |fieldAddr s x f=>simp only [lR]at*;rw[he x (by simp[Op.operands])];exact h
 |binOp op t x y ty=>simp only [lR]at*;rw[he x (by simp[Op.operands]),he y (by simp[Op.operands])];exact h
 |unOp op t x=>simp only [lR]at*;rw[he x (by simp[Op.operands])];exact h
 |convert src dst x=>simp only [lR]at*;rw[he x (by simp[Op.operands])];exact h
 |nilCheck x=>simp only [lR]at*;rw[he x (by simp[Op.operands])];exact h
 |extract x k=>simp only [lR]at*;rw[he x (by simp[Op.operands])];exact h
 |indexAddr t x y=>
  simp only [lR]at*
  rw[he x (by simp[Op.operands]),he y (by simp[Op.operands])]
  refine fe.imp (fun va hs h=>?_) h
  refine fe.imp (fun vi _ h=>?_) h
  exact pU.congr (hb.mono (fun m hm=>by rw[hs.reach σ]at hm;simp[sE,Op.operands,dM,hm])) h
 |index t x y=>simp only [lR]at*;rw[he x (by simp[Op.operands]),he y (by simp[Op.operands])];exact h
 |lookup t x y ok=>
  simp only [lR]at*
  rw[he x (by simp[Op.operands]),he y (by simp[Op.operands])]
  refine fe.imp (fun va hs h1=>?_) h
  refine fe.imp (fun vi hv h2=>?_) h1
  have XX:vU (bV σ va) σ σ':=hb.mono (fun m hm=>by rw[hs.reach σ]at hm;simp[sE,Op.operands,dM,hm])
  clear h h1
  unfold qY at h2 ⊢
  cases hs:VY T t with
  |true=>
   simp only [hs]at h2 ⊢
   unfold pR at h2 ⊢
   split at h2
   case h_2=>exact h2.elim
   rename_i b k
   simp only [XX b (by simp[bV,reach])]
   exact h2
  |false=>
   simp only [hs]at h2 ⊢
   unfold wP at h2 ⊢
   split at h2
   case h_2=>exact h2.elim
   rename_i b k
   simp only [XX b (by simp[bV,reach])]
   exact h2
 |slice t x lo hi mx=>
  cases mx with
  |some m=>exact h.elim
  |none=>
   simp only [lR]at*
   rw[he x (by simp[Op.operands])]
   refine fe.imp (fun va hs h=>?_) h
   have CL:UW lo.toList σ σ':=fun y hy=>he y (by simp[Op.operands];exact .inr (.inl (by simpa using hy)))
   have RQ:UW hi.toList σ σ':=fun y hy=>he y (by simp[Op.operands];exact .inr (.inr (by simpa using hy)))
   unfold kH at*
   split at h <;> try (cases h)
   rename_i ti fS
   try simp only [fS]
   split at h
   ·rename_i e hu
    try simp only [hu]
    split at h <;> try (cases h)
    rename_i te mG
    try simp only [mG]
    split at h
    case h_5=>cases h
    case h_4=>
     cases lo with
     |none=>
      simp only [fX]at h ⊢
      cases hi with
      |none=>exact h
      |some y=>simp only at h ⊢;rw[RQ y sM];exact h
     |some y=>
      simp only [fX]at h ⊢
      rw[CL y sM]
      cases hi with
      |none=>exact h
      |some z=>simp only at h ⊢;rw[RQ z sM];exact h
    ·rename_i n s f
     try simp only
     cases hs:Nat.beq s te.size with
     |false=>rw[hs]at h;cases h
     |true=>
      rw[hs]at h
      simp only [cond_true]at*
      cases lo with
      |none=>
       simp only [fX]at h ⊢
       cases hi with
       |none=>exact h
       |some y=>simp only at h ⊢;rw[RQ y sM];exact h
      |some y=>
       simp only [fX]at h ⊢
       rw[CL y sM]
       cases hi with
       |none=>exact h
       |some z=>simp only at h ⊢;rw[RQ z sM];exact h
    ·rename_i x'
     have hgb:aH σ'.box x'=aH σ.box x':=hb x' (iA (j:=0) (c:=x) (by simp[Op.operands]) (by have:=hs.reach σ;simp only [←this];simp[bV,reach]))
     simp only [hgb]
     split at h
     case h_2=>cases h
     rename_i e' n s f qP
     cases hs:Nat.beq s te.size with
     |false=>rw[hs]at h;cases h
     |true=>
      rw[hs]at h
      simp only [cond_true]at*
      cases lo with
      |none=>
       simp only [fX]at h ⊢
       cases hi with
       |none=>exact h
       |some y=>simp only at h ⊢;rw[RQ y sM];exact h
      |some y=>
       simp only [fX]at h ⊢
       rw[CL y sM]
       cases hi with
       |none=>exact h
       |some z=>simp only at h ⊢;rw[RQ z sM];exact h
    ·rename_i x' s BY n
     try simp only
     cases hs:Nat.beq s te.size with
     |false=>rw[hs]at h;cases h
     |true=>
      rw[hs]at h
      simp only [cond_true]at*
      cases lo with
      |none=>
       simp only [fX]at h ⊢
       cases hi with
       |none=>exact h
       |some y=>simp only at h ⊢;rw[RQ y sM];exact h
      |some y=>
       simp only [fX]at h ⊢
       rw[CL y sM]
       cases hi with
       |none=>exact h
       |some z=>simp only at h ⊢;rw[RQ z sM];exact h
   ·rename_i hu
    try simp only [hu]
    split at h <;> try (cases h)
    rename_i s
    try simp only
    cases lo with
    |none=>
     simp only [fX]at h ⊢
     cases hi with
     |none=>exact h
     |some y=>simp only at h ⊢;rw[RQ y sM];exact h
    |some y=>
     simp only [fX]at h ⊢
     rw[CL y sM]
     cases hi with
     |none=>exact h
     |some z=>simp only at h ⊢;rw[RQ z sM];exact h
   ·cases h
 |build t pa=>
  simp only [lR]at*
  exact parts.congr (fun y hy=>he y (by simpa [Op.operands]using hy)) h
 |makeFunc fn fs HJ=>
  cases fn with
  |func f=>
   simp only [lR]at*
   split at h
   ·rename_i XW
    try simp only [XW]
    rw[pL.congr (l:=HJ.toList) (fun y hy=>he y (by simp[Op.operands];exact .inr (by simpa using hy)))]
    exact h
   ·rename_i y XW
    try simp only [XW]
    split at h
    ·rename_i lM
     try simp only [lM]
     rw[he y (by
      have:y∈fs:=by rw[←Array.mem_toList_iff,XW];simp
      simp[Op.operands];exact .inl this)]
     exact h
    ·cases h
   ·cases h
  |_=>exact h.elim
 |call c=>
  obtain⟨callee,args,vQ⟩:=c
  simp only [lR]at*
  split at h
  ·rename_i fo
   try simp only
   rw[he fo (by simp[Op.operands,Call.operands])]
   refine fe.imp (fun vf hs h=>?_) h
   refine dQ.congr (fun y hy=>he y (by simp[Op.operands,Call.operands];exact .inr (by simpa using hy))) (fun ars hm h=>?_) h
   refine mA.congr (fun m LU=>hb m ?_) h
   simp only [sE]
   rw[List.mem_append]at LU ⊢
   rcases LU with h1|h1
   ·rw[hs.tN σ]at h1;exact .inl h1
   ·exact .inr (hm m h1)
  ·try simp only
   split at h
   ·rename_i x t hx ht
    try simp only [hx,ht]
    have hxm:x∈args.toList:=by rw[hx];simp
    rw[he x (by simp[Op.operands,Call.operands];simpa using hxm)]
    refine fe.imp (fun va hs h=>?_) h
    refine pS.congr (hb.mono (fun m hm=>?_)) h
    rw[hs.reach σ]at hm
    have:args= #[x]:=by apply Array.ext';simpa using hx
    subst this
    simp[sE,Op.operands,Call.operands,dM,hm]
   ·cases h
  ·try simp only
   split at h
   ·rename_i x t hx ht
    try simp only [hx,ht]
    have hxm:x∈args.toList:=by rw[hx];simp
    rw[he x (by simp[Op.operands,Call.operands];simpa using hxm)]
    exact h
   ·cases h
  ·exact ints.congr (fun y hy=>he y (by simp[Op.operands,Call.operands];simpa using hy)) h
  ·exact ints.congr (fun y hy=>he y (by simp[Op.operands,Call.operands];simpa using hy)) h
  ·cases h
 |_=>exact h.elim
end
def eQ{α:Type}(C:(α→Prop)→Prop)(r:α):Prop:=∀K,K r→C K
section
variable{P:Program}{T:List (Nat×bP)}{σ:St}{g:Option Bool}
theorem fe.oU{v:AV}{K:AV→Prop}(h:fe g v K):∃r,K r∧eQ (fe g v) r:=by
 cases v with
 |s x=>exact⟨_,h,fun _ k=>k⟩
 |g cs=>exact⟨_,h,fun _ k=>k⟩
 |t ts=>exact⟨_,h,fun _ k=>k⟩
 |ib b x=>cases g with
  |none=>exact⟨_,h.2,fun _ k=>⟨h.1,k⟩⟩
  |some gb=>exact⟨_,h.2,fun _ k=>⟨h.1,k⟩⟩
 |ig b cs=>cases g with
  |none=>exact⟨_,h.2,fun _ k=>⟨h.1,k⟩⟩
  |some gb=>exact⟨_,h.2,fun _ k=>⟨h.1,k⟩⟩
theorem fe.pt{α:Type}{v:AV}{C:AV→(α→Prop)→Prop}{K:α→Prop}(h:fe g v fun va=>C va K)(hC:∀va K,C va K→∃r,K r∧eQ (C va) r):
  ∃r,K r∧eQ (fun K=>fe g v fun va=>C va K) r:=by
 obtain⟨va,h1,h2⟩:=fe.oU h
 obtain⟨r,h3,h4⟩:=hC va K h1
 exact⟨r,h3,fun K k=>h2 _ (h4 K k)⟩
theorem dQ.pt{α:Type}:∀{l:List Operand} {C:List AV→(α→Prop)→Prop} {K:α→Prop},dQ g σ l (fun ars=>C ars K)→(∀ars K,C ars K→∃r,K r∧eQ (C ars) r)→
  ∃r,K r∧eQ (fun K=>dQ g σ l fun ars=>C ars K) r
 |[],C,K,h,hC=>by
  obtain⟨r,h3,h4⟩:=hC [] K h
  exact⟨r,h3,fun K k=>h4 K k⟩
 |x::r,C,K,h,hC=>by
  simp only [dQ]at h ⊢
  exact fe.pt (C:=fun va K=>dQ g σ r fun l=>C (va::l) K) h (fun va K h=>dQ.pt (C:=fun l K=>C (va::l) K) h (fun ars K h=>hC _ K h))
theorem ints.pt{α:Type}:∀{l:List Operand} {C:List (IntKind×Int)→(α→Prop)→Prop} {K:α→Prop},ints g σ l (fun ars=>C ars K)→(∀ars K,C ars K→∃r,K r∧eQ (C ars) r)→
  ∃r,K r∧eQ (fun K=>ints g σ l fun ars=>C ars K) r
 |[],C,K,h,hC=>by
  obtain⟨r,h3,h4⟩:=hC [] K h
  exact⟨r,h3,fun K k=>h4 K k⟩
 |x::r,C,K,h,hC=>by
  simp only [ints]at h ⊢
  refine fe.pt (C:=fun va K=>match va with|.s (.d (.val (.int k n)))=>ints g σ r fun l=>C ((k,n)::l) K|_=>False) h (fun va K h=>?_)
  split at h
  ·exact ints.pt (C:=fun l K=>C (_::l) K) h (fun ars K h=>hC _ K h)
  ·cases h
theorem parts.pt{α:Type}:∀{l:List (Nat×Operand)} {C:List (Nat×List SV)→(α→Prop)→Prop} {K:α→Prop},parts g σ l (fun ars=>C ars K)→(∀ars K,C ars K→∃r,K r∧eQ (C ars) r)→
  ∃r,K r∧eQ (fun K=>parts g σ l fun ars=>C ars K) r
 |[],C,K,h,hC=>by
  obtain⟨r,h3,h4⟩:=hC [] K h
  exact⟨r,h3,fun K k=>h4 K k⟩
 |(i,x)::r,C,K,h,hC=>by
  simp only [parts]at h ⊢
  refine fe.pt (C:=fun va K=>match oS va with|some cs=>(bif lL cs then parts g σ r fun l=>C ((i,cs)::l) K else False)|none=>False) h (fun va K h=>?_)
  split at h
  ·rename_i cs lM
   cases ho:lL cs with
   |false=>rw[ho]at h;cases h
   |true=>
    rw[ho]at h
    obtain⟨r',h1,h2⟩:=parts.pt (C:=fun l K=>C (_::l) K) h (fun ars K h=>hC _ K h)
    refine⟨r',h1,fun K k=>?_⟩
    simp only [cond_true]
    exact h2 K k
  ·cases h
theorem jU.pt{agg:Bool}{size:Nat}{va:AV}{K:AV→Prop}(h:jU σ agg size g va K):∃r,K r∧eQ (jU σ agg size g va) r:=by
 unfold jU at h
 split at h
 ·rename_i x off
  split at h
  ·rename_i cs hb
   split at h
   ·cases hle:Nat.ble (off+size) cs.length with
    |false=>rw[hle]at h;cases h
    |true=>rw[hle]at h;exact⟨_,h,fun K k=>by unfold jU;simp only [hb,hle,cond_true];exact k⟩
   ·split at h
    ·rename_i c hc
     exact⟨_,h,fun K k=>by unfold jU;simp only [hb,hc];exact k⟩
    ·cases h
  ·cases h
 ·rename_i x i s o
  split at h
  ·rename_i e n s' f hb
   cases hc:(Nat.beq s s'&&Nat.ble (o+cnt agg size) s)with
   |false=>rw[hc]at h;cases h
   |true=>
    rw[hc]at h
    cases agg with
    |true=>exact⟨_,h.2,fun K k=>by unfold jU;simp only [hb,hc,cond_true];exact⟨h.1,k⟩⟩
    |false=>exact⟨_,h.2,fun K k=>by unfold jU;simp only [hb,hc,cond_true];exact⟨h.1,k⟩⟩
  ·rename_i e n s' f hb
   cases hc:(Nat.beq s s'&&Nat.ble (o+cnt agg size) s)with
   |false=>rw[hc]at h;cases h
   |true=>
    rw[hc]at h
    cases agg with
    |true=>exact⟨_,h.2,fun K k=>by unfold jU;simp only [hb,hc,cond_true];exact⟨h.1,k⟩⟩
    |false=>exact⟨_,h.2,fun K k=>by unfold jU;simp only [hb,hc,cond_true];exact⟨h.1,k⟩⟩
  ·cases h
 ·rename_i m f
  split at h
  ·cases hle:Nat.ble size m with
   |false=>rw[hle]at h;cases h
   |true=>rw[hle]at h;exact⟨_,h,fun K k=>by unfold jU;simp only [hle,cond_true];exact k⟩
  ·cases hle:Nat.ble 1 m with
   |false=>rw[hle]at h;cases h
   |true=>rw[hle]at h;exact⟨_,h,fun K k=>by unfold jU;simp only [hle,cond_true];exact k⟩
 ·cases h
theorem rM.pt{s f:Nat}{va:AV}{K:AV→Prop}(h:rM T s f va K):∃r,K r∧eQ (rM T s f va) r:=by
 unfold rM at h
 split at h
 case h_2=>cases h
 rename_i ti fS
 split at h
 case h_2=>cases h
 rename_i off sz hf
 split at h
 case h_2=>cases h
 rename_i hu
 cases hz:Nat.beq sz 0 with
 |true=>rw[hz]at h;cases h
 |false=>
  rw[hz]at h
  simp only [cond_false]at h
  split at h
  case h_4=>cases h
  all_goals exact⟨_,h,fun K k=>by unfold rM;simp only [fS,hf,hu,hz,cond_false];exact k⟩
theorem pU.pt{t:Nat}{va vi:AV}{K:AV→Prop}(h:pU T σ t g va vi K):∃r,K r∧eQ (pU T σ t g va vi) r:=by
 unfold pU at h
 split at h
 case h_2=>cases h
 rename_i ti fS
 split at h
 case h_3=>cases h
 rotate_left
 ·rename_i len e hu
  split at h
  case h_2=>cases h
  rename_i te mG
  split at h
  case h_2=>cases h
  split at h
  case h_4=>cases h
  all_goals exact⟨_,h.2,fun K k=>by unfold pU;simp only [fS,hu,mG];exact⟨h.1,k⟩⟩
 rename_i e hu
 split at h
 case h_2=>cases h
 rename_i te mG
 split at h
 case h_2=>cases h
 split at h
 case h_5=>cases h
 rotate_left
 rotate_left
 rotate_left
 ·rename_i x' s lo m
  split at h
  ·rename_i cs hb
   cases hs:Nat.beq s te.size with
   |false=>rw[hs]at h;cases h
   |true=>rw[hs]at h;exact⟨_,h.2,fun K k=>by unfold pU;simp only [fS,hu,mG,hb,hs,cond_true];exact⟨h.1,k⟩⟩
  ·rename_i gI
   cases hs:Nat.beq s te.size with
   |false=>rw[hs]at h;cases h
   |true=>
    rw[hs]at h
    refine⟨_,h.2,fun K k=>?_⟩
    unfold pU
    simp only [fS,hu,mG]
    rw[hs,cond_true]
    exact⟨h.1,k⟩
 ·rename_i len s f
  cases hs:Nat.beq s te.size with
  |false=>rw[hs]at h;cases h
  |true=>rw[hs]at h;exact⟨_,h.2,fun K k=>by unfold pU;simp only [fS,hu,mG,hs,cond_true];exact⟨h.1,k⟩⟩
 ·split at h
  case h_2=>cases h
  rename_i e' len s f hb
  cases hs:Nat.beq s te.size with
  |false=>rw[hs]at h;cases h
  |true=>rw[hs]at h;exact⟨_,h.2,fun K k=>by unfold pU;simp only [fS,hu,mG,hb,hs,cond_true];exact⟨h.1,k⟩⟩
 ·split at h
  case h_2=>cases h
  rename_i e' len s f hb
  cases hs:Nat.beq s te.size with
  |false=>rw[hs]at h;cases h
  |true=>rw[hs]at h;exact⟨_,h.2,fun K k=>by unfold pU;simp only [fS,hu,mG,hb,hs,cond_true];exact⟨h.1,k⟩⟩
theorem B4.pt{t:Nat}{va vi:AV}{K:AV→Prop}(h:B4 T t g va vi K):∃r,K r∧eQ (B4 T t g va vi) r:=by
 unfold B4 at h
 split at h
 case h_2=>cases h
 rename_i ti fS
 split at h
 case h_3=>cases h
 ·rename_i hu
  split at h
  case h_2=>cases h
  exact⟨_,h.2,fun K k=>by unfold B4;simp only [fS,hu];exact⟨h.1,k⟩⟩
 ·rename_i hu
  split at h
  case h_2=>cases h
  rename_i te mG
  split at h
  case h_2=>cases h
  rename_i cs kk n
  obtain⟨iF,h⟩:=h
  split at h
  ·rename_i GU
   cases hle:Nat.ble (n.toNat*te.size+te.size) cs.length with
   |false=>rw[hle]at h;cases h
   |true=>rw[hle]at h;exact⟨_,h,fun K k=>by unfold B4;simp only [fS,hu,mG,GU,hle,cond_true];exact⟨iF,k⟩⟩
  ·rename_i GU
   split at h
   case h_2=>cases h
   rename_i c hc
   exact⟨_,h,fun K k=>by unfold B4;simp only [fS,hu,mG,GU,hc];exact⟨iF,k⟩⟩
theorem IN.pt{n:Nat}{va:AV}{K:AV→Prop}(h:IN n va K):∃r,K r∧eQ (IN n va) r:=by
 unfold IN at h
 split at h
 case h_2=>cases h
 rename_i ts
 split at h
 case h_3=>cases h
 ·rename_i hs
  exact⟨_,h,fun K k=>by unfold IN;simp only [hs];exact k⟩
 ·rename_i hs
  exact⟨_,h,fun K k=>by unfold IN;simp only [hs];exact k⟩
theorem unV.pt{op:UnOp}{va:AV}{K:AV→Prop}(h:unV op va K):∃r,K r∧eQ (unV op va) r:=by
 unfold unV at h
 split at h
 case h_4=>cases h
 ·rename_i b
  cases b <;> exact⟨_,h,fun K k=>k⟩
 ·exact⟨_,h,fun K k=>k⟩
 ·exact⟨_,h,fun K k=>k⟩
theorem uR.pt{g:Option Bool}{vc vx vy:AV}{K:AV→Prop}(h:uR g vc vx vy K):∃r,K r∧eQ (uR g vc vx vy) r:=by
 unfold uR at h
 split at h
 case h_3=>cases h
 ·rename_i b
  cases b
  ·obtain⟨r,h1,h2⟩:=fe.oU h;exact⟨r,h1,fun K k=>h2 K k⟩
  ·obtain⟨r,h1,h2⟩:=fe.oU h;exact⟨r,h1,fun K k=>h2 K k⟩
 ·rename_i b
  split at h
  case h_2=>cases h
  rename_i p gp q gq hp hq
  obtain⟨h1,h2,h⟩:=h
  cases e1:ZO false vy with
  |true=>rw[e1]at h;exact⟨_,h,fun K k=>by unfold uR;simp only [hp,hq,e1,cond_true];exact⟨h1,h2,k⟩⟩
  |false=>
   rw[e1]at h
   cases e2:ZO true vx with
   |true=>rw[e2]at h;exact⟨_,h,fun K k=>by unfold uR;simp only [hp,hq,e1,e2,cond_true,cond_false];exact⟨h1,h2,k⟩⟩
   |false=>rw[e2]at h;exact⟨_,h,fun K k=>by unfold uR;simp only [hp,hq,e1,e2,cond_false];exact⟨h1,h2,k⟩⟩
theorem sW.pt{src dst:Nat}{va:AV}{K:AV→Prop}(h:sW T src dst va K):∃r,K r∧eQ (sW T src dst va) r:=by
 unfold sW at h
 split at h
 case h_2=>cases h
 rename_i ts td rX htd
 split at h
 case h_5=>cases h
 ·rename_i e1 e2
  exact⟨_,h,fun K k=>by unfold sW;simp only [rX,htd,e1,e2];exact k⟩
 ·rename_i e1 e2
  exact⟨_,h,fun K k=>by unfold sW;simp only [rX,htd,e1,e2];exact k⟩
 ·rename_i e1 e2
  exact⟨_,h,fun K k=>by unfold sW;simp only [rX,htd,e1,e2];exact k⟩
 ·rename_i e1 e2
  obtain⟨n,h1,h⟩:=h
  exact⟨_,h,fun K k=>by unfold sW;simp only [rX,htd,e1,e2];exact⟨n,h1,k⟩⟩
theorem LD.pt{va:AV}{K:AV→Prop}(h:LD va K):∃r,K r∧eQ (LD va) r:=by
 unfold LD at h
 split at h
 case h_6=>cases h
 all_goals exact⟨_,h,fun K k=>k⟩
theorem pS.pt{t:Nat}{va:AV}{K:AV→Prop}(h:pS T σ t va K):∃r,K r∧eQ (pS T σ t va) r:=by
 unfold pS at h
 split at h
 case h_2=>cases h
 rename_i ti fS
 split at h
 case h_8=>cases h
 ·rename_i hu;exact⟨_,h,fun K k=>by unfold pS;simp only [fS,hu];exact k⟩
 ·rename_i hu
  split at h
  case h_2=>cases h
  rename_i hb
  exact⟨_,h,fun K k=>by unfold pS;simp only [fS,hu,hb];exact k⟩
 ·rename_i hu
  split at h
  case h_2=>cases h
  rename_i hb
  exact⟨_,h,fun K k=>by unfold pS;simp only [fS,hu,hb];exact k⟩
 ·rename_i hu;exact⟨_,h,fun K k=>by unfold pS;simp only [fS,hu];exact k⟩
 ·rename_i hu;exact⟨_,h,fun K k=>by unfold pS;simp only [fS,hu];exact k⟩
 ·rename_i hu;exact⟨_,h,fun K k=>by unfold pS;simp only [fS,hu];exact k⟩
 ·rename_i hu;exact⟨_,h,fun K k=>by unfold pS;simp only [fS,hu];exact k⟩
theorem qE.pt{t:Nat}{ps:List (Nat×List SV)}{K:AV→Prop}(h:qE T t ps K):∃r,K r∧eQ (qE T t ps) r:=by
 unfold qE at h
 split at h
 case h_2=>cases h
 rename_i ti fS
 split at h
 case h_3=>cases h
 ·rename_i hu
  split at h
  case h_2=>cases h
  rename_i cs lM
  exact⟨_,h,fun K k=>by unfold qE;simp only [fS,hu,lM];exact k⟩
 ·rename_i n e hu
  split at h
  case h_2=>cases h
  rename_i te mG
  split at h
  case h_2=>cases h
  rename_i cs lM
  exact⟨_,h,fun K k=>by unfold qE;simp only [fS,hu,mG,lM];exact k⟩
theorem IY.pt{op:BinOp}{k:IntKind}{x y:Int}{K:AV→Prop}(h:IY op k g x y K):∃r,K r∧eQ (IY op k g x y) r:=by
 unfold IY at h
 split at h <;> first
  |exact h.elim
  |exact⟨_,h,fun K k=>k⟩
  |exact⟨_,h.2,fun K k=>⟨h.1,k⟩⟩
theorem IX.pt{op:BinOp}{x y:ByteArray}{K:AV→Prop}(h:IX op g x y K):∃r,K r∧eQ (IX op g x y) r:=by
 unfold IX at h
 split at h <;> first
  |exact h.elim
  |exact⟨_,h,fun K k=>k⟩
  |exact⟨_,h.2,fun K k=>⟨h.1,k⟩⟩
theorem bin.pt{op:BinOp}{t:Nat}{va vb:AV}{K:AV→Prop}(h:bin T op t g va vb K):∃r,K r∧eQ (bin T op t g va vb) r:=by
 unfold bin at h
 split at h
 ·rename_i k a k' b
  by_cases hk:k=k'
  ·subst hk
   simp only [decide_true,cond_true]at h
   obtain⟨r,h1,h2⟩:=IY.pt h
   exact⟨r,h1,fun K k=>by unfold bin;simp only [decide_true,cond_true];exact h2 K k⟩
  ·simp only [hk,decide_false,cond_false]at h
 ·obtain⟨r,h1,h2⟩:=IX.pt h
  exact⟨r,h1,fun K k=>h2 K k⟩
 ·split at h
  case h_2=>cases h
  rename_i i hi
  split at h
  case h_2=>cases h
  rename_i e hu
  cases op <;> first
   |exact h.elim
   |exact⟨_,h,fun K k=>by unfold bin;simp only [hi,hu];exact k⟩
 ·rename_i xs ys
  split at h
  case h_2=>cases h
  rename_i i hi
  cases hc:(i.ints&&(gC i.zero xs&&gC i.zero ys))with
  |false=>rw[hc]at h;cases h
  |true=>
   rw[hc]at h
   simp only [cond_true]at h
   split at h
   case h_2=>cases h
   rename_i b hb
   cases op <;> first
    |exact h.elim
    |exact⟨_,h,fun K k=>by unfold bin;simp only [hi,hc,cond_true,hb];exact k⟩
 ·split at h
  case h_2=>cases h
  rename_i i hi
  split at h
  case h_2=>cases h
  rename_i e hu
  cases op <;> first
   |exact h.elim
   |exact⟨_,h,fun K k=>by unfold bin;simp only [hi,hu];exact k⟩
 ·split at h
  case h_2=>cases h
  rename_i i hi
  split at h
  case h_2=>cases h
  rename_i e hu
  cases op <;> first
   |exact h.elim
   |exact⟨_,h,fun K k=>by unfold bin;simp only [hi,hu];exact k⟩
 ·rename_i n1 n2 n3 n4 n5
  split at h
  case h_2=>cases h
  rename_i a b ha hb
  split at h
  case h_2=>cases h
  rename_i i hi
  split at h
  case h_2=>cases h
  rename_i hu
  cases op <;> first
   |exact h.elim
   |exact⟨_,h,fun K k=>by unfold bin;simp only [ha,hb,hi,hu];exact k⟩
theorem fX.pt{α:Type}{x:Option Operand}{C:Option Int→(α→Prop)→Prop}{K:α→Prop}(h:fX g σ x fun r=>C r K)(hC:∀r K,C r K→∃e,K e∧eQ (C r) e):
  ∃e,K e∧eQ (fun K=>fX g σ x fun r=>C r K) e:=by
 cases x with
 |none=>exact hC none K h
 |some x=>
  simp only [fX]at h ⊢
  refine fe.pt (C:=fun va K=>match va with|.s (.d (.val (.int _ n)))=>C (some n) K|_=>False) h (fun va K h=>?_)
  split at h
  ·exact hC _ K h
  ·cases h
theorem l9.pt{f:FuncId}{args:List AV}{K:AV→Prop}(h:l9 P σ g f args K):∃r,K r∧eQ (l9 P σ g f args) r:=by
 obtain⟨r,h1,h2⟩:=h
 cases hb:(!A6 r&&sD args)with
 |true=>rw[hb]at h2;exact h2.elim
 |false=>rw[hb]at h2;exact⟨r,h2,fun K k=>⟨r,h1,by rw[hb];exact k⟩⟩
theorem kY.pt{f:FuncId}{args:List AV}{K:AV→Prop}(h:kY P σ g f args K):∃r,K r∧eQ (kY P σ g f args) r:=by
 rcases h with h|⟨r,h1,h2⟩
 ·obtain⟨r,h1,h2⟩:=l9.pt h
  exact⟨r,h1,fun K k=>.inl (h2 K k)⟩
 ·exact⟨r,h2,fun K k=>.inr ⟨r,h1,k⟩⟩
theorem mA.pt{vf:AV}{args:List AV}{K:AV→Prop}(h:mA P σ g vf args K):∃r,K r∧eQ (mA P σ g vf args) r:=by
 unfold mA at h
 split at h
 case h_4=>cases h
 ·obtain⟨r,h1,h2⟩:=kY.pt h;exact⟨r,h1,fun K k=>h2 K k⟩
 ·obtain⟨r,h1,h2⟩:=kY.pt h;exact⟨r,h1,fun K k=>h2 K k⟩
 ·obtain⟨r,h1,h2⟩:=l9.pt h;exact⟨r,h1,fun K k=>h2 K k⟩
theorem kH.pt{t:Nat}{vx:AV}{lo hi:Option Operand}{K:AV→Prop}(h:kH T σ t g vx lo hi K):∃r,K r∧eQ (kH T σ t g vx lo hi) r:=by
 unfold kH at h
 split at h
 case h_2=>cases h
 rename_i ti fS
 split at h
 case h_3=>cases h
 ·rename_i e hu
  split at h
  case h_2=>cases h
  rename_i te mG
  split at h
  case h_5=>cases h
  case h_4=>
   obtain⟨r,h1,h2⟩:=fX.pt (C:=fun l (K:AV→Prop)=>fX g σ hi fun h=>Go.Ax.imp g (l.getD 0=0∧h.getD 0=0)∧K (.s (.d (.val (.slice none 0 0))))) h (fun l K h=>by
    refine fX.pt (C:=fun h (K:AV→Prop)=>Go.Ax.imp g (l.getD 0=0∧h.getD 0=0)∧K (.s (.d (.val (.slice none 0 0))))) h (fun hh K h=>⟨_,h.2,fun K k=>⟨h.1,k⟩⟩))
   refine⟨r,h1,fun K k=>?_⟩
   unfold kH
   simp only [fS,hu,mG]
   exact h2 K k
  ·rename_i n s f
   cases hs:Nat.beq s te.size with
   |false=>rw[hs]at h;cases h
   |true=>
    rw[hs]at h
    simp only [cond_true]at h
    obtain⟨r,h1,h2⟩:=fX.pt (C:=fun l (K:AV→Prop)=>fX g σ hi fun h=>Go.Ax.imp g (0≤l.getD 0∧l.getD 0≤h.getD n∧h.getD n≤n)∧
       (match (generalizing:=false) l with
       |none=>K (.s (.d (.fW (h.getD n).toNat s f)))
       |some l=>K (.s (.d (.fW (h.getD n - l).toNat s fun i=>f (l.toNat+i)))))) h (fun l K h=>by
     refine fX.pt (C:=fun h (K:AV→Prop)=>Go.Ax.imp g (0≤l.getD 0∧l.getD 0≤h.getD n∧h.getD n≤n)∧
       (match (generalizing:=false) l with
       |none=>K (.s (.d (.fW (h.getD n).toNat s f)))
       |some l=>K (.s (.d (.fW (h.getD n - l).toNat s fun i=>f (l.toNat+i)))))) h (fun hh K h=>?_)
     cases l with
     |none=>exact⟨_,h.2,fun K k=>⟨h.1,k⟩⟩
     |some l=>exact⟨_,h.2,fun K k=>⟨h.1,k⟩⟩)
    refine⟨r,h1,fun K k=>?_⟩
    unfold kH
    simp only [fS,hu,mG,hs,cond_true]
    exact h2 K k
  ·rename_i x'
   split at h
   case h_2=>cases h
   rename_i e' n s f qP
   cases hs:Nat.beq s te.size with
   |false=>rw[hs]at h;cases h
   |true=>
    rw[hs]at h
    simp only [cond_true]at h
    obtain⟨r,h1,h2⟩:=fX.pt (C:=fun l (K:AV→Prop)=>fX g σ hi fun h=>Go.Ax.imp g (0≤l.getD 0∧l.getD 0≤h.getD n∧h.getD n≤n)∧K (.s (.jH x' s (l.getD 0).toNat ((h.getD n).toNat - (l.getD 0).toNat)))) h (fun l K h=>by
     refine fX.pt (C:=fun h (K:AV→Prop)=>Go.Ax.imp g (0≤l.getD 0∧l.getD 0≤h.getD n∧h.getD n≤n)∧K (.s (.jH x' s (l.getD 0).toNat ((h.getD n).toNat - (l.getD 0).toNat)))) h (fun hh K h=>⟨_,h.2,fun K k=>⟨h.1,k⟩⟩))
    refine⟨r,h1,fun K k=>?_⟩
    unfold kH
    simp only [fS,hu,mG,qP,hs,cond_true]
    exact h2 K k
  ·rename_i x' s BY n
   cases hs:Nat.beq s te.size with
   |false=>rw[hs]at h;cases h
   |true=>
    rw[hs]at h
    simp only [cond_true]at h
    obtain⟨r,h1,h2⟩:=fX.pt (C:=fun l (K:AV→Prop)=>fX g σ hi fun h=>Go.Ax.imp g (0≤l.getD 0∧l.getD 0≤h.getD n∧h.getD n≤n)∧K (.s (.jH x' s (BY+(l.getD 0).toNat) ((h.getD n).toNat - (l.getD 0).toNat)))) h (fun l K h=>by
     refine fX.pt (C:=fun h (K:AV→Prop)=>Go.Ax.imp g (0≤l.getD 0∧l.getD 0≤h.getD n∧h.getD n≤n)∧K (.s (.jH x' s (BY+(l.getD 0).toNat) ((h.getD n).toNat - (l.getD 0).toNat)))) h (fun hh K h=>⟨_,h.2,fun K k=>⟨h.1,k⟩⟩))
    refine⟨r,h1,fun K k=>?_⟩
    unfold kH
    simp only [fS,hu,mG,hs,cond_true]
    exact h2 K k
 ·rename_i hu
  split at h
  case h_2=>cases h
  rename_i s
  obtain⟨r,h1,h2⟩:=fX.pt (C:=fun l (K:AV→Prop)=>fX g σ hi fun h=>Go.Ax.imp g (0≤l.getD 0∧l.getD 0≤h.getD s.size∧h.getD s.size≤s.size)∧
      K (.s (.d (.val (.string (s.extract (l.getD 0).toNat (h.getD s.size).toNat)))))) h (fun l K h=>by
   refine fX.pt (C:=fun h (K:AV→Prop)=>Go.Ax.imp g (0≤l.getD 0∧l.getD 0≤h.getD s.size∧h.getD s.size≤s.size)∧
      K (.s (.d (.val (.string (s.extract (l.getD 0).toNat (h.getD s.size).toNat)))))) h (fun hh K h=>⟨_,h.2,fun K k=>⟨h.1,k⟩⟩))
  refine⟨r,h1,fun K k=>?_⟩
  unfold kH
  simp only [fS,hu]
  exact h2 K k
theorem IU.pt{t:Nat}{va:AV}{K:AV→Prop}(h:IU T t va K):∃r,K r∧eQ (IU T t va) r:=by
 unfold IU at h
 split at h
 case h_2=>cases h
 rename_i ti fS
 split at h
 case h_2=>cases h
 rename_i e b n c hu
 exact⟨_,h,fun K k=>by unfold IU;simp only [fS,hu];exact k⟩
theorem wP.pt{t:Nat}{ok:Bool}{va vb:AV}{K:AV→Prop}(h:wP T σ t ok g va vb K):∃r,K r∧eQ (wP T σ t ok g va vb) r:=by
 unfold wP at h
 split at h
 case h_2=>cases h
 rename_i b k
 split at h
 case h_2=>cases h
 rename_i vk l hb
 split at h
 case h_2=>cases h
 rename_i ti fS
 split at h
 case h_2=>cases h
 rename_i kt et hu
 cases hk:(RC T kt&&(cZ T et).isSome)with
 |false=>rw[hk]at h;cases h
 |true=>
  rw[hk]at h
  cases ok with
  |true=>exact⟨_,h,fun K k=>by unfold wP;simp only [hb,fS,hu,hk,cond_true];exact k⟩
  |false=>exact⟨_,h.2,fun K k=>by unfold wP;simp only [hb,fS,hu,hk,cond_true];exact⟨h.1,k⟩⟩
theorem pR.pt{t:Nat}{ok:Bool}{va vb:AV}{K:AV→Prop}(h:pR T σ t ok g va vb K):∃r,K r∧eQ (pR T σ t ok g va vb) r:=by
 unfold pR at h
 split at h
 case h_2=>cases h
 rename_i b k
 split at h
 case h_2=>cases h
 rename_i vk l hb
 split at h
 case h_2=>cases h
 rename_i ti fS
 split at h
 case h_2=>cases h
 rename_i kt et hu
 cases hk:(x6 T kt&&zOK T et vk)with
 |false=>rw[hk]at h;cases h
 |true=>
  rw[hk]at h
  cases ok with
  |true=>exact⟨_,h,fun K k=>by unfold pR;simp only [hb,fS,hu,hk,cond_true];exact k⟩
  |false=>exact⟨_,h,fun K k=>by unfold pR;simp only [hb,fS,hu,hk,cond_true];exact k⟩
theorem qY.pt{t:Nat}{ok:Bool}{va vb:AV}{K:AV→Prop}(h:qY T σ t ok g va vb K):∃r,K r∧eQ (qY T σ t ok g va vb) r:=by
 cases hs:VY T t with
 |true=>unfold qY eQ at*;simp only [hs]at*;exact pR.pt h
 |false=>unfold qY eQ at*;simp only [hs]at*;exact wP.pt h
theorem lR.pt{op:Op}{K:AV→Prop}(h:lR P T op σ g K):∃r,K r∧eQ (lR P T op σ g) r:=by
 cases op with
 |move x=>exact fe.oU h
 |assign x=>exact fe.oU h
 |pick c x y=>exact fe.pt (C:=fun vc K=>uR g vc (ev σ x) (ev σ y) K) h (fun _ _ h=>uR.pt h)
 |load t x=>
  refine fe.pt (C:=fun va K=>match cZ T t with|some ti=>jU σ ti.agg ti.size g va K|none=>False) h (fun va K h=>?_)
  split at h
  ·exact jU.pt h
  ·cases h
 |fieldAddr s x f=>exact fe.pt (C:=fun va K=>rM T s f va K) h (fun _ _ h=>rM.pt h)
 |binOp op t x y ty=>exact fe.pt (C:=fun va K=>fe g (ev σ y) fun vb=>bin T op t g va vb K) h (fun va K h=>fe.pt (C:=fun vb K=>bin T op t g va vb K) h (fun _ _ h=>bin.pt h))
 |unOp op t x=>exact fe.pt (C:=fun va K=>unV op va K) h (fun _ _ h=>unV.pt h)
 |convert src dst x=>exact fe.pt (C:=fun va K=>sW T src dst va K) h (fun _ _ h=>sW.pt h)
 |nilCheck x=>exact fe.pt (C:=fun va K=>LD va K) h (fun _ _ h=>LD.pt h)
 |extract x k=>exact IN.pt h
 |indexAddr t x y=>exact fe.pt (C:=fun va K=>fe g (ev σ y) fun vb=>pU T σ t g va vb K) h (fun va K h=>fe.pt (C:=fun vb K=>pU T σ t g va vb K) h (fun _ _ h=>pU.pt h))
 |index t x y=>exact fe.pt (C:=fun va K=>fe g (ev σ y) fun vb=>B4 T t g va vb K) h (fun va K h=>fe.pt (C:=fun vb K=>B4 T t g va vb K) h (fun _ _ h=>B4.pt h))
 |lookup t x y ok=>exact fe.pt (C:=fun va K=>fe g (ev σ y) fun vb=>qY T σ t ok g va vb K) h (fun va K h=>fe.pt (C:=fun vb K=>qY T σ t ok g va vb K) h (fun _ _ h=>qY.pt h))
 |slice t x lo hi mx=>
  cases mx with
  |some m=>exact h.elim
  |none=>exact fe.pt (C:=fun va K=>kH T σ t g va lo hi K) h (fun _ _ h=>kH.pt h)
 |build t pa=>exact parts.pt (C:=fun ps K=>qE T t ps K) h (fun _ _ h=>qE.pt h)
 |makeFunc fn fs HJ=>
  cases fn with
  |func f=>
   simp only [lR]at h
   split at h
   case h_3=>cases h
   ·rename_i XW
    split at h
    case h_2=>cases h
    rename_i cs lM
    exact⟨_,h,fun K k=>by simp only [lR,XW,lM];exact k⟩
   ·rename_i y XW
    split at h
    case h_2=>cases h
    rename_i lM
    have hp:=fe.pt (C:=fun va (K:AV→Prop)=>match va with|.g cs=>bif oE cs then K (.s (.d (aHR f cs)))else False|_=>False) h (fun va K h=>by
     split at h
     case h_2=>cases h
     rename_i cs
     cases hc:oE cs with
     |false=>rw[hc]at h;cases h
     |true=>
      rw[hc]at h
      exact⟨_,h,fun K k=>by simp only;exact k⟩)
    obtain⟨r,h1,h2⟩:=hp
    exact⟨r,h1,fun K k=>by simp only [lR,XW,lM];exact h2 K k⟩
  |_=>exact h.elim
 |call c=>
  obtain⟨callee,args,vQ⟩:=c
  cases callee with
  |value fo=>exact fe.pt (C:=fun vf K=>dQ g σ args.toList fun ars=>mA P σ g vf ars K) h (fun vf K h=>dQ.pt (C:=fun ars K=>mA P σ g vf ars K) h (fun _ _ h=>mA.pt h))
  |invoke r m=>exact h.elim
  |builtin b=>
   cases b with
   |len=>
    simp only [lR]at h
    split at h
    case h_2=>cases h
    rename_i x t hx ht
    obtain⟨r,h1,h2⟩:=fe.pt (C:=fun va K=>pS T σ t va K) h (fun _ _ h=>pS.pt h)
    exact⟨r,h1,fun K k=>by simp only [lR,hx,ht];exact h2 K k⟩
   |cap=>
    simp only [lR]at h
    split at h
    case h_2=>cases h
    rename_i x t hx ht
    obtain⟨r,h1,h2⟩:=fe.pt (C:=fun va K=>IU T t va K) h (fun _ _ h=>IU.pt h)
    exact⟨r,h1,fun K k=>by simp only [lR,hx,ht];exact h2 K k⟩
   |max=>
    refine ints.pt (C:=fun l K=>match l with|(k,n)::r=>K (mmL true k n r)|[]=>False) h (fun l K h=>?_)
    split at h
    ·exact⟨_,h,fun K k=>k⟩
    ·cases h
   |min=>
    refine ints.pt (C:=fun l K=>match l with|(k,n)::r=>K (mmL false k n r)|[]=>False) h (fun l K h=>?_)
    split at h
    ·exact⟨_,h,fun K k=>k⟩
    ·cases h
   |_=>exact h.elim
 |_=>exact h.elim
end
abbrev Ef:=Option AV×aN
def aHS:aN→aN→aN
 |[],s=>s
 |[p],s=>p::s
 |[p,q],s=>p::q::s
 |l,s=>l++s
theorem E3{u s:aN}:aHS u s=u++s:=by
 unfold aHS
 split <;> rfl
def K1(K:AV→aN→Prop)(v:AV)(bx:aN):Prop:=
 match bx with
 |p::_=>K v [p]
 |[]=>False
def K2(K:AV→aN→Prop)(v:AV)(bx:aN):Prop:=
 match bx with
 |p::q::_=>K v [p,q]
 |_=>False
def uS(T:List (Nat×bP))(d:Nat)(op:Op)(σ:St)(K:AV→aN→Prop):Prop:=
 match op with
 |.alloc t=>xJ T σ d t (K1 K)
 |.box _ x=>IW σ d x (K1 K)
 |.store t x y=>oF T σ t x y (K1 K)
 |.buildSlice t len pa=>IV T σ d t len pa.toList (K1 K)
 |.makeSlice t x y=>mkX T σ d t x y (K1 K)
 |.call c=>match c.callee with
  |.builtin .copy=>match c.args.toList,c.argTypes.toList with
   |[x,y],[t,_]=>bif Nat.beq (szE T t) 1 then yN T σ t x y (K1 K)else False
   |_,_=>False
  |.builtin .append=>match c.args.toList,c.argTypes.toList with
   |[x,y],[t,t']=>bif Nat.beq t t' then(match ev σ x with
    |.s (.own _)=>xI T σ [] d t x y (K2 K)
    |.s (.mo _ _)=>xI T σ [] d t x y (K2 K)
    |.s (.d _)=>xI T σ [] d t x y (K1 K)
    |_=>False)else False
   |_,_=>False
  |_=>False
 |_=>False
section
variable{P:Program}{T:List (Nat×bP)}{N:Nat}{ref rc:List Nat}{σ σ':St}{d:Nat}
theorem alloc.pt{t:Nat}{C:AV→aN→Prop}(h:xJ T σ d t C):∃r b,C r ((d,some b)::σ.box)∧∀σ',aH σ'.box d=aH σ.box d→∀C':AV→aN→Prop,C' r ((d,some b)::σ'.box)→xJ T σ' d t C':=by
 unfold xJ at h
 split at h
 case h_2=>cases h
 rename_i ti fS
 split at h
 case h_2=>cases h
 rename_i hd
 exact⟨_,_,h,fun σ' e C' k=>by unfold xJ;simp only [fS,e,hd];exact k⟩
theorem IW.pt{x:Operand}{C:AV→aN→Prop}(h:IW σ d x C):∃r b,C r ((d,some b)::σ.box)∧∀σ',aH σ'.box d=aH σ.box d→ev σ' x=ev σ x→∀C':AV→aN→Prop,C' r ((d,some b)::σ'.box)→IW σ' d x C':=by
 unfold IW at h
 replace h:=fe.oU h
 obtain⟨va,h,hp⟩:=h
 split at h
 case h_2=>cases h
 rename_i cs lM
 cases nX:lL cs with
 |false=>rw[nX]at h;cases h
 |true=>
  rw[nX]at h
  simp only [cond_true]at h
  split at h
  case h_2=>cases h
  rename_i hd
  refine⟨_,_,h,fun σ' e ex C' k=>?_⟩
  unfold IW
  rw[ex]
  refine hp _ ?_
  simp only [lM,nX,cond_true,e,hd]
  exact k
theorem oF.pt{t:Nat}{x y:Operand}{C:AV→aN→Prop}(h:oF T σ t x y C):∃r n b,C r ((n,some b)::σ.box)∧∀σ',aH σ'.box n=aH σ.box n→ev σ' x=ev σ x→ev σ' y=ev σ y→∀C':AV→aN→Prop,C' r ((n,some b)::σ'.box)→oF T σ' t x y C':=by
 unfold oF at h
 replace h:=fe.oU h
 obtain⟨va,h,hp⟩:=h
 replace h:=fe.oU h
 obtain⟨vv,h,Z7⟩:=h
 split at h
 case h_2=>cases h
 rename_i ti cs fS lM
 cases nX:(lL cs&&Nat.beq cs.length ti.size)with
 |false=>rw[nX]at h;cases h
 |true=>
  rw[nX]at h
  simp only [cond_true]at h
  split at h
  case h_3=>cases h
  ·rename_i b off
   split at h
   case h_2=>cases h
   rename_i XQ hb
   cases hle:Nat.ble (off+ti.size) XQ.length with
   |false=>rw[hle]at h;cases h
   |true=>
    rw[hle]at h
    refine⟨_,_,_,h,fun σ' e ex ey C' k=>?_⟩
    unfold oF
    rw[ex,ey]
    refine hp _ (Z7 _ ?_)
    simp only [fS,lM,nX,cond_true,e,hb,hle]
    exact k
  ·rename_i b ix s off
   split at h
   case h_3=>cases h
   ·rename_i e n s' f hb
    cases hc:(oE cs&&Nat.beq s s'&&Nat.ble (off+ti.size) s)with
    |false=>rw[hc]at h;cases h
    |true=>
     rw[hc]at h
     refine⟨_,_,_,h.2,fun σ' e ex ey C' k=>?_⟩
     unfold oF
     rw[ex,ey]
     refine hp _ (Z7 _ ?_)
     simp only [fS,lM,nX,cond_true,e,hb,hc]
     exact⟨h.1,k⟩
   ·rename_i e n s' f hb
    cases hc:(oE cs&&Nat.beq s s'&&Nat.ble (off+ti.size) s)with
    |false=>rw[hc]at h;cases h
    |true=>
     rw[hc]at h
     refine⟨_,_,_,h.2,fun σ' e ex ey C' k=>?_⟩
     unfold oF
     rw[ex,ey]
     refine hp _ (Z7 _ ?_)
     simp only [fS,lM,nX,cond_true,e,hb,hc]
     exact⟨h.1,k⟩
theorem parts.oU{g:Option Bool}{l:List (Nat×Operand)}{K:List (Nat×List SV)→Prop}(h:parts g σ l K):∃ps,K ps∧eQ (parts g σ l) ps:=by
 obtain⟨r,h1,h2⟩:=parts.pt (α:=List (Nat×List SV)) (C:=fun ps K=>K ps) h (fun ps K h=>⟨ps,h,fun _ k=>k⟩)
 exact⟨r,h1,h2⟩
theorem IV.pt{t len:Nat}{pa:List (Nat×Operand)}{C:AV→aN→Prop}(h:IV T σ d t len pa C):∃r b,C r ((d,some b)::σ.box)∧∀σ',aH σ'.box d=aH σ.box d→UW (pa.map (·.2)) σ σ'→∀C':AV→aN→Prop,C' r ((d,some b)::σ'.box)→IV T σ' d t len pa C':=by
 unfold IV at h
 replace h:=parts.oU h
 obtain⟨ps,h,hp⟩:=h
 split at h
 case h_2=>cases h
 rename_i ti fS
 split at h
 case h_2=>cases h
 rename_i e hu
 split at h
 case h_2=>cases h
 rename_i te mG
 split at h
 case h_2=>cases h
 rename_i cs lM
 cases hc:(oE cs&&Nat.ble (len*te.size) 16777216&&Nat.blt 0 te.size&&Nat.beq te.zero.length te.size)with
 |false=>rw[hc]at h;cases h
 |true=>
  rw[hc]at h
  simp only [cond_true]at h
  split at h
  case h_2=>cases h
  rename_i hd
  refine⟨_,_,h,fun σ' e hE C' k=>?_⟩
  unfold IV
  refine parts.congr hE (hp _ ?_)
  simp only [fS,hu,mG,lM,hc,cond_true,e,hd]
  exact k
theorem mkX.pt{t:Nat}{x y:Operand}{C:AV→aN→Prop}(h:mkX T σ d t x y C):∃r b,C r ((d,some b)::σ.box)∧∀σ',aH σ'.box d=aH σ.box d→ev σ' x=ev σ x→ev σ' y=ev σ y→∀C':AV→aN→Prop,C' r ((d,some b)::σ'.box)→mkX T σ' d t x y C':=by
 unfold mkX at h
 replace h:=fe.oU h
 obtain⟨vx,h,hp⟩:=h
 replace h:=fe.oU h
 obtain⟨vy,h,Z7⟩:=h
 split at h
 case h_2=>cases h
 rename_i n c
 split at h
 case h_2=>cases h
 rename_i ti fS
 split at h
 case h_2=>cases h
 rename_i e hu
 split at h
 case h_2=>cases h
 rename_i te mG
 cases hc:(Nat.blt 0 te.size&&Nat.blt 0 te.bytes&&Nat.beq te.zero.length te.size)with
 |false=>rw[hc]at h;cases h
 |true=>
  rw[hc]at h
  simp only [cond_true]at h
  split at h
  case h_2=>cases h
  rename_i hd
  refine⟨_,_,h.2.2.2,fun σ' e ex ey C' k=>?_⟩
  unfold mkX
  rw[ex,ey]
  refine hp _ (Z7 _ ?_)
  simp only [fS,hu,mG,hc,cond_true,e,hd]
  exact⟨h.1,h.2.1,h.2.2.1,k⟩
theorem rC.congr{va:AV}(h:vU (bV σ va) σ σ'):rC σ' va=rC σ va:=by
 have key:∀y,y∈bV σ va→aH σ'.box y=aH σ.box y:=fun y hy=>h y hy
 unfold rC
 split
 ·rw[key _ (by simp[bV,reach])]
 ·rfl
 ·rw[key _ (by simp[bV,reach])]
 ·rfl
theorem yN.pt{t:Nat}{x y:Operand}{C:AV→aN→Prop}(h:yN T σ t x y C):∃r n b,C r ((n,some b)::σ.box)∧∀σ',aH σ'.box n=aH σ.box n→ev σ' x=ev σ x→ev σ' y=ev σ y→vU (bV σ (ev σ y)) σ σ'→∀C':AV→aN→Prop,C' r ((n,some b)::σ'.box)→yN T σ' t x y C':=by
 unfold yN at h
 replace h:=fe.oU h
 obtain⟨vx,h,hp⟩:=h
 replace h:=fe.oU (fe.imp (K':=fun r=>BS (ev σ y) r∧_) (fun r hs k=>⟨hs,k⟩) h)
 obtain⟨vy,⟨iU,h⟩,Z7⟩:=h
 split at h
 case h_2=>cases h
 rename_i ti fS
 split at h
 case h_2=>cases h
 rename_i e hu
 split at h
 case h_2=>cases h
 rename_i te mG
 split at h
 case h_2=>cases h
 rename_i k s' g wY
 split at h
 case h_2=>cases h
 rename_i b lo m RT
 split at h
 case h_2=>cases h
 rename_i e' n s f hb
 cases hc:(Nat.beq te.size 1&&Nat.beq s 1&&Nat.beq s' 1)with
 |false=>rw[hc]at h;cases h
 |true=>
  rw[hc]at h
  refine⟨_,_,_,h.2,fun σ' e ex ey hr C' kk=>?_⟩
  unfold yN
  rw[ex,ey]
  refine hp _ (Z7 _ ?_)
  rw[←iU.reach σ]at hr
  simp only [fS,hu,mG,rC.congr hr,wY,RT,e,hb,hc,cond_true]
  exact⟨h.1,kk⟩
theorem xI.pt{t:Nat}{x y:Operand}{C:AV→aN→Prop}(h:xI T σ [] d t x y C):∃r u z,C r (u++σ.box)∧BS (ev σ x) (.s z)∧(match z with|.d _=>∃p,u=[p]|_=>∃p q,u=[p,q])∧∀σ',(∀n,n∈u.map (·.1)→aH σ'.box n=aH σ.box n)→ev σ' x=ev σ x→ev σ' y=ev σ y→vU (bV σ (ev σ y)) σ σ'→∀C':AV→aN→Prop,C' r (u++σ'.box)→xI T σ' [] d t x y C':=by
 unfold xI at h
 replace h:=fe.oU (fe.imp (K':=fun r=>BS (ev σ x) r∧_) (fun r hs k=>⟨hs,k⟩) h)
 obtain⟨vx,⟨hsx,h⟩,hp⟩:=h
 replace h:=fe.oU (fe.imp (K':=fun r=>BS (ev σ y) r∧_) (fun r hs k=>⟨hs,k⟩) h)
 obtain⟨vy,⟨iU,h⟩,Z7⟩:=h
 split at h
 case h_2=>cases h
 rename_i ti fS
 split at h
 case h_2=>cases h
 rename_i e hu
 split at h
 case h_2=>cases h
 rename_i te mG
 split at h
 case h_2=>cases h
 rename_i hd
 split at h
 case h_2=>cases h
 rename_i m s' g wY
 cases hc:(Nat.beq s' te.size&&Nat.blt 0 te.size&&Nat.blt 0 te.bytes&&Nat.beq te.zero.length te.size)with
 |false=>rw[hc]at h;cases h
 |true=>
  rw[hc]at h
  simp only [cond_true]at h
  split at h
  ·rename_i b
   split at h
   case h_2=>cases h
   rename_i e' n s f hb
   cases HY:(Nat.beq e' e&&Nat.beq s te.size)with
   |false=>rw[HY]at h;cases h
   |true=>
    rw[HY]at h
    simp only [cond_true]at h
    refine⟨_,[(d,some (.row e (n+m) te.size (k7 n f g))),(b,none)],_,h.2.2,hsx,⟨_,_,rfl⟩,fun σ' eb ex ey hr C' kk=>?_⟩
    have e1:aH σ'.box d=none:=by rw[eb d sM];exact hd
    have e2:aH σ'.box b=some (some (.row e' n s f)):=by rw[eb b sM];exact hb
    unfold xI
    rw[ex,ey]
    refine hp _ (Z7 _ ?_)
    rw[←iU.reach σ]at hr
    simp only [fS,hu,mG,e1,rC.congr hr,wY,hc,cond_true,e2,HY]
    exact⟨h.1,h.2.1,kk⟩
  ·rename_i z b
   split at h
   case h_2=>cases h
   rename_i e' n s f hb
   cases HY:(Nat.beq e' e&&Nat.beq s te.size)with
   |false=>rw[HY]at h;cases h
   |true=>
    rw[HY]at h
    simp only [cond_true]at h
    refine⟨_,[(d,some (.row e ((bif z then 0 else n)+m) te.size (k7 (bif z then 0 else n) f g))),(b,none)],_,h.2.2.2,hsx,⟨_,_,rfl⟩,fun σ' eb ex ey hr C' kk=>?_⟩
    have e1:aH σ'.box d=none:=by rw[eb d sM];exact hd
    have e2:aH σ'.box b=some (some (.cA e' n s f)):=by rw[eb b sM];exact hb
    unfold xI
    rw[ex,ey]
    refine hp _ (Z7 _ ?_)
    rw[←iU.reach σ]at hr
    simp only [fS,hu,mG,e1,rC.congr hr,wY,hc,cond_true,e2,HY]
    exact⟨h.1,h.2.1,h.2.2.1,kk⟩
  ·refine⟨_,[(d,some (.row e m te.size g))],_,h.2.2,hsx,⟨_,rfl⟩,fun σ' eb ex ey hr C' kk=>?_⟩
   have e1:aH σ'.box d=none:=by rw[eb d sM];exact hd
   unfold xI
   rw[ex,ey]
   refine hp _ (Z7 _ ?_)
   rw[←iU.reach σ]at hr
   simp only [fS,hu,mG,e1,rC.congr hr,wY,hc,cond_true]
   exact⟨h.1,h.2.1,kk⟩
  ·cases h
theorem uS.pt{op:Op}{K:AV→aN→Prop}(h:uS T d op σ K):
  ∃r u,K r u∧(∀σ',(∀n,n∈u.map (·.1)→aH σ'.box n=aH σ.box n)→UW op.operands.toList σ σ'→vU (sE σ op) σ σ'→∀K':AV→aN→Prop,K' r u→uS T d op σ' K')∧
   ∀ref,ID T ref d op σ fun v bx=>v=r∧bx=u++σ.box:=by
 cases op with
 |alloc t=>
  simp only [uS]at h
  obtain⟨r,b,h1,h2⟩:=alloc.pt h
  refine⟨r,[(d,some b)],h1,fun σ' e _ _ K' k=>?_,fun _=>?_⟩
  ·simp only [uS];exact h2 σ' (e d sM) _ k
  ·simp only [ID];exact h2 σ rfl _ ⟨rfl,rfl⟩
 |box t x=>
  simp only [uS]at h
  obtain⟨r,b,h1,h2⟩:=IW.pt h
  refine⟨r,[(d,some b)],h1,fun σ' e he _ K' k=>?_,fun _=>?_⟩
  ·simp only [uS];exact h2 σ' (e d sM) (he x (by simp[Op.operands])) _ k
  ·simp only [ID];exact h2 σ rfl rfl _ ⟨rfl,rfl⟩
 |store t x y=>
  simp only [uS]at h
  obtain⟨r,n,b,h1,h2⟩:=oF.pt h
  refine⟨r,[(n,some b)],h1,fun σ' e he _ K' k=>?_,fun _=>?_⟩
  ·simp only [uS];exact h2 σ' (e n sM) (he x (by simp[Op.operands])) (he y (by simp[Op.operands])) _ k
  ·simp only [ID];exact h2 σ rfl rfl rfl _ ⟨rfl,rfl⟩
 |buildSlice t len pa=>
  simp only [uS]at h
  obtain⟨r,b,h1,h2⟩:=IV.pt h
  refine⟨r,[(d,some b)],h1,fun σ' e he _ K' k=>?_,fun _=>?_⟩
  ·simp only [uS];exact h2 σ' (e d sM) (fun y hy=>he y (by simpa [Op.operands]using hy)) _ k
  ·simp only [ID];exact h2 σ rfl (fun _ _=>rfl) _ ⟨rfl,rfl⟩
 |makeSlice t x y=>
  simp only [uS]at h
  obtain⟨r,b,h1,h2⟩:=mkX.pt h
  refine⟨r,[(d,some b)],h1,fun σ' e he _ K' k=>?_,fun _=>?_⟩
  ·simp only [uS];exact h2 σ' (e d sM) (he x (by simp[Op.operands])) (he y (by simp[Op.operands])) _ k
  ·simp only [ID];exact h2 σ rfl rfl rfl _ ⟨rfl,rfl⟩
 |call c=>
  obtain⟨callee,args,vQ⟩:=c
  simp only [uS]at h
  split at h
  ·split at h
   case h_2=>cases h
   rename_i x y t t' hx ht
   cases hz:Nat.beq (szE T t) 1 with
   |false=>rw[hz]at h;cases h
   |true=>
   rw[hz]at h
   simp only [cond_true]at h
   obtain⟨r,n,b,h1,h2⟩:=yN.pt h
   have e1:args= #[x,y]:=by apply Array.ext';simpa using hx
   have e2:vQ= #[t,t']:=by apply Array.ext';simpa using ht
   subst e1;subst e2
   refine⟨r,[(n,some b)],h1,fun σ' e he hr K' k=>?_,fun _=>?_⟩
   ·simp only [uS,hz,cond_true]
    exact h2 σ' (e n sM) (he x (by simp[Op.operands,Call.operands])) (he y (by simp[Op.operands,Call.operands])) (hr.mono fun m hm=>by
     simp only [sE];exact iA (j:=1) (c:=y) (by simp[Op.operands,Call.operands]) hm) _ k
   ·simp only [ID,KH,hz];exact h2 σ rfl rfl rfl (fun _ _=>rfl) _ ⟨rfl,rfl⟩
  ·split at h
   case h_2=>cases h
   rename_i x y t t' hx ht
   cases DN:Nat.beq t t' with
   |false=>rw[DN]at h;cases h
   |true=>
    rw[DN]at h
    simp only [cond_true]at h
    have e1:args= #[x,y]:=by apply Array.ext';simpa using hx
    have e2:vQ= #[t,t']:=by apply Array.ext';simpa using ht
    subst e1;subst e2
    have two:∀{z:SV},ev σ x=.s z→(∀q,z≠.d q)→(∀i j k l,z≠.jH i j k l)→(∀σ' (K':AV→aN→Prop),ev σ' x=.s z→xI T σ' [] d t x y (K2 K')→uS T d (.call ⟨.builtin .append, #[x,y], #[t,t']⟩) σ' K')→xI T σ [] d t x y (K2 K)→∃r u,K r u∧(∀σ',(∀n,n∈u.map (·.1)→aH σ'.box n=aH σ.box n)→UW (Op.operands (.call ⟨.builtin .append, #[x,y], #[t,t']⟩)).toList σ σ'→vU (sE σ (.call ⟨.builtin .append, #[x,y], #[t,t']⟩)) σ σ'→∀K':AV→aN→Prop,K' r u→uS T d (.call ⟨.builtin .append, #[x,y], #[t,t']⟩) σ' K')∧
      ∀ref,ID T ref d (.call ⟨.builtin .append, #[x,y], #[t,t']⟩) σ fun v bx=>v=r∧bx=u++σ.box:=by
     intro z hz XT V9 nW h
     obtain⟨r,u,z',h1,iU,hu,h2⟩:=xI.pt h
     rw[hz]at iU
     have hzz:z'=z:=by
      rcases iU with e|⟨_,_,e,_⟩|⟨_,_,e,_⟩
      ·cases e;rfl
      ·cases e
      ·cases e
     subst hzz
     have hu:∃p q,u=[p,q]:=by
      split at hu
      ·rename_i q;exact absurd rfl (XT q)
      ·exact hu
     obtain⟨p,q,rfl⟩:=hu
     refine⟨r,[p,q],h1,fun σ' e he hr K' k=>?_,fun ref=>?_⟩
     ·have ex:=he x (by simp[Op.operands,Call.operands])
      refine nW σ' K' (ex.trans hz) ?_
      exact h2 σ' e ex (he y (by simp[Op.operands,Call.operands])) (hr.mono fun m hm=>by
       simp only [sE];exact iA (j:=1) (c:=y) (by simp[Op.operands,Call.operands]) hm) _ k
     ·have:=h2 σ (fun _ _=>rfl) rfl rfl (fun _ _=>rfl) (fun v bx=>v=r∧bx=[p,q]++σ.box) ⟨rfl,rfl⟩
      simp only [ID,DN,cond_true,hz]
      split
      ·rename_i e;cases e;exact absurd rfl (V9 _ _ _ _)
      ·exact this
    split at h
    ·rename_i b hv
     exact two hv (fun q e=>nomatch e) (fun i j k l e=>nomatch e) (fun σ' K' e h=>by simp only [uS,DN,cond_true,e];exact h) h
    ·rename_i b c hv
     exact two hv (fun q e=>nomatch e) (fun i j k l e=>nomatch e) (fun σ' K' e h=>by simp only [uS,DN,cond_true,e];exact h) h
    ·rename_i q hv
     obtain⟨r,u,z',h1,iU,hu,h2⟩:=xI.pt h
     rw[hv]at iU
     have hzz:z'=.d q:=by
      rcases iU with e|⟨_,_,e,_⟩|⟨_,_,e,_⟩
      ·cases e;rfl
      ·cases e
      ·cases e
     subst hzz
     obtain⟨p,rfl⟩:=hu
     refine⟨r,[p],h1,fun σ' e he hr K' k=>?_,fun ref=>?_⟩
     ·have ex:=he x (by simp[Op.operands,Call.operands])
      have:=h2 σ' e ex (he y (by simp[Op.operands,Call.operands])) (hr.mono fun m hm=>by
       simp only [sE];exact iA (j:=1) (c:=y) (by simp[Op.operands,Call.operands]) hm) (K1 K') k
      simp only [uS,DN,cond_true,ex,hv]
      exact this
     ·have:=h2 σ (fun _ _=>rfl) rfl rfl (fun _ _=>rfl) (fun v bx=>v=r∧bx=[p]++σ.box) ⟨rfl,rfl⟩
      simp only [ID,DN,cond_true,hv]
      exact this
    ·cases h
  ·cases h
 |_=>exact h.elim
def mR(box:aN)(x:Nat):Option jE:=match aH box x with
 |some (some b)=>some b
 |_=>none
theorem tP{box:aN}{x:Nat}{b:jE}:mR box x=some b↔aH box x=some (some b):=by
 unfold mR
 split
 ·rename_i c h;rw[h];simp
 ·rename_i h
  constructor
  ·intro h2;cases h2
  ·intro h2;exact absurd h2 (h b)
theorem wQ{u v:aN}{x:Nat}(h:mR u x=mR v x):aH u x=aH v x∨((∀b,aH u x≠some (some b))∧∀b,aH v x≠some (some b)):=by
 cases hu:mR u x with
 |some b=>
  rw[hu]at h
  exact .inl ((tP.1 hu).trans (tP.1 h.symm).symm)
 |none=>
  rw[hu]at h
  refine .inr ⟨fun b hb=>?_,fun b hb=>?_⟩
  ·rw[tP.2 hb]at hu;cases hu
  ·rw[tP.2 hb]at h;cases h
theorem UF{σ σ':St}(h:∀x,mR σ.box x=mR σ'.box x):∀(n:Nat) (x:SV),dS n σ x=dS n σ' x:=by
 have own:∀n x,dS n σ (.own x)=dS n σ' (.own x):=by
  intro n x
  cases n <;>
  ·simp only [dS]
   rcases wQ (h x)with e|⟨e1,e2⟩
   ·rw[e]
   ·split
    ·rename_i hb;exact absurd hb (e1 _)
    ·split
     ·rename_i hb;exact absurd hb (e2 _)
     ·rfl
 have mo:∀n z x,dS n σ (.mo z x)=dS n σ' (.mo z x):=by
  intro n z x
  cases n <;>
  ·simp only [dS]
   rcases wQ (h x)with e|⟨e1,e2⟩
   ·rw[e]
   ·split
    ·rename_i hb;exact absurd hb (e1 _)
    ·split
     ·rename_i hb;exact absurd hb (e2 _)
     ·rfl
 have aL7:∀x s lo m,dS 0 σ (.jH x s lo m)=dS 0 σ' (.jH x s lo m):=by
  intro x s lo m
  simp only [dS]
  rcases wQ (h x)with e|⟨e1,e2⟩
  ·rw[e]
  ·split
   ·rename_i hb;exact absurd hb (e1 _)
   ·split
    ·rename_i hb;exact absurd hb (e2 _)
    ·rfl
 intro n
 induction n with
 |zero=>
  intro x
  cases x with
  |own x=>exact own _ _
  |mo z x=>exact mo _ _ _
  |jH x s lo m=>exact aL7 _ _ _ _
  |_=>rfl
 |succ n ih=>
  intro x
  cases x with
  |own x=>exact own _ _
  |mo z x=>exact mo _ _ _
  |jH x s lo m=>
   simp only [dS]
   rcases wQ (h x)with e|⟨e1,e2⟩
   ·rw[e]
    split
    ·rfl
    ·rename_i cs hb
     congr 1
     congr 1
     funext i j
     split
     ·exact ih _
     ·rfl
    ·rfl
   ·split
    ·rename_i hb;exact absurd hb (e1 _)
    ·rename_i hb;exact absurd hb (e1 _)
    ·split
     ·rename_i hb;exact absurd hb (e2 _)
     ·rename_i hb;exact absurd hb (e2 _)
     ·rfl
  |ptr x off=>
   simp only [dS]
   rcases wQ (h x)with e|⟨e1,e2⟩
   ·rw[e]
    split
    ·rename_i cs hb
     congr 1
     funext j
     split
     ·exact ih _
     ·rfl
    ·rfl
   ·split
    ·rename_i hb;exact absurd hb (e1 _)
    ·split
     ·rename_i hb;exact absurd hb (e2 _)
     ·rfl
  |dR f cs=>
   simp only [dS]
   congr 1
   funext i
   split
   ·rfl
   ·exact ih _
   ·rfl
  |_=>rfl
theorem PN{σ σ':St}(h:∀x,mR σ.box x=mR σ'.box x)(l:List AV):iI σ l=iI σ' l:=by
 have hs:∀cs:List SV,j9 σ cs=j9 σ' cs:=by
  intro cs
  induction cs with
  |nil=>rfl
  |cons c r ih=>simp only [j9,uV,ih,UF h]
 induction l with
 |nil=>rfl
 |cons v r ih=>
  simp only [iI,ih]
  congr 1
  cases v with
  |s x=>simp only [oZ,uV,UF h]
  |g cs=>simp only [oZ,hs]
  |_=>rfl
theorem yW{zs:List Nat}{x:Nat}:∀{box:aN},mR (gS zs box) x=bif zs.contains x then mR box x else none
 |[]=>by cases zs.contains x <;> rfl
 |(k,b)::r=>by
  have ih:=yW (zs:=zs) (x:=x) (box:=r)
  unfold mR at*
  rw[gS,aK,aK]
  by_cases e:k=x
  ·subst e
   rw[if_pos rfl,if_pos rfl]
   cases zs.contains k <;> rfl
  ·rw[if_neg e,if_neg e];exact ih
theorem F9{zs:List Nat}{x:Nat}:∀{box:aN},aH (lA zs box) x=match aH box x with
  |none=>none
  |some b=>some (bif zs.contains x then none else b)
 |[]=>rfl
 |(k,b)::r=>by
  rw[lA,aK,aK]
  by_cases e:k=x
  ·subst e
   rw[if_pos rfl,if_pos rfl]
  ·rw[if_neg e,if_neg e];exact F9
def BH(zs:List Nat):aN:=zs.map fun z=>(z,none)
theorem WY{zs:List Nat}{x:Nat}:aH (BH zs) x=bif zs.contains x then some none else none:=by
 induction zs with
 |nil=>rfl
 |cons z r ih=>
  show aH ((z,none)::BH r) x=_
  rw[aK]
  by_cases e:z=x
  ·subst e;rw[if_pos rfl];simp
  ·rw[if_neg e,ih]
   have:(z::r).contains x=r.contains x:=by
    simp only [List.contains_cons]
    rw[show(x==z)=false by simpa using fun h=>e h.symm]
    rfl
   rw[this]
def wT(rc:List Nat)(σ:St)(op:Op):Option (Operand×List Operand):=
 match op with
 |.call {callee:=.value fo,args, .. }=>match ev σ fo with
  |.s (.dR f _)=>bif (rc.contains (f+1000000)||rc.contains (f+2000000))||rc.contains (f+1500000)then some (fo,args.toList)else none
  |_=>none
 |_=>none
def gE(P:Program)(rc:List Nat)(σ:St)(vf:AV)(ars:List AV)(K:AV→aN→Prop):Prop:=
 match vf with
 |.s (.dR f cs)=>bif rc.contains (f+2000000)then
   ∃zs r,(zs.all fun z=>(mR σ.box z).isSome)=true∧aF P f (iI ⟨σ.env,gS zs σ.box⟩ (ars++vL cs)) r∧K r (BH zs)
  else bif rc.contains (f+1500000)then
   ∃ren args bx r bx',bT P f args bx r bx'∧ars++vL cs=yF ren args∧mO ren σ.box bx∧AG ren σ.box args bx r bx'=true∧K (nH ren r) (rO ren (jB ren [] bx) bx')
  else ∃ren args r y b,bT P f args [] r [(y,b)]∧ars++vL cs=yF ren args∧AG ren [] args [] r [(y,b)]=true∧aH σ.box (look ren y)=none∧K (nH ren r) [(look ren y,some (jF ren b))]
 |_=>False
theorem wT.op{rc:List Nat}{o:Oper}{fo:Operand}{l:List Operand}(h:wT rc σ o.op=some (fo,l)):(∃f cs,ev σ fo=.s (.dR f cs))∧∃args vQ,o.op=.call {callee:=.value fo,args:=args,argTypes:=vQ}∧args.toList=l:=by
 unfold wT at h
 split at h
 ·rename_i fo' args vQ nW
  split at h
  ·rename_i f cs hv
   cases hc:((rc.contains (f+1000000)||rc.contains (f+2000000))||rc.contains (f+1500000))with
   |false=>rw[hc]at h;cases h
   |true=>rw[hc]at h;simp only [cond_true,Option.some.injEq,Prod.mk.injEq]at h;obtain⟨rfl,rfl⟩:=h;exact⟨⟨_,_,hv⟩,_,_,nW,rfl⟩
  ·cases h
 ·cases h
theorem wT.congr{rc:List Nat}{op:Op}(he:UW op.operands.toList σ σ'):wT rc σ' op=wT rc σ op:=by
 unfold wT
 split
 ·rw[he _ (by simp[Op.operands,Call.operands])]
 ·rfl
theorem OD{ren:List (Nat×Nat)}{x:Nat}:∀{bx:eJ},x∈names bx→look ren x∈(jB ren [] bx).map (·.1)
 |[],h=>by cases h
 |(y,b)::r,h=>by
  simp only [names,List.mem_cons]at h
  simp only [jB,List.map_cons,List.mem_cons]
  exact h.imp (fun e=>by rw[e]) OD
theorem E5{ren:List (Nat×Nat)}{bx:eJ}{x:Nat}:∀{bx':eJ},x∈names bx∨x∈names bx'→look ren x∈(rO ren (jB ren [] bx) bx').map (·.1)
 |[],h=>OD (h.resolve_right (by simp[names]))
 |(y,b)::r,h=>by
  simp only [rO,List.map_cons,List.mem_cons]
  rcases h with h|h
  ·exact .inr (E5 (.inl h))
  ·simp only [names,List.mem_cons]at h
   exact h.imp (fun e=>by rw[e]) (fun h=>E5 (.inr h))
theorem JO{ren:List (Nat×Nat)}{box:aN}:∀{bx:eJ},jB ren box bx=jB ren [] bx++box
 |[]=>rfl
 |(y,_)::r=>congrArg (fun l=>(look ren y,none)::l) (JO (bx:=r))
theorem P7{ren:List (Nat×Nat)}{box:aN}{bx:eJ}:∀{bx':eJ},rO ren (jB ren box bx) bx'=rO ren (jB ren [] bx) bx'++box
 |[]=>JO
 |(y,b)::r=>congrArg (fun l=>(look ren y,some (jF ren b))::l) (P7 (bx':=r))
theorem A4{ren:List (Nat×Nat)}{bo bo':aN}{ns:List Nat}:∀{l:List Nat},(∀y,y∈l→aH bo' (look ren y)=aH bo (look ren y))→nL ren bo ns l=true→nL ren bo' ns l=true
 |[],_,h=>h
 |y::r,hk,h=>by
  simp only [nL,Bool.and_eq_true]at h ⊢
  refine⟨?_,A4 (fun z hz=>hk z (List.mem_cons_of_mem _ hz)) h.2⟩
  have:=h.1
  rw[hk y (List.mem_cons_self)]
  exact this
theorem gE.pt{vf:AV}{ars:List AV}{K:Ef→Prop}(h:gE P rc σ vf ars fun v u=>K (some v,u)):∃e,K e∧eQ (fun K:Ef→Prop=>gE P rc σ vf ars fun v u=>K (some v,u)) e:=by
 unfold gE at h
 split at h
 case h_2=>cases h
 rename_i f cs
 cases hc:rc.contains (f+2000000)with
 |true=>
  rw[hc]at h
  simp only [cond_true]at h
  obtain⟨zs,r,h1,h2,h3⟩:=h
  exact⟨_,h3,fun K k=>by simp only [gE,hc,cond_true];exact⟨zs,r,h1,h2,k⟩⟩
 |false=>
  rw[hc]at h
  simp only [cond_false]at h
  cases hd:rc.contains (f+1500000)with
  |true=>
   rw[hd]at h
   simp only [cond_true]at h
   obtain⟨ren,args,bx,r,bx',h1,h2,h3,h4,h5⟩:=h
   exact⟨_,h5,fun K k=>by
    show(bif rc.contains (f+2000000)then _ else bif rc.contains (f+1500000)then _ else _)
    rw[hc,cond_false,hd,cond_true];exact⟨ren,args,bx,r,bx',h1,h2,h3,h4,k⟩⟩
  |false=>
  rw[hd]at h
  simp only [cond_false]at h
  obtain⟨ren,args,r,y,b,h1,h2,h3,h4,h5⟩:=h
  exact⟨_,h5,fun K k=>by
    show(bif rc.contains (f+2000000)then _ else bif rc.contains (f+1500000)then _ else _)
    rw[hc,cond_false,hd,cond_false];exact⟨ren,args,r,y,b,h1,h2,h3,h4,k⟩⟩
theorem gE.congr{vf:AV}{ars:List AV}{K K':AV→aN→Prop}(hk:∀v u,K v u→(∀n,n∈u.map (·.1)→aH σ'.box n=aH σ.box n)∧K' v u)(h:gE P rc σ vf ars K):gE P rc σ' vf ars K':=by
 unfold gE at*
 split at h
 case h_2=>cases h
 rename_i f cs
 cases hc:rc.contains (f+2000000)with
 |true=>
  rw[hc]at h
  simp only [cond_true]at h
  simp only [cond_true]
  obtain⟨zs,r,h1,h2,h3⟩:=h
  obtain⟨q1,q2⟩:=hk _ _ h3
  have q:∀z,z∈zs→aH σ'.box z=aH σ.box z:=fun z hz=>q1 z (by unfold BH;rw[List.map_map];exact List.mem_map.2 ⟨z,hz,rfl⟩)
  refine⟨zs,r,?_,?_,q2⟩
  ·rw[List.all_eq_true]at h1 ⊢
   intro z hz
   have:=h1 z hz
   unfold mR at this ⊢
   rw[q z hz];exact this
  ·rw[PN (σ':=⟨σ.env,gS zs σ.box⟩)]
   ·exact h2
   ·intro x
    show mR (gS zs σ'.box) x=mR (gS zs σ.box) x
    rw[yW,yW]
    cases hz:zs.contains x with
    |false=>rfl
    |true=>
     have hz:x∈zs:=by simpa using hz
     unfold mR
     rw[q x hz]
 |false=>
  rw[hc]at h
  simp only [cond_false]at h
  simp only [cond_false]
  cases hd:rc.contains (f+1500000)with
  |true=>
   rw[hd]at h
   simp only [cond_true]at h ⊢
   obtain⟨ren,args,bx,r,bx',h1,h2,h3,h4,h5⟩:=h
   obtain⟨q1,q2⟩:=hk _ _ h5
   refine⟨ren,args,bx,r,bx',h1,h2,mO.congr (fun x hx=>q1 _ (E5 (.inl hx))) h3,?_,q2⟩
   simp only [AG,Bool.and_eq_true]at h4 ⊢
   exact⟨h4.1,A4 (fun y hy=>q1 _ (E5 (.inr hy))) h4.2⟩
  |false=>
  rw[hd]at h
  simp only [cond_false]at h ⊢
  obtain⟨ren,args,r,y,b,h1,h2,h3,h4,h5⟩:=h
  obtain⟨q1,q2⟩:=hk _ _ h5
  exact⟨ren,args,r,y,b,h1,h2,h3,(q1 _ sM).trans h4,q2⟩
theorem gE.spec{o:Oper}{fo:Operand}{l:List Operand}{K:AV→aN→Prop}{cx:Cx}(hq:wT rc σ o.op=some (fo,l))(V6:∀f,rc.contains (f+2000000)=true→cx.ref=[])
  (h:fe none (ev σ fo) fun vf=>dQ none σ l fun ars=>gE P rc σ vf ars K):
  ∃r u,K r u∧∀N M β a w,Inv cx N M β σ a w→∃f vs,(execOp a.eval o).run P w=.ok (.enter f vs) w∧
   Calls P f vs w fun e w'=>∃v M' β',e=.returned v∧r.bD M' β' v∧Inv cx N M' β' ⟨σ.env,u++σ.box⟩ a w'∧Grow cx.B M M'∧b8 cx w w':=by
 obtain⟨⟨f,cs,hv⟩,ho⟩:=wT.op hq
 have h2:dQ none σ l fun ars=>gE P rc σ (.s (.dR f cs)) ars K:=by rw[hv]at h;exact h
 cases hc:rc.contains (f+2000000)with
 |true=>
  have h3:fe none (ev σ fo) fun vf=>dQ none σ l fun ars=>aDC P σ vf ars fun r bx=>∃zs,(zs.all fun z=>(mR σ.box z).isSome)=true∧K r (BH zs)∧bx=lA zs σ.box:=by
   rw[hv]
   refine dQ.congr (fun _ _=>rfl) (fun ars _ h=>?_) h2
   unfold gE at h
   simp only [hc,cond_true]at h
   obtain⟨zs,r,h1,h2,h3⟩:=h
   exact⟨zs,r,h2,zs,h1,h3,rfl⟩
  obtain⟨r,bx,⟨zs,hz,hk,rfl⟩,hs⟩:=eat.spec ho h3
  refine⟨r,_,hk,fun N M β a w i=>?_⟩
  obtain⟨f,vs,a6,dV⟩:=hs cx N M β a w (V6 _ hc) i
  refine⟨f,vs,a6,dV.mono ?_⟩
  rintro e w' ⟨v,M',β',e1,hr,i',hg,kG⟩
  have hb:∀x,aH (BH zs++σ.box) x=aH (lA zs σ.box) x:=by
   intro x
   have aM7:aH (BH zs++σ.box) x=match aH (BH zs) x with|some y=>some y|none=>aH σ.box x:=by
    generalize BH zs=u
    induction u with
    |nil=>rfl
    |cons p r ih=>
     obtain⟨k,b⟩:=p
     rw[List.cons_append,aK,aK]
     by_cases e:k=x
     ·rw[if_pos e,if_pos e]
     ·rw[if_neg e,if_neg e];exact ih
   rw[aM7,WY,F9]
   cases hx:zs.contains x with
   |false=>cases aH σ.box x <;> rfl
   |true=>
    have hx:x∈zs:=by simpa using hx
    rw[List.all_eq_true]at hz
    have:=hz x hx
    cases hg:aH σ.box x with
    |none=>unfold mR at this;rw[hg]at this;cases this
    |some b=>rfl
  refine⟨v,M',β',e1,hr,⟨i'.defers,i'.tmps,i'.heap,i'.env,i'.mem,fun x p e=>by rw[hb];exact i'.keys x p e,fun x bc e=>i'.box x bc (by rw[←hb];exact e),
   fun x y bx yB b c c' ex ey=>i'.inj x y bx yB b c c' (by rw[←hb];exact ex) (by rw[←hb];exact ey),fun x bc b c e=>i'.apart x bc b c (by rw[←hb];exact e),fun x bc b c e=>i'.low x bc b c (by rw[←hb];exact e),i'.ref⟩,hg,kG⟩
 |false=>
  have h3:fe none (ev σ fo) fun vf=>dQ none σ l fun ars=>HL P σ vf ars fun v bx=>∃u,K v u∧bx=u++σ.box:=by
   rw[hv]
   refine dQ.congr (fun _ _=>rfl) (fun ars _ h=>?_) h2
   unfold gE at h
   simp only [hc,cond_false]at h
   cases hd:rc.contains (f+1500000)with
   |true=>
    simp only [hd,cond_true]at h
    obtain⟨ren,args,bx,r,bx',h1,h2,h3,h4,h5⟩:=h
    exact⟨ren,args,bx,r,bx',h1,h2,h3,h4,_,h5,P7⟩
   |false=>
   simp only [hd,cond_false]at h
   obtain⟨ren,args,r,y,b,h1,h2,h3,h4,h5⟩:=h
   refine⟨ren,args,[],r,[(y,b)],h1,h2,trivial,?_,_,h5,rfl⟩
   simp only [AG,Bool.and_eq_true]at h3 ⊢
   refine⟨h3.1,?_⟩
   simp[names,nL,h4]
  obtain⟨r,bx,⟨u,hk,rfl⟩,hs⟩:=aBA.spec ho h3
  exact⟨r,u,hk,fun N M β a w i=>hs cx N M β a w i⟩
def aY(P:Program)(T:List (Nat×bP))(N:Nat)(rc:List Nat)(all:List Oper)(o:Oper)(σ:St)(K:Ef→Prop):Prop:=
 let run:Prop:=match o.dst with
  |some d=>bif Nat.blt d N then
    (match LO o.op with
    |true=>uS T d o.op σ fun v u=>K (some v,u)
    |false=>match wT rc σ o.op with
     |some (fo,args)=>fe none (ev σ fo) fun vf=>dQ none σ args fun ars=>gE P rc σ vf ars fun v u=>K (some v,u)
     |none=>lR P T o.op σ none fun v=>K (some v,[]))else False
  |none=>match LO o.op with
    |true=>uS T 0 o.op σ fun _ u=>K (none,u)
    |false=>False
 match o.guard with
 |none=>run
 |some (j,nA)=>match sO all j with
  |none=>False
  |some t=>match eY σ.env t with
   |.s (.d (.lit b))=>match b,nA with
    |true,true=>run
    |false,false=>run
    |_,_=>match o.dst with
     |some d=>bif Nat.blt d N then K (some (.s (.d .bF)),[])else False
     |none=>K (none,[])
   |.s (.d (.val (.bool b)))=>match LO o.op with
    |true=>b=nA∧run
    |false=>match o.dst with
     |some d=>bif Nat.blt d N then lR P T o.op σ (some (rL nA b)) fun v=>K (some (vV (rL nA b) v),[])else False
     |none=>False
   |.ib c (.d (.val (.bool b)))=>match LO o.op with
    |true=>False
    |false=>match o.dst with
     |some d=>bif Nat.blt d N then lR P T o.op σ (some (c&&rL nA b)) fun v=>K (some (vV (c&&rL nA b) v),[])else False
     |none=>False
   |_=>False
def eI(o:Oper)(e:Ef)(σ:St):St:=
 ⟨match o.dst,e.1 with|some d,some v=>(d,v)::σ.env|_,_=>σ.env,aHS e.2 σ.box⟩
end
section
variable{P:Program}{T:List (Nat×bP)}{N:Nat}{ref rc:List Nat}{all:List Oper}
theorem aY.pt{o:Oper}{σ:St}{K:Ef→Prop}(h:aY P T N rc all o σ K):∃e,K e∧eQ (aY P T N rc all o σ) e:=by
 have run:∀{K:Ef→Prop},(match o.dst with
  |some d=>bif Nat.blt d N then
    (match LO o.op with
    |true=>uS T d o.op σ fun v u=>K (some v,u)
    |false=>match wT rc σ o.op with
     |some (fo,args)=>fe none (ev σ fo) fun vf=>dQ none σ args fun ars=>gE P rc σ vf ars fun v u=>K (some v,u)
     |none=>lR P T o.op σ none fun v=>K (some v,[]))else False
  |none=>match LO o.op with
    |true=>uS T 0 o.op σ fun _ u=>K (none,u)
    |false=>False)→∃e,K e∧∀K':Ef→Prop,K' e→(match o.dst with
  |some d=>bif Nat.blt d N then
    (match LO o.op with
    |true=>uS T d o.op σ fun v u=>K' (some v,u)
    |false=>match wT rc σ o.op with
     |some (fo,args)=>fe none (ev σ fo) fun vf=>dQ none σ args fun ars=>gE P rc σ vf ars fun v u=>K' (some v,u)
     |none=>lR P T o.op σ none fun v=>K' (some v,[]))else False
  |none=>match LO o.op with
    |true=>uS T 0 o.op σ fun _ u=>K' (none,u)
    |false=>False):=by
  intro K h
  split at h
  ·rename_i d hd
   cases hN:Nat.blt d N with
   |false=>rw[hN]at h;cases h
   |true=>
    rw[hN]at h
    simp only [cond_true]at h ⊢
    split at h
    ·obtain⟨r,u,h1,h2,_⟩:=uS.pt h
     exact⟨_,h1,fun K' k=>h2 σ (fun _ _=>rfl) (fun _ _=>rfl) (fun _ _=>rfl) _ k⟩
    ·split at h
     ·rename_i fo args hq
      obtain⟨r,h1,h2⟩:=fe.pt (C:=fun vf K=>dQ none σ args fun ars=>gE P rc σ vf ars fun v u=>K (some v,u)) h (fun vf K h=>dQ.pt (C:=fun ars K=>gE P rc σ vf ars fun v u=>K (some v,u)) h (fun _ _ h=>gE.pt h))
      exact⟨r,h1,fun K' k=>h2 K' k⟩
     ·obtain⟨r,h1,h2⟩:=lR.pt h
      exact⟨_,h1,fun K' k=>h2 _ k⟩
  ·split at h
   ·obtain⟨r,u,h1,h2,_⟩:=uS.pt h
    exact⟨_,h1,fun K' k=>h2 σ (fun _ _=>rfl) (fun _ _=>rfl) (fun _ _=>rfl) _ k⟩
   ·cases h
 unfold aY at h
 simp only at h
 split at h
 ·rename_i hg
  obtain⟨e,h1,h2⟩:=run h
  refine⟨e,h1,fun K' k=>?_⟩
  unfold aY
  simp only [hg]
  exact h2 K' k
 ·rename_i j nA hg
  split at h
  ·cases h
  ·rename_i t ht
   split at h
   ·rename_i b hv
    have skip:(match o.dst with
     |some d=>bif Nat.blt d N then K (some (.s (.d .bF)),[])else False
     |none=>K (none,[]))→∃e,K e∧∀K':Ef→Prop,K' e→(match o.dst with
     |some d=>bif Nat.blt d N then K' (some (.s (.d .bF)),[])else False
     |none=>K' (none,[])):=by
     intro h
     split at h
     ·rename_i d hd
      cases hN:Nat.blt d N with
      |false=>rw[hN]at h;cases h
      |true=>rw[hN]at h;exact⟨_,h,fun K' k=>k⟩
     ·exact⟨_,h,fun K' k=>k⟩
    cases b <;> cases nA
    ·obtain⟨e,h1,h2⟩:=run h
     exact⟨e,h1,fun K' k=>by unfold aY;simp only [hg,ht,hv];exact h2 K' k⟩
    ·obtain⟨e,h1,h2⟩:=skip h
     exact⟨e,h1,fun K' k=>by unfold aY;simp only [hg,ht,hv];exact h2 K' k⟩
    ·obtain⟨e,h1,h2⟩:=skip h
     exact⟨e,h1,fun K' k=>by unfold aY;simp only [hg,ht,hv];exact h2 K' k⟩
    ·obtain⟨e,h1,h2⟩:=run h
     exact⟨e,h1,fun K' k=>by unfold aY;simp only [hg,ht,hv];exact h2 K' k⟩
   ·rename_i b hv
    split at h
    ·rename_i hx
     have run':=@run
     simp only [hx]at run'
     obtain⟨e,h1,h2⟩:=run' h.2
     refine⟨e,h1,fun K' k=>?_⟩
     unfold aY
     simp only [hg,ht,hv,hx]
     exact⟨h.1,h2 K' k⟩
    ·rename_i hx
     split at h
     ·rename_i d hd
      cases hN:Nat.blt d N with
      |false=>rw[hN]at h;cases h
      |true=>
       rw[hN]at h
       obtain⟨r,h1,h2⟩:=lR.pt h
       exact⟨_,h1,fun K' k=>by unfold aY;simp only [hg,ht,hv,hx,hd,hN,cond_true];exact h2 _ k⟩
     ·cases h
   ·rename_i c b hv
    split at h
    ·cases h
    ·rename_i hx
     split at h
     ·rename_i d hd
      cases hN:Nat.blt d N with
      |false=>rw[hN]at h;cases h
      |true=>
       rw[hN]at h
       obtain⟨r,h1,h2⟩:=lR.pt h
       exact⟨_,h1,fun K' k=>by unfold aY;simp only [hg,ht,hv,hx,hd,hN,cond_true];exact h2 _ k⟩
     ·cases h
   ·cases h
abbrev fK:=List Nat×List Nat
def L2(σ:St)(o:Oper)(e:Ef):fK:=(sE σ o.op,e.2.map (·.1))
def S4(all:List Oper)(o:Oper)(σ σ':St):Prop:=∀t,t∈o.looksAt all.toArray→eY σ'.env t=eY σ.env t
theorem S4.ev{o:Oper}{σ σ':St}(h:S4 all o σ σ'):UW o.op.operands.toList σ σ':=by
 intro x hx
 cases x with
 |tmp t=>
  refine h t ?_
  simp only [Oper.looksAt,List.mem_append,List.mem_filterMap]
  exact .inl ⟨_,hx,rfl⟩
 |_=>rfl
theorem S4.guard{o:Oper}{σ σ':St}(h:S4 all o σ σ'){j:Nat}{nA:Bool}{t:Nat}(hg:o.guard=some (j,nA))(ht:sO all j=some t):eY σ'.env t=eY σ.env t:=by
 refine h t ?_
 simp only [Oper.looksAt,List.mem_append,hg]
 refine .inr ?_
 have:((all.toArray[j]?).bind (·.dst))=some t:=by simpa [sO]using ht
 rw[this]
 simp
theorem sE.congr{op:Op}{σ σ':St}(he:UW op.operands.toList σ σ')(hb:vU (sE σ op) σ σ'):sE σ' op=sE σ op:=by
 have hr:∀(n:Nat) (x:SV),vU (reach n σ x) σ σ'→reach n σ' x=reach n σ x:=by
  intro n
  induction n with
  |zero=>intro x _;cases x <;> rfl
  |succ n ih=>
   intro x h
   have cat:∀{α:Type} (f f':α→List Nat) (l:List α),(∀c,c∈l→f' c=f c)→dM f' l=dM f l:=by
    intro α f f' l hl
    induction l with
    |nil=>rfl
    |cons c r ihl=>simp only [dM];rw[hl c sM,ihl (fun c hc=>hl c (List.mem_cons_of_mem _ hc))]
   cases x with
   |ptr x off=>
    simp only [reach,h x (by simp[reach])]
    congr 1
    cases hb:aH σ.box x with
    |none=>rfl
    |some y=>cases y with
     |none=>rfl
     |some bc=>cases bc with
      |row e n s f=>rfl
      |cA e n s f=>rfl
      |map vk l=>rfl
      |smap vk l=>rfl
      |dm l n=>rfl
      |fresh T vs=>rfl
      |iter q n t=>rfl
      |cells cs=>
       simp only
       refine cat _ _ cs (fun c hc=>ih c (fun m hm=>h m ?_))
       simp only [reach,hb]
       obtain⟨j,hj⟩:=List.getElem?_of_mem hc
       exact List.mem_cons_of_mem _ (iA hj hm)
   |jH x s lo q=>
    simp only [reach,h x (by simp[reach])]
    congr 1
    cases hb:aH σ.box x with
    |none=>rfl
    |some y=>cases y with
     |none=>rfl
     |some bc=>cases bc with
      |row e n s f=>rfl
      |cA e n s f=>rfl
      |map vk l=>rfl
      |smap vk l=>rfl
      |dm l n=>rfl
      |fresh T vs=>rfl
      |iter q n t=>rfl
      |cells cs=>
       simp only
       refine cat _ _ cs (fun c hc=>ih c (fun m hm=>h m ?_))
       simp only [reach,hb]
       obtain⟨j,hj⟩:=List.getElem?_of_mem hc
       exact List.mem_cons_of_mem _ (iA hj hm)
   |dR f cs=>
    simp only [reach]
    refine cat _ _ cs (fun c hc=>?_)
    cases c with
    |d x=>rfl
    |ptr x off=>
     refine ih _ (fun m hm=>h m ?_)
     obtain⟨j,hj⟩:=List.getElem?_of_mem hc
     exact iA (f:=fun c=>match c with|.d _=>[]|.ptr x off=>reach n σ (.ptr x off)) hj hm
   |_=>rfl
 have hrA:∀v:AV,vU (bV σ v) σ σ'→bV σ' v=bV σ v:=by
  have lM:∀cs:List SV,vU (dM (reach 4 σ) cs) σ σ'→dM (reach 4 σ') cs=dM (reach 4 σ) cs:=by
   intro cs
   induction cs with
   |nil=>intro _;rfl
   |cons c r ih=>intro h;simp only [dM];rw[hr 4 c (h.mono fun m hm=>List.mem_append_left _ hm),ih (h.mono fun m hm=>List.mem_append_right _ hm)]
  intro v h
  cases v with
  |s x=>exact hr 4 x h
  |ib b x=>exact hr 4 x h
  |g cs=>exact lM cs h
  |ig b cs=>exact lM cs h
  |t ts=>rfl
 have hrF:∀v:AV,vU (tN σ v) σ σ'→tN σ' v=tN σ v:=by
  have lM:∀cs:List CV,vU (dM (fun c=>match c with|.d _=>[]|.ptr x off=>reach 4 σ (.ptr x off)) cs) σ σ'→
    dM (fun c=>match c with|.d _=>[]|.ptr x off=>reach 4 σ' (.ptr x off)) cs=dM (fun c=>match c with|.d _=>[]|.ptr x off=>reach 4 σ (.ptr x off)) cs:=by
   intro cs
   induction cs with
   |nil=>intro _;rfl
   |cons c r ih=>
    intro h
    simp only [dM]
    rw[ih (h.mono fun m hm=>List.mem_append_right _ hm)]
    congr 1
    cases c with
    |d x=>rfl
    |ptr x off=>exact hr 4 _ (h.mono fun m hm=>List.mem_append_left _ hm)
  intro v h
  cases v with
  |s x=>cases x with
   |dR f cs=>exact lM cs h
   |_=>rfl
  |ib b x=>cases x with
   |dR f cs=>exact lM cs h
   |_=>rfl
  |_=>rfl
 have hl:∀l:List Operand,UW l σ σ'→vU (dM (fun x=>bV σ (Ax.ev σ x)) l) σ σ'→dM (fun x=>bV σ' (Ax.ev σ' x)) l=dM (fun x=>bV σ (Ax.ev σ x)) l:=by
  intro l
  induction l with
  |nil=>intro _ _;rfl
  |cons x r ih=>
   intro he h
   simp only [dM]
   rw[he x sM,hrA _ (h.mono fun m hm=>List.mem_append_left _ hm),ih (fun y hy=>he y (List.mem_cons_of_mem _ hy)) (h.mono fun m hm=>List.mem_append_right _ hm)]
 unfold sE at*
 split at hb
 ·rename_i fo args vQ
  rw[he fo (by simp[Op.operands,Call.operands]),hrF _ (hb.mono fun m hm=>List.mem_append_left _ hm),
   hl _ (fun y hy=>he y (by simp[Op.operands,Call.operands];exact .inr (by simpa using hy))) (hb.mono fun m hm=>List.mem_append_right _ hm)]
 all_goals first|rfl|exact hl _ he hb
structure EC(P:Program)(T:List (Nat×bP))(N:Nat)(rc:List Nat)(all:List Oper)(o:Oper)(σ:St)(e:Ef)(f:fK):Prop where
 pt:eQ (aY P T N rc all o σ) e
 rd:sE σ o.op=f.1
 wr:e.2.map (·.1)=f.2
theorem EC.congr{o:Oper}{σ σ':St}{e:Ef}{f:fK}(h:EC P T N rc all o σ e f)(ht:S4 all o σ σ')(hr:vU f.1 σ σ')(hw:∀x,x∈f.2→aH σ'.box x=aH σ.box x):EC P T N rc all o σ' e f:=by
 have hE:=ht.ev
 have hrd:vU (sE σ o.op) σ σ':=by rw[h.rd];exact hr
 refine⟨fun K k=>?_,(sE.congr hE hrd).trans h.rd,h.wr⟩
 have hk:=h.pt (fun e'=>e'=e∧K e') ⟨rfl,k⟩
 have run:(match o.dst with
  |some d=>bif Nat.blt d N then
    (match LO o.op with
    |true=>uS T d o.op σ fun v u=>(some v,u)=e∧K (some v,u)
    |false=>match wT rc σ o.op with
     |some (fo,args)=>fe none (Ax.ev σ fo) fun vf=>dQ none σ args fun ars=>gE P rc σ vf ars fun v u=>(some v,u)=e∧K (some v,u)
     |none=>lR P T o.op σ none fun v=>(some v,[])=e∧K (some v,[]))else False
  |none=>match LO o.op with
    |true=>uS T 0 o.op σ fun _ u=>(none,u)=e∧K (none,u)
    |false=>False)→(match o.dst with
  |some d=>bif Nat.blt d N then
    (match LO o.op with
    |true=>uS T d o.op σ' fun v u=>K (some v,u)
    |false=>match wT rc σ' o.op with
     |some (fo,args)=>fe none (Ax.ev σ' fo) fun vf=>dQ none σ' args fun ars=>gE P rc σ' vf ars fun v u=>K (some v,u)
     |none=>lR P T o.op σ' none fun v=>K (some v,[]))else False
  |none=>match LO o.op with
    |true=>uS T 0 o.op σ' fun _ u=>K (none,u)
    |false=>False):=by
  intro h1
  have Z0:=h.wr
  split at h1
  ·rename_i d hd
   cases hN:Nat.blt d N with
   |false=>rw[hN]at h1;exact h1.elim
   |true=>
    rw[hN]at h1
    simp only [cond_true]at h1 ⊢
    split at h1
    ·obtain⟨r,u,⟨he,hK⟩,h2,_⟩:=uS.pt h1
     rw[←he]at Z0
     exact h2 σ' (fun n hn=>hw n (by rw[←Z0];exact hn)) hE hrd _ hK
    ·rw[wT.congr hE]
     split at h1
     ·rename_i fo args hq
      obtain⟨_,args',vQ,nW,hl⟩:=wT.op hq
      rw[nW]at hE
      rw[hE fo (by simp[Op.operands,Call.operands])]
      refine fe.imp (fun vf _ h=>?_) h1
      refine dQ.congr (fun y hy=>hE y (by simp[Op.operands,Call.operands];exact .inr (by rw[←hl]at hy;simpa using hy))) (fun ars _ h=>?_) h
      refine gE.congr (fun v u hk=>⟨fun n hn=>?_,hk.2⟩) h
      refine hw n ?_
      rw[←Z0,←hk.1];exact hn
     ·exact lR.congr hE hrd ((lR.pt h1).elim fun r hr=>hr.2 _ hr.1.2)
  ·split at h1
   ·obtain⟨r,u,⟨he,hK⟩,h2,_⟩:=uS.pt h1
    rw[←he]at Z0
    exact h2 σ' (fun n hn=>hw n (by rw[←Z0];exact hn)) hE hrd _ hK
   ·exact h1.elim
 unfold aY at hk ⊢
 simp only at hk ⊢
 split at hk
 ·exact run hk
 ·rename_i j nA hg
  split at hk
  ·exact hk.elim
  ·rename_i t DN
   have hgt:=ht.guard hg DN
   simp only [hgt]
   split at hk
   ·rename_i b hv
    cases b <;> cases nA
    ·exact run hk
    ·simp only at hk ⊢
     split at hk
     ·rename_i d hd
      cases hN:Nat.blt d N with
      |false=>rw[hN]at hk;exact hk.elim
      |true=>rw[hN]at hk;exact hk.2
     ·exact hk.2
    ·simp only at hk ⊢
     split at hk
     ·rename_i d hd
      cases hN:Nat.blt d N with
      |false=>rw[hN]at hk;exact hk.elim
      |true=>rw[hN]at hk;exact hk.2
     ·exact hk.2
    ·exact run hk
   ·rename_i b hv
    split at hk
    ·rename_i hx
     have run':=run
     simp only [hx]at run' ⊢
     exact⟨hk.1,run' hk.2⟩
    ·split at hk
     ·rename_i d hd
      cases hN:Nat.blt d N with
      |false=>rw[hN]at hk;exact hk.elim
      |true=>
       rw[hN]at hk
       simp only [cond_true]at hk ⊢
       exact lR.congr hE hrd ((lR.pt hk).elim fun r hr=>hr.2 _ hr.1.2)
     ·exact hk.elim
   ·rename_i c b hv
    split at hk
    ·exact hk.elim
    ·split at hk
     ·rename_i d hd
      cases hN:Nat.blt d N with
      |false=>rw[hN]at hk;exact hk.elim
      |true=>
       rw[hN]at hk
       simp only [cond_true]at hk ⊢
       exact lR.congr hE hrd ((lR.pt hk).elim fun r hr=>hr.2 _ hr.1.2)
     ·exact hk.elim
   ·exact hk.elim
end
structure EP(σ σ':St):Prop where
 env:∀t,eY σ'.env t=eY σ.env t
 box:∀x,aH σ'.box x=aH σ.box x
theorem EP.refl(σ:St):EP σ σ:=⟨fun _=>rfl,fun _=>rfl⟩
theorem EP.symm{σ σ':St}(h:EP σ σ'):EP σ' σ:=⟨fun t=>(h.env t).symm,fun x=>(h.box x).symm⟩
theorem EP.trans{a b c:St}(h:EP a b)(k:EP b c):EP a c:=⟨fun t=>(k.env t).trans (h.env t),fun x=>(k.box x).trans (h.box x)⟩
theorem BQ{o:Oper}{e:Ef}{σ:St}(t:Nat):eY (eI o e σ).env t=match o.dst,e.1 with|some d,some v=>if d=t then v else eY σ.env t|_,_=>eY σ.env t:=by
 unfold eI
 cases o.dst with
 |none=>rfl
 |some d=>cases e.1 with
  |none=>rfl
  |some v=>exact gA d v σ.env t
theorem aAJ{u v:aN}{x:Nat}:aH (u++v) x=match aH u x with|some y=>some y|none=>aH v x:=by
 induction u with
 |nil=>rfl
 |cons p r ih=>
  obtain⟨k,b⟩:=p
  rw[List.cons_append,aK,aK]
  by_cases e:k=x
  ·rw[if_pos e,if_pos e]
  ·rw[if_neg e,if_neg e];exact ih
theorem y8{u:aN}{x:Nat}(h:x∉u.map (·.1)):aH u x=none:=by
 induction u with
 |nil=>rfl
 |cons p r ih=>
  obtain⟨k,b⟩:=p
  simp only [List.map_cons,List.mem_cons,not_or]at h
  rw[aK,if_neg (fun e=>h.1 e.symm)]
  exact ih h.2
theorem BR{o:Oper}{e:Ef}{σ:St}(x:Nat):aH (eI o e σ).box x=match aH e.2 x with|some y=>some y|none=>aH σ.box x:=by
 unfold eI
 simp only [E3]
 exact aAJ
theorem eI.eqv{o:Oper}{e:Ef}{σ σ':St}(h:EP σ σ'):EP (eI o e σ) (eI o e σ'):=by
 refine⟨fun t=>?_,fun x=>?_⟩
 ·rw[BQ,BQ,h.env]
 ·rw[BR,BR,h.box]
def gY(f h:fK):Bool:=
 (f.2.all fun x=> !(h.1.contains x)&& !(h.2.contains x))&&(h.2.all fun x=> !(f.1.contains x))
theorem gY.spec{f h:fK}(hd:gY f h=true):(∀x,x∈f.2→x∉h.1)∧(∀x,x∈f.2→x∉h.2)∧(∀x,x∈h.2→x∉f.1):=by
 simp only [gY,Bool.and_eq_true,List.all_eq_true]at hd
 obtain⟨h1,h2⟩:=hd
 refine⟨fun x hx=>?_,fun x hx=>?_,fun x hx=>?_⟩
 ·simpa using(h1 x hx).1
 ·simpa using(h1 x hx).2
 ·simpa using h2 x hx
theorem eI.comm{o p:Oper}{e u:Ef}{σ:St}(hd:∀d,o.dst=some d→p.dst≠some d)(hb:∀x,x∈e.2.map (·.1)→x∉u.2.map (·.1)):
  EP (eI o e (eI p u σ)) (eI p u (eI o e σ)):=by
 refine⟨fun t=>?_,fun x=>?_⟩
 ·simp only [BQ]
  cases ho:o.dst with
  |none=>rfl
  |some d=>cases he:e.1 with
   |none=>rfl
   |some v=>cases hp:p.dst with
    |none=>rfl
    |some d'=>cases hu:u.1 with
     |none=>rfl
     |some v'=>
      have gI:d'≠d:=fun h=>hd d ho (by rw[hp,h])
      simp only
      by_cases h1:d=t
      ·subst h1;simp[gI]
      ·simp[h1]
 ·simp only [BR]
  by_cases h1:x∈e.2.map (·.1)
  ·rw[y8 (hb x h1)]
  ·rw[y8 h1]
section
variable{P:Program}{T:List (Nat×bP)}{N:Nat}{rc:List Nat}{all:List Oper}{md:Region.Mode}{ft:List fK}
theorem EC.eqv{o:Oper}{σ σ':St}{e:Ef}{f:fK}(h:EC P T N rc all o σ e f)(k:EP σ σ'):EC P T N rc all o σ' e f:=
 h.congr (fun t _=>k.env t) (fun x _=>k.box x) (fun x _=>k.box x)
def xO(P:Program)(T:List (Nat×bP))(N:Nat)(rc:List Nat)(all:List Oper)(md:Region.Mode)(ft:List fK)(σf:St):Nat→Array Bool→St→Prop
 |0,listed,σ=>Region.ready md all.toArray listed=[]∧EP σf σ
 |fuel+1,listed,σ=>
  (Region.ready md all.toArray listed=[]→EP σf σ)∧
  ∀i∈Region.ready md all.toArray listed,∃o e f,all[i]? =some o∧ft[i]? =some f∧EC P T N rc all o σ e f∧xO P T N rc all md ft σf fuel (listed.setIfInBounds i true) (eI o e σ)
theorem xO.eqv{σf:St}:∀(fuel:Nat) {listed:Array Bool} {σ σ':St},EP σ σ'→xO P T N rc all md ft σf fuel listed σ→xO P T N rc all md ft σf fuel listed σ'
 |0,_,_,_,k,h=>⟨h.1,h.2.trans k⟩
 |fuel+1,_,_,_,k,h=>⟨fun h0=>(h.1 h0).trans k,fun i hi=>by
  obtain⟨o,e,f,h1,h2,h3,h4⟩:=h.2 i hi
  exact⟨o,e,f,h1,h2,h3.eqv k,xO.eqv fuel (eI.eqv k) h4⟩⟩
theorem S4.eI{oi oj:Oper}{e:Ef}{σ:St}(h:∀d,oi.dst=some d→d∉oj.looksAt all.toArray):S4 all oj σ (eI oi e σ):=by
 intro t ht
 rw[BQ]
 cases ho:oi.dst with
 |none=>rfl
 |some d=>cases e.1 with
  |none=>rfl
  |some v=>
   simp only
   rw[if_neg (fun (hdt:d=t)=>h d ho (hdt▸ht))]
theorem oC{oi:Oper}{e:Ef}{σ:St}{x:Nat}(h:x∉e.2.map (·.1)):aH (eI oi e σ).box x=aH σ.box x:=by
 rw[BR,y8 h]
theorem EC.past{oi oj:Oper}{ei ej:Ef}{fi fj:fK}{σ:St}(hwi:ei.2.map (·.1)=fi.2)(B0:oi.apart all.toArray oj=true)(wZ:gY fi fj=true)(h:EC P T N rc all oj (eI oi ei σ) ej fj):EC P T N rc all oj σ ej fj:=by
 obtain⟨h1,h2,h3⟩:=Oper.apart_spec B0
 obtain⟨k1,k2,k3⟩:=gY.spec wZ
 have ht:S4 all oj σ (eI oi ei σ):=S4.eI h1
 refine h.congr (fun t DN=>(ht t DN).symm) (fun x hx=>(oC (fun hw=>?_)).symm) (fun x hx=>(oC (fun hw=>?_)).symm)
 ·exact k1 x (hwi▸hw) hx
 ·exact k2 x (hwi▸hw) hx
theorem EC.over{oi oj:Oper}{ei ej:Ef}{fi fj:fK}{σ:St}(hwj:ej.2.map (·.1)=fj.2)(B0:oi.apart all.toArray oj=true)(wZ:gY fi fj=true)(h:EC P T N rc all oi σ ei fi):EC P T N rc all oi (eI oj ej σ) ei fi:=by
 obtain⟨h1,h2,h3⟩:=Oper.apart_spec B0
 obtain⟨k1,k2,k3⟩:=gY.spec wZ
 refine h.congr (S4.eI h3) (fun x hx=>oC (fun hw=>?_)) (fun x hx=>oC (fun hw=>?_))
 ·exact k3 x (hwj▸hw) hx
 ·exact k2 x hx (hwj▸hw)
def dep(md:Region.Mode)(ops:Array Oper)(i:Nat):Nat→Nat→Bool
 |0,_=>false
 |n+1,j=>match ops[j]? with
  |some oj=>oj.after.any fun e=>Region.binds md e&&(Nat.beq e.on i||dep md ops i n e.on)
  |none=>false
def rV(md:Region.Mode)(all:List Oper)(listed:Array Bool):Prop:=
 ∀m om,all[m]? =some om→listed.getD m false=true→∀e∈om.after,Region.binds md e=true→listed.getD e.on false=true
theorem L0{l:Array Bool}{i:Nat}(h:l.getD i true=false):l.getD i false=false:=by
 rcases Nat.lt_or_ge i l.size with h'|h'
 ·simp[h']at h ⊢;exact h
 ·simp[Array.getElem?_eq_none h']at h
theorem L8{md:Region.Mode}{listed:Array Bool}{i:Nat}(hc:rV md all listed)(hi:listed.getD i false=false):∀(n j:Nat) (oj:Oper),all[j]? =some oj→(∀e∈oj.after,Region.binds md e=true→listed.getD e.on false=true)→dep md all.toArray i n j=false
 |0,_,_,_,_=>rfl
 |n+1,j,oj,hj,h=>by
  have pX:all.toArray[j]? =some oj:=by simpa using hj
  simp only [dep,pX]
  rw[Bool.eq_false_iff]
  intro hx
  obtain⟨e,he,hb⟩:=Array.any_eq_true'.1 hx
  simp only [Bool.and_eq_true,Bool.or_eq_true]at hb
  have hl:=h e he hb.1
  rcases hb.2 with h1|h1
  ·rw[Nat.eq_of_beq_eq_true h1,hi]at hl;cases hl
  ·cases ho:all[e.on]? with
   |none=>
    cases n with
    |zero=>cases h1
    |succ n=>
     have:all.toArray[e.on]? =none:=by simpa using ho
     simp only [dep,this]at h1
     cases h1
   |some om=>
    rw[L8 hc hi n e.on om ho (hc e.on om ho hl)]at h1
    cases h1
theorem rV.set{md:Region.Mode}{listed:Array Bool}{j:Nat}{oj:Oper}(hc:rV md all listed)(hj:all[j]? =some oj)(h:∀e∈oj.after,Region.binds md e=true→listed.getD e.on false=true):rV md all (listed.setIfInBounds j true):=by
 have up:∀x,listed.getD x false=true→(listed.setIfInBounds j true).getD x false=true:=fun x hx=>by
  by_cases hjx:j=x
  ·subst hjx
   rcases Nat.lt_or_ge j listed.size with h'|h'
   ·simp[h']
   ·simp[Array.getElem?_eq_none h']at hx
  ·rw[getD_set_ne false hjx];exact hx
 intro m om hm hl e he hb
 by_cases hmj:j=m
 ·subst hmj
  rw[hj]at hm;cases hm
  exact up _ (h e he hb)
 ·rw[getD_set_ne false hmj]at hl
  exact up _ (hc m om hm hl e he hb)
theorem xO.first{σf:St}{i:Nat}{oi:Oper}{ei:Ef}{fi:fK}(hi:all[i]? =some oi)(hfi:ft[i]? =some fi):
  ∀(fuel:Nat) (listed:Array Bool) (σ:St),
   (∀j oj fj,all[j]? =some oj→ft[j]? =some fj→j≠i→listed.getD j true=false→(∀n,dep md all.toArray i n j=false)→oi.apart all.toArray oj=true∧gY fi fj=true)→rV md all listed→
   i∈Region.ready md all.toArray listed→EC P T N rc all oi σ ei fi→
   xO P T N rc all md ft σf fuel (listed.setIfInBounds i true) (eI oi ei σ)→xO P T N rc all md ft σf (fuel+1) listed σ:=by
 intro fuel
 induction fuel with
 |zero=>
  intro listed σ _ _ hr hy H
  refine⟨fun h=>(by rw[h]at hr;cases hr),fun j hj=>?_⟩
  by_cases x8:j=i
  ·subst x8;exact⟨oi,ei,fi,hi,hfi,hy,H⟩
  ·have:=ready_mono hj x8
   rw[H.1]at this
   cases this
 |succ fuel ih=>
  intro listed σ DR xU hr hy H
  refine⟨fun h=>(by rw[h]at hr;cases hr),fun j hj=>?_⟩
  by_cases x8:j=i
  ·subst x8;exact⟨oi,ei,fi,hi,hfi,hy,H⟩
  ·obtain⟨oj,ej,fj,RL,hfj,ZX,Hj⟩:=H.2 j (ready_mono hj x8)
   obtain⟨OX,oj',aAB,kM⟩:=mem_ready.1 hj
   have DP:all[j]? =some oj':=by simpa using aAB
   rw[RL]at DP;cases DP
   have LS:∀n,dep md all.toArray i n j=false:=fun n=>L8 xU (L0 (mem_ready.1 hr).1) n j oj RL kM
   obtain⟨B0,wZ⟩:=DR j oj fj RL hfj x8 OX LS
   have ZW:EC P T N rc all oj σ ej fj:=EC.past hy.wr B0 wZ ZX
   have ZY:EC P T N rc all oi (eI oj ej σ) ei fi:=EC.over ZX.wr B0 wZ hy
   have GR:∀k ok fk,all[k]? =some ok→ft[k]? =some fk→k≠i→(listed.setIfInBounds j true).getD k true=false→
     (∀n,dep md all.toArray i n k=false)→oi.apart all.toArray ok=true∧gY fi fk=true:=fun k ok fk hk nR QJ T0 V9=>by
    refine DR k ok fk hk nR QJ ?_ V9
    by_cases QK:j=k
    ·subst QK;exact OX
    ·rw[getD_set_ne true QK]at T0;exact T0
   refine⟨oj,ej,fj,RL,hfj,ZW,ih (listed.setIfInBounds j true) (eI oj ej σ) GR (xU.set RL kM) (ready_mono hr (Ne.symm x8)) ZY ?_⟩
   rw[Array.setIfInBounds_comm _ _ x8]
   refine xO.eqv fuel ?_ Hj
   obtain⟨h1,h2,h3⟩:=Oper.apart_spec B0
   obtain⟨k1,k2,k3⟩:=gY.spec wZ
   exact(eI.comm (fun d hd=>h2 d hd) (fun x hx=>by rw[hy.wr]at hx;rw[ZX.wr];exact k2 x hx)).symm
def A5(md:Region.Mode)(ops:Array Oper)(ft:List fK)(listed:Array Bool)(i:Nat):Bool:=
 match ops[i]?,ft[i]? with
 |some oi,some fi=>(List.range ops.size).all fun j=>Nat.beq j i||listed.getD j true||match ops[j]?,ft[j]? with
   |some oj,some fj=>(oi.apart ops oj&&gY fi fj)||dep md ops i 6 j
   |_,_=>true
 |_,_=>false
def VT(md:Region.Mode)(ops:Array Oper)(ft:List fK):Nat→Nat→Array Bool→Bool
 |0,_,listed=>(Region.ready md ops listed).isEmpty
 |fuel+1,k,listed=>(Region.ready md ops listed).contains k&&A5 md ops ft listed k&&VT md ops ft fuel (k+1) (listed.setIfInBounds k true)
theorem A5.spec{i:Nat}{oi:Oper}{fi:fK}{listed:Array Bool}(hi:all[i]? =some oi)(hfi:ft[i]? =some fi)(h:A5 md all.toArray ft listed i=true)(j:Nat)(oj:Oper)(fj:fK)
  (hj:all[j]? =some oj) (hfj:ft[j]? =some fj) (gI:j≠i) (T0:listed.getD j true=false) (V9:∀n,dep md all.toArray i n j=false):oi.apart all.toArray oj=true∧gY fi fj=true:=by
 have bK:all.toArray[i]? =some oi:=by simpa using hi
 have pX:all.toArray[j]? =some oj:=by simpa using hj
 unfold A5 at h
 rw[bK,hfi]at h
 simp only [List.all_eq_true,List.mem_range]at h
 have aMW:j<all.toArray.size:=by
  have:=(Array.getElem?_eq_some_iff.1 pX).1
  exact this
 have hx:=h j aMW
 rw[pX,hfj,T0]at hx
 have hb:Nat.beq j i=false:=SP gI
 rw[hb,V9 6]at hx
 simp only [Bool.false_or,Bool.or_false,Bool.and_eq_true]at hx
 exact hx
def UU(P:Program)(T:List (Nat×bP))(N:Nat)(rc:List Nat)(all:List Oper):List Oper→St→List Ef→List fK→Prop
 |[],_,[],[]=>True
 |o::l,σ,e::es,f::fs=>EC P T N rc all o σ e f∧UU P T N rc all l (eI o e σ) es fs
 |_,_,_,_=>False
def qI:List Oper→St→List Ef→St
 |o::l,σ,e::es=>qI l (eI o e σ) es
 |_,σ,_=>σ
theorem xO.lex:∀(l:List Oper) (k:Nat) (listed:Array Bool) (σ:St) (es:List Ef) (fs:List fK),(∀j,l[j]? =all[k+j]?)→(∀j,fs[j]? =ft[k+j]?)→
  rV md all listed→VT md all.toArray ft l.length k listed=true→UU P T N rc all l σ es fs→xO P T N rc all md ft (qI l σ es) l.length listed σ
 |[],_,_,_,[],[],_,_,_,hB,_=>⟨by simpa [VT]using hB,EP.refl _⟩
 |o::l,k,listed,σ,e::es,f::fs,hl,hf,xU,hB,⟨h1,h2⟩=>by
  have h0:all[k]? =some o:=by simpa using(hl 0).symm
  have T2:ft[k]? =some f:=by simpa using(hf 0).symm
  simp only [List.length_cons,VT,Bool.and_eq_true]at hB
  obtain⟨⟨hr,hfr⟩,hB'⟩:=hB
  have BZ:k∈Region.ready md all.toArray listed:=by simpa using hr
  have kM:∀e∈o.after,Region.binds md e=true→listed.getD e.on false=true:=by
   obtain⟨_,o',rK,h⟩:=mem_ready.1 BZ
   have:all[k]? =some o':=by simpa using rK
   rw[h0]at this;cases this
   exact h
  exact xO.first h0 T2 l.length listed σ (A5.spec h0 T2 hfr) xU BZ h1
   (xO.lex l (k+1) _ _ es fs (fun j=>by have:=hl (j+1);simpa [Nat.add_assoc,Nat.add_comm 1 j]using this) (fun j=>by have:=hf (j+1);simpa [Nat.add_assoc,Nat.add_comm 1 j]using this) (xU.set h0 kM) hB' h2)
 |[],_,_,_,_::_,_,_,_,_,_,h=>by cases ‹List fK› <;> exact h.elim
 |[],_,_,_,[],_::_,_,_,_,_,h=>h.elim
 |_::_,_,_,_,[],_,_,_,_,_,h=>by cases ‹List fK› <;> exact h.elim
 |_::_,_,_,_,_::_,[],_,_,_,_,h=>h.elim
end
section
variable{P:Program}{T:List (Nat×bP)}{N:Nat}{ref rc:List Nat}{cx:Cx}{all:List Oper}
def BT(cx:Cx)(N:Nat)(M:Mem)(w:World)(o:Oper)(σ:St)(K:Ef→Prop)(a':Act)(w':World):Prop:=
 ∃e M' β',K e∧Inv cx N M' β' (eI o e σ) a' w'∧Grow cx.B M M'∧b8 cx w w'
theorem MO{o:Oper}{d:Nat}{v:AV}{σ:St}(hd:o.dst=some d):eI o (some v,[]) σ=oH σ d v:=by
 unfold eI oH;rw[hd];rfl
theorem SS{o:Oper}{d:Nat}{v:AV}{u:aN}{σ:St}(hd:o.dst=some d):eI o (some v,u) σ=⟨(d,v)::σ.env,u++σ.box⟩:=by
 unfold eI;rw[hd];simp only [E3]
theorem aBM{o:Oper}{v:Option AV}{u:aN}{σ:St}(hd:o.dst=none):eI o (v,u) σ=⟨σ.env,u++σ.box⟩:=by
 unfold eI;rw[hd];simp only [E3]
theorem aY.sound(hT:b7 P T)(V6:∀f,rc.contains (f+2000000)=true→cx.ref=[]){o:Oper}{σ:St}{K:Ef→Prop}{Q:Exit→Act→World→Prop}{M:Mem}{β:Nm}{a:Act}{w:World}(h:aY P T N rc all o σ K)(i:Inv cx N M β σ a w):
  if Region.wanted o (yielded all.toArray a.tmps)then(∀c,o.op≠.defer c)∧o.wp P a w (BT cx N M w o σ K) Q else BT cx N M w o σ K (a.put o.dst undef) w:=by
 have run:(match o.dst with
  |some d=>bif Nat.blt d N then
    (match LO o.op with
    |true=>uS T d o.op σ fun v u=>K (some v,u)
    |false=>match wT rc σ o.op with
     |some (fo,args)=>fe none (ev σ fo) fun vf=>dQ none σ args fun ars=>gE P rc σ vf ars fun v u=>K (some v,u)
     |none=>lR P T o.op σ none fun v=>K (some v,[]))else False
  |none=>match LO o.op with
    |true=>uS T 0 o.op σ fun _ u=>K (none,u)
    |false=>False)→(∀c,o.op≠.defer c)∧o.wp P a w (BT cx N M w o σ K) Q:=by
  intro h
  refine⟨fun c e=>?_,?_⟩
  ·rw[e]at h
   split at h
   ·rename_i d hd
    cases hN:Nat.blt d N with
    |false=>rw[hN]at h;cases h
    |true=>rw[hN]at h;cases h
   ·cases h
  split at h
  ·rename_i d hd
   cases hN:Nat.blt d N with
   |false=>rw[hN]at h;cases h
   |true=>
    rw[hN]at h
    have hN:d<N:=Nat.le_of_ble_eq_true hN
    simp only [cond_true]at h
    split at h
    ·obtain⟨r,u,hk,_,hx⟩:=uS.pt h
     obtain⟨r',bx,⟨rfl,rfl⟩,v,w',M',β',a6,hr,hi,hg,kG⟩:=ID.spec hT (hx cx.ref) rfl i
     unfold Oper.wp
     rcases a6 with a6|⟨a6,rfl⟩
     ·rw[a6,Oper.upon_value,hd]
      exact⟨_,M',β',hk,by rw[SS hd];exact hi.put (σ:=⟨σ.env,_⟩) hN hr,hg,kG⟩
     ·rw[a6,Oper.upon_skip,hd]
      exact⟨_,M',β',hk,by rw[SS hd];exact hi.put (σ:=⟨σ.env,_⟩) hN hr,hg,kG⟩
    ·split at h
     ·rename_i fo args hq
      obtain⟨v,u,hk,hs⟩:=gE.spec hq V6 h
      obtain⟨f,vs,a6,dV⟩:=hs N M β a w i
      unfold Oper.wp
      rw[a6,Oper.upon_enter]
      refine dV.mono ?_
      rintro e' w' ⟨v',M',β',rfl,hr,i',hg,kG⟩
      simp only [hd]
      exact⟨_,M',β',hk,by rw[SS hd];exact i'.put (σ:=⟨σ.env,_⟩) hN hr,hg,kG⟩
     obtain⟨r,hk,hs⟩:=lR.spec hT h
     refine Oper.wp_mono ?_ (EX (K:=fun σ'=>σ'=oH σ d r) hd hN (hs iD) i rfl)
     rintro a' w' ⟨σ',M',β',rfl,h2,h3,h4⟩
     exact⟨_,M',β',hk,by rw[MO hd];exact h2,h3,h4⟩
  ·rename_i hd
   split at h
   ·obtain⟨r,u,hk,_,hx⟩:=uS.pt h
    obtain⟨r',bx,⟨rfl,rfl⟩,v,w',M',β',a6,hr,hi,hg,kG⟩:=ID.spec hT (hx cx.ref) rfl i
    unfold Oper.wp
    rcases a6 with a6|⟨a6,rfl⟩
    ·rw[a6,Oper.upon_value,hd]
     exact⟨_,M',β',hk,by rw[aBM hd];exact hi,hg,kG⟩
    ·rw[a6,Oper.upon_skip,hd]
     exact⟨_,M',β',hk,by rw[aBM hd];exact hi,hg,kG⟩
   ·cases h
 have skip:(match o.dst with
     |some d=>bif Nat.blt d N then K (some (.s (.d .bF)),[])else False
     |none=>K (none,[]))→BT cx N M w o σ K (a.put o.dst undef) w:=by
  intro h
  split at h
  ·rename_i d hd
   cases hN:Nat.blt d N with
   |false=>rw[hN]at h;cases h
   |true=>
    rw[hN]at h
    have hN:d<N:=Nat.le_of_ble_eq_true hN
    rw[hd]
    exact⟨_,M,β,h,by rw[MO hd];exact i.put hN trivial,Grow.refl _ _,b8.refl _ _⟩
  ·rename_i hd
   rw[hd]
   exact⟨_,M,β,h,by unfold eI;rw[hd];exact i,Grow.refl _ _,b8.refl _ _⟩
 have part:∀{d:Nat} {gb:Bool},o.dst=some d→d<N→(lR P T o.op σ (some gb) fun v=>K (some (vV gb v),[]))→Region.wanted o (yielded all.toArray a.tmps)=gb→
   if Region.wanted o (yielded all.toArray a.tmps)then(∀c,o.op≠.defer c)∧o.wp P a w (BT cx N M w o σ K) Q else BT cx N M w o σ K (a.put o.dst undef) w:=by
  intro d gb hd hN h hw
  obtain⟨r,hk,hs⟩:=lR.spec hT h
  cases hgf:gb with
  |true=>
   rw[if_pos (by rw[hw,hgf])]
   have GX:act (some gb):=fun c e=>by cases e;exact hgf
   have hdo:XL P o σ (vV gb r):=by
    intro cx N M β a w i
    have Z0:∀{M β v},r.bD M β v→(vV gb r).bD M β v:=by
     intro M β v hr
     cases r with
     |s x=>exact⟨fun _=>hr,fun h=>by rw[hgf]at h;cases h⟩
     |g cs=>exact⟨fun _=>hr,fun h=>by rw[hgf]at h;cases h⟩
     |_=>exact trivial
    rcases hs GX cx N M β a w i with⟨v,e,hr⟩|⟨f,vs,e,hc⟩
    ·exact .inl ⟨v,e,Z0 hr⟩
    ·exact .inr ⟨f,vs,e,hc.mono fun e' w' ⟨v,M',h1,h2,h3⟩=>⟨v,M',h1,Z0 h2,h3⟩⟩
   refine⟨lR.nd h,Oper.wp_mono ?_ (EX (K:=fun σ'=>σ'=oH σ d (vV gb r)) hd hN hdo i rfl)⟩
   rintro a' w' ⟨σ',M',β',rfl,h2,h3,h4⟩
   exact⟨_,M',β',hk,by rw[MO hd];exact h2,h3,h4⟩
  |false=>
   rw[if_neg (by rw[hw,hgf];simp),hd]
   refine⟨_,M,β,hk,?_,Grow.refl _ _,b8.refl _ _⟩
   rw[MO hd]
   refine i.put hN ?_
   cases r with
   |s x=>exact⟨fun h=>(by rw[hgf]at h;cases h),fun _=>rfl⟩
   |g cs=>exact⟨fun h=>(by rw[hgf]at h;cases h),fun _=>rfl⟩
   |_=>exact trivial
 unfold aY at h
 simp only at h
 split at h
 ·rename_i hg
  rw[if_pos (by simp[Region.wanted,hg])]
  exact run h
 ·rename_i j nA hg
  split at h
  ·cases h
  ·rename_i t ht
   split at h
   ·rename_i b hv
    have hb:a.tmps.getD t undef=.bool b:=by have:=i.env t;rw[hv]at this;exact this
    have hw:=pC hg ht hb
    cases b <;> cases nA
    ·rw[if_pos (by rw[hw];rfl)];exact run h
    ·rw[if_neg (by rw[hw];simp)];exact skip h
    ·rw[if_neg (by rw[hw];simp)];exact skip h
    ·rw[if_pos (by rw[hw];rfl)];exact run h
   ·rename_i b hv
    have hb:a.tmps.getD t undef=.bool b:=by have:=i.env t;rw[hv]at this;exact this
    have hw:=pC hg ht hb
    split at h
    ·rename_i hx
     obtain⟨hbp,h⟩:=h
     subst hbp
     have run':=run
     simp only [hx]at run'
     rw[if_pos (by rw[hw];cases b <;> rfl)];exact run' h
    ·split at h
     ·rename_i d hd
      cases hN:Nat.blt d N with
      |false=>rw[hN]at h;cases h
      |true=>
       rw[hN]at h
       exact part hd (Nat.le_of_ble_eq_true hN) h (by rw[hw];cases b <;> cases nA <;> rfl)
     ·cases h
   ·rename_i c b hv
    have hr:(AV.ib c (.d (.val (.bool b)))).bD M β (a.tmps.getD t undef):=by have:=i.env t;rw[hv]at this;exact this
    have hw:Region.wanted o (yielded all.toArray a.tmps)=(c&&rL nA b):=by
     cases c with
     |true=>rw[pC hg ht (hr.1 rfl)];cases b <;> cases nA <;> rfl
     |false=>exact zP hg ht (hr.2 rfl)
    split at h
    ·cases h
    ·split at h
     ·rename_i d hd
      cases hN:Nat.blt d N with
      |false=>rw[hN]at h;cases h
      |true=>
       rw[hN]at h
       exact part hd (Nat.le_of_ble_eq_true hN) h hw
     ·cases h
   ·cases h
theorem Inv.eqv{σ σ':St}{M:Mem}{β:Nm}{a:Act}{w:World}(i:Inv cx N M β σ a w)(h:EP σ σ'):Inv cx N M β σ' a w:=
 ⟨i.defers,i.tmps,i.heap,fun t=>by rw[h.env];exact i.env t,i.mem,fun x p e=>by rw[h.box];exact i.keys x p e,fun x bc e=>i.box x bc (by rw[←h.box];exact e),
  fun x y bx yB b c c' ex ey=>i.inj x y bx yB b c c' (by rw[←h.box];exact ex) (by rw[←h.box];exact ey),fun x bc b c e=>i.apart x bc b c (by rw[←h.box];exact e),fun x bc b c e=>i.low x bc b c (by rw[←h.box];exact e),i.ref⟩
theorem xO.sound(hT:b7 P T)(V6:∀f,rc.contains (f+2000000)=true→cx.ref=[]){md:Region.Mode}{ft:List fK}{σf:St}{Q:Exit→Act→World→Prop}:∀(fuel:Nat) {listed:Array Bool} {σ:St} {M:Mem} {β:Nm} {a:Act} {w:World},
  xO P T N rc all md ft σf fuel listed σ→Inv cx N M β σ a w→(∀a' w',I0 cx N M w (fun σ'=>σ'=σf) a' w'→Q .normal a' w')→wpAnyIn (FW cx.rd) 0 P md all.toArray Q fuel listed a w:=by
 intro fuel
 induction fuel with
 |zero=>
  intro listed σ M β a w h i hQ
  exact⟨h.1,hQ a w ⟨σf,M,β,rfl,i.eqv h.2.symm,Grow.refl _ _,b8.refl _ _⟩⟩
 |succ fuel ih=>
  intro listed σ M β a w h i hQ
  refine⟨fun h0=>hQ a w ⟨σf,M,β,rfl,i.eqv (h.1 h0).symm,Grow.refl _ _,b8.refl _ _⟩,fun k hk=>?_⟩
  obtain⟨o,e,f,ho,hf,fG,JX⟩:=h.2 k hk
  have iU:=aY.sound (cx:=cx) (Q:=Q) hT V6 (fG.pt (fun e'=>e'=e) rfl) i
  have rK:all.toArray[k]? =some o:=by simpa using ho
  have next:∀a' w',BT cx N M w o σ (fun e'=>e'=e) a' w'→wpAnyIn (FW cx.rd) 0 P md all.toArray Q fuel (listed.setIfInBounds k true) a' w':=by
   rintro a' w' ⟨e',M',β',rfl,hi,hg,kG⟩
   exact ih JX hi fun a2 w2 hp=>hQ a2 w2 (hp.trans hg kG)
  unfold wpOpIn
  rw[rK]
  simp only
  split
  ·rename_i hw
   rw[if_pos hw]at iU
   exact LA iU.1 (Oper.wp_mono next iU.2)
  ·rename_i hw
   rw[if_neg hw]at iU
   exact⟨fun _ _=>trivial,next _ _ iU⟩
def oJ(P:Program)(T:List (Nat×bP))(N:Nat)(rc:List Nat)(all:List Oper):List Oper→St→List fK→(St→List fK→Prop)→Prop
 |[],σ,fs,K=>K σ fs.reverse
 |o::rest,σ,fs,K=>aY P T N rc all o σ fun e=>oJ P T N rc all rest (eI o e σ) (L2 σ o e::fs) K
theorem oJ.chain:∀{l:List Oper} {σ:St} {fs:List fK} {K:St→List fK→Prop},oJ P T N rc all l σ fs K→∃es gs,UU P T N rc all l σ es gs∧K (qI l σ es) (fs.reverse++gs)
 |[],σ,fs,K,h=>⟨[],[],trivial,by have h':K σ fs.reverse:=h;simpa [qI]using h'⟩
 |o::rest,σ,fs,K,h=>by
  obtain⟨e,hk,hp⟩:=aY.pt h
  obtain⟨es,gs,hc,hK⟩:=oJ.chain hk
  refine⟨e::es,L2 σ o e::gs,⟨⟨hp,rfl,rfl⟩,hc⟩,?_⟩
  simpa [qI]using hK
theorem AW.draw(hT:b7 P T)(V6:∀f,rc.contains (f+2000000)=true→cx.ref=[])(hm:P.follows .mixedOrders=true){id:Nat}{ops:Array Oper}{σ:St}{K:Exit→St→Prop}
  (h:oJ P T N rc ops.toList ops.toList σ [] fun σ' fs=>VT .any ops.toList.toArray fs ops.toList.length 0 (Array.replicate ops.toList.length false)=true∧K .normal σ'):AW P cx N (.region id ops true) σ K:=by
 obtain⟨es,gs,hc,hl,hK⟩:=oJ.chain h
 intro M β a w i
 refine wpIn_region_any hm ?_
 have aAI:=xO.lex (md:=.any) (ft:=gs) ops.toList 0 (Array.replicate ops.toList.length false) σ es gs sM sM (fun m om _ h=>by simp[Array.getElem?_replicate]at h;split at h <;> simp_all) hl hc
 have hi:Inv cx N M β σ a {w with drawn:=w.drawn+1}:=
  ⟨i.defers,i.tmps,⟨i.heap.le,i.heap.tab⟩,i.env,i.mem,i.keys,i.box,i.inj,i.apart,i.low,i.ref⟩
 have:=xO.sound (cx:=cx) (Q:=fun e a' w'=>∃σ' M' β',K e σ'∧Inv cx N M' β' σ' a' w'∧Grow cx.B M M'∧b8 cx w w') hT V6 ops.toList.length aAI hi (by
  rintro a' w' ⟨σ',M',β',rfl,h2,h3,h4⟩
  exact⟨_,M',β',hK,h2,h3,⟨h4.os,h4.tape,h4.output,h4.size,h4.block,trivial⟩⟩)
 simpa using this
end
def zD(σ:St)(c:Operand)(x y:Prop):Prop:=
 match ev σ c with
 |.s (.d (.lit b))=>match b with
  |true=>x
  |false=>y
 |.s (.d (.val (.bool b)))=>(b=true→x)∧(b=false→y)
 |_=>False
def aAP(P:Program)(T:List (Nat×bP))(N:Nat)(ref rc:List Nat)(ops:Array Oper)(dr:Bool)(σ:St)(K:Exit→St→Prop):Prop:=
 match dr with
 |false=>lF P T N ref rc ops.toList ops.toList σ (K .normal)
 |true=>oJ P T N (bif ref.isEmpty then rc else rc.filter fun x=>Nat.blt x 2000000) ops.toList ops.toList σ [] fun σ' fs=>VT .any ops.toList.toArray fs ops.toList.length 0 (Array.replicate ops.toList.length false)=true∧K .normal σ'
def ex(P:Program)(T:List (Nat×bP))(N:Nat)(ref rc:List Nat)(cx:Cx)(c:Code):St→(Exit→St→Prop)→Prop:=
 @Code.rec (fun _=>St→(Exit→St→Prop)→Prop)
  (fun σ K=>K .normal σ)
  (fun _ ops dr σ K=>aAP P T N ref rc ops dr σ K)
  (fun _ _ iha ihb σ K=>iha σ (M7 (fun s=>ihb s K) K))
  (fun c _ _ iha ihb σ K=>zD σ c (iha σ K) (ihb σ K))
  (fun id _ ih σ K=>ih σ (MK id K))
  (fun b _ σ K=>AW P cx N (.loop b) σ K)
  (fun f p a b _ _ σ K=>AW P cx N (.rangeFunc f p a b) σ K)
  (fun id σ K=>K (.exit id) σ)
  (fun b _ σ K=>AW P cx N (.scope b) σ K)
  (fun l σ K=>AW P cx N (.label l) σ K)
  (fun l σ K=>AW P cx N (.goto l) σ K)
  (fun σ K=>K .ret σ)
  (fun w σ K=>AW P cx N (.refuse w) σ K) c
theorem ex.sound{P:Program}{T:List (Nat×bP)}{N:Nat}{ref rc:List Nat}{cx:Cx}(hT:b7 P T)(hm:P.follows .mixedOrders=true)(aA:cx.ref=ref):∀(c:Code) {σ:St} {K:Exit→St→Prop},ex P T N ref rc cx c σ K→AW P cx N c σ K:=by
 intro c
 induction c with
 |skip=>exact fun h=>AW.skip h
 |ret=>exact fun h=>AW.ret h
 |exit id=>exact fun h=>AW.exit h
 |seq x y ihx ihy=>
  intro σ K h
  refine AW.seq (AW.mono (ihx h) ?_)
  intro e s hk
  cases e with
  |normal=>exact ihy hk
  |_=>exact hk
 |block id c ih=>exact fun h=>AW.block (ih h)
 |cond c x y ihx ihy=>
  intro σ K h
  replace h:zD σ c (ex P T N ref rc cx x σ K) (ex P T N ref rc cx y σ K):=h
  unfold zD at h
  intro M β a w i
  split at h
  ·rename_i b hv
   have hb:a.eval c=.bool b:=by have:=ev.rep i c;rw[hv]at this;exact this
   cases b with
   |true=>exact wpIn_cond_true hb (ihx h M β a w i)
   |false=>exact wpIn_cond_false hb (ihy h M β a w i)
  ·rename_i b hv
   have hb:a.eval c=.bool b:=by have:=ev.rep i c;rw[hv]at this;exact this
   exact wpIn_cond_split hb (fun hb=>ihx (h.1 hb) M β a w i) (fun hb=>ihy (h.2 hb) M β a w i)
  ·cases h
 |region id ops dr=>
  intro σ K h
  replace h:aAP P T N ref rc ops dr σ K:=h
  unfold aAP at h
  cases dr with
  |true=>
   refine AW.draw hT (fun f hf=>?_) hm h
   cases hr:ref.isEmpty with
   |true=>rw[aA];exact List.isEmpty_iff.1 hr
   |false=>
    rw[hr]at hf
    simp only [cond_false,List.contains_eq_mem,decide_eq_true_eq,List.mem_filter]at hf
    have:=Nat.le_of_ble_eq_true hf.2
    omega
  |false=>
   intro M β a w i
   have:=lF.sound (Q:=fun e a' w'=>∃σ' M' β',K e σ'∧Inv cx N M' β' σ' a' w'∧Grow cx.B M M'∧b8 cx w w') hT aA ops.toList h i (fun a' w' hp=>hp)
   exact wpIn_region_list (by simpa using this)
 |_=>exact fun h=>h
def sS:List AV→Nat→List (Nat×AV)
 |[],_=>[]
 |v::r,k=>(k,v)::sS r (k+1)
def tR(args:List AV):St:=⟨sS args 0,[]⟩
theorem sS.rep{M:Mem}{β:Nm}:∀{args:List AV} {vs:List Value} {k t:Nat} (rest:List Value),gM M β args vs→k≤t→(eY (sS args k) t).bD M β ((vs++rest).getD (t - k) undef)
 |[],[],k,t,rest,_,_=>trivial
 |v::args,u::vs,k,t,rest,⟨h,r⟩,hk=>by
  simp only [sS,gA]
  by_cases he:k=t
  ·subst he;simpa using h
  ·rw[if_neg he]
   have:=sS.rep (k:=k+1) (t:=t) rest r oM
   rw[show t - k=(t - (k+1))+1 by omega]
   simpa using this
 |[],_::_,_,_,_,h,_=>h.elim
 |_::_,[],_,_,_,h,_=>h.elim
theorem gM.length:∀{M β} {cs:List AV} {vs:List Value},gM M β cs vs→vs.length=cs.length
 |_,_,[],[],_=>rfl
 |_,_,_::_,_::_,⟨_,r⟩=>by simp[gM.length r]
 |_,_,[],_::_,h=>h.elim
 |_,_,_::_,[],h=>h.elim
def VF(T:List (Nat×bP))(σ:St):ResultVar→Option TV
 |.tmp t=>match eY σ.env t with
  |.s x=>some (.s x)
  |.g cs=>some (.g cs)
  |_=>none
 |.cell a t=>match cZ T t,eY σ.env a with
  |some ti,.s (.ptr x 0)=>match aH σ.box x with
   |some (some (.cells cs))=>match ti.agg with
    |true=>bif Nat.beq cs.length ti.size then some (.g cs)else none
    |false=>match cs with
     |[c]=>some (.s c)
     |_=>none
   |_=>none
  |_,_=>none
def nT(T:List (Nat×bP))(σ:St):List ResultVar→Option (List TV)
 |[]=>some []
 |x::r=>match VF T σ x,nT T σ r with
  |some t,some ts=>some (t::ts)
  |_,_=>none
def ofT:TV→AV
 |.s x=>.s x
 |.g cs=>.g cs
def x3:List TV→AV
 |[t]=>ofT t
 |ts=>.t ts
def aKV(σ:St):TV→TV
 |.s x=>.s (uV σ x)
 |.g cs=>.g (j9 σ cs)
def mX(σ:St):List TV→List TV
 |[]=>[]
 |t::r=>aKV σ t::mX σ r
def aC(v r:AV):Prop:=∀M u,v.bD M nb u→r.bD M nb u
theorem aC.refl(v:AV):aC v v:=fun _ _ h=>h
theorem aC.of_eq{v r:AV}(h:v=r):aC v r:=h▸aC.refl v
def VD(T:List (Nat×bP))(rs:List ResultVar)(r:AV):Exit→St→Prop
 |.ret,σ=>match nT T σ rs with
  |some ts=>aC (x3 (mX σ ts)) r
  |none=>False
 |.normal,σ=>match nT T σ rs with
  |some ts=>aC (x3 (mX σ ts)) r
  |none=>False
 |_,_=>False
section
variable{P:Program}{T:List (Nat×bP)}{cx:Cx}{N:Nat}{M F:Mem}{β:Nm}{σ:St}{a:Act}{w:World}
def lG(tmps:Array Value):ResultVar→Sem Value
 |.tmp t=>pure (tmps.getD t undef)
 |.cell a t=>do loadVar t (←asAddr (tmps.getD a undef))
theorem VF.rep(hT:b7 P T)(i:Inv cx N M β σ a w){x:ResultVar}{t:TV}(h:VF T σ x=some t):∃v,(lG a.tmps x).run P w=.ok v w∧t.bD M β v:=by
 cases x with
 |tmp u=>
  simp only [VF]at h
  have hr:=i.env u
  refine⟨a.tmps.getD u undef,rfl,?_⟩
  split at h
  ·rename_i e;cases h;rw[e]at hr;exact hr
  ·rename_i e;cases h;rw[e]at hr;exact hr
  ·cases h
 |cell u t'=>
  simp only [VF]at h
  split at h
  ·rename_i ti x fS he
   have fG:=hT.get fS
   have hr:=i.env u
   rw[he]at hr
   obtain⟨b,c,e1,e2⟩:=hr
   split at h
   ·rename_i cs hb
    obtain⟨b',c',vs,ty,us,e3,hh,hrl⟩:=i.box x _ hb
    rw[e1]at e3;cases e3
    split at h
    ·rename_i GU
     cases hl:Nat.beq cs.length ti.size with
     |false=>rw[hl]at h;cases h
     |true=>
      rw[hl]at h;cases h
      have hl:=Nat.eq_of_beq_eq_true hl
      have hlv:=hrl.length
      refine⟨_,?_,vs,rfl,hrl⟩
      have hld:=run_loadCells_list (P:=P) w ⟨b,0,none⟩ vs (fun j v hv=>by rw[jC];have:=BP (us:=us) hv;simpa [World.cell?,hh]using this)
      have ha:=fG.AB w
      rw[GU]at ha
      simp[lG,e2,asAddr,loadVar,ha,fG.gR,←hl,←hlv,hld]
    ·rename_i GU
     split at h
     ·cases h
      rename_i c0
      cases vs with
      |nil=>exact hrl.elim
      |cons v r=>
       cases r with
       |cons _ _=>exact hrl.2.elim
       |nil=>
        refine⟨v,?_,hrl.1⟩
        have ha:=fG.AB w
        rw[GU]at ha
        have hc:w.cell? ⟨b,0,none⟩=some v:=by simp[World.cell?,hh]
        simp[lG,e2,asAddr,loadVar,ha,hc,run_load]
     ·cases h
   ·cases h
  ·cases h
theorem nT.rep(hT:b7 P T)(i:Inv cx N M β σ a w):∀{l:List ResultVar} {ts:List TV},nT T σ l=some ts→∃vs:List Value,(l.mapM (lG a.tmps)).run P w=.ok vs w∧qK M β ts vs
 |[],ts,h=>by simp[nT]at h;subst h;exact⟨[],rfl,trivial⟩
 |x::r,ts,h=>by
  simp only [nT]at h
  split at h
  ·rename_i t ts' h1 h2
   cases h
   obtain⟨v,e1,r1⟩:=VF.rep hT i h1
   obtain⟨vs,e2,r2⟩:=nT.rep hT i h2
   exact⟨v::vs,by simp[e1,e2],r1,r2⟩
  ·cases h
theorem mX.rep(i:Inv cx N M β σ a w)(hM:Mem.le M F)(hF:∀x bc b c,aH σ.box x=some (some bc)→β x=some (b,c)→∀o u,w.cell? ⟨b,o,none⟩=some u→F b o=some u):
  ∀{ts:List TV} {vs:List Value},qK M β ts vs→qK F nb (mX σ ts) vs
 |[],[],_=>trivial
 |t::_,_::_,⟨h,r⟩=>by
  refine⟨?_,mX.rep i hM hF r⟩
  cases t with
  |s x=>exact dS.rep i hM hF 3 _ _ h
  |g cs=>obtain⟨vs,e,hr⟩:=h;exact⟨vs,e,j9.rep i hM hF hr⟩
 |[],_::_,h=>h.elim
 |_::_,[],h=>h.elim
theorem D8{f N:Nat}{fn:Func}{c:Code}{args:List AV}{r:AV}(hf:P.funcs[f]? =some fn)(hb:fn.body=some c)(hN:fn.ntmps=N)(dV:∀vs w,(callFunc f vs).run P w=.ok (.enter f vs) w)
  (hT:b7 P T) (hl:Nat.ble args.length N=true) {rs:List ResultVar} (LR:fn.results.toList=rs)
  (h:∀cx:Cx,cx.ref=[]→AW P cx N c (tR args) (VD T rs r)):aF P f args r:=by
 refine⟨dV,fun M w vs hG hr hM=>?_⟩
 refine calls_of_wp hf hb ?_
 let cx:Cx:={B:=w.heap.size,ref:=[],β0:=nb}
 have hlen:=hr.length
 have hl:=Nat.le_of_ble_eq_true hl
 have i0:Inv cx N M nb (tR args) {tmps:=vs.toArray++Array.replicate (fn.ntmps - vs.toArray.size) undef,defers:=[]} w:=by
  refine⟨rfl,by simp;omega,⟨Nat.le_refl _,by obtain⟨bs,hG⟩:=hG;exact⟨bs,hG,fun g t m=>⟨hG.lt m,by rintro⟨x,c,hx,_⟩;cases hx⟩⟩⟩,fun t=>?_,hM,fun _ _ e=>(by cases e),fun _ _ e=>(by cases e),fun _ _ _ _ _ _ _ e=>(by cases e),fun _ _ _ _ e=>(by cases e),fun _ _ _ _ e=>(by cases e),fun _ hx=>(by cases hx)⟩
  have:=sS.rep (k:=0) (t:=t) (List.replicate (fn.ntmps - vs.length) undef) hr (Nat.zero_le _)
  simp only [Nat.sub_zero]at this
  simp only [tR]
  have e:(vs.toArray++Array.replicate (fn.ntmps - vs.toArray.size) undef).getD t undef=(vs++List.replicate (fn.ntmps - vs.length) undef).getD t undef:=by
   simp[←List.toArray_replicate]
  rw[e]
  exact this
 refine wp_mono (wpIn_wide.1 (h cx rfl M nb _ w i0)) ?_
 rintro e a' w' ⟨σ',M',β',hk,i',hg,kG⟩
 have fin:∀ts,nT T σ' rs=some ts→aC (x3 (mX σ' ts)) r→a'.defers=[]∧∃v,(results fn a'.tmps).run P w'=.ok v w'∧∃v' M',Ending.returned v=.returned v'∧r.bD M' nb v'∧Grow w.heap.size M M'∧kF M' w'∧Bel w w':=by
  intro ts rX fD
  obtain⟨zQ,a6,dU⟩:=nT.rep hT i' rX
  let F:Mem:=fun b o=>if b<w.heap.size then M' b o else w'.cell? ⟨b,o,none⟩
  have hMF:Mem.le M' F:=fun b o u e=>by
   by_cases qL:b<w.heap.size
   ·simp[F,qL,e]
   ·simp[F,qL,i'.mem b o u e]
  have hFc:∀x bc b c,aH σ'.box x=some (some bc)→β' x=some (b,c)→∀o u,w'.cell? ⟨b,o,none⟩=some u→F b o=some u:=by
   intro x bc b c e e' o u hu
   rcases i'.low x bc b c e e' with h|h
   ·have:¬b<w.heap.size:=by have:w.heap.size≤b:=h;omega
    simp[F,this,hu]
   ·obtain⟨_,_,hx,_⟩:=h;cases hx
  have iN:=mX.rep i' hMF hFc dU
  refine⟨i'.defers,(if h:zQ.toArray.size=1 then zQ.toArray[0]else .tuple zQ.toArray),?_,_,F,rfl,fD F _ ?_,⟨fun b o u e=>hMF b o u (hg.le b o u e),fun b o u e=>?_⟩,fun b o u e=>?_,⟨⟨kG.os,kG.tape,kG.output,kG.size,fun k hk=>kG.block k hk (by rintro⟨x,c,hx,_⟩;cases hx)⟩,kG.drawn⟩⟩
  ·have:(fn.results.mapM (lG a'.tmps)).run P w'=.ok zQ.toArray w':=by
    rw[←Array.toArray_toList (xs:=fn.results),List.mapM_toArray,LR]
    simp only [Sem.run_map,a6,Result.andThen]
   have e:results fn a'.tmps=(do let vs←fn.results.mapM (lG a'.tmps);pure (if h:vs.size=1 then vs[0]else .tuple vs)):=by
    unfold results
    congr 1
   rw[e]
   simp only [Sem.run_bind,this,Result.andThen,Sem.run_pure]
  ·cases OR:mX σ' ts with
   |nil=>
    rw[OR]at iN
    cases zQ with
    |nil=>exact⟨[],rfl,trivial⟩
    |cons _ _=>exact iN.elim
   |cons t r'=>
    rw[OR]at iN
    cases zQ with
    |nil=>exact iN.elim
    |cons v E8=>
     cases r' with
     |nil=>
      cases E8 with
      |cons _ _=>exact iN.2.elim
      |nil=>
       have:=iN.1
       simp only [List.size_toArray,List.length_cons,List.length_nil,Nat.zero_add,dite_true,x3]
       cases t with
       |s x=>exact this
       |g cs=>exact this
     |cons t2 r2=>
      cases E8 with
      |nil=>exact iN.2.elim
      |cons v2 vs3=>
       have gI:¬(v::v2::vs3).toArray.size=1:=sM
       rw[dif_neg gI]
       exact⟨_,rfl,iN⟩
  ·by_cases qL:b<w.heap.size
   ·simp[F,qL]at e
    exact hg.new b o u e
   ·exact .inr oM
  ·by_cases qL:b<w.heap.size
   ·simp[F,qL]at e
    exact i'.mem b o u e
   ·simp[F,qL]at e
    exact e
 cases e with
 |ret=>
  simp only [VD]at hk
  split at hk
  ·rename_i ts rX;exact fin ts rX hk
  ·exact hk.elim
 |normal=>
  simp only [VD]at hk
  split at hk
  ·rename_i ts rX;exact fin ts rX hk
  ·exact hk.elim
 |_=>exact hk.elim
theorem fU{rc:List Nat}{f N:Nat}{fn:Func}{c:Code}{args:List AV}{r:AV}(hf:P.funcs[f]? =some fn)(hb:fn.body=some c)(hN:fn.ntmps=N)(dV:∀vs w,(callFunc f vs).run P w=.ok (.enter f vs) w)
  (hT:b7 P T) (hm:P.follows .mixedOrders=true) (hl:Nat.ble args.length N=true) {rs:List ResultVar} (LR:fn.results.toList=rs)
  (h:∀cx:Cx,cx.ref=[]→ex P T N [] rc cx c (tR args) (VD T rs r)):aF P f args r:=
 D8 hf hb hN dV hT hl LR fun cx aA=>ex.sound hT hm aA c (h cx aA)
end
theorem KW{P:Program}{w:World}{t:TypeId}(h:(isAgg t).run P w=.ok false w){V:Array Value}{k:Nat}{v:Value}(hv:V[k]? =some v):(part t V k).run P w=.ok v w:=by
 simp[part,h,hv]
theorem KX{P:Program}{w:World}{t:TypeId}{m:Nat}(h:(isAgg t).run P w=.ok true w)(hs:(sizeOf t).run P w=.ok m w){V:Array Value}{k:Nat}:(part t V k).run P w=.ok (.agg ((V.toList.drop k).take m).toArray) w:=by
 have:V.extract k (k+m)=((V.toList.drop k).take m).toArray:=by
  apply Array.ext';simp[List.extract_eq_take_drop]
 simp[part,h,hs,this]
abbrev HT(xs:List SV)(vs:List Value):Prop:=cO (fun _ _=>none) (fun _=>none) xs vs
def mkV(agg:Bool)(vs:List Value):Value:=match agg with|true=>.agg vs.toArray|false=>vs.headD undef
structure mC(P:Program)(n:Nat)(t:TypeId)(agg:Bool)(zs:List Value):Prop where
 isAgg:∀w,(isAgg t).run P w=.ok agg w
 size:agg=true→∀w,(sizeOf t).run P w=.ok zs.length w
 one:agg=false→zs.length=1
 run:∀(d:Nat) (w:World) (xs ys:List SV) (vs us:List Value) (b:Bool),gC zs xs=true→gC zs ys=true→tE xs ys=some b→HT xs vs→HT ys us→
  (Op.equalIn (d+n) t (mkV agg vs) (mkV agg us)).run P w=.ok b w
theorem mC.up{P:Program}{n:Nat}{t:TypeId}{agg:Bool}{zs:List Value}(h:mC P n t agg zs):mC P (n+1) t agg zs:=
 ⟨h.isAgg,h.size,h.one,fun d w xs ys vs us b h1 h2 h3 h4 h5=>by have:=h.run (d+1) w xs ys vs us b h1 h2 h3 h4 h5;rwa [show d+1+n=d+(n+1) by omega]at this⟩
theorem TS{k:IntKind}{z:Int}{x:SV}(h:kOK (.int k z) x=true):∃k' a,wV x=some (k',a):=by
 cases hx:wV x with
 |none=>simp[kOK,hx]at h
 |some p=>exact⟨p.1,p.2,rfl⟩
theorem GC{s:ByteArray}{x:SV}(h:kOK (.string s) x=true):∃a,vA x=some a:=by
 cases hx:vA x with
 |none=>simp[kOK,hx]at h
 |some p=>exact⟨p,rfl⟩
theorem OG{s:Bool}{x:SV}(h:kOK (.bool s) x=true):∃a,mY x=some a:=by
 cases hx:mY x with
 |none=>simp[kOK,hx]at h
 |some p=>exact⟨p,rfl⟩
theorem JN{z:Value}{xs:List SV}(h:gC [z] xs=true):∃x,xs=[x]∧kOK z x=true:=by
 cases xs with
 |nil=>cases h
 |cons x r=>
  simp only [gC,Bool.and_eq_true]at h
  cases r with
  |nil=>exact⟨x,rfl,h.1⟩
  |cons _ _=>exact absurd h.2 (by simp[gC])
theorem VH{x:SV}{vs:List Value}(h:HT [x] vs):∃v,vs=[v]∧x.bD (fun _ _=>none) (fun _=>none) v:=by
 cases vs with
 |nil=>exact h.elim
 |cons v r=>cases r with
  |nil=>exact⟨v,rfl,h.1⟩
  |cons _ _=>exact h.2.elim
theorem wV.val{x:SV}{k:IntKind}{a:Int}{M:Mem}{β:Nm}{v:Value}(h:wV x=some (k,a))(r:x.bD M β v):v=.int k a:=by
 unfold wV at h
 split at h
 ·cases h;exact r
 ·cases h
theorem GG{x:SV}{s:ByteArray}(h:vA x=some s):wV x=none:=by
 unfold vA at h
 split at h
 ·rfl
 ·cases h
theorem CI{x:SV}{s:Bool}(h:mY x=some s):wV x=none:=by
 unfold mY at h
 split at h
 ·rfl
 ·rfl
 ·cases h
theorem B5{x:SV}{s:Bool}(h:mY x=some s):vA x=none:=by
 unfold mY at h
 split at h
 ·rfl
 ·rfl
 ·cases h
section
variable{P:Program}{t:TypeId}
theorem bW{k:IntKind}(z:Int)(h:P.underlying t=some (.int k)):mC P 1 t false [.int k z]:=by
 refine⟨fun w=>by simp[isAgg,run_underlying h],(fun h=>by cases h),fun _=>rfl,fun d w xs ys vs us b h1 h2 e rx ry=>?_⟩
 obtain⟨x,rfl,kx⟩:=JN h1
 obtain⟨y,rfl,ky⟩:=JN h2
 obtain⟨v,rfl,rx'⟩:=VH rx
 obtain⟨u,rfl,ry'⟩:=VH ry
 obtain⟨k1,a,hx⟩:=TS kx
 obtain⟨k2,a2,hy⟩:=TS ky
 simp only [tE,hx,hy]at e
 by_cases hk:k1=k2
 ·subst hk
  simp only [decide_true,cond_true,Bool.and_true,Option.some.injEq]at e
  subst e
  have ev:=wV.val hx rx'
  have eu:=wV.val hy ry'
  subst ev;subst eu
  exact run_equalIn_int (w:=w) d t k1 k a a2 h
 ·simp[hk]at e
theorem fM(z:ByteArray)(h:P.underlying t=some .string):mC P 1 t false [.string z]:=by
 refine⟨fun w=>by simp[isAgg,run_underlying h],(fun h=>by cases h),fun _=>rfl,fun d w xs ys vs us b h1 h2 e rx ry=>?_⟩
 obtain⟨x,rfl,kx⟩:=JN h1
 obtain⟨y,rfl,ky⟩:=JN h2
 obtain⟨v,rfl,rx'⟩:=VH rx
 obtain⟨u,rfl,ry'⟩:=VH ry
 obtain⟨a,hx⟩:=GC kx
 obtain⟨a2,hy⟩:=GC ky
 simp only [tE,GG hx,hx,hy,Bool.and_true,Option.some.injEq]at e
 subst e
 have ev:=vA.val hx rx'
 have eu:=vA.val hy ry'
 subst ev;subst eu
 exact run_equalIn_string (w:=w) d t a a2 h
theorem aA7(z:Bool)(h:P.underlying t=some .bool):mC P 1 t false [.bool z]:=by
 refine⟨fun w=>by simp[isAgg,run_underlying h],(fun h=>by cases h),fun _=>rfl,fun d w xs ys vs us b h1 h2 e rx ry=>?_⟩
 obtain⟨x,rfl,kx⟩:=JN h1
 obtain⟨y,rfl,ky⟩:=JN h2
 obtain⟨v,rfl,rx'⟩:=VH rx
 obtain⟨u,rfl,ry'⟩:=VH ry
 obtain⟨a,hx⟩:=OG kx
 obtain⟨a2,hy⟩:=OG ky
 simp only [tE,CI hx,B5 hx,hx,hy,Bool.and_true,Option.some.injEq]at e
 subst e
 have ev:=mY.val hx rx'
 have eu:=mY.val hy ry'
 subst ev;subst eu
 exact run_equalIn_bool' (w:=w) d t a a2 h
end
def aH2(P:Program)(n:Nat):List Field→List Value→Nat→Prop
 |[],zs,_=>zs=[]
 |f::fs,zs,k=>f.name≠ "_" ∧f.offset=k∧∃agg zf rest,zs=zf++rest∧mC P n f.type agg zf∧aH2 P n fs rest (k+zf.length)
theorem yV:∀{zf rest:List Value} {xs:List SV},gC (zf++rest) xs=true→gC zf (xs.take zf.length)=true∧gC rest (xs.drop zf.length)=true∧zf.length≤xs.length
 |[],_,_,h=>⟨rfl,h,Nat.zero_le _⟩
 |z::zf,rest,[],h=>by cases h
 |z::zf,rest,x::xs,h=>by
  simp only [List.cons_append,gC,Bool.and_eq_true]at h
  obtain⟨i1,i2,i3⟩:=yV h.2
  exact⟨by simp only [List.length_cons,List.take_succ_cons,gC,Bool.and_eq_true];exact⟨h.1,i1⟩,by simpa using i2,by simp;omega⟩
theorem aAR{x y:SV}{r s:List SV}(h:tE r s=none):tE (x::r) (y::s)=none:=by
 simp only [tE,h]
def eq1(x y:SV):Option Bool:=tE [x] [y]
theorem aAS{x y:SV}{r s:List SV}{b:Bool}(h:tE (x::r) (y::s)=some b):∃b1 b2,eq1 x y=some b1∧tE r s=some b2∧b=(b1&&b2):=by
 cases hc:tE r s with
 |none=>rw[aAR hc]at h;cases h
 |some c=>
  simp only [tE,hc]at h
  split at h
  ·rename_i k1 a k2 b' c' ha hb O1
   cases O1
   by_cases hk:k1=k2
   ·subst hk
    simp only [decide_true,cond_true,Option.some.injEq]at h
    exact⟨a==b',c,by simp[eq1,tE,ha,hb],rfl,h.symm⟩
   ·simp[hk]at h
  ·rename_i c' O1 hn
   cases O1
   split at h
   ·rename_i a b' ha hb
    cases h
    exact⟨a.toList==b'.toList,c,by simp[eq1,tE,GG ha,ha,hb],rfl,rfl⟩
   ·rename_i hns
    split at h
    ·rename_i a b' ha hb
     cases h
     exact⟨a==b',c,by simp[eq1,tE,CI ha,B5 ha,ha,hb],rfl,rfl⟩
    ·cases h
  ·rename_i O1
   cases O1
theorem aGW{x y:SV}{r s:List SV}{b1 b2:Bool}(h:eq1 x y=some b1)(k:tE r s=some b2):tE (x::r) (y::s)=some (b1&&b2):=by
 simp only [eq1,tE]at h
 split at h
 ·rename_i k1 a k2 b' c' ha hb O1
  cases O1
  by_cases hk:k1=k2
  ·subst hk
   simp only [decide_true,cond_true,Option.some.injEq,Bool.and_true]at h
   simp[tE,k,ha,hb,h]
  ·simp[hk]at h
 ·rename_i c' O1 hn
  cases O1
  split at h
  ·rename_i a b' ha hb
   simp only [Bool.and_true,Option.some.injEq]at h
   simp[tE,k,GG ha,ha,hb,h]
  ·split at h
   ·rename_i a b' ha hb
    simp only [Bool.and_true,Option.some.injEq]at h
    simp[tE,k,CI ha,B5 ha,ha,hb,h]
   ·cases h
 ·rename_i O1
  cases O1
theorem T8:∀(m:Nat) {xs ys:List SV} {b:Bool},tE xs ys=some b→m≤xs.length→∃b1 b2,tE (xs.take m) (ys.take m)=some b1∧tE (xs.drop m) (ys.drop m)=some b2∧b=(b1&&b2)
 |0,xs,ys,b,h,_=>⟨true,b,by simp[tE],by simpa using h,sM⟩
 |m+1,[],ys,b,h,hl=>by simp at hl
 |m+1,x::xs,[],b,h,hl=>by simp[tE]at h
 |m+1,x::xs,y::ys,b,h,hl=>by
  obtain⟨c1,c2,h1,h2,rfl⟩:=aAS h
  obtain⟨d1,d2,h3,h4,rfl⟩:=T8 m h2 (by simpa using hl)
  exact⟨c1&&d1,d2,by simp only [List.take_succ_cons];exact aGW h1 h3,by simpa using h4,by rw[Bool.and_assoc]⟩
theorem aDB{xs:List SV}{b:Bool}(h:tE [] xs=some b):b=true:=by
 cases xs with
 |nil=>simp only [tE,Option.some.injEq]at h;exact h.symm
 |cons _ _=>cases h
theorem BB{P:Program}{n d:Nat}{V U:Array Value}:∀{fs:List Field} {zs:List Value} {k:Nat} {w:World} {xs ys:List SV} {b:Bool} {vs us:List Value},aH2 P n fs zs k→gC zs xs=true→gC zs ys=true→tE xs ys=some b→HT xs vs→HT ys us→
  V.toList.drop k=vs→U.toList.drop k=us→(Op.eqFields (d+n) V U fs).run P w=.ok b w
 |[],zs,k,w,xs,ys,b,vs,us,hz,h1,h2,e,_,_,_,_=>by
  have hz:zs=[]:=hz
  subst hz
  cases xs with
  |nil=>rw[aDB e];rfl
  |cons _ _=>cases h1
 |f::fs,zs,k,w,xs,ys,b,vs,us,hz,h1,h2,e,rx,ry,hv,hu=>by
  obtain⟨hn,hk,agg,zf,rest,rfl,hc,hf⟩:=hz
  obtain⟨k1,k2,k3⟩:=yV h1
  obtain⟨k4,k5,k6⟩:=yV h2
  obtain⟨b1,b2,e1,e2,rfl⟩:=T8 zf.length e k3
  have lx:=rx.length
  have ly:=ry.length
  have ih:=BB (w:=w) (V:=V) (U:=U) (d:=d) hf k2 k5 e2 (cO.drop zf.length rx) (cO.drop zf.length ry) (by rw[←hv,List.drop_drop]) (by rw[←hu,List.drop_drop])
  have hr:=hc.run d w _ _ _ _ _ k1 k4 e1 (cO.take zf.length rx) (cO.take zf.length ry)
  have part:∀(W:Array Value) (ws:List Value),W.toList.drop k=ws→zf.length≤ws.length→(part f.type W k).run P w=.ok (mkV agg (ws.take zf.length)) w:=by
   intro W ws hw hl
   cases agg with
   |true=>rw[KX (hc.isAgg w) (hc.size rfl w),hw];rfl
   |false=>
    have h0:=hc.one rfl
    rw[h0]at hl ⊢
    cases ws with
    |nil=>simp at hl
    |cons v r=>
     show _=Result.ok v w
     refine KW (hc.isAgg w) ?_
     have:(W.toList.drop k)[0]? =some v:=by rw[hw];rfl
     simpa using this
  simp only [Op.eqFields,hn,ne_eq,not_false_eq_true,if_true,Sem.run_bind,hk,part V vs hv oM,part U us hu oM,Result.andThen,hr,Sem.run_ite]
  cases b1 with
  |true=>simpa using ih
  |false=>simp
theorem dE{P:Program}{t n:Nat}{fs:Array Field}{zs:List Value}(cX:P.underlying t=some (.struct fs))(hp:P.stoodInHeld t=false)(hs:∀w,(sizeOf t).run P w=.ok zs.length w)(hf:aH2 P n fs.toList zs 0):mC P (n+1) t true zs:=by
 refine⟨fun w=>by simp[isAgg,run_underlying cX],fun _=>hs,(fun h=>by cases h),fun d w xs ys vs us b h1 h2 e rx ry=>?_⟩
 have hff:P.fieldsOf t=fs:=by simp[Program.fieldsOf,cX]
 show(Op.equalIn (d+n+1) t _ _).run P w=_
 simp only [mkV]
 rw[run_equalIn_struct w (d+n) t vs.toArray us.toArray (by rw[hff];exact cX) hp,hff]
 exact BB hf h1 h2 e rx ry sM sM
theorem gU{P:Program}{t n:Nat}{ti:TypeInfo}(h:P.info? t=some ti)(hn:ti.size=n)(w:World):(sizeOf t).run P w=.ok n w:=by
 simp[sizeOf,typeInfo,h,hn]
theorem cQ{P:Program}{t n:Nat}{zs:List Value}(h:mC P n t true zs)(hn:n≤10000):
  ∀(w:World) (xs ys:List SV) (vs us:List Value) (b:Bool),gC zs xs=true→gC zs ys=true→tE xs ys=some b→HT xs vs→HT ys us→
  (Op.equal t (.agg vs.toArray) (.agg us.toArray)).run P w=.ok b w:=by
 intro w xs ys vs us b h1 h2 e rx ry
 have:=h.run (10000 - n) w xs ys vs us b h1 h2 e rx ry
 rwa [show 10000 - n+n=10000 by omega]at this
def fY:eJ→aN
 |[]=>[]
 |(x,b)::r=>(x,some b)::fY r
def pT(args:List AV)(bx:eJ):St:=⟨sS args 0,fY bx⟩
def iK(box:aN):eJ→aN
 |[]=>box
 |(x,_)::r=>(x,none)::iK box r
def iM(box:aN):eJ→Prop
 |[]=>True
 |(x,b)::r=>aH box x=some (some b)∧iM box r
theorem fY.get{x:Nat}{b:jE}:∀{bx:eJ},aH (fY bx) x=some (some b)→(x,b)∈bx
 |[],h=>by cases h
 |(y,c)::r,h=>by
  simp only [fY]at h
  rw[aK]at h
  by_cases e:y=x
  ·rw[if_pos e]at h;cases h;subst e;simp
  ·rw[if_neg e]at h
   exact List.mem_cons_of_mem _ (fY.get h)
theorem fY.has{x:Nat}:∀{bx:eJ},x∈names bx→∃y,aH (fY bx) x=some y
 |[],h=>by cases h
 |(y,c)::r,h=>by
  simp only [fY]
  rw[aK]
  by_cases e:y=x
  ·rw[if_pos e];exact⟨_,rfl⟩
  ·rw[if_neg e]
   simp only [names,List.mem_cons]at h
   exact fY.has (h.resolve_left (fun h=>e h.symm))
theorem iK.get{box:aN}{x:Nat}{b:jE}:∀{bx:eJ},aH (iK box bx) x=some (some b)→x∉names bx∧aH box x=some (some b)
 |[],h=>⟨by simp[names],h⟩
 |(y,c)::r,h=>by
  simp only [iK]at h
  rw[aK]at h
  by_cases e:y=x
  ·rw[if_pos e]at h;cases h
  ·rw[if_neg e]at h
   obtain⟨h1,h2⟩:=iK.get h
   refine⟨?_,h2⟩
   simp only [names,List.mem_cons]
   rintro(h|h)
   ·exact e h.symm
   ·exact h1 h
theorem iK.has{box:aN}{x:Nat}{y:Option jE}(h:aH box x=some y):∀{bx:eJ},∃y,aH (iK box bx) x=some y
 |[]=>⟨y,h⟩
 |(z,c)::r=>by
  simp only [iK]
  rw[aK]
  by_cases e:z=x
  ·rw[if_pos e];exact⟨_,rfl⟩
  ·rw[if_neg e];exact iK.has h
theorem iM.get{box:aN}{x:Nat}{b:jE}:∀{bx:eJ},iM box bx→(x,b)∈bx→aH box x=some (some b)
 |[],_,h=>by cases h
 |(y,c)::r,⟨h,hr⟩,hm=>by
  cases hm with
  |head=>exact h
  |tail _ hm=>exact iM.get hr hm
def TD(T:List (Nat×bP))(rs:List ResultVar)(r:AV)(bx':eJ):Exit→St→Prop
 |.ret,σ=>match nT T σ rs with
  |some ts=>aC (x3 (mX ⟨σ.env,iK σ.box bx'⟩ ts)) r∧iM σ.box bx'
  |none=>False
 |.normal,σ=>match nT T σ rs with
  |some ts=>aC (x3 (mX ⟨σ.env,iK σ.box bx'⟩ ts)) r∧iM σ.box bx'
  |none=>False
 |_,_=>False
section
variable{P:Program}{T:List (Nat×bP)}
theorem Inv.shut{cx:Cx}{N:Nat}{M:Mem}{β:Nm}{σ:St}{a:Act}{w:World}(i:Inv cx N M β σ a w)(bx':eJ):Inv cx N M β ⟨σ.env,iK σ.box bx'⟩ a w:=by
 refine⟨i.defers,i.tmps,i.heap,i.env,i.mem,?_,?_,?_,?_,?_,i.ref⟩
 ·intro x p e
  obtain⟨y,hy⟩:=i.keys x p e
  exact iK.has hy
 ·exact fun x bc h=>i.box x bc (iK.get h).2
 ·exact fun x y bx yB b c c' hx hy=>i.inj x y bx yB b c c' (iK.get hx).2 (iK.get hy).2
 ·exact fun x bc b c h=>i.apart x bc b c (iK.get h).2
 ·exact fun x bc b c h=>i.low x bc b c (iK.get h).2
theorem AV.bD.aL9{M:Mem}{β:Nm}{r:AV}{v:Value}(h:r.bD M nb v):r.bD M β v:=AV.bD.mono (Mem.le_refl _) (fun _ _ h=>by cases h) h
theorem kP{f N:Nat}{fn:Func}{c:Code}{args:List AV}{bx:eJ}{r:AV}{bx':eJ}(hf:P.funcs[f]? =some fn)(hb:fn.body=some c)(hN:fn.ntmps=N)(dV:∀vs w,(callFunc f vs).run P w=.ok (.enter f vs) w)
  (hT:b7 P T) (hl:Nat.ble args.length N=true) (pW:((names bx).all fun x=>(names bx').contains x)=true) (jW:(bx'.all fun p=>p.2.real)=true) {rs:List ResultVar} (LR:fn.results.toList=rs)
  (h:∀cx:Cx,cx.ref=names bx→AW P cx N c (pT args bx) (TD T rs r bx')):bT P f args bx r bx':=by
 classical
 refine⟨dV,fun M β w vs hG hr hM qP hβ=>?_⟩
 refine calls_of_wp hf hb ?_
 let cx:Cx:={B:=w.heap.size,ref:=names bx,β0:=β}
 have hlen:=hr.length
 have hl:=Nat.le_of_ble_eq_true hl
 have hex:∀x,x∈names bx→∃p,β x=some p:=fun x hx=>by
  obtain⟨k,c,e⟩:=qP.has x hx
  exact⟨_,e⟩
 have i0:Inv cx N M β (pT args bx) {tmps:=vs.toArray++Array.replicate (fn.ntmps - vs.toArray.size) undef,defers:=[]} w:=by
  refine⟨rfl,by simp;omega,⟨Nat.le_refl _,by obtain⟨bs,hG,hN2⟩:=hG;exact⟨bs,hG,fun g t m=>⟨hG.lt m,by rintro⟨x,c,_,hx⟩;exact hN2 g t m x c hx⟩⟩⟩,fun t=>?_,hM,fun x p e=>fY.has (hβ x p e),fun x b e=>qP.rep x b (fY.get e),fun x y b1 b2 b c c' h1 h2 e1 e2=>?_,fun x b1 b c h1 e=>?_,fun x b1 b c h1 e=>?_,fun x hx=>⟨rfl,hex x hx⟩⟩
  ·have:=sS.rep (k:=0) (t:=t) (List.replicate (fn.ntmps - vs.length) undef) hr (Nat.zero_le _)
   simp only [Nat.sub_zero]at this
   simp only [pT]
   have e:(vs.toArray++Array.replicate (fn.ntmps - vs.toArray.size) undef).getD t undef=(vs++List.replicate (fn.ntmps - vs.length) undef).getD t undef:=by
    simp[←List.toArray_replicate]
   rw[e]
   exact this
  ·exact qP.inj x y b c c' (dA (fY.get h1)) (dA (fY.get h2)) e1 e2
  ·exact qP.apart x b c (dA (fY.get h1)) e
  ·exact .inr ⟨x,c,dA (fY.get h1),e⟩
 refine wp_mono (wpIn_wide.1 (h cx rfl M β _ w i0)) ?_
 rintro e a' w' ⟨σ',M',β',hk,i',hg,kG⟩
 have fin:∀ts,nT T σ' rs=some ts→aC (x3 (mX ⟨σ'.env,iK σ'.box bx'⟩ ts)) r→iM σ'.box bx'→a'.defers=[]∧∃v,(results fn a'.tmps).run P w'=.ok v w'∧∃v' M' β',Ending.returned v=.returned v'∧Nm.le β β'∧r.bD M' β' v'∧Grow w.heap.size M M'∧kF M' w'∧rB M' β' w' bx'∧
   (∀x b c,x∈names bx'→β' x=some (b,c)→w.heap.size≤b∨∃y c',β y=some (b,c'))∧
   w'.os=w.os∧w'.tape=w.tape∧w'.output=w.output∧w.heap.size≤w'.heap.size∧(∀k,k<w.heap.size→(∀y c,β y≠some (k,c))→w'.heap[k]? =w.heap[k]?)∧Dr w w':=by
  intro ts rX fD pY
  obtain⟨zQ,a6,dU⟩:=nT.rep hT i' rX
  let isB:Nat→Prop:=fun b=>∃x c,x∈names bx'∧β' x=some (b,c)
  let F:Mem:=fun b o=>if b<w.heap.size then M' b o else if isB b then none else w'.cell? ⟨b,o,none⟩
  have cK:∀x,x∈names bx'→∃b,aH σ'.box x=some (some b):=fun x hx=>by
   obtain⟨b,hb⟩:=jA hx
   exact⟨b,iM.get pY hb⟩
  have hMF:Mem.le M' F:=fun b o u e=>by
   by_cases qL:b<w.heap.size
   ·simp[F,qL,e]
   ·have:¬isB b:=by
     rintro⟨x,c,hx,hx2⟩
     obtain⟨bc,hbc⟩:=cK x hx
     rw[i'.apart x bc b c hbc hx2 o]at e
     cases e
    simp only [F,if_neg qL,if_neg this]
    exact i'.mem b o u e
  have hFc:∀x bc b c,aH (iK σ'.box bx') x=some (some bc)→β' x=some (b,c)→∀o u,w'.cell? ⟨b,o,none⟩=some u→F b o=some u:=by
   intro x bc b c e e' o u hu
   obtain⟨hnx,ex⟩:=iK.get e
   have hnb:¬isB b:=by
    rintro⟨y,c',hy,RG⟩
    obtain⟨bc',aGO⟩:=cK y hy
    exact hnx (i'.inj y x bc' bc b c' c aGO ex RG e'▸hy)
   rcases i'.low x bc b c ex e' with h|h
   ·have:¬b<w.heap.size:=by have:w.heap.size≤b:=h;omega
    simp only [F,if_neg this,if_neg hnb];exact hu
   ·obtain⟨y,c',hy,RG⟩:=h
    have hy':y∈names bx':=by
     rw[List.all_eq_true]at pW
     simpa using pW y hy
    have e1:β' y=some (b,c'):=by rw[(i'.ref y hy).1];exact RG
    exact(hnb ⟨y,c',hy',e1⟩).elim
  have iN:=mX.rep (i'.shut bx') hMF hFc dU
  refine⟨i'.defers,(if h:zQ.toArray.size=1 then zQ.toArray[0]else .tuple zQ.toArray),?_,_,F,β',rfl,?_,AV.bD.aL9 (fD F _ ?_),⟨fun b o u e=>hMF b o u (hg.le b o u e),fun b o u e=>?_⟩,fun b o u e=>?_,?_,?_,kG.os,kG.tape,kG.output,kG.size,?_,kG.drawn⟩
  ·have:(fn.results.mapM (lG a'.tmps)).run P w'=.ok zQ.toArray w':=by
    rw[←Array.toArray_toList (xs:=fn.results),List.mapM_toArray,LR]
    simp only [Sem.run_map,a6,Result.andThen]
   have e:results fn a'.tmps=(do let vs←fn.results.mapM (lG a'.tmps);pure (if h:vs.size=1 then vs[0]else .tuple vs)):=by
    unfold results
    congr 1
   rw[e]
   simp only [Sem.run_bind,this,Result.andThen,Sem.run_pure]
  ·intro x p e
   rw[(i'.ref x (hβ x p e)).1]
   exact e
  ·cases OR:mX ⟨σ'.env,iK σ'.box bx'⟩ ts with
   |nil=>
    rw[OR]at iN
    cases zQ with
    |nil=>exact⟨[],rfl,trivial⟩
    |cons _ _=>exact iN.elim
   |cons t r'=>
    rw[OR]at iN
    cases zQ with
    |nil=>exact iN.elim
    |cons v E8=>
     cases r' with
     |nil=>
      cases E8 with
      |cons _ _=>exact iN.2.elim
      |nil=>
       have:=iN.1
       simp only [List.size_toArray,List.length_cons,List.length_nil,Nat.zero_add,dite_true,x3]
       cases t with
       |s x=>exact this
       |g cs=>exact this
     |cons t2 r2=>
      cases E8 with
      |nil=>exact iN.2.elim
      |cons v2 vs3=>
       have gI:¬(v::v2::vs3).toArray.size=1:=sM
       rw[dif_neg gI]
       exact⟨_,rfl,iN⟩
  ·by_cases qL:b<w.heap.size
   ·simp only [F,if_pos qL]at e
    exact hg.new b o u e
   ·exact .inr oM
  ·by_cases qL:b<w.heap.size
   ·simp only [F,if_pos qL]at e
    exact i'.mem b o u e
   ·simp only [F,if_neg qL]at e
    split at e
    ·cases e
    ·exact e
  ·refine⟨fun x hx=>?_,fun x b hb=>?_,fun x y b c c' hx hy e1 e2=>?_,fun x b c hx e o=>?_⟩
   ·obtain⟨b,hb⟩:=jA hx
    rw[List.all_eq_true]at jW
    exact(i'.box x b (iM.get pY hb)).exb (jW _ hb)
   ·exact cH.mono hMF (Nm.le_refl β') rfl (fun _ _ _=>rfl) (i'.box x b (iM.get pY hb))
   ·obtain⟨CW,h1⟩:=cK x hx
    obtain⟨bx2,h2⟩:=cK y hy
    exact i'.inj x y CW bx2 b c c' h1 h2 e1 e2
   ·obtain⟨CW,h1⟩:=cK x hx
    have hB:isB b:=⟨x,c,hx,e⟩
    by_cases qL:b<w.heap.size
    ·simp only [F,if_pos qL]
     exact i'.apart x CW b c h1 e o
    ·simp only [F,if_neg qL,if_pos hB]
  ·intro x b c hx e
   obtain⟨CW,h1⟩:=cK x hx
   rcases i'.low x CW b c h1 e with h|⟨y,c',hy,RG⟩
   ·exact .inl h
   ·exact .inr ⟨y,c',RG⟩
  ·intro k hk hnk
   exact kG.block k hk (by rintro⟨x,c,_,hx⟩;exact hnk x c hx)
 cases e with
 |ret=>
  simp only [TD]at hk
  split at hk
  ·rename_i ts rX;exact fin ts rX hk.1 hk.2
  ·exact hk.elim
 |normal=>
  simp only [TD]at hk
  split at hk
  ·rename_i ts rX;exact fin ts rX hk.1 hk.2
  ·exact hk.elim
 |_=>exact hk.elim
theorem fT{rc:List Nat}{f N:Nat}{fn:Func}{c:Code}{args:List AV}{bx:eJ}{r:AV}{bx':eJ}(hf:P.funcs[f]? =some fn)(hb:fn.body=some c)(hN:fn.ntmps=N)(dV:∀vs w,(callFunc f vs).run P w=.ok (.enter f vs) w)
  (hT:b7 P T) (hm:P.follows .mixedOrders=true) (hl:Nat.ble args.length N=true) (pW:((names bx).all fun x=>(names bx').contains x)=true) (jW:(bx'.all fun p=>p.2.real)=true) {rs:List ResultVar} (LR:fn.results.toList=rs)
  (h:∀cx:Cx,cx.ref=names bx→ex P T N (names bx) rc cx c (pT args bx) (TD T rs r bx')):bT P f args bx r bx':=
 kP hf hb hN dV hT hl pW jW LR fun cx aA=>ex.sound hT hm aA c (h cx aA)
end
theorem FL:∀(cs:List CV),FK [] cs=cs
 |[]=>rfl
 |.d _::r=>by simp[FK,FM,FL r]
 |.ptr _ _::r=>by simp[FK,FM,look,FL r]
theorem AF(x:SV):vD [] x=x:=by
 cases x with
 |dR f cs=>simp[vD,FL]
 |_=>rfl
theorem sC:∀(cs:List SV),lP [] cs=cs
 |[]=>rfl
 |x::r=>by simp[lP,AF,sC r]
theorem B9:∀(cs:List TV),AE [] cs=cs
 |[]=>rfl
 |.s x::r=>by simp[AE,YT,AF,B9 r]
 |.g x::r=>by simp[AE,YT,sC,B9 r]
theorem YV(x:AV):nH [] x=x:=by
 cases x with
 |s x=>simp[nH,AF]
 |g x=>simp[nH,sC]
 |ib b x=>simp[nH,AF]
 |ig b x=>simp[nH,sC]
 |t ts=>simp[nH,B9]
theorem YU(b:jE):jF [] b=b:=by
 cases b with
 |cells cs=>simp[jF,sC]
 |row e n s f=>rfl
 |cA e n s f=>rfl
 |map vk l=>rfl
 |smap vk l=>rfl
 |dm l n=>rfl
 |fresh T vs=>rfl
 |iter m n seen=>rfl
theorem V4.mono{M:Mem}{β β':Nm}{xs:List Nat}(h:∀x,x∈xs→∀p,β x=some p→β' x=some p){x:AV}{v:Value}(hi:V4 xs x=true)(r:x.bD M β v):x.bD M β' v:=
 nH.rep (ren:=[]) h hi (by rw[YV];exact r)
theorem QC.mono{M:Mem}{β β':Nm}{xs:List Nat}(h:∀x,x∈xs→∀p,β x=some p→β' x=some p){w:World}{x:Nat}{b:jE}(hx:x∈xs)(hi:QC xs b=true)(r:cH M β w x b):cH M β' w x b:=
 jF.rep (ren:=[]) h hx hi (by rw[YU];exact r)
def cL:aN→List Nat
 |[]=>[]
 |(x,_)::r=>x::cL r
theorem cL.has{x:Nat}:∀{l:aN},x∈cL l→∃y,aH l x=some y
 |[],h=>by cases h
 |(z,v)::r,h=>by
  rw[aK]
  by_cases e:z=x
  ·rw[if_pos e];exact⟨_,rfl⟩
  ·rw[if_neg e]
   simp only [cL,List.mem_cons]at h
   exact cL.has (h.resolve_left fun h=>e h.symm)
def G4(src:List (Nat×AV))(ks:List Nat):List (Nat×AV)→Prop
 |[]=>True
 |(t,v)::r=>(V4 ks v=true∧eY src t=v)∧G4 src ks r
def BN(src:aN)(ks:List Nat):aN→Prop
 |[]=>True
 |(x,some b)::r=>(QC ks b=true∧aH src x=some (some b))∧BN src ks r
 |(_,none)::r=>BN src ks r
theorem G4.get{src:List (Nat×AV)}{ks:List Nat}{M:Mem}{β β':Nm}(h:∀x,x∈ks→∀p,β x=some p→β' x=some p):∀{tgt:List (Nat×AV)},G4 src ks tgt→∀t v,(eY src t).bD M β v→(eY tgt t).bD M β' v
 |[],_,_,_,_=>trivial
 |(k,a)::r,⟨⟨h1,h2⟩,hr⟩,t,v,hv=>by
  rw[gA]
  by_cases e:k=t
  ·rw[if_pos e];subst e;rw[h2]at hv;exact V4.mono h h1 hv
  ·rw[if_neg e];exact G4.get h hr t v hv
theorem BN.get{src:aN}{ks:List Nat}:∀{tgt:aN},(∀x,x∈cL tgt→x∈ks)→BN src ks tgt→∀x b,aH tgt x=some (some b)→x∈ks∧QC ks b=true∧aH src x=some (some b)
 |[],_,_,_,_,h=>by cases h
 |(k,some c)::r,hk,⟨⟨h1,h2⟩,hr⟩,x,b,h=>by
  rw[aK]at h
  by_cases e:k=x
  ·rw[if_pos e]at h;cases h;subst e;exact⟨hk k (by simp[cL]),h1,h2⟩
  ·rw[if_neg e]at h;exact BN.get (fun y hy=>hk y (by simp[cL,hy])) hr x b h
 |(k,none)::r,hk,hr,x,b,h=>by
  rw[aK]at h
  by_cases e:k=x
  ·rw[if_pos e]at h;cases h
  ·rw[if_neg e]at h;exact BN.get (tgt:=r) (fun y hy=>hk y (List.mem_cons_of_mem _ hy)) hr x b h
theorem Sub.of{cx:Cx}{σ σ':St}(hr:(cx.ref.all fun x=>(cL σ'.box).contains x)=true)(hb:BN σ.box (cL σ'.box) σ'.box)(he:G4 σ.env (cL σ'.box) σ'.env):Sub cx σ σ':=by
 refine⟨fun M β β' h t v hv=>G4.get (fun x hx p e=>h x p e (cL.has hx)) he t v hv,fun M β β' w h x b e=>?_,fun x hx=>?_⟩
 ·obtain⟨h0,h1,h2⟩:=BN.get (fun _ h=>h) hb x b e
  exact⟨b,h2,QC.mono (fun x hx p e=>h x p e (cL.has hx)) h0 h1⟩
 ·rw[List.all_eq_true]at hr
  exact cL.has (by simpa using hr x hx)
theorem Sub.bO{cx:Cx}{σ σ':St}(h:cx.ref=[])(hb:BN σ.box (cL σ'.box) σ'.box)(he:G4 σ.env (cL σ'.box) σ'.env):Sub cx σ σ':=Sub.of (by rw[h];rfl) hb he
def aL(d e:DV):Prop:=∀M u,d.bD M u→e.bD M u
theorem aL.refl(d:DV):aL d d:=fun _ _ h=>h
theorem aL.of_eq{d e:DV}(h:d=e):aL d e:=h▸aL.refl d
theorem aL.fW{n s:Nat}{f g:Nat→Nat→DV}(h:∀i j,i<n→j<s→aL (f i j) (g i j)):aL (.fW n s f) (.fW n s g):=by
 rintro M u ⟨a,cap,e,hn,hc⟩
 refine⟨a,cap,e,hn,hc.imp id ?_⟩
 rintro⟨b,o,ea,hc⟩
 exact⟨b,o,ea,fun i j hi hj=>let⟨u,hu,hr⟩:=hc i j hi hj;⟨u,hu,h i j hi hj M u hr⟩⟩
theorem aL.nil{s':Nat}{f:Nat→Nat→DV}:aL (.val (.slice none 0 0)) (.fW 0 s' f):=by
 intro M u r
 cases r
 exact⟨none,0,rfl,Nat.le_refl _,.inl rfl⟩
theorem aL.rp{m:Nat}{f g:Nat→DV}(h:∀j,j<m→aL (f j) (g j)):aL (.rp m f) (.rp m g):=by
 rintro M u ⟨b,o,e,hc⟩
 exact⟨b,o,e,fun j hj=>let⟨u,hu,hr⟩:=hc j hj;⟨u,hu,h j hj M u hr⟩⟩
theorem aL.bnd{f k:Nat}{c d:Nat→DV}(h:∀j,j<k→aL (c j) (d j)):aL (.bnd f k c) (.bnd f k d):=by
 rintro M u ⟨cs,e,hk,hc⟩
 refine⟨cs,e,hk,fun i u hu=>h i ?_ M u (hc i u hu)⟩
 rw[←hk]
 exact(List.getElem?_eq_some_iff.1 hu).1
theorem aL.dR{f k:Nat}{c d:Nat→DV}(h:∀j,j<k→aL (c j) (d j)):aL (.dR f k c) (.dR f k d):=by
 rintro M u ⟨cs,e,hk,hc⟩
 refine⟨cs,e,hk,fun i u hu=>h i ?_ M u (hc i u hu)⟩
 rw[←hk]
 exact(List.getElem?_eq_some_iff.1 hu).1
def X0:SV→SV→Prop
 |.d x,.d y=>aL x y
 |_,_=>False
def P8:List SV→List SV→Prop
 |[],[]=>True
 |x::r,y::s=>X0 x y∧P8 r s
 |_,_=>False
def LeA:AV→AV→Prop
 |.s x,.s y=>X0 x y
 |.g x,.g y=>P8 x y
 |_,_=>False
def rR:List AV→List AV→Prop
 |[],[]=>True
 |x::r,y::s=>LeA x y∧rR r s
 |_,_=>False
def S0:List TV→List TV→Prop
 |[],[]=>True
 |.s x::r,.s y::s=>X0 x y∧S0 r s
 |.g x::r,.g y::s=>P8 x y∧S0 r s
 |_,_=>False
theorem X0.rep{M:Mem}{β:Nm}{x y:SV}{v:Value}(h:X0 x y)(r:x.bD M β v):y.bD M β v:=by
 cases x <;> cases y <;> first|exact h M v r|exact h.elim
theorem P8.rep{M:Mem}{β:Nm}:∀{l m:List SV} {vs:List Value},P8 l m→cO M β l vs→cO M β m vs
 |[],[],[],_,_=>trivial
 |_::_,_::_,_::_,⟨h,k⟩,⟨a,r⟩=>⟨h.rep a,P8.rep k r⟩
 |[],_::_,_,h,_=>h.elim
 |_::_,[],_,h,_=>h.elim
 |[],[],_::_,_,h=>h.elim
 |_::_,_::_,[],_,h=>h.elim
theorem LeA.rep{M:Mem}{β:Nm}{x y:AV}{v:Value}(h:LeA x y)(r:x.bD M β v):y.bD M β v:=by
 cases x <;> cases y <;> first|exact h.elim|skip
 ·exact X0.rep h r
 ·obtain⟨vs,e,hr⟩:=r;exact⟨vs,e,P8.rep h hr⟩
theorem rR.rep{M:Mem}{β:Nm}:∀{l m:List AV} {vs:List Value},rR l m→gM M β l vs→gM M β m vs
 |[],[],[],_,_=>trivial
 |_::_,_::_,_::_,⟨h,k⟩,⟨a,r⟩=>⟨h.rep a,rR.rep k r⟩
 |[],_::_,_,h,_=>h.elim
 |_::_,[],_,h,_=>h.elim
 |[],[],_::_,_,h=>h.elim
 |_::_,_::_,[],_,h=>h.elim
theorem S0.rep{M:Mem}{β:Nm}:∀{l m:List TV} {vs:List Value},S0 l m→qK M β l vs→qK M β m vs
 |[],[],[],_,_=>trivial
 |.s _::_,.s _::_,_::_,⟨h,k⟩,⟨a,r⟩=>⟨X0.rep h a,S0.rep k r⟩
 |.g _::_,.g _::_,_::_,⟨h,k⟩,⟨⟨vs,e,a⟩,r⟩=>⟨⟨vs,e,P8.rep h a⟩,S0.rep k r⟩
 |[],_::_,_,h,_=>h.elim
 |.s _::_,[],_,h,_=>h.elim
 |.g _::_,[],_,h,_=>h.elim
 |.s _::_,.g _::_,_,h,_=>h.elim
 |.g _::_,.s _::_,_,h,_=>h.elim
 |[],[],_::_,_,h=>h.elim
 |.s _::_,.s _::_,[],_,h=>h.elim
 |.g _::_,.g _::_,[],_,h=>h.elim
theorem aC.le{x y:AV}(h:LeA x y):aC x y:=fun _ _ r=>h.rep r
theorem aC.t{x y:List TV}(h:S0 x y):aC (.t x) (.t y):=by
 rintro M u ⟨vs,e,r⟩
 exact⟨vs,e,h.rep r⟩
theorem aF.conv{P:Program}{f:FuncId}{args args':List AV}{r:AV}(h:aF P f args r)(k:rR args' args):aF P f args' r:=
 ⟨h.1,fun M w vs hG hr hM=>h.2 M w vs hG (k.rep hr) hM⟩
def aS(cx:Cx)(N:Nat)(σ σ':St):Prop:=∀M β a w,Inv cx N M β σ a w→∃β',Inv cx N M β' σ' a w
theorem AW.cV{P:Program}{cx:Cx}{N:Nat}{σ:St}{K:Exit→St→Prop}{S:Type}{c:Code}(SY:S→St)(J:S→Prop)(μ:S→Nat)(s0:S)(hJ:J s0)(hs:aS cx N σ (SY s0))
  (body:∀s,J s→AW P cx N c (SY s) (M7 (fun σ'=>∃s',J s'∧μ s'<μ s∧aS cx N σ' (SY s')) K)):AW P cx N (.loop c) σ K:=by
 intro M β a w i
 obtain⟨β1,i1⟩:=hs M β a w i
 intro b k cs hro hb hr
 have key:∀n s,μ s=n→J s→∀M β a w,Inv cx N M β (SY s) a w→
   ∃e a' w',(∃σ' M' β',K e σ'∧Inv cx N M' β' σ' a' w'∧Grow cx.B M M'∧b8 cx w w')∧ArrivesIn (Machine.fenced P (FW cx.rd)) P (lone (b.atR a (.code c::.inLoop c::k)) cs w) b k cs e a' w':=by
  intro n
  induction n using Nat.strongRecOn with
  |_ n ih=>
   intro s hn hJ M β a w i
   obtain⟨e,a₁,w₁,⟨σ',M1,β1,hq,i1,hM,hk⟩,mJ⟩:=body s hJ M β a w i b (.inLoop c::k) cs hro hb hr
   cases e with
   |normal=>
    obtain⟨s',hJ',fR,fD⟩:=hq
    obtain⟨β2,i2⟩:=fD M1 β1 a₁ w₁ i1
    obtain⟨e₂,a₂,w₂,⟨σ2,M2,β2,Z6,i2,hM2,WC⟩,A1⟩:=ih (μ s') (hn▸fR) s' rfl hJ' M1 β2 a₁ w₁ i2
    exact⟨e₂,a₂,w₂,⟨σ2,M2,β2,Z6,i2,hM.trans hM2,hk.trans WC⟩,.of_steps (StepsIn.trans mJ (.one (fenced_calm hb hr rfl) stepR_inLoop)) A1⟩
   |exit id=>exact⟨_,a₁,w₁,⟨σ',M1,β1,hq,i1,hM,hk⟩,.pass (x:=.inLoop c) rfl (fun _ _=>.inl sM) mJ⟩
   |goto l=>exact⟨_,a₁,w₁,⟨σ',M1,β1,hq,i1,hM,hk⟩,.pass (x:=.inLoop c) rfl (fun _ _=>.inl sM) mJ⟩
   |ret=>exact⟨_,a₁,w₁,⟨σ',M1,β1,hq,i1,hM,hk⟩,.pass (x:=.inLoop c) rfl (fun _ _=>.inl sM) mJ⟩
   |panic ch=>exact⟨_,a₁,w₁,⟨σ',M1,β1,hq,i1,hM,hk⟩,.pass (x:=.inLoop c) rfl (fun _ _=>.inl sM) mJ⟩
   |outgrown=>exact⟨_,a₁,w₁,⟨σ',M1,β1,hq,i1,hM,hk⟩,.pass (x:=.inLoop c) rfl (fun _ _=>.inl sM) mJ⟩
 obtain⟨e,a',w',hq,mJ⟩:=key _ s0 rfl hJ M β1 a w i1
 exact⟨e,a',w',hq,.of_steps (.one (fenced_calm hb hr rfl) stepR_loop) mJ⟩
theorem AW.cond{P:Program}{cx:Cx}{N:Nat}{σ:St}{K:Exit→St→Prop}{c:Operand}{x y:Code}(h:zD σ c (AW P cx N x σ K) (AW P cx N y σ K)):AW P cx N (.cond c x y) σ K:=by
 unfold zD at h
 intro M β a w i
 split at h
 ·rename_i b hv
  have hb:a.eval c=.bool b:=by have:=ev.rep i c;rw[hv]at this;exact this
  cases b with
  |true=>exact wpIn_cond_true hb (h M β a w i)
  |false=>exact wpIn_cond_false hb (h M β a w i)
 ·rename_i b hv
  have hb:a.eval c=.bool b:=by have:=ev.rep i c;rw[hv]at this;exact this
  exact wpIn_cond_split hb (fun hb=>h.1 hb M β a w i) (fun hb=>h.2 hb M β a w i)
 ·cases h
theorem AW.gG{P:Program}{cx:Cx}{N:Nat}{σ σ':St}{K:Exit→St→Prop}{c:Code}(h:aS cx N σ σ')(k:AW P cx N c σ' K):AW P cx N c σ K:=by
 intro M β a w i
 obtain⟨β',i'⟩:=h M β a w i
 exact k M β' a w i'
theorem AW.cut{P:Program}{cx:Cx}{N:Nat}{σ σ':St}{K:Exit→St→Prop}{x y:Code}(h:AW P cx N x σ fun e s=>e=.normal∧aS cx N s σ')(k:AW P cx N y σ' K):AW P cx N (.seq x y) σ K:=AW.seq (AW.mono h fun _ _ ⟨he,hs⟩=>by subst he;exact AW.gG hs k)
def aU(x y:AV):Prop:=∀M β v,x.bD M β v→y.bD M β v
theorem aU.rfl{x:AV}:aU x x:=fun _ _ _ h=>h
theorem aU.of_eq{x y:AV}(h:x=y):aU x y:=h▸aU.rfl
theorem aU.mo{x:Nat}{z:Bool}(h:z=false):aU (.s (.own x)) (.s (.mo z x)):=by subst h;exact fun M β v r=>⟨fun h=>(by cases h),fun _=>r⟩
theorem aU.nil{x:Nat}{z:Bool}(h:z=true):aU (.s (.d (.val (.slice none 0 0)))) (.s (.mo z x)):=by subst h;exact fun M β v r=>⟨fun _=>r,fun h=>(by cases h)⟩
theorem aU.d{x y:DV}(h:aL x y):aU (.s (.d x)) (.s (.d y)):=fun M _ v r=>h M v r
def aZ(b b':jE):Prop:=∀M β w x,cH M β w x b→cH M β w x b'
theorem aZ.rfl{b:jE}:aZ b b:=fun _ _ _ _ h=>h
theorem aZ.of_eq{x y:jE}(h:x=y):aZ x y:=h▸aZ.rfl
theorem aZ.row{e n n' s:Nat}{f g:Nat→Nat→DV}(h:n=n')(hf:∀i j,i<n→j<s→aL (f i j) (g i j)):aZ (.row e n s f) (.row e n' s g):=by
 subst h
 rintro M β w x ⟨b,c,cur,e1,h1,h2,h3,h4,h5,h6⟩
 exact⟨b,c,cur,e1,h1,h2,h3,h4,h5,fun i j hi hj=>let⟨u,hu,hr⟩:=h6 i j hi hj;⟨u,hu,hf i j hi hj M u hr⟩⟩
theorem aZ.cA{e n n' s:Nat}{f g:Nat→Nat→DV}(h:n=n')(hf:∀i j,i<n→j<s→aL (f i j) (g i j)):aZ (.row e n s f) (.cA e n' s g):=by
 subst h
 rintro M β w x ⟨b,c,cur,e1,h1,h2,h3,h4,h5,h6⟩ b' c' e2
 rw[e1]at e2;cases e2
 exact⟨cur,h1,h2,h3,h4,h5,fun i j hi hj=>let⟨u,hu,hr⟩:=h6 i j hi hj;⟨u,hu,hf i j hi hj M u hr⟩⟩
def XJ:List SV→List SV→Prop
 |[],[]=>True
 |x::r,y::s=>aU (.s x) (.s y)∧XJ r s
 |_,_=>False
theorem XJ.rep{M:Mem}{β:Nm}:∀{l m:List SV} {vs:List Value},XJ l m→cO M β l vs→cO M β m vs
 |[],[],[],_,_=>trivial
 |_::_,_::_,_::_,⟨h,k⟩,⟨a,r⟩=>⟨h M β _ a,XJ.rep k r⟩
 |[],_::_,_,h,_=>h.elim
 |_::_,[],_,h,_=>h.elim
 |[],[],_::_,_,h=>h.elim
 |_::_,_::_,[],_,h=>h.elim
theorem aZ.cells{l m:List SV}(h:XJ l m):aZ (.cells l) (.cells m):=by
 rintro M β w x ⟨b,c,vs,T,us,e1,h1,h2⟩
 exact⟨b,c,vs,T,us,e1,h1,h.rep h2⟩
def aC4(xs:List Nat):jE→Bool
 |.cells cs=>GJ xs cs
 |.iter m _ _=>xs.contains m
 |_=>true
def L5(ren:List (Nat×Nat))(src:List (Nat×AV))(ks:List Nat):List (Nat×AV)→Prop
 |[]=>True
 |(t,v)::r=>(V4 ks v=true∧aU (eY src t) (nH ren v))∧L5 ren src ks r
def aEW(ren:List (Nat×Nat))(b:jE):Option (Option jE)→Prop
 |some (some b0)=>aZ b0 (jF ren b)
 |some none=>False
 |none=>b.real=false
def CX(ren:List (Nat×Nat))(src:aN)(ks:List Nat):aN→Prop
 |[]=>True
 |(x,some b)::r=>(aC4 ks b=true∧aEW ren b (aH src (look ren x)))∧CX ren src ks r
 |(_,none)::r=>CX ren src ks r
theorem L5.get{ren:List (Nat×Nat)}{src:List (Nat×AV)}{ks:List Nat}{M:Mem}{β β':Nm}(h:∀x,x∈ks→∀p,β (look ren x)=some p→β' x=some p):∀{tgt:List (Nat×AV)},L5 ren src ks tgt→∀t v,(eY src t).bD M β v→(eY tgt t).bD M β' v
 |[],_,_,_,_=>trivial
 |(k,a)::r,⟨⟨h1,h2⟩,hr⟩,t,v,hv=>by
  rw[gA]
  by_cases e:k=t
  ·rw[if_pos e];subst e;exact nH.rep h h1 (h2 M β v hv)
  ·rw[if_neg e];exact L5.get h hr t v hv
theorem CX.get{ren:List (Nat×Nat)}{src:aN}{ks:List Nat}:∀{tgt:aN},(∀x,x∈cL tgt→x∈ks)→CX ren src ks tgt→∀x b,aH tgt x=some (some b)→x∈ks∧aC4 ks b=true∧aEW ren b (aH src (look ren x))
 |[],_,_,_,_,h=>by cases h
 |(k,some c)::r,hk,⟨⟨h1,h2⟩,hr⟩,x,b,h=>by
  rw[aK]at h
  by_cases e:k=x
  ·rw[if_pos e]at h;cases h;subst e;exact⟨hk k (by simp[cL]),h1,h2⟩
  ·rw[if_neg e]at h;exact CX.get (fun y hy=>hk y (by simp[cL,hy])) hr x b h
 |(k,none)::r,hk,hr,x,b,h=>by
  rw[aK]at h
  by_cases e:k=x
  ·rw[if_pos e]at h;cases h
  ·rw[if_neg e]at h;exact CX.get (tgt:=r) (fun y hy=>hk y (List.mem_cons_of_mem _ hy)) hr x b h
theorem aS.of{cx:Cx}{N:Nat}{σ σ':St}(ren:List (Nat×Nat))(hr:(cx.ref.all fun x=>(cL σ'.box).contains x&&Nat.beq (look ren x) x)=true)(hi:GH ren (cL σ'.box)=true)
  (hb:CX ren σ.box (cL σ'.box) σ'.box) (he:L5 ren σ.env (cL σ'.box) σ'.env):aS cx N σ σ':=by
 classical
 intro M β a w i
 let ks:=cL σ'.box
 let β':Nm:=fun x=>if x∈ks then β (look ren x)else none
 have iF:∀x,x∈ks→β' x=β (look ren x):=fun x hx=>by simp[β',hx]
 have hβ:∀x p,β' x=some p→x∈ks∧β (look ren x)=some p:=fun x p h=>by
  simp only [β']at h
  split at h
  ·exact⟨by assumption,h⟩
  ·cases h
 have DM:∀x,x∈ks→∀p,β (look ren x)=some p→β' x=some p:=fun x hx p e=>by rw[iF x hx];exact e
 have OY:∀x y,x∈ks→y∈ks→look ren x=look ren y→x=y:=by
  intro x y hx hy e
  simp only [GH,List.all_eq_true]at hi
  have:=hi x hx y hy
  simp only [Bool.or_eq_true]at this
  rcases this with h|h
  ·exact Nat.eq_of_beq_eq_true h
  ·rw[e]at h;simp at h
 have live:∀x b k c,aH σ'.box x=some (some b)→β' x=some (k,c)→x∈ks∧∃b0,aH σ.box (look ren x)=some (some b0)∧β (look ren x)=some (k,c):=by
  intro x b k c h e
  obtain⟨h1,h2,h3⟩:=CX.get (fun _ h=>h) hb x b h
  have e:=(hβ x _ e).2
  obtain⟨y,hy⟩:=i.keys _ _ e
  rw[hy]at h3
  cases y with
  |none=>exact h3.elim
  |some b0=>exact⟨h1,b0,hy,e⟩
 refine⟨β',i.defers,i.tmps,i.heap,fun t=>L5.get DM he t _ (i.env t),i.mem,?_,?_,?_,?_,?_,?_⟩
 ·intro x p e
  exact cL.has (hβ x p e).1
 ·intro x b h
  obtain⟨h1,h2,h3⟩:=CX.get (fun _ h=>h) hb x b h
  cases hs:aH σ.box (look ren x)with
  |none=>
   rw[hs]at h3
   have hn:β' x=none:=by
    rw[iF x h1]
    cases hb0:β (look ren x)with
    |none=>rfl
    |some p=>obtain⟨y,hy⟩:=i.keys _ _ hb0;rw[hs]at hy;cases hy
   cases b with
   |cA e n s f=>intro k c e;rw[hn]at e;cases e
   |_=>cases h3
  |some y=>
   cases y with
   |none=>rw[hs]at h3;exact h3.elim
   |some b0=>
    rw[hs]at h3
    have dU:=h3 M β w (look ren x) (i.box _ _ hs)
    cases b with
    |cells cs=>exact jF.rep DM h1 h2 dU
    |row e n s f=>exact jF.rep DM h1 rfl dU
    |cA e n s f=>intro k c e;rw[iF x h1]at e;exact dU k c e
    |map vk l=>exact jF.rep DM h1 rfl dU
    |smap vk l=>exact jF.rep DM h1 rfl dU
    |dm l n=>exact jF.rep DM h1 rfl dU
    |fresh T vs=>exact jF.rep DM h1 rfl dU
    |iter m n seen=>exact jF.rep DM h1 h2 dU
 ·intro x y bx yB b c c' ex ey hx hy
  obtain⟨kx,b0,g0,e0⟩:=live x bx b c ex hx
  obtain⟨ky,b1,g1,e1⟩:=live y yB b c' ey hy
  exact OY x y kx ky (i.inj _ _ b0 b1 b c c' g0 g1 e0 e1)
 ·intro x bx b c ex hx
  obtain⟨kx,b0,g0,e0⟩:=live x bx b c ex hx
  exact i.apart _ b0 b c g0 e0
 ·intro x bx b c ex hx
  obtain⟨kx,b0,g0,e0⟩:=live x bx b c ex hx
  exact i.low _ b0 b c g0 e0
 ·intro x hx
  rw[List.all_eq_true]at hr
  have:=hr x hx
  simp only [Bool.and_eq_true]at this
  have h1:x∈ks:=by simpa using this.1
  have h2:=Nat.eq_of_beq_eq_true this.2
  rw[iF x h1,h2]
  exact i.ref x hx
theorem aS.bO{cx:Cx}{N:Nat}{σ σ':St}(h:cx.ref=[])(ren:List (Nat×Nat))(hi:GH ren (cL σ'.box)=true)(hb:CX ren σ.box (cL σ'.box) σ'.box)(he:L5 ren σ.env (cL σ'.box) σ'.env):aS cx N σ σ':=
 aS.of ren (by rw[h];rfl) hi hb he
theorem aU.aD6{x:Nat}{z:Bool}(h:z=true):aU (.s (.mo z x)) (.s (.d (.val (.slice none 0 0)))):=fun _ _ _ r=>r.1 h
theorem aS.own{cx:Cx}{N:Nat}{σ:St}{e n s:Nat}{f:Nat→Nat→DV}{z:Bool}(t x:Nat)(ht:eY σ.env t=.s (.mo z x))(hz:z=false)(hb:aH σ.box x=some (some (.cA e n s f))):
  aS cx N σ ⟨(t,.s (.own x))::σ.env,(x,some (.row e n s f))::σ.box⟩:=by
 intro M β a w i
 have r:=i.env t
 rw[ht]at r
 obtain⟨b,c,hx,hv,hc⟩:=r.2 hz
 obtain⟨cur,h1,h2,h3,h4,h5,h6⟩:=i.box x _ hb b c hx
 have live:∀y bc,aH ((x,some (.row e n s f))::σ.box) y=some (some bc)→∃bc,aH σ.box y=some (some bc):=by
  intro y bc h
  rw[aK]at h
  by_cases hy:x=y
  ·subst hy;exact⟨_,hb⟩
  ·rw[if_neg hy]at h;exact⟨_,h⟩
 refine⟨β,i.defers,i.tmps,i.heap,?_,i.mem,?_,?_,?_,?_,?_,i.ref⟩
 ·intro u
  show(eY ((t,_)::σ.env) u).bD M β _
  rw[gA]
  by_cases hu:t=u
  ·subst hu
   rw[if_pos rfl]
   exact⟨b,c,hx,hv,hc⟩
  ·rw[if_neg hu];exact i.env u
 ·intro y p h
  obtain⟨z,hz⟩:=i.keys y p h
  show ∃y',aH ((x,_)::σ.box) y=some y'
  rw[aK]
  by_cases hy:x=y
  ·rw[if_pos hy];exact⟨_,rfl⟩
  ·rw[if_neg hy];exact⟨z,hz⟩
 ·intro y bc h
  have h:aH ((x,some (.row e n s f))::σ.box) y=some (some bc):=h
  rw[aK]at h
  by_cases hy:x=y
  ·subst hy
   rw[if_pos rfl]at h
   cases h
   exact⟨b,c,cur,hx,h1,h2,h3,h4,h5,h6⟩
  ·rw[if_neg hy]at h;exact i.box y bc h
 ·intro y y' bx bx' b1 c1 c2 e1 e2 g1 g2
  obtain⟨_,e1⟩:=live _ _ e1
  obtain⟨_,e2⟩:=live _ _ e2
  exact i.inj y y' _ _ b1 c1 c2 e1 e2 g1 g2
 ·intro y bx b1 c1 e1 g1
  obtain⟨_,e1⟩:=live _ _ e1
  exact i.apart y _ b1 c1 e1 g1
 ·intro y bx b1 c1 e1 g1
  obtain⟨_,e1⟩:=live _ _ e1
  exact i.low y _ b1 c1 e1 g1
end Go.Ax
namespace Go.Ax
theorem qZ{b:Bool}{x:AV}:b=b∧aU x x:=⟨rfl,aU.rfl⟩
theorem bQ{b:Bool}{x:jE}:b=b∧aZ x x:=⟨rfl,aZ.rfl⟩
def pB(cx:Cx)(N:Nat)(σ σ':St):Prop:=∀M β a w,Inv cx N M β σ a w→∃M' β',Inv cx N M' β' σ' a w∧Grow cx.B M M'
theorem pB.aCS{cx:Cx}{N:Nat}{σ σ':St}(h:aS cx N σ σ'):pB cx N σ σ':=fun M β a w i=>let⟨β',i'⟩:=h M β a w i;⟨M,β',i',Grow.refl _ _⟩
theorem AW.YC{P:Program}{cx:Cx}{N:Nat}{σ σ':St}{K:Exit→St→Prop}{c:Code}(h:pB cx N σ σ')(k:AW P cx N c σ' K):AW P cx N c σ K:=by
 intro M β a w i
 obtain⟨M',β',i',g⟩:=h M β a w i
 exact wpIn_mono (k M' β' a w i') fun _ _ _ ⟨s,M2,β2,hk,i2,g2,kp⟩=>⟨s,M2,β2,hk,i2,g.trans g2,kp⟩
def Fz(box:aN)(fz:List Nat)(M:Mem)(β:Nm):Prop:=∀x,x∈fz→∀e n s f,aH box x=some (some (.row e n s f))→∀v,(SV.own x).bD M β v→(DV.fW n s f).bD M v
def cF(box:aN)(fz:List Nat)(x y:AV):Prop:=∀M β v,Fz box fz M β→x.bD M β v→y.bD M β v
theorem cF.rfl{box:aN}{fz:List Nat}{x:AV}:cF box fz x x:=fun _ _ _ _ r=>r
theorem cF.then{box:aN}{fz:List Nat}{x y z:AV}(h:cF box fz x y)(k:aU y z):cF box fz x z:=fun M β v f r=>k M β v (h M β v f r)
theorem cF.own{box:aN}{fz:List Nat}{x e n s:Nat}{f:Nat→Nat→DV}(hx:x∈fz)(hb:aH box x=some (some (.row e n s f))):cF box fz (.s (.own x)) (.s (.d (.fW n s f))):=
 fun _ _ v hf r=>hf x hx e n s f hb v r
def P9(box:aN)(fz:List Nat):List SV→List SV→Prop
 |[],[]=>True
 |x::r,y::s=>cF box fz (.s x) (.s y)∧P9 box fz r s
 |_,_=>False
theorem P9.rep{box:aN}{fz:List Nat}{M:Mem}{β:Nm}(hf:Fz box fz M β):∀{l m:List SV} {vs:List Value},P9 box fz l m→cO M β l vs→cO M β m vs
 |[],[],[],_,_=>trivial
 |_::_,_::_,_::_,⟨h,k⟩,⟨a,r⟩=>⟨h M β _ hf a,P9.rep hf k r⟩
 |[],_::_,_,h,_=>h.elim
 |_::_,[],_,h,_=>h.elim
 |[],[],_::_,_,h=>h.elim
 |_::_,_::_,[],_,h=>h.elim
def iP(box:aN)(fz:List Nat)(b b':jE):Prop:=∀M β w x,Fz box fz M β→cH M β w x b→cH M β w x b'
theorem iP.rfl{box:aN}{fz:List Nat}{b:jE}:iP box fz b b:=fun _ _ _ _ _ h=>h
theorem iP.cells{box:aN}{fz:List Nat}{l m:List SV}(h:P9 box fz l m):iP box fz (.cells l) (.cells m):=by
 rintro M β w x hf ⟨b,c,vs,T,us,e1,h1,h2⟩
 exact⟨b,c,vs,T,us,e1,h1,h.rep hf h2⟩
def KA(ren:List (Nat×Nat))(fz:List Nat)(box:aN)(src:List (Nat×AV))(ks:List Nat):List (Nat×AV)→Prop
 |[]=>True
 |(t,v)::r=>(V4 ks v=true∧cF box fz (eY src t) (nH ren v))∧KA ren fz box src ks r
def aBE(ren:List (Nat×Nat))(fz:List Nat)(box:aN)(b:jE):Option (Option jE)→Prop
 |some (some b0)=>iP box fz b0 (jF ren b)
 |some none=>False
 |none=>b.real=false
def BM(ren:List (Nat×Nat))(fz:List Nat)(src:aN)(ks:List Nat):aN→Prop
 |[]=>True
 |(x,some b)::r=>(aC4 ks b=true∧aBE ren fz src b (aH src (look ren x)))∧BM ren fz src ks r
 |(_,none)::r=>BM ren fz src ks r
theorem KA.get{ren:List (Nat×Nat)}{fz:List Nat}{box:aN}{src:List (Nat×AV)}{ks:List Nat}{M:Mem}{β β':Nm}(hf:Fz box fz M β)(h:∀x,x∈ks→∀p,β (look ren x)=some p→β' x=some p):∀{tgt:List (Nat×AV)},KA ren fz box src ks tgt→∀t v,(eY src t).bD M β v→(eY tgt t).bD M β' v
 |[],_,_,_,_=>trivial
 |(k,a)::r,⟨⟨h1,h2⟩,hr⟩,t,v,hv=>by
  rw[gA]
  by_cases e:k=t
  ·rw[if_pos e];subst e;exact nH.rep h h1 (h2 M β v hf hv)
  ·rw[if_neg e];exact KA.get hf h hr t v hv
theorem BM.get{ren:List (Nat×Nat)}{fz:List Nat}{src:aN}{ks:List Nat}:∀{tgt:aN},(∀x,x∈cL tgt→x∈ks)→BM ren fz src ks tgt→∀x b,aH tgt x=some (some b)→x∈ks∧aC4 ks b=true∧aBE ren fz src b (aH src (look ren x))
 |[],_,_,_,_,h=>by cases h
 |(k,some c)::r,hk,⟨⟨h1,h2⟩,hr⟩,x,b,h=>by
  rw[aK]at h
  by_cases e:k=x
  ·rw[if_pos e]at h;cases h;subst e;exact⟨hk k (by simp[cL]),h1,h2⟩
  ·rw[if_neg e]at h;exact BM.get (fun y hy=>hk y (by simp[cL,hy])) hr x b h
 |(k,none)::r,hk,hr,x,b,h=>by
  rw[aK]at h
  by_cases e:k=x
  ·rw[if_pos e]at h;cases h
  ·rw[if_neg e]at h;exact BM.get (tgt:=r) (fun y hy=>hk y (List.mem_cons_of_mem _ hy)) hr x b h
def aED:Option (Option jE)→Bool
 |some (some (.row _ _ _ _))=>true
 |_=>false
theorem pB.of{cx:Cx}{N:Nat}{σ σ':St}(aA:cx.ref=[])(ren:List (Nat×Nat))(fz:List Nat)(hi:GH ren (cL σ'.box)=true)(hz:(fz.all fun x=>aED (aH σ.box x))=true)(hd:((cL σ'.box).all fun x=> !fz.contains (look ren x))=true)
  (hb:BM ren fz σ.box (cL σ'.box) σ'.box) (he:KA ren fz σ.box σ.env (cL σ'.box) σ'.env):pB cx N σ σ':=by
 classical
 intro M β a w i
 let ks:=cL σ'.box
 let isZ:Nat→Prop:=fun b=>∃x c,x∈fz∧β x=some (b,c)
 let M':Mem:=fun b o=>if isZ b then w.cell? ⟨b,o,none⟩else M b o
 have cK:∀x,x∈fz→∃e n s f,aH σ.box x=some (some (.row e n s f)):=by
  intro x hx
  rw[List.all_eq_true]at hz
  have:=hz x hx
  unfold aED at this
  split at this
  ·rename_i e n s f h;exact⟨e,n,s,f,h⟩
  ·cases this
 have hMM:Mem.le M M':=by
  intro b o u h
  by_cases hb:isZ b
  ·obtain⟨x,c,hx,e⟩:=hb
   obtain⟨e',n,s,f,hg⟩:=cK x hx
   rw[i.apart x _ b c hg e o]at h;cases h
  ·simp only [M',if_neg hb];exact h
 have hF:Fz σ.box fz M' β:=by
  intro x hx e n s f hg v ⟨b,c,e1,ev,hc⟩
  obtain⟨b',c',cur,e2,hh,hl,l5,hn,_,cR⟩:=i.box x _ hg
  rw[e1]at e2;cases e2
  subst ev
  refine⟨some ⟨b,0,none⟩,c.1,by rw[hl],hn,.inr ⟨b,0,rfl,fun k j hk hj=>?_⟩⟩
  obtain⟨u,hu,hr⟩:=cR k j hk hj
  have hZ:isZ b:=⟨x,c,hx,e1⟩
  exact⟨u,by simp only [M',if_pos hZ];simp[World.cell?,hh,hu],DV.bD.mono hMM hr⟩
 let β':Nm:=fun x=>if x∈ks then β (look ren x)else none
 have iF:∀x,x∈ks→β' x=β (look ren x):=fun x hx=>by simp[β',hx]
 have hβ:∀x p,β' x=some p→x∈ks∧β (look ren x)=some p:=fun x p h=>by
  simp only [β']at h
  split at h
  ·exact⟨by assumption,h⟩
  ·cases h
 have DM:∀x,x∈ks→∀p,β (look ren x)=some p→β' x=some p:=fun x hx p e=>by rw[iF x hx];exact e
 have OY:∀x y,x∈ks→y∈ks→look ren x=look ren y→x=y:=by
  intro x y hx hy e
  simp only [GH,List.all_eq_true]at hi
  have:=hi x hx y hy
  simp only [Bool.or_eq_true]at this
  rcases this with h|h
  ·exact Nat.eq_of_beq_eq_true h
  ·rw[e]at h;simp at h
 have hnz:∀x,x∈ks→look ren x∉fz:=by
  intro x hx
  rw[List.all_eq_true]at hd
  simpa using hd x hx
 have live:∀x b k c,aH σ'.box x=some (some b)→β' x=some (k,c)→x∈ks∧∃b0,aH σ.box (look ren x)=some (some b0)∧β (look ren x)=some (k,c):=by
  intro x b k c h e
  obtain⟨h1,h2,h3⟩:=BM.get (fun _ h=>h) hb x b h
  have e:=(hβ x _ e).2
  obtain⟨y,hy⟩:=i.keys _ _ e
  rw[hy]at h3
  cases y with
  |none=>exact h3.elim
  |some b0=>exact⟨h1,b0,hy,e⟩
 refine⟨M',β',⟨i.defers,i.tmps,i.heap,fun t=>KA.get hF DM he t _ (AV.bD.mono hMM (Nm.le_refl β) (i.env t)),?_,?_,?_,?_,?_,?_,?_⟩,hMM,?_⟩
 ·intro b o u h
  by_cases hb:isZ b
  ·simp only [M',if_pos hb]at h;exact h
  ·simp only [M',if_neg hb]at h;exact i.mem b o u h
 ·intro x p e
  exact cL.has (hβ x p e).1
 ·intro x b h
  obtain⟨h1,h2,h3⟩:=BM.get (fun _ h=>h) hb x b h
  cases hs:aH σ.box (look ren x)with
  |none=>
   rw[hs]at h3
   have hn:β' x=none:=by
    rw[iF x h1]
    cases hb0:β (look ren x)with
    |none=>rfl
    |some p=>obtain⟨y,hy⟩:=i.keys _ _ hb0;rw[hs]at hy;cases hy
   cases b with
   |cA e n s f=>intro k c e;rw[hn]at e;cases e
   |_=>cases h3
  |some y=>
   cases y with
   |none=>rw[hs]at h3;exact h3.elim
   |some b0=>
    rw[hs]at h3
    have dU:=h3 M' β w (look ren x) hF (cH.mono hMM (Nm.le_refl β) rfl (fun _ _ _=>rfl) (i.box _ _ hs))
    cases b with
    |cells cs=>exact jF.rep DM h1 h2 dU
    |row e n s f=>exact jF.rep DM h1 rfl dU
    |cA e n s f=>intro k c e;rw[iF x h1]at e;exact dU k c e
    |map vk l=>exact jF.rep DM h1 rfl dU
    |smap vk l=>exact jF.rep DM h1 rfl dU
    |dm l n=>exact jF.rep DM h1 rfl dU
    |fresh T vs=>exact jF.rep DM h1 rfl dU
    |iter m n seen=>exact jF.rep DM h1 h2 dU
 ·intro x y bx yB b c c' ex ey hx hy
  obtain⟨kx,b0,g0,e0⟩:=live x bx b c ex hx
  obtain⟨ky,b1,g1,e1⟩:=live y yB b c' ey hy
  exact OY x y kx ky (i.inj _ _ b0 b1 b c c' g0 g1 e0 e1)
 ·intro x bx b c ex hx o
  obtain⟨kx,b0,g0,e0⟩:=live x bx b c ex hx
  have:¬isZ b:=by
   rintro⟨z,c',hz',e'⟩
   obtain⟨e2,n,s,f,hg⟩:=cK z hz'
   have:=i.inj _ _ _ _ b c' c hg g0 e' e0
   subst this
   exact hnz x kx hz'
  simp only [M',if_neg this]
  exact i.apart _ b0 b c g0 e0 o
 ·intro x bx b c ex hx
  obtain⟨kx,b0,g0,e0⟩:=live x bx b c ex hx
  exact i.low _ b0 b c g0 e0
 ·intro x hx
  rw[aA]at hx;cases hx
 ·intro b o u h
  by_cases hb:isZ b
  ·obtain⟨x,c,hx,e⟩:=hb
   obtain⟨e',n,s,f,hg⟩:=cK x hx
   rcases i.low x _ b c hg e with h|⟨y,c',hy,_⟩
   ·exact .inr h
   ·rw[aA]at hy;cases hy
  ·simp only [M',if_neg hb]at h;exact .inl h
def GB(xs:List Nat)(σ:St)(x:SV):SV:=bif JU xs x then x else uV σ x
def CH(xs:List Nat)(σ:St):List SV→List SV
 |[]=>[]
 |x::r=>GB xs σ x::CH xs σ r
def aJD(xs:List Nat)(σ:St):TV→TV
 |.s x=>.s (GB xs σ x)
 |.g cs=>.g (CH xs σ cs)
def rJ(xs:List Nat)(σ:St):List TV→List TV
 |[]=>[]
 |t::r=>aJD xs σ t::rJ xs σ r
section
variable{cx:Cx}{N:Nat}{M F:Mem}{β:Nm}{σ:St}{a:Act}{w:World}
theorem GB.rep(xs:List Nat)(i:Inv cx N M β σ a w)(hM:Mem.le M F)(hF:∀x bc b c,aH σ.box x=some (some bc)→β x=some (b,c)→∀o u,w.cell? ⟨b,o,none⟩=some u→F b o=some u){x:SV}{v:Value}(r:x.bD M β v):(GB xs σ x).bD F β v:=by
 unfold GB
 cases JU xs x with
 |true=>exact SV.bD.mono hM (Nm.le_refl β) r
 |false=>exact dS.rep i hM hF 3 _ _ r
theorem CH.rep(xs:List Nat)(i:Inv cx N M β σ a w)(hM:Mem.le M F)(hF:∀x bc b c,aH σ.box x=some (some bc)→β x=some (b,c)→∀o u,w.cell? ⟨b,o,none⟩=some u→F b o=some u):∀{cs:List SV} {vs:List Value},cO M β cs vs→cO F β (CH xs σ cs) vs
 |[],[],_=>trivial
 |_::_,_::_,⟨h,r⟩=>⟨GB.rep xs i hM hF h,CH.rep xs i hM hF r⟩
 |[],_::_,h=>h.elim
 |_::_,[],h=>h.elim
theorem rJ.rep(xs:List Nat)(i:Inv cx N M β σ a w)(hM:Mem.le M F)(hF:∀x bc b c,aH σ.box x=some (some bc)→β x=some (b,c)→∀o u,w.cell? ⟨b,o,none⟩=some u→F b o=some u):∀{ts:List TV} {vs:List Value},qK M β ts vs→qK F β (rJ xs σ ts) vs
 |[],[],_=>trivial
 |.s _::_,_::_,⟨h,r⟩=>⟨GB.rep xs i hM hF h,rJ.rep xs i hM hF r⟩
 |.g _::_,_::_,⟨⟨vs,e,h⟩,r⟩=>⟨⟨vs,e,CH.rep xs i hM hF h⟩,rJ.rep xs i hM hF r⟩
 |[],_::_,h=>h.elim
 |_::_,[],h=>h.elim
end
def KY(T:List (Nat×bP))(rs:List ResultVar)(r:AV)(bx':eJ):Exit→St→Prop
 |.ret,σ=>match nT T σ rs with
  |some ts=>aU (x3 (rJ (names bx') ⟨σ.env,iK σ.box bx'⟩ ts)) r∧iM σ.box bx'
  |none=>False
 |.normal,σ=>match nT T σ rs with
  |some ts=>aU (x3 (rJ (names bx') ⟨σ.env,iK σ.box bx'⟩ ts)) r∧iM σ.box bx'
  |none=>False
 |_,_=>False
section
variable{P:Program}{T:List (Nat×bP)}
theorem gL{f N:Nat}{fn:Func}{c:Code}{args:List AV}{bx:eJ}{r:AV}{bx':eJ}(hf:P.funcs[f]? =some fn)(hb:fn.body=some c)(hN:fn.ntmps=N)(dV:∀vs w,(callFunc f vs).run P w=.ok (.enter f vs) w)
  (hT:b7 P T) (hl:Nat.ble args.length N=true) (pW:((names bx).all fun x=>(names bx').contains x)=true) (jW:(bx'.all fun p=>p.2.real)=true) {rs:List ResultVar} (LR:fn.results.toList=rs)
  (h:∀cx:Cx,cx.ref=names bx→AW P cx N c (pT args bx) (KY T rs r bx')):bT P f args bx r bx':=by
 classical
 refine⟨dV,fun M β w vs hG hr hM qP hβ=>?_⟩
 refine calls_of_wp hf hb ?_
 let cx:Cx:={B:=w.heap.size,ref:=names bx,β0:=β}
 have hlen:=hr.length
 have hl:=Nat.le_of_ble_eq_true hl
 have hex:∀x,x∈names bx→∃p,β x=some p:=fun x hx=>by
  obtain⟨k,c,e⟩:=qP.has x hx
  exact⟨_,e⟩
 have i0:Inv cx N M β (pT args bx) {tmps:=vs.toArray++Array.replicate (fn.ntmps - vs.toArray.size) undef,defers:=[]} w:=by
  refine⟨rfl,by simp;omega,⟨Nat.le_refl _,by obtain⟨bs,hG,hN2⟩:=hG;exact⟨bs,hG,fun g t m=>⟨hG.lt m,by rintro⟨x,c,_,hx⟩;exact hN2 g t m x c hx⟩⟩⟩,fun t=>?_,hM,fun x p e=>fY.has (hβ x p e),fun x b e=>qP.rep x b (fY.get e),fun x y b1 b2 b c c' h1 h2 e1 e2=>?_,fun x b1 b c h1 e=>?_,fun x b1 b c h1 e=>?_,fun x hx=>⟨rfl,hex x hx⟩⟩
  ·have:=sS.rep (k:=0) (t:=t) (List.replicate (fn.ntmps - vs.length) undef) hr (Nat.zero_le _)
   simp only [Nat.sub_zero]at this
   simp only [pT]
   have e:(vs.toArray++Array.replicate (fn.ntmps - vs.toArray.size) undef).getD t undef=(vs++List.replicate (fn.ntmps - vs.length) undef).getD t undef:=by
    simp[←List.toArray_replicate]
   rw[e]
   exact this
  ·exact qP.inj x y b c c' (dA (fY.get h1)) (dA (fY.get h2)) e1 e2
  ·exact qP.apart x b c (dA (fY.get h1)) e
  ·exact .inr ⟨x,c,dA (fY.get h1),e⟩
 refine wp_mono (wpIn_wide.1 (h cx rfl M β _ w i0)) ?_
 rintro e a' w' ⟨σ',M',β',hk,i',hg,kG⟩
 have fin:∀ts,nT T σ' rs=some ts→aU (x3 (rJ (names bx') ⟨σ'.env,iK σ'.box bx'⟩ ts)) r→iM σ'.box bx'→a'.defers=[]∧∃v,(results fn a'.tmps).run P w'=.ok v w'∧∃v' M' β',Ending.returned v=.returned v'∧Nm.le β β'∧r.bD M' β' v'∧Grow w.heap.size M M'∧kF M' w'∧rB M' β' w' bx'∧
   (∀x b c,x∈names bx'→β' x=some (b,c)→w.heap.size≤b∨∃y c',β y=some (b,c'))∧
   w'.os=w.os∧w'.tape=w.tape∧w'.output=w.output∧w.heap.size≤w'.heap.size∧(∀k,k<w.heap.size→(∀y c,β y≠some (k,c))→w'.heap[k]? =w.heap[k]?)∧Dr w w':=by
  intro ts rX fD pY
  obtain⟨zQ,a6,dU⟩:=nT.rep hT i' rX
  let isB:Nat→Prop:=fun b=>∃x c,x∈names bx'∧β' x=some (b,c)
  let F:Mem:=fun b o=>if b<w.heap.size then M' b o else if isB b then none else w'.cell? ⟨b,o,none⟩
  have cK:∀x,x∈names bx'→∃b,aH σ'.box x=some (some b):=fun x hx=>by
   obtain⟨b,hb⟩:=jA hx
   exact⟨b,iM.get pY hb⟩
  have hMF:Mem.le M' F:=fun b o u e=>by
   by_cases qL:b<w.heap.size
   ·simp[F,qL,e]
   ·have:¬isB b:=by
     rintro⟨x,c,hx,hx2⟩
     obtain⟨bc,hbc⟩:=cK x hx
     rw[i'.apart x bc b c hbc hx2 o]at e
     cases e
    simp only [F,if_neg qL,if_neg this]
    exact i'.mem b o u e
  have hFc:∀x bc b c,aH (iK σ'.box bx') x=some (some bc)→β' x=some (b,c)→∀o u,w'.cell? ⟨b,o,none⟩=some u→F b o=some u:=by
   intro x bc b c e e' o u hu
   obtain⟨hnx,ex⟩:=iK.get e
   have hnb:¬isB b:=by
    rintro⟨y,c',hy,RG⟩
    obtain⟨bc',aGO⟩:=cK y hy
    exact hnx (i'.inj y x bc' bc b c' c aGO ex RG e'▸hy)
   rcases i'.low x bc b c ex e' with h|h
   ·have:¬b<w.heap.size:=by have:w.heap.size≤b:=h;omega
    simp only [F,if_neg this,if_neg hnb];exact hu
   ·obtain⟨y,c',hy,RG⟩:=h
    have hy':y∈names bx':=by
     rw[List.all_eq_true]at pW
     simpa using pW y hy
    have e1:β' y=some (b,c'):=by rw[(i'.ref y hy).1];exact RG
    exact(hnb ⟨y,c',hy',e1⟩).elim
  have iN:=rJ.rep (names bx') (i'.shut bx') hMF hFc dU
  refine⟨i'.defers,(if h:zQ.toArray.size=1 then zQ.toArray[0]else .tuple zQ.toArray),?_,_,F,β',rfl,?_,fD F β' _ ?_,⟨fun b o u e=>hMF b o u (hg.le b o u e),fun b o u e=>?_⟩,fun b o u e=>?_,?_,?_,kG.os,kG.tape,kG.output,kG.size,?_,kG.drawn⟩
  ·have:(fn.results.mapM (lG a'.tmps)).run P w'=.ok zQ.toArray w':=by
    rw[←Array.toArray_toList (xs:=fn.results),List.mapM_toArray,LR]
    simp only [Sem.run_map,a6,Result.andThen]
   have e:results fn a'.tmps=(do let vs←fn.results.mapM (lG a'.tmps);pure (if h:vs.size=1 then vs[0]else .tuple vs)):=by
    unfold results
    congr 1
   rw[e]
   simp only [Sem.run_bind,this,Result.andThen,Sem.run_pure]
  ·intro x p e
   rw[(i'.ref x (hβ x p e)).1]
   exact e
  ·cases OR:rJ (names bx') ⟨σ'.env,iK σ'.box bx'⟩ ts with
   |nil=>
    rw[OR]at iN
    cases zQ with
    |nil=>exact⟨[],rfl,trivial⟩
    |cons _ _=>exact iN.elim
   |cons t r'=>
    rw[OR]at iN
    cases zQ with
    |nil=>exact iN.elim
    |cons v E8=>
     cases r' with
     |nil=>
      cases E8 with
      |cons _ _=>exact iN.2.elim
      |nil=>
       have:=iN.1
       simp only [List.size_toArray,List.length_cons,List.length_nil,Nat.zero_add,dite_true,x3]
       cases t with
       |s x=>exact this
       |g cs=>exact this
     |cons t2 r2=>
      cases E8 with
      |nil=>exact iN.2.elim
      |cons v2 vs3=>
       have gI:¬(v::v2::vs3).toArray.size=1:=sM
       rw[dif_neg gI]
       exact⟨_,rfl,iN⟩
  ·by_cases qL:b<w.heap.size
   ·simp only [F,if_pos qL]at e
    exact hg.new b o u e
   ·exact .inr oM
  ·by_cases qL:b<w.heap.size
   ·simp only [F,if_pos qL]at e
    exact i'.mem b o u e
   ·simp only [F,if_neg qL]at e
    split at e
    ·cases e
    ·exact e
  ·refine⟨fun x hx=>?_,fun x b hb=>?_,fun x y b c c' hx hy e1 e2=>?_,fun x b c hx e o=>?_⟩
   ·obtain⟨b,hb⟩:=jA hx
    rw[List.all_eq_true]at jW
    exact(i'.box x b (iM.get pY hb)).exb (jW _ hb)
   ·exact cH.mono hMF (Nm.le_refl β') rfl (fun _ _ _=>rfl) (i'.box x b (iM.get pY hb))
   ·obtain⟨CW,h1⟩:=cK x hx
    obtain⟨bx2,h2⟩:=cK y hy
    exact i'.inj x y CW bx2 b c c' h1 h2 e1 e2
   ·obtain⟨CW,h1⟩:=cK x hx
    have hB:isB b:=⟨x,c,hx,e⟩
    by_cases qL:b<w.heap.size
    ·simp only [F,if_pos qL]
     exact i'.apart x CW b c h1 e o
    ·simp only [F,if_neg qL,if_pos hB]
  ·intro x b c hx e
   obtain⟨CW,h1⟩:=cK x hx
   rcases i'.low x CW b c h1 e with h|⟨y,c',hy,RG⟩
   ·exact .inl h
   ·exact .inr ⟨y,c',RG⟩
  ·intro k hk hnk
   exact kG.block k hk (by rintro⟨x,c,_,hx⟩;exact hnk x c hx)
 cases e with
 |ret=>
  simp only [KY]at hk
  split at hk
  ·rename_i ts rX;exact fin ts rX hk.1 hk.2
  ·exact hk.elim
 |normal=>
  simp only [KY]at hk
  split at hk
  ·rename_i ts rX;exact fin ts rX hk.1 hk.2
  ·exact hk.elim
 |_=>exact hk.elim
theorem fC{rc:List Nat}{f N:Nat}{fn:Func}{c:Code}{args:List AV}{bx:eJ}{r:AV}{bx':eJ}(hf:P.funcs[f]? =some fn)(hb:fn.body=some c)(hN:fn.ntmps=N)(dV:∀vs w,(callFunc f vs).run P w=.ok (.enter f vs) w)
  (hT:b7 P T) (hm:P.follows .mixedOrders=true) (hl:Nat.ble args.length N=true) (pW:((names bx).all fun x=>(names bx').contains x)=true) (jW:(bx'.all fun p=>p.2.real)=true) {rs:List ResultVar} (LR:fn.results.toList=rs)
  (h:∀cx:Cx,cx.ref=names bx→ex P T N (names bx) rc cx c (pT args bx) (KY T rs r bx')):bT P f args bx r bx':=
 gL hf hb hN dV hT hl pW jW LR fun cx aA=>ex.sound hT hm aA c (h cx aA)
end
theorem sk{p q:Prop}(h:q):(p→p)∧q:=⟨id,h⟩
theorem st{q:Prop}(h:q):True∧q:=⟨trivial,h⟩
theorem sg{b:Bool}{q:Prop}(h:q):O3 (b=false) (some (rL false b))∧q:=⟨fun h=>by simpa [rL]using h,h⟩
theorem sn1{b c:Bool}{q:Prop}(h:q):imp (some c) (O3 (b=true) (some (c&&rL true b)))∧q:=⟨fun h1 h2=>by simp[h1,h2,rL],h⟩
theorem sn0{b c:Bool}{q:Prop}(h:q):imp (some c) (O3 (b=false) (some (c&&rL false b)))∧q:=⟨fun h1 h2=>by simp[h1,h2,rL],h⟩
theorem su{c:Bool}{p q:Prop}(h:q):imp (some c) (O3 p none)∧q:=⟨fun _=>trivial,h⟩
theorem ob{p q:Prop}(h:p)(k:q):p∧q:=⟨h,k⟩
theorem oi{p q:Prop}(h:p)(k:q):imp none p∧q:=⟨h,k⟩
theorem og{p q:Prop}{b:Bool}(h:b=true→p)(k:q):(b=true→p)∧q:=⟨h,k⟩
theorem bS{P:Program}{f:FuncId}{args:List AV}{r:AV}{K:AV→Prop}{b:Bool}{X:Prop}(h:aF P f args r)(k:K r):(∃r,(b=true→aF P f args r)∧K r)∨X:=.inl ⟨r,fun _=>h,k⟩
theorem aB{P:Program}{f:FuncId}{args:List AV}{r:AV}{K:AV→Prop}{X:Prop}(h:aF P f args r)(k:K r):(∃r,aF P f args r∧K r)∨X:=.inl ⟨r,h,k⟩
theorem aL.zZ{n m s:Nat}{f g:Nat→Nat→DV}(e:n=m)(h:∀i j,i<n→j<s→aL (f i j) (g i j)):aL (.fW n s f) (.fW m s g):=by subst e;exact aL.fW h
theorem rR.iJ{σ:St}{c:Nat→DV}:∀{k j:Nat},rR (iI σ (iJ c k j)) (iJ c k j)
 |0,_=>trivial
 |_+1,_=>⟨aL.refl _,rR.iJ⟩
abbrev aV(n:Int):Int:=IntKind.i64.wrap n
abbrev dI(x:Int):DV:=.val (.int .i64 x)
abbrev vI(x:Int):AV:=.s (.d (.val (.int .i64 x)))
abbrev vB(b:Bool):AV:=.s (.d (.val (.bool b)))
theorem aC.lit{b c:Bool}(h:b=c):aC (.s (.d (.lit b))) (vB c):=by subst h;exact fun _ _ r=>r
theorem aG{n:Int}(h: -9223372036854775808≤n)(k:n≤9223372036854775807):aV n=n:=by
 unfold aV
 exact IntWalk.i64_in n ⟨h,k⟩
def eH(l:List Int):Nat→Nat→DV:=fun i _=>dI (l.getD i 0)
def cE(l:List Int):DV:=.fW l.length 1 (eH l)
abbrev pK(l:List Int):AV:=.s (.d (cE l))
end Go.Ax
namespace Go.Ax
open Go.RowKit
theorem eL{α:Type}(l:List α):(bif l.isEmpty then 0 else l.length)=l.length:=by cases l <;> rfl
theorem cG{α:Type}(l:List α)(x:α):(l++ [x]).isEmpty=false:=by cases l <;> rfl
theorem aZ.snoc{α:Type} [Inhabited α] {e s:Nat}{l:List α}{x:α}{el:α→Nat→DV}{g:Nat→Nat→DV}(hg:∀j,j<s→g 0 j=el x j):
  aZ (.row e ((bif l.isEmpty then 0 else l.length)+1) s (k7 (bif l.isEmpty then 0 else l.length) (fun i=>el (l.getD i default)) g)) (.cA e (l++ [x]).length s (fun i=>el ((l++ [x]).getD i default))):=by
 rw[eL]
 refine aZ.cA sM fun i j hi hj=>aL.of_eq ?_
 unfold k7
 by_cases h:i<l.length
 ·rw[if_pos h]
  simp only [List.getD_eq_getElem?_getD,List.getElem?_append_left h]
 ·have:i=l.length:=oM
  subst this
  rw[if_neg h,Nat.sub_self,hg j hj]
  simp only [List.getD_eq_getElem?_getD,List.getElem?_concat_length,Option.getD_some]
theorem AN{p:Nat→Prop}(h:p 0):∀j,j<1→p j:=fun j hj=>by match j,hj with|0,_=>exact h
theorem lt2{p:Nat→Prop}(h:p 0)(h1:p 1):∀j,j<2→p j:=fun j hj=>by match j,hj with|0,_=>exact h|1,_=>exact h1
theorem lt3{p:Nat→Prop}(h:p 0)(h1:p 1)(h2:p 2):∀j,j<3→p j:=fun j hj=>by match j,hj with|0,_=>exact h|1,_=>exact h1|2,_=>exact h2
theorem lt4{p:Nat→Prop}(h:p 0)(h1:p 1)(h2:p 2)(h3:p 3):∀j,j<4→p j:=fun j hj=>by match j,hj with|0,_=>exact h|1,_=>exact h1|2,_=>exact h2|3,_=>exact h3
theorem nZ{s:Nat}{g:Nat→Nat→DV}(h:∀j,j<s→(g 0 j).fit=true):fitAll 1 s g:=fun k j hk hj=>by
 have:k=0:=oM
 subst this;exact h j hj
end Go.Ax
namespace Go.Ax
theorem aC.mo{α:Type}{l:List α}{s:Nat}{f:Nat→Nat→DV}:aC (.s (.d (.fW (bif l.isEmpty then 0 else l.length) s f))) (.s (.d (.fW l.length s f))):=aC.of_eq (by rw[eL])
theorem cW{β:Type}(f:Nat→Option β)(n:Nat):(List.range (n+1)).filterMap f=(List.range n).filterMap f++(f n).toList:=by
 rw[List.range_succ,List.filterMap_append]
 cases h:f n <;> simp[h]
end Go.Ax
namespace Go.Ax
def gT{α:Type} [Inhabited α] (s n:Nat)(f:Nat→Nat→DV)(el:α→Nat→DV)(l:List α):Prop:=n=l.length∧∀i j,i<n→j<s→f i j=el (l.getD i default) j
section
variable{α:Type} [Inhabited α] {s n e:Nat}{f g:Nat→Nat→DV}{el:α→Nat→DV}{l:List α}{x:α}
theorem gT.refl:gT s l.length (fun i=>el (l.getD i default)) el l:=⟨rfl,fun _ _ _ _=>rfl⟩
theorem gT.snoc(h:gT s n f el l)(hg:∀j,j<s→g 0 j=el x j):gT s (n+1) (k7 n f g) el (l++ [x]):=by
 obtain⟨rfl,h⟩:=h
 refine⟨sM,fun i j hi hj=>?_⟩
 unfold k7
 by_cases hl:i<l.length
 ·rw[if_pos hl,h i j hl hj]
  simp only [List.getD_eq_getElem?_getD,List.getElem?_append_left hl]
 ·have:i=l.length:=oM
  subst this
  rw[if_neg hl,Nat.sub_self,hg j hj]
  simp only [List.getD_eq_getElem?_getD,List.getElem?_concat_length,Option.getD_some]
theorem gT.one(hg:∀j,j<s→g 0 j=el x j):gT s 1 g el [x]:=by
 refine⟨rfl,fun i j hi hj=>?_⟩
 have:i=0:=oM
 subst this
 exact hg j hj
theorem gT.row(h:gT s n f el l):aZ (.row e n s f) (.row e l.length s (fun i=>el (l.getD i default))):=
 aZ.row h.1 fun i j hi hj=>aL.of_eq (h.2 i j hi hj)
theorem gT.fW(h:gT s n f el l):aL (.fW n s f) (.fW l.length s (fun i=>el (l.getD i default))):=
 aL.zZ h.1 fun i j hi hj=>aL.of_eq (h.2 i j hi hj)
end
theorem aU.lit{b c:Bool}(h:b=c):aU (.s (.d (.lit b))) (.s (.d (.val (.bool c)))):=by subst h;exact fun _ _ _ r=>r
theorem aU.int{x y:Int}(h:x=y):aU (.s (.d (.val (.int .i64 x)))) (vI y):=by subst h;exact aU.rfl
theorem aU.bool{x y:Bool}(h:x=y):aU (.s (.d (.val (.bool x)))) (vB y):=by subst h;exact aU.rfl
end Go.Ax
namespace Go.Ax
theorem aR{p q:Prop}(h:q)(hp:p:=by first|exact id|exact trivial|exact (sg trivial).1|exact (sh trivial).1|exact (su trivial).1|exact (sn1 trivial).1|exact (sn0 trivial).1):p∧q:=⟨hp,h⟩
theorem aD{p q:Prop}(h:q)(hp:p:=by kernel_rfl):p∧q:=⟨hp,h⟩
theorem aI{p q:Prop}(h:p)(k:q):p∧q:=⟨h,k⟩
theorem rQ.{u,v}{α:Sort u}{β:Sort v}{a:α}{b:β}:a=a∧b=b:=⟨rfl,rfl⟩
theorem oO:True:=trivial
end Go.Ax
namespace Go.Ax.aLD
open Ieee
theorem VA(r:Nat)(h:r<double.infRung):∃m i,double.read r=.number false m i∧m<2^53∧(i=double.leastPlace∨i=double.leastPlace+((r / 4503599627370496 - 1:Nat):Int)):=by
 have e1:double.signWeight=9223372036854775808:=by decide
 have e2:double.binade=4503599627370496:=by decide
 have e3:double.infRung=9218868437227405312:=by decide
 have e53:(2:Nat)^53=9007199254740992:=by decide
 rw[e53]
 have fR:r<9223372036854775808:=by omega
 have hq:r / 9223372036854775808=0:=Nat.div_eq_of_lt fR
 have hm:r%9223372036854775808=r:=Nat.mod_eq_of_lt fR
 unfold Format.read
 rw[e1,hq,hm,e2]
 by_cases hs:r<4503599627370496
 ·rw[if_pos hs]
  exact⟨r,_,rfl,by omega,.inl rfl⟩
 ·rw[if_neg hs,if_pos h]
  refine⟨_,_,rfl,?_,.inr rfl⟩
  have:=Nat.mod_lt r (show 0<4503599627370496 by decide)
  omega
theorem aG2(n drop:Nat)(h:n<2^53*2^drop):Toward.even.cut false n drop≤2^53:=by
 unfold Toward.cut
 simp only
 have hb:∀b:Bool,b.toNat≤1:=fun b=>by cases b <;> decide
 have hg:n / 1<<<min drop (n.log2+2)<2^53:=by
  rw[Nat.shiftLeft_eq,Nat.one_mul]
  by_cases hd:drop≤n.log2+2
  ·rw[Nat.min_eq_left hd]
   exact Nat.div_lt_of_lt_mul (by rw[Nat.mul_comm];exact h)
  ·rw[Nat.min_eq_right (by omega)]
   have:n<2^(n.log2+2):=Nat.lt_trans Nat.lt_log2_self (Nat.pow_lt_pow_right (by decide) (by omega))
   rw[Nat.div_eq_of_lt this]
   decide
 have:=hb (decide (1<<<min drop (n.log2+2)<2*(n%1<<<min drop (n.log2+2)))||(1<<<min drop (n.log2+2)==2*(n%1<<<min drop (n.log2+2))&&n / 1<<<min drop (n.log2+2)%2==1))
 omega
theorem AL(rW:Nat)(place:Int)(h0:rW≠0)(CL:double.leastPlace≤place+rW.log2 - 52)(RQ:place+rW.log2≤900):
  ∃m i,double.read (double.nearest false rW place)=.number false m i∧m<2^53∧i≤place+rW.log2 - 51∧ -1074≤i:=by
 have e0:double.fractionBits=52:=rfl
 have e2:double.binade=4503599627370496:=by decide
 have e3:double.infRung=9218868437227405312:=by decide
 have e4:double.leastPlace= -1074:=by decide
 have uT:max (place+(rW.log2:Int) - (double.fractionBits:Int)) double.leastPlace=place+rW.log2 - 52:=by
  rw[e0]
  exact Int.max_eq_left CL
 have aEG:Toward.even.cut false (rW<<<(place - (place+rW.log2 - 52)).toNat) ((place+(rW.log2:Int) - 52) - place).toNat≤2^53:=by
  apply aG2
  rw[Nat.shiftLeft_eq]
  have hm:rW<2^(rW.log2+1):=Nat.lt_log2_self
  by_cases hk:52≤rW.log2
  ·have h1:(place - (place+rW.log2 - 52)).toNat=0:=by omega
   have h2:((place+(rW.log2:Int) - 52) - place).toNat=rW.log2 - 52:=by omega
   rw[h1,h2,Nat.pow_zero,Nat.mul_one,←Nat.pow_add]
   rw[show 53+(rW.log2 - 52)=rW.log2+1 by omega]
   exact hm
  ·have h1:(place - (place+rW.log2 - 52)).toNat=52 - rW.log2:=by omega
   have h2:((place+(rW.log2:Int) - 52) - place).toNat=0:=by omega
   rw[h1,h2,Nat.pow_zero,Nat.mul_one]
   calc rW*2^(52 - rW.log2)<2^(rW.log2+1)*2^(52 - rW.log2):=Nat.mul_lt_mul_of_pos_right hm (Nat.two_pow_pos _)
    _=2^53:=by rw[←Nat.pow_add];congr 1;omega
 unfold Format.nearest
 rw[if_neg h0,uT]
 simp only [Format.word,Bool.false_eq_true,if_false]
 have e53:(2:Nat)^53=9007199254740992:=by decide
 rw[e53]at aEG
 generalize Toward.even.cut false (rW<<<(place - (place+rW.log2 - 52)).toNat) ((place+(rW.log2:Int) - 52) - place).toNat=kept at aEG ⊢
 rw[e2,e3,e4]
 have hA:(place+(rW.log2:Int) - 52 - -1074).toNat=(place+rW.log2+1022).toNat:=by congr 1;omega
 rw[hA]
 generalize hAe:(place+(rW.log2:Int)+1022).toNat=A
 rw[e4]at CL
 have hAi:(A:Int)=place+rW.log2+1022:=by omega
 have hA1:A≤1922:=by omega
 have aGF:min (A*4503599627370496+kept) 9218868437227405312=A*4503599627370496+kept:=by
  apply Nat.min_eq_left
  omega
 rw[aGF]
 have fR:A*4503599627370496+kept<double.infRung:=by
  rw[e3]
  clear aGF CL RQ hAi uT hA
  omega
 obtain⟨m,i,hr,hm,hi⟩:=VA _ fR
 rw[e4]at hi
 refine⟨m,i,hr,hm,?_⟩
 have hdiv:(A*4503599627370496+kept) / 4503599627370496≤A+2:=by
  have h1:A*4503599627370496+kept≤(A+2)*4503599627370496:=by
   rw[Nat.add_mul]
   clear aGF CL RQ hAi uT hA fR hr hi
   omega
  have h2:=Nat.div_le_div_right (c:=4503599627370496) h1
  rw[Nat.mul_div_cancel _ (by decide)]at h2
  exact h2
 generalize (A*4503599627370496+kept) / 4503599627370496=D at hdiv hi
 rcases hi with rfl|rfl
 ·exact⟨by omega,by omega⟩
 ·exact⟨by omega,by omega⟩
theorem C9(n:Nat):∀(todo root:Nat),root*root≤n→Datum.rootFrom n todo root*Datum.rootFrom n todo root≤n
 |0,_,h=>h
 |todo+1,root,h=>by
  unfold Datum.rootFrom
  simp only
  apply C9 n todo
  split
  ·assumption
  ·exact h
theorem LI{a b:Nat}(h0:a≠0)(h:a<2^(b+1)):a.log2≤b:=by
 have:=Nat.log2_self_le h0
 exact Nat.le_of_lt_succ ((Nat.pow_lt_pow_iff_right (by decide:1<2)).1 (Nat.lt_of_le_of_lt this h))
theorem QQ(s:Int)(h0:0≤s)(hs:s<2^43):∃r n,FloatKind.f64.format.sqrt (FloatKind.f64.nearest s)=some r∧(FloatKind.f64.decode r).toInt .zero=some n∧0≤n∧n<2^24:=by
 have e4:double.leastPlace= -1074:=by decide
 have e0:double.fractionBits=52:=rfl
 have hf:FloatKind.f64.format=double:=rfl
 by_cases hz:s=0
 ·subst hz
  exact⟨0,0,by decide+kernel,by decide+kernel,by decide,by decide⟩
 obtain⟨k,rfl⟩:=Int.eq_ofNat_of_zero_le h0
 have RO:k≠0:=by intro h;exact hz (by simp[h])
 have hk:k<2^43:=by exact_mod_cast hs
 have hlk:k.log2≤42:=LI RO hk
 have hn:FloatKind.f64.nearest (k:Int)=double.nearest false k 0:=by
  unfold FloatKind.nearest FloatKind.encode
  rw[hf]
  have:decide ((k:Int)<0)=false:=by simp
  simp only [this,Int.natAbs_natCast,Format.write]
 obtain⟨m,i,hr,hm,hi,hi2⟩:=AL k 0 RO (by rw[e4];omega) (by omega)
 obtain⟨d,hd,hdn⟩:∃d,(Datum.number false m i).root 54=some d∧∃rW p,d=.number false rW p∧(rW=0∨(rW≠0∧p+rW.log2≤22∧ -1022≤p+rW.log2)):=by
  by_cases hm0:m=0
  ·subst hm0
   exact⟨_,rfl,0,i,rfl,.inl rfl⟩
  ·unfold Datum.root
   simp only [hm0,if_false]
   have hlm:m.log2≤52:=LI hm0 hm
   have aNV:((2*54 - m.log2:Nat):Int)=108 - m.log2:=by omega
   obtain⟨q,hq,hq2⟩:∃q:Nat,((i - ((2*54 - m.log2:Nat):Int))%2).toNat=q∧q≤1:=⟨_,rfl,by omega⟩
   rw[hq]
   have hn0:(m<<<(2*54 - m.log2+q))<2^110:=by
    rw[Nat.shiftLeft_eq]
    calc m*2^(2*54 - m.log2+q)<2^(m.log2+1)*2^(2*54 - m.log2+q):=Nat.mul_lt_mul_of_pos_right Nat.lt_log2_self (Nat.two_pow_pos _)
     _=2^(109+q):=by rw[←Nat.pow_add];congr 1;omega
     _≤2^110:=Nat.pow_le_pow_right (by decide) (by omega)
   have hn1:1≤m<<<(2*54 - m.log2+q):=by
    rw[Nat.shiftLeft_eq]
    exact Nat.mul_pos (Nat.pos_of_ne_zero hm0) (Nat.two_pow_pos _)
   generalize hN:m<<<(2*54 - m.log2+q)=N at hn0 hn1 ⊢
   have hsq:=C9 N (N.log2 / 2+1) 0 (by omega)
   generalize Datum.rootFrom N (N.log2 / 2+1) 0=root at hsq ⊢
   have aNQ:root<2^55:=by
    rcases Nat.lt_or_ge root (2^55)with h|h
    ·exact h
    ·have:=Nat.mul_le_mul h h
     have e:(2:Nat)^55*2^55=2^110:=by decide
     omega
   have hb:(root*root !=N).toNat≤1:=by cases(root*root !=N) <;> decide
   generalize (root*root !=N).toNat=bb at hb
   refine⟨_,rfl,2*root+bb,_,rfl,?_⟩
   by_cases hz2:2*root+bb=0
   ·exact .inl hz2
   ·right
    have hl:(2*root+bb).log2≤55:=LI hz2 (by omega)
    refine⟨hz2,?_,?_⟩
    ·omega
    ·omega
 obtain⟨rW,p,rfl,hmp⟩:=hdn
 have hsq:FloatKind.f64.format.sqrt (FloatKind.f64.nearest (k:Int))=some (double.nearest false rW p):=by
  rw[hf,hn]
  unfold Format.sqrt
  rw[hr,e0,hd]
  rfl
 rcases hmp with rfl|⟨h1,h2,h3⟩
 ·refine⟨_,0,hsq,?_,by decide,by decide⟩
  have:double.nearest false 0 p=0:=rfl
  rw[this]
  decide+kernel
 ·obtain⟨m',i',BZ,LU,bK,aNX⟩:=AL rW p h1 (by rw[e4];omega) (by omega)
  have hg:FloatKind.f64.decode (double.nearest false rW p)=.number false m' i':=BZ
  refine⟨_,_,hsq,by rw[hg];rfl,?_⟩
  simp only [signed,Bool.false_eq_true,if_false,Nat.shiftLeft_zero]
  have RP:i'.toNat=0:=by omega
  rw[RP,Nat.shiftLeft_zero]
  unfold Toward.cut
  simp only [Bool.toNat_false,Nat.add_zero]
  refine⟨Int.natCast_nonneg _,?_⟩
  have:m' / 1<<<min (-i').toNat (m'.log2+2)<2^24:=by
   rw[Nat.shiftLeft_eq,Nat.one_mul]
   by_cases hd:(-i').toNat≤m'.log2+2
   ·rw[Nat.min_eq_left hd]
    apply Nat.div_lt_of_lt_mul
    calc m'<2^53:=LU
     _=2^29*2^24:=by decide
     _≤2^(-i').toNat*2^24:=Nat.mul_le_mul_right _ (Nat.pow_le_pow_right (by decide) (by omega))
   ·rw[Nat.min_eq_right (by omega)]
    have:m'<2^(m'.log2+2):=Nat.lt_trans Nat.lt_log2_self (Nat.pow_lt_pow_right (by decide) (by omega))
    rw[Nat.div_eq_of_lt this]
    decide
  exact_mod_cast this
end Go.Ax.aLD
namespace Go.Ax
open Go.RowKit
def Rd(P:Program)(t:TypeId)(k:Nat){α:Type}(rep:α→List SV)(ok:α→Prop):Prop:=
 P.cellsOf t=k∧∀(H:Type) (enc:TypeId×Value→H) (W:World) (base:Nat) (spare:Nat→Bool) (held:Bool) (fuel:Nat) (cs:List Value) (x:DataW H×List MemPlace),
  DataW.trod enc P W base spare held fuel t cs=some x→cs.length=k∧∃a,ok a∧cO (full W) nb (rep a) cs
theorem aFN{P:Program}{t:TypeId}{k:IntKind}(ht:P.underlying t=some (.int k))(hc:P.cellsOf t=1):
  Rd P t 1 (fun n:Int=>[.d (.val (.int k n))]) (fun n=>(Lit.int k n).wf=true):=by
 refine⟨hc,fun H enc W base spare held fuel cs x h=>?_⟩
 obtain⟨n,rfl,_,hw⟩:=DataW.trod_int ht h
 exact⟨rfl,n,hw,rfl,trivial⟩
theorem aFM{P:Program}{t:TypeId}(ht:P.underlying t=some .string)(hc:P.cellsOf t=1):
  Rd P t 1 (fun s:ByteArray=>[.d (.val (.string s))]) (fun s=>s.size≤9223372036854775807):=by
 refine⟨hc,fun H enc W base spare held fuel cs x h=>?_⟩
 obtain⟨n,rfl,_,hs⟩:=DataW.trod_string ht h
 exact⟨rfl,n,hs,rfl,trivial⟩
theorem Rd.to{P:Program}{t:TypeId}{k:Nat}{α β:Type}{rep:α→List SV}{ok:α→Prop}{YS:β→List SV}{ok':β→Prop}(h:Rd P t k rep ok)(g:α→β)(hr:∀a,YS (g a)=rep a)(ho:∀a,ok a→ok' (g a)):Rd P t k YS ok':=by
 refine⟨h.1,fun H enc W base spare held fuel cs x e=>?_⟩
 obtain⟨hl,a,ha,dU⟩:=h.2 H enc W base spare held fuel cs x e
 exact⟨hl,g a,ho a ha,by rw[hr];exact dU⟩
theorem YR{M:Mem}{β:Nm}{el:Nat→DV}:∀{cs:List SV} {vs:List Value},cO M β cs vs→(∀j,j<cs.length→cs[j]? =some (.d (el j)))→∀j,j<cs.length→∃u,vs[j]? =some u∧(el j).bD M u:=by
 intro cs vs hr he j hj
 obtain⟨u,hu,r⟩:=hr.get (he j hj)
 exact⟨u,hu,r⟩
theorem kI{P:Program}{t e:TypeId}{s:Nat}{α:Type} [Inhabited α] {rep:α→List SV}{ok:α→Prop}(ht:P.underlying t=some (.slice e))(hc:P.cellsOf t=1)(h:Rd P e s rep ok)(hs:0<s)
  (el:α→Nat→DV) (hl:∀a,(rep a).length=s) (hel:∀a j,j<s→(rep a)[j]? =some (.d (el a j))):
  Rd P t 1 (fun l:List α=>[.d (.fW l.length s fun i=>el (l.getD i default))]) (fun l=>l.length≤9223372036854775807∧∀a∈l,ok a):=by
 refine⟨hc,fun H enc W base spare held fuel cs x hx=>?_⟩
 rcases Go.Deep.open_slice ht hx with⟨rfl,_⟩|⟨a,len,cap,m,n,D,Pl,rfl,hb,hle,hm,hmm,_,cR⟩
 ·exact⟨rfl,[],⟨sM,sM⟩,⟨none,0,rfl,Nat.le_refl _,.inl rfl⟩,trivial⟩
 ·have hlm:len≤m:=by rw[hmm];split <;> omega
  have key:∀i,i<len→∃v:α,ok v∧∀j,j<s→∃u,W.cell? (a.add (i*s+j))=some u∧(el v j).bD (full W) u:=by
   intro i hi
   obtain⟨cs',h1,h2⟩:=cR i oM
   obtain⟨hlen,v,hv,hr⟩:=h.2 H enc W base spare held n cs' _ h2
   refine⟨v,hv,fun j hj=>?_⟩
   obtain⟨u,hu,r⟩:=YR (el:=el v) hr (fun j hj=>hel v j (by rw[hl]at hj;exact hj)) j (by rw[hl];exact hj)
   obtain⟨_,_,h3⟩:=World.cells?_some h1
   have:=h3 j (by rw[h.1];exact hj)
   rw[hu,Go.Deep.add_add,h.1]at this
   exact⟨u,this,r⟩
  obtain⟨F,hF⟩:=Go.Deep.choose_lt key
  refine⟨rfl,(List.range len).map F,⟨by have:maxLen=9223372036854775807:=rfl;simp;omega,?_⟩,⟨some a,cap,sM,by simpa using hle,?_⟩,trivial⟩
  ·intro v hv
   simp only [List.mem_map,List.mem_range]at hv
   obtain⟨i,hi,rfl⟩:=hv
   exact(hF i hi).1
  ·by_cases h0:len=0
   ·exact .inl (by simp[h0])
   right
   obtain⟨u0,hu0,_⟩:=(hF 0 oM).2 0 hs
   obtain⟨b,o,spot⟩:=a
   have aJI:spot=none:=by
    have:=World.cell?_spot hu0
    simpa [Addr.add]using this
   subst aJI
   refine⟨b,o,rfl,fun i j hi hj=>?_⟩
   simp only [List.length_map,List.length_range]at hi
   obtain⟨u,hu,r⟩:=(hF i hi).2 j hj
   refine⟨u,?_,?_⟩
   ·rw[jC,←Nat.add_assoc]at hu
    exact hu
   ·show(el (((List.range len).map F).getD i default) j).bD (full W) u
    rw[show((List.range len).map F).getD i default=F i by simp[hi]]
    exact r
def RdF(P:Program)(fs:List Field)(off k:Nat){α:Type}(rep:α→List SV)(ok:α→Prop):Prop:=
 ∀(H:Type) (enc:TypeId×Value→H) (W:World) (base:Nat) (spare:Nat→Bool) (held:Bool) (n:Nat) (cs:List Value),cs.length=k→
  (∀f∈fs,∃x,DataW.trod enc P W base spare held n f.type ((cs.drop f.offset).take (P.cellsOf f.type))=some x)→∃a,ok a∧cO (full W) nb (rep a) (cs.drop off)
theorem iT{P:Program}{k:Nat}:RdF P [] k k (fun _:Unit=>[]) (fun _=>True):=by
 intro H enc W base spare held n cs hk _
 rw[List.drop_eq_nil_of_le oM]
 exact⟨(),trivial,trivial⟩
theorem aQ{P:Program}{f:Field}{fs:List Field}{off k s:Nat}{α β:Type}{rep:α→List SV}{ok:α→Prop}{YS:β→List SV}{ok':β→Prop}
  (ho:f.offset=off) (h:Rd P f.type s rep ok) (r:RdF P fs (off+s) k YS ok'):RdF P (f::fs) off k (fun a:α×β=>rep a.1++YS a.2) (fun a=>ok a.1∧ok' a.2):=by
 intro H enc W base spare held n cs hk hf
 obtain⟨x,hx⟩:=hf f sM
 obtain⟨hlen,a,ha,hr⟩:=h.2 H enc W base spare held n _ x hx
 obtain⟨b,hb,BZ⟩:=r H enc W base spare held n cs hk (fun g hg=>hf g (by simp[hg]))
 refine⟨(a,b),⟨ha,hb⟩,?_⟩
 rw[h.1,ho]at hr
 have:=hr.append BZ
 rw[←List.drop_drop,List.take_append_drop]at this
 exact this
theorem eV{P:Program}{t:TypeId}{fs:Array Field}{l:List Field}{k:Nat}{α:Type}{rep:α→List SV}{ok:α→Prop}(ht:P.underlying t=some (.struct fs))(hl:fs.toList=l)(hc:P.cellsOf t=k)(h:RdF P l 0 k rep ok):
  Rd P t k rep ok:=by
 refine⟨hc,fun H enc W base spare held fuel cs x hx=>?_⟩
 obtain⟨xs,n,_,_,hlen,hxl,hf⟩:=DataW.trod_struct ht hx
 obtain⟨a,ha,hr⟩:=h H enc W base spare held n cs (by rw[hlen,hc]) (fun f hfm=>by
  rw[←hl]at hfm
  obtain⟨i,hi,e⟩:=List.getElem_of_mem hfm
  have h1:fs[i]? =some f:=by
   rw[←Array.getElem?_toList,List.getElem?_eq_getElem hi,e]
  have:=hf i f h1
  rw[List.getElem?_eq_getElem (by rw[hxl];simpa using hi)]at this
  exact⟨_,this⟩)
 exact⟨by rw[hlen,hc],a,ha,by simpa using hr⟩
def RdA(P:Program)(t:TypeId){α:Type}(rep:α→AV)(ok:α→Prop):Prop:=
 ∀(H:Type) (enc:TypeId×Value→H) (W:World) (b0 base:Nat) (spare:Nat→Bool) (held:Bool) (v:Value) (d:DataW H) (ps:List MemPlace),
  Value.okWide P W .any b0 t v→DataW.Trod enc P W base spare held t v d ps→∃a,ok a∧(rep a).bD (full W) nb v
theorem TF{P:Program}{t:TypeId}{fs:Array Field}{k:Nat}{α:Type}{rep:α→List SV}{ok:α→Prop}(ht:P.underlying t=some (.struct fs))(h:Rd P t k rep ok):RdA P t (fun a=>.g (rep a)) ok:=by
 intro H enc W b0 base spare held v d ps hv ⟨fuel,hx⟩
 simp only [Value.okWide,ht]at hv
 obtain⟨cs,rfl,_⟩:=hv
 obtain⟨_,a,ha,hr⟩:=h.2 H enc W base spare held fuel _ _ hx
 exact⟨a,ha,cs.toList,sM,hr⟩
def aLO(bx':eJ):Exit→St→Prop
 |.ret,σ=>iM σ.box bx'
 |.normal,σ=>iM σ.box bx'
 |_,_=>False
section
variable{P:Program}{T:List (Nat×bP)}
theorem q8{rc:List Nat}{f N:Nat}{fn:Func}{c:Code}{args:List AV}{bx:eJ}{bx':eJ}(hf:P.funcs[f]? =some fn)(hb:fn.body=some c)(hN:fn.ntmps=N)(dV:∀vs w,(callFunc f vs).run P w=.ok (.enter f vs) w)
  (hT:b7 P T) (hm:P.follows .mixedOrders=true) (hl:Nat.ble args.length N=true) (jW:(bx'.all fun p=>p.2.real)=true) (LR:fn.results.toList=[])
  (h:∀cx:Cx,cx.ref=names bx→ex P T N (names bx) rc cx c (pT args bx) (aLO bx')):bT P f args bx (.t []) bx':=by
 classical
 refine⟨dV,fun M β w vs hG hr hM qP hβ=>?_⟩
 refine calls_of_wp hf hb ?_
 let cx:Cx:={B:=w.heap.size,ref:=names bx,β0:=β}
 have hlen:=hr.length
 have hl:=Nat.le_of_ble_eq_true hl
 have hex:∀x,x∈names bx→∃p,β x=some p:=fun x hx=>by
  obtain⟨k,c,e⟩:=qP.has x hx
  exact⟨_,e⟩
 have i0:Inv cx N M β (pT args bx) {tmps:=vs.toArray++Array.replicate (fn.ntmps - vs.toArray.size) undef,defers:=[]} w:=by
  refine⟨rfl,by simp;omega,⟨Nat.le_refl _,by obtain⟨bs,hG,hN2⟩:=hG;exact⟨bs,hG,fun g t m=>⟨hG.lt m,by rintro⟨x,c,_,hx⟩;exact hN2 g t m x c hx⟩⟩⟩,fun t=>?_,hM,fun x p e=>fY.has (hβ x p e),fun x b e=>qP.rep x b (fY.get e),fun x y b1 b2 b c c' h1 h2 e1 e2=>?_,fun x b1 b c h1 e=>?_,fun x b1 b c h1 e=>?_,fun x hx=>⟨rfl,hex x hx⟩⟩
  ·have:=sS.rep (k:=0) (t:=t) (List.replicate (fn.ntmps - vs.length) undef) hr (Nat.zero_le _)
   simp only [Nat.sub_zero]at this
   simp only [pT]
   have e:(vs.toArray++Array.replicate (fn.ntmps - vs.toArray.size) undef).getD t undef=(vs++List.replicate (fn.ntmps - vs.length) undef).getD t undef:=by
    simp[←List.toArray_replicate]
   rw[e]
   exact this
  ·exact qP.inj x y b c c' (dA (fY.get h1)) (dA (fY.get h2)) e1 e2
  ·exact qP.apart x b c (dA (fY.get h1)) e
  ·exact .inr ⟨x,c,dA (fY.get h1),e⟩
 refine wp_mono (wpIn_wide.1 (ex.sound hT hm (cx:=cx) rfl c (h cx rfl) M β _ w i0)) ?_
 rintro e a' w' ⟨σ',M',β',hk,i',hg,kG⟩
 have fin:iM σ'.box bx'→a'.defers=[]∧∃v,(results fn a'.tmps).run P w'=.ok v w'∧∃v' M' β',Ending.returned v=.returned v'∧Nm.le β β'∧(AV.t []).bD M' β' v'∧Grow w.heap.size M M'∧kF M' w'∧rB M' β' w' bx'∧
   (∀x b c,x∈names bx'→β' x=some (b,c)→w.heap.size≤b∨∃y c',β y=some (b,c'))∧
   w'.os=w.os∧w'.tape=w.tape∧w'.output=w.output∧w.heap.size≤w'.heap.size∧(∀k,k<w.heap.size→(∀y c,β y≠some (k,c))→w'.heap[k]? =w.heap[k]?)∧Dr w w':=by
  intro pY
  have cK:∀x,x∈names bx'→∃b,aH σ'.box x=some (some b):=fun x hx=>by
   obtain⟨b,hb⟩:=jA hx
   exact⟨b,iM.get pY hb⟩
  refine⟨i'.defers,.tuple #[],?_,_,M',β',rfl,?_,⟨[],rfl,trivial⟩,hg,i'.mem,?_,?_,kG.os,kG.tape,kG.output,kG.size,?_,kG.drawn⟩
  ·have e0:fn.results= #[]:=by
    rw[←Array.toArray_toList (xs:=fn.results),LR]
   have:(fn.results.mapM (lG a'.tmps)).run P w'=.ok #[] w':=by
    rw[e0];simp only [Array.mapM_empty,Sem.run_pure]
   have e:results fn a'.tmps=(do let vs←fn.results.mapM (lG a'.tmps);pure (if h:vs.size=1 then vs[0]else .tuple vs)):=by
    unfold results
    congr 1
   rw[e]
   simp only [Sem.run_bind,this,Result.andThen,Sem.run_pure]
   rfl
  ·intro x p e
   rw[(i'.ref x (hβ x p e)).1]
   exact e
  ·refine⟨fun x hx=>?_,fun x b hb=>i'.box x b (iM.get pY hb),fun x y b c c' hx hy e1 e2=>?_,fun x b c hx e o=>?_⟩
   ·obtain⟨b,hb⟩:=jA hx
    rw[List.all_eq_true]at jW
    exact(i'.box x b (iM.get pY hb)).exb (jW _ hb)
   ·obtain⟨CW,h1⟩:=cK x hx
    obtain⟨bx2,h2⟩:=cK y hy
    exact i'.inj x y CW bx2 b c c' h1 h2 e1 e2
   ·obtain⟨CW,h1⟩:=cK x hx
    exact i'.apart x CW b c h1 e o
  ·intro x b c hx e
   obtain⟨CW,h1⟩:=cK x hx
   rcases i'.low x CW b c h1 e with h|⟨y,c',hy,RG⟩
   ·exact .inl h
   ·exact .inr ⟨y,c',RG⟩
  ·intro k hk hnk
   exact kG.block k hk (by rintro⟨x,c,_,hx⟩;exact hnk x c hx)
 cases e with
 |ret=>exact fin hk
 |normal=>exact fin hk
 |_=>exact hk.elim
end
end Go.Ax
