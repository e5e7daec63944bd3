/- Part 2: lemmas that the proofs of this seat share; by itself it claims nothing. -/
import Derived.Scope
import Derived.Control
import Derived.ProofKit
import Derived.OpenShut
import Derived.Deep.Slices
import Ieee.Arith
import GoSem.Core.Float
import Derived.Test.YtaalojbkjiplcaaGreatDoorPt1
namespace Go.Ax
open Go.RowKit
def look(ren:List (Nat×Nat))(x:Nat):Nat:=
 match ren with
 |[]=>x
 |(a,b)::r=>bif Nat.beq a x then b else look r x
def FT(ren:List (Nat×Nat)):CV→CV
 |.d x=>.d x
 |.ptr x off=>.ptr (look ren x) off
def FQ(ren:List (Nat×Nat)):List CV→List CV
 |[]=>[]
 |x::r=>FT ren x::FQ ren r
def uL(ren:List (Nat×Nat)):SV→SV
 |.d x=>.d x
 |.ptr x off=>.ptr (look ren x) off
 |.own x=>.own (look ren x)
 |.mo z x=>.mo z (look ren x)
 |.rw x i s o=>.rw (look ren x) i s o
 |.dQ f cs=>.dQ f (FQ ren cs)
 |.jQ x s lo n=>.jQ (look ren x) s lo n
 |.mp x=>.mp (look ren x)
def lJ(ren:List (Nat×Nat)):List SV→List SV
 |[]=>[]
 |x::r=>uL ren x::lJ ren r
def Y7(ren:List (Nat×Nat)):TV→TV
 |.s x=>.s (uL ren x)
 |.g cs=>.g (lJ ren cs)
def z1(ren:List (Nat×Nat)):List TV→List TV
 |[]=>[]
 |x::r=>Y7 ren x::z1 ren r
def nH(ren:List (Nat×Nat)):AV→AV
 |.s x=>.s (uL ren x)
 |.g cs=>.g (lJ ren cs)
 |.ib b x=>.ib b (uL ren x)
 |.ig b cs=>.ig b (lJ ren cs)
 |.t ts=>.t (z1 ren ts)
def xY(ren:List (Nat×Nat)):List AV→List AV
 |[]=>[]
 |x::r=>nH ren x::xY ren r
def jN(ren:List (Nat×Nat)):jM→jM
 |.cells cs=>.cells (lJ ren cs)
 |.row e n s f=>.row e n s f
 |.bW e n s f=>.bW e n s f
 |.map vk l=>.map vk l
 |.smap vk l=>.smap vk l
 |.dm l n=>.dm l n
 |.fresh T vs=>.fresh T vs
 |.iter m n seen=>.iter (look ren m) n seen
def inC(xs:List Nat):List CV→Bool
 |[]=>true
 |.d _::r=>inC xs r
 |.ptr x _::r=>xs.contains x&&inC xs r
def J4(xs:List Nat):SV→Bool
 |.d _=>true
 |.ptr x _=>xs.contains x
 |.own x=>xs.contains x
 |.mo _ x=>xs.contains x
 |.rw x _ _ _=>xs.contains x
 |.dQ _ cs=>inC xs cs
 |.jQ x _ _ _=>xs.contains x
 |.mp x=>xs.contains x
def GU(xs:List Nat):List SV→Bool
 |[]=>true
 |x::r=>J4 xs x&&GU xs r
def inT(xs:List Nat):TV→Bool
 |.s x=>J4 xs x
 |.g cs=>GU xs cs
def OZ(xs:List Nat):List TV→Bool
 |[]=>true
 |x::r=>inT xs x&&OZ xs r
def WD(xs:List Nat):AV→Bool
 |.s x=>J4 xs x
 |.g cs=>GU xs cs
 |.t ts=>OZ xs ts
 |_=>false
def aAA(xs:List Nat):List AV→Bool
 |[]=>true
 |x::r=>WD xs x&&aAA xs r
def QN(xs:List Nat):jM→Bool
 |.cells cs=>GU xs cs
 |.row _ _ _ _=>true
 |.bW _ _ _ _=>false
 |.map _ _=>true
 |.smap _ _=>true
 |.dm _ _=>true
 |.fresh _ _=>true
 |.iter m _ _=>xs.contains m
section
variable{M:Mem}{ren:List (Nat×Nat)}{xs:List Nat}{β β':Nm}
theorem FT.rep(h:∀x,x∈xs→∀p,β (look ren x)=some p→β' x=some p):∀{cs:List CV} {vs:List Value},inC xs cs=true→tR M β (FQ ren cs) vs→tR M β' cs vs
 |[],[],_,_=>trivial
 |.d _::_,_::_,hi,⟨a,r⟩=>⟨a,FT.rep h (by simpa [inC]using hi) r⟩
 |.ptr x off::_,_::_,hi,⟨⟨b,c,e,hv⟩,r⟩=>by
  simp only [inC,Bool.and_eq_true]at hi
  exact⟨⟨b,c,h x (by simpa using hi.1) _ e,hv⟩,FT.rep h hi.2 r⟩
 |[],_::_,_,h=>h.elim
 |_::_,[],_,h=>h.elim
theorem uL.rep(h:∀x,x∈xs→∀p,β (look ren x)=some p→β' x=some p){x:SV}{v:Value}(hi:J4 xs x=true)(r:(uL ren x).a7 M β v):x.a7 M β' v:=by
 cases x with
 |d x=>exact r
 |ptr x off=>obtain⟨b,c,e,hv⟩:=r;exact⟨b,c,h x (by simpa [J4]using hi) _ e,hv⟩
 |own x=>obtain⟨b,c,e,hv⟩:=r;exact⟨b,c,h x (by simpa [J4]using hi) _ e,hv⟩
 |mo z x=>exact⟨r.1,fun hz=>let⟨b,c,e,hv⟩:=r.2 hz;⟨b,c,h x (by simpa [J4]using hi) _ e,hv⟩⟩
 |rw x i s o=>obtain⟨b,c,e,hv⟩:=r;exact⟨b,c,h x (by simpa [J4]using hi) _ e,hv⟩
 |dQ f cs=>obtain⟨vs,e,hv⟩:=r;exact⟨vs,e,FT.rep h hi hv⟩
 |jQ x s lo n=>obtain⟨b,c,o,e,hv⟩:=r;exact⟨b,c,o,h x (by simpa [J4]using hi) _ e,hv⟩
 |mp x=>obtain⟨b,c,e,hv⟩:=r;exact⟨b,c,h x (by simpa [J4]using hi) _ e,hv⟩
theorem lJ.rep(h:∀x,x∈xs→∀p,β (look ren x)=some p→β' x=some p):∀{cs:List SV} {vs:List Value},GU xs cs=true→cK M β (lJ ren cs) vs→cK M β' cs vs
 |[],[],_,_=>trivial
 |_::_,_::_,hi,⟨a,r⟩=>by
  simp only [GU,Bool.and_eq_true]at hi
  exact⟨uL.rep h hi.1 a,lJ.rep h hi.2 r⟩
 |[],_::_,_,h=>h.elim
 |_::_,[],_,h=>h.elim
theorem nH.rep(h:∀x,x∈xs→∀p,β (look ren x)=some p→β' x=some p){x:AV}{v:Value}(hi:WD xs x=true)(r:(nH ren x).a7 M β v):x.a7 M β' v:=by
 cases x with
 |s x=>exact uL.rep h hi r
 |g cs=>obtain⟨vs,e,hv⟩:=r;exact⟨vs,e,lJ.rep h hi hv⟩
 |t ts=>
  obtain⟨vs,e,hv⟩:=r
  refine⟨vs,e,?_⟩
  have:∀{ts:List TV} {vs:List Value},OZ xs ts=true→p9 M β (z1 ren ts) vs→p9 M β' ts vs:=by
   intro ts
   induction ts with
   |nil=>
    intro vs _ hr
    cases vs with
    |nil=>trivial
    |cons _ _=>exact hr.elim
   |cons t r ih=>
    intro vs hi hr
    simp only [OZ,Bool.and_eq_true]at hi
    cases vs with
    |nil=>exact hr.elim
    |cons u us=>
     refine⟨?_,ih hi.2 hr.2⟩
     cases t with
     |s x=>exact uL.rep h hi.1 hr.1
     |g cs=>obtain⟨q,e,hq⟩:=hr.1;exact⟨q,e,lJ.rep h hi.1 hq⟩
  exact this hi hv
 |_=>cases hi
theorem xY.rep(h:∀x,x∈xs→∀p,β (look ren x)=some p→β' x=some p):∀{cs:List AV} {vs:List Value},aAA xs cs=true→gU M β (xY ren cs) vs→gU M β' cs vs
 |[],[],_,_=>trivial
 |_::_,_::_,hi,⟨a,r⟩=>by
  simp only [aAA,Bool.and_eq_true]at hi
  exact⟨nH.rep h hi.1 a,xY.rep h hi.2 r⟩
 |[],_::_,_,h=>h.elim
 |_::_,[],_,h=>h.elim
theorem jN.rep(h:∀x,x∈xs→∀p,β (look ren x)=some p→β' x=some p){w:World}{x:Nat}{b:jM}(hx:x∈xs)(hi:QN xs b=true)(r:cH M β w (look ren x) (jN ren b)):cH M β' w x b:=by
 cases b with
 |cells cs=>obtain⟨k,c,vs,T,us,e,hh,hr⟩:=r;exact⟨k,c,vs,T,us,h x hx _ e,hh,lJ.rep h hi hr⟩
 |row e n s f=>obtain⟨k,c,cur,e',r⟩:=r;exact⟨k,c,cur,h x hx _ e',r⟩
 |bW e n s f=>cases hi
 |map vk l=>obtain⟨k,c,e,hh⟩:=r;exact⟨k,c,h x hx _ e,hh⟩
 |smap vk l=>obtain⟨k,c,e,hh⟩:=r;exact⟨k,c,h x hx _ e,hh⟩
 |dm l n=>obtain⟨k,c,vs,e,hh⟩:=r;exact⟨k,c,vs,h x hx _ e,hh⟩
 |fresh T vs=>obtain⟨k,c,e,hh⟩:=r;exact⟨k,c,h x hx _ e,hh⟩
 |iter m n seen=>obtain⟨k,c,bm,cm,e,em,hh⟩:=r;exact⟨k,c,bm,cm,h x hx _ e,h m (by simpa [QN]using hi) _ em,hh⟩
theorem FT.back(h:∀x,x∈xs→∀p,β' x=some p→β (look ren x)=some p):∀{cs:List CV} {vs:List Value},inC xs cs=true→tR M β' cs vs→tR M β (FQ ren cs) vs
 |[],[],_,_=>trivial
 |.d _::_,_::_,hi,⟨a,r⟩=>⟨a,FT.back h (by simpa [inC]using hi) r⟩
 |.ptr x off::_,_::_,hi,⟨⟨b,c,e,hv⟩,r⟩=>by
  simp only [inC,Bool.and_eq_true]at hi
  exact⟨⟨b,c,h x (by simpa using hi.1) _ e,hv⟩,FT.back h hi.2 r⟩
 |[],_::_,_,h=>h.elim
 |_::_,[],_,h=>h.elim
theorem uL.back(h:∀x,x∈xs→∀p,β' x=some p→β (look ren x)=some p){x:SV}{v:Value}(hi:J4 xs x=true)(r:x.a7 M β' v):(uL ren x).a7 M β v:=by
 cases x with
 |d x=>exact r
 |ptr x off=>obtain⟨b,c,e,hv⟩:=r;exact⟨b,c,h x (by simpa [J4]using hi) _ e,hv⟩
 |own x=>obtain⟨b,c,e,hv⟩:=r;exact⟨b,c,h x (by simpa [J4]using hi) _ e,hv⟩
 |mo z x=>exact⟨r.1,fun hz=>let⟨b,c,e,hv⟩:=r.2 hz;⟨b,c,h x (by simpa [J4]using hi) _ e,hv⟩⟩
 |rw x i s o=>obtain⟨b,c,e,hv⟩:=r;exact⟨b,c,h x (by simpa [J4]using hi) _ e,hv⟩
 |dQ f cs=>obtain⟨vs,e,hv⟩:=r;exact⟨vs,e,FT.back h hi hv⟩
 |jQ x s lo n=>obtain⟨b,c,o,e,hv⟩:=r;exact⟨b,c,o,h x (by simpa [J4]using hi) _ e,hv⟩
 |mp x=>obtain⟨b,c,e,hv⟩:=r;exact⟨b,c,h x (by simpa [J4]using hi) _ e,hv⟩
theorem lJ.back(h:∀x,x∈xs→∀p,β' x=some p→β (look ren x)=some p):∀{cs:List SV} {vs:List Value},GU xs cs=true→cK M β' cs vs→cK M β (lJ ren cs) vs
 |[],[],_,_=>trivial
 |_::_,_::_,hi,⟨a,r⟩=>by
  simp only [GU,Bool.and_eq_true]at hi
  exact⟨uL.back h hi.1 a,lJ.back h hi.2 r⟩
 |[],_::_,_,h=>h.elim
 |_::_,[],_,h=>h.elim
theorem nH.back(h:∀x,x∈xs→∀p,β' x=some p→β (look ren x)=some p){x:AV}{v:Value}(hi:WD xs x=true)(r:x.a7 M β' v):(nH ren x).a7 M β v:=by
 cases x with
 |s x=>exact uL.back h hi r
 |g cs=>obtain⟨vs,e,hv⟩:=r;exact⟨vs,e,lJ.back h hi hv⟩
 |t ts=>
  obtain⟨vs,e,hv⟩:=r
  refine⟨vs,e,?_⟩
  have:∀{ts:List TV} {vs:List Value},OZ xs ts=true→p9 M β' ts vs→p9 M β (z1 ren ts) vs:=by
   intro ts
   induction ts with
   |nil=>
    intro vs _ hr
    cases vs with
    |nil=>trivial
    |cons _ _=>exact hr.elim
   |cons t r ih=>
    intro vs hi hr
    simp only [OZ,Bool.and_eq_true]at hi
    cases vs with
    |nil=>exact hr.elim
    |cons u us=>
     refine⟨?_,ih hi.2 hr.2⟩
     cases t with
     |s x=>exact uL.back h hi.1 hr.1
     |g cs=>obtain⟨q,e,hq⟩:=hr.1;exact⟨q,e,lJ.back h hi.1 hq⟩
  exact this hi hv
 |_=>cases hi
theorem jN.back(h:∀x,x∈xs→∀p,β' x=some p→β (look ren x)=some p){w:World}{x:Nat}{b:jM}(hx:x∈xs)(hi:QN xs b=true)(r:cH M β' w x b):cH M β w (look ren x) (jN ren b):=by
 cases b with
 |cells cs=>obtain⟨k,c,vs,T,us,e,hh,hr⟩:=r;exact⟨k,c,vs,T,us,h x hx _ e,hh,lJ.back h hi hr⟩
 |row e n s f=>obtain⟨k,c,cur,e',r⟩:=r;exact⟨k,c,cur,h x hx _ e',r⟩
 |bW e n s f=>cases hi
 |map vk l=>obtain⟨k,c,e,hh⟩:=r;exact⟨k,c,h x hx _ e,hh⟩
 |smap vk l=>obtain⟨k,c,e,hh⟩:=r;exact⟨k,c,h x hx _ e,hh⟩
 |dm l n=>obtain⟨k,c,vs,e,hh⟩:=r;exact⟨k,c,vs,h x hx _ e,hh⟩
 |fresh T vs=>obtain⟨k,c,e,hh⟩:=r;exact⟨k,c,h x hx _ e,hh⟩
 |iter m n seen=>obtain⟨k,c,bm,cm,e,em,hh⟩:=r;exact⟨k,c,bm,cm,h x hx _ e,h m (by simpa [QN]using hi) _ em,hh⟩
end
abbrev eO:=List (Nat×jM)
def names:eO→List Nat
 |[]=>[]
 |(x,_)::r=>x::names r
theorem cX{x:Nat}{b:jM}:∀{bx:eO},(x,b)∈bx→x∈names bx
 |[],h=>by cases h
 |(y,c)::r,h=>by
  cases h with
  |head=>simp[names]
  |tail _ h=>exact List.mem_cons_of_mem _ (cX h)
theorem jI{x:Nat}:∀{bx:eO},x∈names bx→∃b,(x,b)∈bx
 |[],h=>by cases h
 |(y,c)::r,h=>by
  simp only [names,List.mem_cons]at h
  rcases h with rfl|h
  ·exact⟨c,sM⟩
  ·obtain⟨b,hb⟩:=jI h;exact⟨b,List.mem_cons_of_mem _ hb⟩
structure qR(M:Mem)(β:Nm)(w:World)(bx:eO):Prop where
 has:∀x,x∈names bx→∃b c,β x=some (b,c)
 rep:∀x b,(x,b)∈bx→cH M β w x b
 inj:∀x y b c c',x∈names bx→y∈names bx→β x=some (b,c)→β y=some (b,c')→x=y
 apart:∀x b c,x∈names bx→β x=some (b,c)→∀o,M b o=none
def bM(P:Program)(f:FuncId)(args:List AV)(bx:eO)(r:AV)(bx':eO):Prop:=
 (∀vs w,(callFunc f vs).run P w=.ok (.enter f vs) w)∧
 ∀(M:Mem) (β:Nm) (w:World) (vs:List Value),(∃bs,BT bs w∧∀g t,(g,t)∈rH bs→∀x c,β x≠some (g,c))→gU M β args vs→kF M w→qR M β w bx→(∀x p,β x=some p→x∈names bx)→
  Calls P f vs.toArray w fun e w'=>∃v M' β',e=.returned v∧Nm.le β β'∧r.a7 M' β' v∧Grow w.heap.size M M'∧kF M' w'∧qR M' β' w' bx'∧
   (∀x b c,x∈names bx'→β' x=some (b,c)→w.heap.size≤b∨∃y c',β y=some (b,c'))∧
   w'.os=w.os∧w'.tape=w.tape∧w'.output=w.output∧w.heap.size≤w'.heap.size∧(∀k,k<w.heap.size→(∀y c,β y≠some (k,c))→w'.heap[k]? =w.heap[k]?)∧Dr w w'
def mM(ren:List (Nat×Nat))(box:aO):eO→Prop
 |[]=>True
 |(x,b)::r=>aH box (look ren x)=some (some (jN ren b))∧mM ren box r
theorem mM.get{ren:List (Nat×Nat)}{box:aO}{x:Nat}{b:jM}:∀{bx:eO},mM ren box bx→(x,b)∈bx→aH box (look ren x)=some (some (jN ren b))
 |[],_,h=>by cases h
 |(y,c)::r,⟨h,hr⟩,hm=>by
  cases hm with
  |head=>exact h
  |tail _ hm=>exact mM.get hr hm
def q8(ren:List (Nat×Nat))(box:aO):eO→aO
 |[]=>box
 |(x,b)::r=>(look ren x,some (jN ren b))::q8 ren box r
def jJ(ren:List (Nat×Nat))(box:aO):eO→aO
 |[]=>box
 |(x,_)::r=>(look ren x,none)::jJ ren box r
theorem q8.get{ren:List (Nat×Nat)}{box:aO}{y:Nat}:∀{bx:eO},(∃x b,(x,b)∈bx∧look ren x=y∧aH (q8 ren box bx) y=some (some (jN ren b)))∨((∀x,x∈names bx→look ren x≠y)∧aH (q8 ren box bx) y=aH box y)
 |[]=>.inr ⟨fun x h=>(by cases h),rfl⟩
 |(x,b)::r=>by
  by_cases h:look ren x=y
  ·exact .inl ⟨x,b,sM,h,by simp only [q8];rw[aL,if_pos h]⟩
  ·rcases q8.get (ren:=ren) (box:=box) (y:=y) (bx:=r)with⟨x',b',h1,h2,h3⟩|⟨h1,h2⟩
   ·exact .inl ⟨x',b',List.mem_cons_of_mem _ h1,h2,by simp only [q8];rw[aL,if_neg h];exact h3⟩
   ·refine .inr ⟨fun z hz=>?_,by simp only [q8];rw[aL,if_neg h];exact h2⟩
    simp only [names,List.mem_cons]at hz
    rcases hz with rfl|hz
    ·exact h
    ·exact h1 z hz
theorem jJ.get{ren:List (Nat×Nat)}{box:aO}{y:Nat}:∀{bx:eO},((∃x,x∈names bx∧look ren x=y)∧aH (jJ ren box bx) y=some none)∨((∀x,x∈names bx→look ren x≠y)∧aH (jJ ren box bx) y=aH box y)
 |[]=>.inr ⟨fun x h=>(by cases h),rfl⟩
 |(x,b)::r=>by
  by_cases h:look ren x=y
  ·exact .inl ⟨⟨x,by simp[names],h⟩,by simp only [jJ];rw[aL,if_pos h]⟩
  ·rcases jJ.get (ren:=ren) (box:=box) (y:=y) (bx:=r)with⟨⟨x',h1,h2⟩,h3⟩|⟨h1,h2⟩
   ·exact .inl ⟨⟨x',List.mem_cons_of_mem _ h1,h2⟩,by simp only [jJ];rw[aL,if_neg h];exact h3⟩
   ·refine .inr ⟨fun z hz=>?_,by simp only [jJ];rw[aL,if_neg h];exact h2⟩
    simp only [names,List.mem_cons]at hz
    rcases hz with rfl|hz
    ·exact h
    ·exact h1 z hz
def GW(xs:List Nat):eO→Bool
 |[]=>true
 |(_,b)::r=>QN xs b&&GW xs r
theorem QN.real{xs:List Nat}{b:jM}(h:QN xs b=true):b.real=true:=by
 cases b with
 |bW e n s f=>cases h
 |_=>rfl
theorem GW.get{xs:List Nat}{x:Nat}{b:jM}:∀{bx:eO},GW xs bx=true→(x,b)∈bx→QN xs b=true
 |[],_,h=>by cases h
 |(y,c)::r,h,hm=>by
  simp only [GW,Bool.and_eq_true]at h
  cases hm with
  |head=>exact h.1
  |tail _ hm=>exact GW.get h.2 hm
def GR(ren:List (Nat×Nat))(xs:List Nat):Bool:=xs.all fun x=>xs.all fun y=>Nat.beq x y|| !(Nat.beq (look ren x) (look ren y))
def nL(ren:List (Nat×Nat))(box:aO)(xs:List Nat):List Nat→Bool
 |[]=>true
 |x::r=>(xs.contains x||(match aH box (look ren x)with|none=>true|some _=>false))&&nL ren box xs r
theorem nL.get{ren:List (Nat×Nat)}{box:aO}{xs:List Nat}{x:Nat}:∀{l:List Nat},nL ren box xs l=true→x∈l→x∉xs→aH box (look ren x)=none
 |[],_,h,_=>by cases h
 |y::r,h,hm,hx=>by
  simp only [nL,Bool.and_eq_true,Bool.or_eq_true]at h
  cases hm with
  |head=>
   rcases h.1 with h1|h1
   ·exact absurd (by simpa using h1) hx
   ·split at h1
    ·assumption
    ·cases h1
  |tail _ hm=>exact nL.get h.2 hm hx
def z7(ren:List (Nat×Nat))(box:aO)(args:List AV)(bx:eO)(r:AV)(bx':eO):Bool:=
 aAA (names bx) args&&GW (names bx) bx&&WD (names bx') r&&GW (names bx') bx'&&GR ren (names bx++names bx')&&nL ren box (names bx) (names bx')
def aDW(P:Program)(σ:St)(f:FuncId)(ars:List AV)(K:AV→aO→Prop):Prop:=
 ∃ren args bx r bx',bM P f args bx r bx'∧ars=xY ren args∧mM ren σ.box bx∧z7 ren σ.box args bx r bx'=true∧K (nH ren r) (q8 ren (jJ ren σ.box bx) bx')
def HU(P:Program)(σ:St)(vf:AV)(args:List AV)(K:AV→aO→Prop):Prop:=
 match vf with
 |.s (.dQ f cs)=>aDW P σ f (args++uR cs) K
 |_=>False
theorem Inv.aB3{P:Program}{cx:Cx}{N:Nat}{M:Mem}{β:Nm}{σ:St}{a:Act}{w:World}(i:Inv cx N M β σ a w){ren:List (Nat×Nat)}{f:FuncId}{args:List AV}{bx:eO}{r:AV}{bx':eO}
  (hc:bM P f args bx r bx') (hm:mM ren σ.box bx) (fT:z7 ren σ.box args bx r bx'=true) {vs:List Value} (hv:gU M β (xY ren args) vs):
  Calls P f vs.toArray w fun e w'=>∃v M' β',e=.returned v∧(nH ren r).a7 M' β' v∧Inv cx N M' β' ⟨σ.env,q8 ren (jJ ren σ.box bx) bx'⟩ a w'∧Grow cx.B M M'∧b6 cx w w'∧((∀x,x∈names bx'→x∈names bx)→β'=β):=by
 classical
 simp only [z7,Bool.and_eq_true]at fT
 obtain⟨⟨⟨⟨⟨k1,k2⟩,k3⟩,k4⟩,k5⟩,k6⟩:=fT
 have PA:∀x y,x∈names bx++names bx'→y∈names bx++names bx'→look ren x=look ren y→x=y:=by
  intro x y hx hy e
  simp only [GR,List.all_eq_true]at k5
  have:=k5 x hx y hy
  simp only [Bool.or_eq_true]at this
  rcases this with h|h
  ·exact Nat.eq_of_beq_eq_true h
  ·rw[e]at h;simp at h
 let βh:Nm:=fun x=>if x∈names bx then β (look ren x)else none
 have hβh:∀x,x∈names bx→∀p,β (look ren x)=some p→βh x=some p:=fun x hx p e=>by simp[βh,hx,e]
 have xZ:∀x p,βh x=some p→x∈names bx∧β (look ren x)=some p:=fun x p e=>by
  simp only [βh]at e
  split at e
  ·exact⟨by assumption,e⟩
  ·cases e
 have cI:∀x,x∈names bx→∃b,aH σ.box (look ren x)=some (some b):=fun x hx=>by
  obtain⟨b,hb⟩:=jI hx
  exact⟨_,hm.get hb⟩
 have R0:qR M βh w bx:=by
  have dU:∀x b,(x,b)∈bx→cH M βh w x b:=fun x b hb=>jN.rep hβh (cX hb) (GW.get k2 hb) (i.box _ _ (hm.get hb))
  refine⟨fun x hx=>let⟨b,hb⟩:=jI hx;(dU x b hb).exb (QN.real (GW.get k2 hb)),dU,fun x y b c c' hx hy e1 e2=>?_,fun x b c hx e o=>?_⟩
  ·obtain⟨bX,hX⟩:=cI x hx
   obtain⟨bY,hY⟩:=cI y hy
   have:=i.inj _ _ _ _ b c c' hX hY (xZ x _ e1).2 (xZ y _ e2).2
   exact PA x y (List.mem_append_left _ hx) (List.mem_append_left _ hy) this
  ·obtain⟨bX,hX⟩:=cI x hx
   exact i.apart _ _ b c hX (xZ x _ e).2 o
 have aL9:∃bs,BT bs w∧∀g t,(g,t)∈rH bs→∀x c,βh x≠some (g,c):=by
  obtain⟨bs,t1,t2⟩:=i.heap.tab
  refine⟨bs,t1,fun g t m x c e=>?_⟩
  obtain⟨hxn,e⟩:=xZ x _ e
  obtain⟨bX,hX⟩:=cI x hxn
  obtain⟨q1,q2⟩:=t2 g t m
  rcases i.low _ _ g c hX e with h|h
  ·omega
  ·exact q2 h
 refine(hc.2 M βh w vs aL9 (xY.rep hβh k1 hv) i.mem R0 (fun x p e=>(xZ x p e).1)).mono ?_
 rintro e w' ⟨v,M',β1,rfl,hle,hr,hg,j0,WN,hblk,ho,htp,hou,lT,x3,hdr⟩
 let β2:Nm:=fun y=>if h:∃x,x∈names bx'∧x∉names bx∧look ren x=y then β1 (Classical.choose h)else β y
 have WK:∀x,x∈names bx'→x∉names bx→β2 (look ren x)=β1 x:=by
  intro x hx hn
  have hex:∃z,z∈names bx'∧z∉names bx∧look ren z=look ren x:=⟨x,hx,hn,rfl⟩
  have hs:=Classical.choose_spec hex
  have:Classical.choose hex=x:=PA _ _ (List.mem_append_right _ hs.1) (List.mem_append_right _ hx) hs.2.2
  simp only [β2,dif_pos hex,this]
 have O7:∀y,(∀x,x∈names bx'→x∉names bx→look ren x≠y)→β2 y=β y:=by
  intro y hy
  have:¬∃x,x∈names bx'∧x∉names bx∧look ren x=y:=fun ⟨x,h1,h2,h3⟩=>hy x h1 h2 h3
  simp only [β2,dif_neg this]
 have hβ2:Nm.le β β2:=by
  intro y p e
  rw[O7 y (fun x h1 h2 h3=>?_)]
  ·exact e
  ·obtain⟨q,hq⟩:=i.keys y p e
   rw[←h3,nL.get k6 h1 h2]at hq
   cases hq
 have lE:∀x,x∈names bx'→∀p,β1 x=some p→β2 (look ren x)=some p:=by
  intro x hx p e
  by_cases hn:x∈names bx
  ·obtain⟨bX,hX⟩:=jI hn
   obtain⟨b,c,e'⟩:=R0.has x hn
   have:=hle x _ e'
   rw[this]at e;cases e
   exact hβ2 _ _ (xZ x _ e').2
  ·rw[WK x hx hn];exact e
 have aJP:∀x,x∈names bx'→∀p,β2 (look ren x)=some p→β1 x=some p:=by
  intro x hx p e
  by_cases hn:x∈names bx
  ·obtain⟨bX,hX⟩:=jI hn
   obtain⟨b,c,e'⟩:=R0.has x hn
   have h1:=hle x _ e'
   have h2:=hβ2 _ _ (xZ x _ e').2
   rw[h2]at e;cases e
   exact h1
  ·rw[WK x hx hn]at e;exact e
 have aEW:∀y bc,aH (q8 ren (jJ ren σ.box bx) bx') y=some (some bc)→(∃x b,(x,b)∈bx'∧look ren x=y∧bc=jN ren b)∨
   ((∀x,x∈names bx'→look ren x≠y)∧(∀x,x∈names bx→look ren x≠y)∧aH σ.box y=some (some bc)):=by
  intro y bc e
  rcases q8.get (ren:=ren) (box:=jJ ren σ.box bx) (y:=y) (bx:=bx')with⟨x,b,h1,h2,h3⟩|⟨h1,h2⟩
  ·rw[h3]at e;cases e
   exact .inl ⟨x,b,h1,h2,rfl⟩
  ·rw[h2]at e
   rcases jJ.get (ren:=ren) (box:=σ.box) (y:=y) (bx:=bx)with⟨_,h4⟩|⟨h3,h4⟩
   ·rw[h4]at e;cases e
   ·rw[h4]at e
    exact .inr ⟨h1,h3,e⟩
 have aGR:∀y bc b c,aH σ.box y=some (some bc)→(∀x,x∈names bx→look ren x≠y)→β y=some (b,c)→∀z c',βh z≠some (b,c'):=by
  intro y bc b c hy hny e z c' hz
  obtain⟨hzn,hz2⟩:=xZ z _ hz
  obtain⟨bZ,hZ⟩:=cI z hzn
  exact hny z hzn (i.inj _ _ _ _ b c' c hZ hy hz2 e)
 have iT:∀y bc b c,aH (q8 ren (jJ ren σ.box bx) bx') y=some (some bc)→β2 y=some (b,c)→(∃x,x∈names bx'∧look ren x=y∧β1 x=some (b,c))∨
   ((∀x,x∈names bx→look ren x≠y)∧aH σ.box y=some (some bc)∧β y=some (b,c)):=by
  intro y bc b c e e2
  rcases aEW y bc e with⟨x,b',h1,rfl,_⟩|⟨h1,h2,h3⟩
  ·exact .inl ⟨x,cX h1,rfl,aJP x (cX h1) _ e2⟩
  ·rw[O7 y (fun x hx _=>h1 x hx)]at e2
   exact .inr ⟨h2,h3,e2⟩
 have kp:b6 cx w w':=⟨ho,htp,hou,lT,fun k hk hmw=>by
   refine x3 k (Nat.lt_of_lt_of_le hk i.heap.le) (fun z c hz=>?_)
   obtain⟨hzn,hz2⟩:=xZ z _ hz
   obtain⟨bZ,hZ⟩:=cI z hzn
   rcases i.low _ _ k c hZ hz2 with h|h
   ·omega
   ·exact hmw h,hdr⟩
 refine⟨v,M',β2,rfl,nH.back (fun x hx p e=>lE x hx p e) k3 hr,⟨i.defers,i.tmps,i.heap.keep kp,fun t=>AV.a7.mono hg.le hβ2 (i.env t),j0,?_,?_,?_,?_,?_,?_⟩,
  ⟨hg.le,fun b o u e=>(hg.new b o u e).imp id (fun h=>Nat.le_trans i.heap.le h)⟩,kp,fun gK=>funext fun y=>O7 y (fun x h1 h2 _=>h2 (gK x h1))⟩
 ·intro y p e
  rcases q8.get (ren:=ren) (box:=jJ ren σ.box bx) (y:=y) (bx:=bx')with⟨x,b,h1,h2,h3⟩|⟨h1,h2⟩
  ·exact⟨_,h3⟩
  ·rw[O7 y (fun x hx _=>h1 x hx)]at e
   rcases jJ.get (ren:=ren) (box:=σ.box) (y:=y) (bx:=bx)with⟨_,h4⟩|⟨_,h4⟩
   ·exact⟨_,h2.trans h4⟩
   ·obtain⟨q,hq⟩:=i.keys y p e
    exact⟨q,h2.trans (h4.trans hq)⟩
 ·intro y bc e
  rcases aEW y bc e with⟨x,b',h1,rfl,rfl⟩|⟨h1,h2,h3⟩
  ·exact jN.back (fun z hz p e=>lE z hz p e) (cX h1) (GW.get k4 h1) (WN.rep x b' h1)
  ·have hrr:=i.box y bc h3
   exact cH.mono hg.le hβ2 (O7 y (fun x hx _=>h1 x hx)) (fun b c e'=>x3 b (i.tQ h3 e') (fun z c'=>aGR y bc b c h3 h2 e' z c')) hrr
 ·intro y z by' bz b c c' ey ez hy hz
  rcases iT y by' b c ey hy with⟨x,h1,rfl,h3⟩|⟨h1,h2,h3⟩
  ·rcases iT z bz b c' ez hz with⟨x',k1',rfl,k3'⟩|⟨k1',k2',k3'⟩
   ·rw[WN.inj x x' b c c' h1 k1' h3 k3']
   ·exfalso
    rcases hblk x b c h1 h3 with hb|⟨u,cu,hu⟩
    ·have:=i.tQ k2' k3';omega
    ·exact aGR z bz b c' k2' k1' k3' u cu hu
  ·rcases iT z bz b c' ez hz with⟨x',k1',rfl,k3'⟩|⟨k1',k2',k3'⟩
   ·exfalso
    rcases hblk x' b c' k1' k3' with hb|⟨u,cu,hu⟩
    ·have:=i.tQ h2 h3;omega
    ·exact aGR y by' b c h2 h1 h3 u cu hu
   ·exact i.inj y z by' bz b c c' h2 k2' h3 k3'
 ·intro y bc b c e e2 o
  rcases iT y bc b c e e2 with⟨x,h1,rfl,h3⟩|⟨h1,h2,h3⟩
  ·exact WN.apart x b c h1 h3 o
  ·cases hmm:M' b o with
   |none=>rfl
   |some u=>
    rcases hg.new b o u hmm with h|h
    ·rw[i.apart y bc b c h2 h3 o]at h;cases h
    ·have:=i.tQ h2 h3;omega
 ·intro y bc b c e e2
  rcases iT y bc b c e e2 with⟨x,h1,rfl,h3⟩|⟨h1,h2,h3⟩
  ·rcases hblk x b c h1 h3 with hb|⟨u,cu,hu⟩
   ·exact .inl (Nat.le_trans i.heap.le hb)
   ·obtain⟨T7,hu2⟩:=xZ u _ hu
    obtain⟨bU,hU⟩:=cI u T7
    exact i.low _ _ b cu hU hu2
  ·exact i.low y bc b c h2 h3
 ·intro x hx
  obtain⟨h1,p,h2⟩:=i.ref x hx
  have:=hβ2 x p h2
  exact⟨by rw[this,←h1,h2],p,this⟩
section
variable{P:Program}{σ:St}{o:Oper}
theorem aBL.spec{fo:Operand}{l:List Operand}{K:AV→aO→Prop}(ho:∃args uX,o.op=.call {callee:=.value fo,args:=args,argTypes:=uX}∧args.toList=l)
  (h:fe none (ev σ fo) fun vf=>dO none σ l fun ars=>HU P σ vf ars K):
  ∃r bx,K r bx∧∀cx N M β a w,Inv cx N M β σ a w→∃f vs,(execOp a.eval o).run P w=.ok (.enter f vs) w∧
   Calls P f vs w fun e w'=>∃v M' β',e=.returned v∧r.a7 M' β' v∧Inv cx N M' β' ⟨σ.env,bx⟩ a w'∧Grow cx.B M M'∧b6 cx w w':=by
 obtain⟨args,uX,ho,rfl⟩:=ho
 replace h:=fe.ev h
 obtain⟨vf,h,hf⟩:=h
 replace h:=dO.spec h
 obtain⟨ars,h,has⟩:=h
 unfold HU at h
 split at h
 case h_2=>cases h
 rename_i f cs
 obtain⟨ren,ar,bx,r,bx',hc,he,hm,fT,hk⟩:=h
 refine⟨_,_,hk,fun cx N M β a w i=>?_⟩
 obtain⟨us,eu,QO⟩:=hf iS cx N M β a w i
 have wI:=(has iS cx N M β a w i).append (uR.rep QO)
 rw[he]at wI
 refine⟨f,(args.toList.map a.eval++us).toArray,?_,(Inv.aB3 i hc hm fT wI).mono fun e w' ⟨v,M',β',h1,h2,h3,h4,h5,_⟩=>⟨v,M',β',h1,h2,h3,h4,h5⟩⟩
 have:(args.map a.eval++us.toArray)=(args.toList.map a.eval++us).toArray:=by
  apply Array.ext';simp
 simp[execOp,ho,resolve,eu,Deferred.ofValue,invoke,this,hc.1]
end
def dL{α:Type}(f:α→List Nat):List α→List Nat
 |[]=>[]
 |x::r=>f x++dL f r
theorem iP{α:Type}{f:α→List Nat}{n:Nat}:∀{l:List α} {j:Nat} {c:α},l[j]? =some c→n∈f c→n∈dL f l
 |[],_,_,h,_=>by simp at h
 |x::r,0,c,h,hn=>by simp at h;subst h;exact List.mem_append_left _ hn
 |x::r,j+1,c,h,hn=>List.mem_append_right _ (iP (j:=j) (by simpa using h) hn)
def reach:Nat→St→SV→List Nat
 |_,_,.d _=>[]
 |0,_,.ptr x _=>[x]
 |n+1,σ,.ptr x _=>x::match aH σ.box x with
  |some (some (.cells cs))=>dL (reach n σ) cs
  |_=>[]
 |_,_,.own x=>[x]
 |_,_,.mo _ x=>[x]
 |_,_,.rw x _ _ _=>[x]
 |0,_,.jQ x _ _ _=>[x]
 |n+1,σ,.jQ x _ _ _=>x::match aH σ.box x with
  |some (some (.cells cs))=>dL (reach n σ) cs
  |_=>[]
 |_,_,.mp x=>[x]
 |0,_,.dQ _ _=>[]
 |n+1,σ,.dQ _ cs=>dL (fun c=>match c with|.d _=>[]|.ptr x off=>reach n σ (.ptr x off)) cs
def bP(σ:St):AV→List Nat
 |.s x=>reach 4 σ x
 |.ib _ x=>reach 4 σ x
 |.g cs=>dL (reach 4 σ) cs
 |.ig _ cs=>dL (reach 4 σ) cs
 |.t _=>[]
def okK(ren:List (Nat×Nat))(args:List AV)(bx:eO):Bool:=aAA (names bx) args&&GW (names bx) bx&&GR ren (names bx)
def BX(P:Program)(σ:St)(f:FuncId)(ars:List AV)(r:AV):Prop:=
 ∃ren args bx,bM P f args bx r bx∧ars=xY ren args∧mM ren σ.box bx∧okK ren args bx=true∧A2 r=true∧((names bx).all fun x=>(dL (bP σ) ars).contains (look ren x))=true
theorem aEF{ren:List (Nat×Nat)}{box:aO}{bx:eO}(hm:mM ren box bx)(y:Nat):aH (q8 ren (jJ ren box bx) bx) y=aH box y:=by
 rcases q8.get (ren:=ren) (box:=jJ ren box bx) (y:=y) (bx:=bx)with⟨x,b,h1,rfl,h3⟩|⟨h1,h2⟩
 ·rw[h3,hm.get h1]
 ·rw[h2]
  rcases jJ.get (ren:=ren) (box:=box) (y:=y) (bx:=bx)with⟨⟨x,hx,hy⟩,_⟩|⟨_,h4⟩
  ·exact absurd hy (h1 x hx)
  ·exact h4
theorem Inv.boxes{cx:Cx}{N:Nat}{M:Mem}{β:Nm}{E:List (Nat×AV)}{b1 b2:aO}{a:Act}{w:World}(i:Inv cx N M β ⟨E,b1⟩ a w)(h:∀y,aH b1 y=aH b2 y):Inv cx N M β ⟨E,b2⟩ a w:=
 ⟨i.defers,i.tmps,i.heap,i.env,i.mem,fun x p e=>by obtain⟨y,hy⟩:=i.keys x p e;exact⟨y,(h x).symm.trans hy⟩,fun x bc e=>i.box x bc ((h x).trans e),
  fun x y bx xV b c c' ex ey=>i.inj x y bx xV b c c' ((h x).trans ex) ((h y).trans ey),fun x bc b c e=>i.apart x bc b c ((h x).trans e),fun x bc b c e=>i.low x bc b c ((h x).trans e),i.ref⟩
theorem aAB{xs:List Nat}:∀{r:AV},A2 r=true→WD xs r=true:=by
 have h1:∀x:SV,wJ x=true→J4 xs x=true:=fun x h=>by cases x <;> first|rfl|cases h
 have h2:∀cs:List SV,nN cs=true→GU xs cs=true:=by
  intro cs
  induction cs with
  |nil=>intro _;rfl
  |cons c r ih=>intro h;simp only [nN,Bool.and_eq_true]at h;simp only [GU,Bool.and_eq_true];exact⟨h1 c h.1,ih h.2⟩
 have h3:∀cs:List TV,pS cs=true→OZ xs cs=true:=by
  intro cs
  induction cs with
  |nil=>intro _;rfl
  |cons c r ih=>
   intro h
   simp only [pS,Bool.and_eq_true]at h
   simp only [OZ,Bool.and_eq_true]
   refine⟨?_,ih h.2⟩
   cases c with
   |s x=>exact h1 x h.1
   |g l=>exact h2 l h.1
 intro r h
 cases r with
 |s x=>exact h1 x h
 |g l=>exact h2 l h
 |t l=>exact h3 l h
 |_=>cases h
theorem BX.spec{P:Program}{cx:Cx}{N:Nat}{M:Mem}{β:Nm}{σ:St}{a:Act}{w:World}(i:Inv cx N M β σ a w){f:FuncId}{ars:List AV}{r:AV}(h:BX P σ f ars r){vs:List Value}(hv:gU M β ars vs):
  (∀vs w,(callFunc f vs).run P w=.ok (.enter f vs) w)∧Calls P f vs.toArray w fun e w'=>∃v M',e=.returned v∧r.a7 M' β v∧Inv cx N M' β σ a w'∧Grow cx.B M M'∧b6 cx w w':=by
 obtain⟨ren,args,bx,hc,rfl,hm,fT,hf,_⟩:=h
 simp only [okK,Bool.and_eq_true]at fT
 obtain⟨⟨k1,k2⟩,k3⟩:=fT
 have aL7:z7 ren σ.box args bx r bx=true:=by
  simp only [z7,Bool.and_eq_true]
  refine⟨⟨⟨⟨⟨k1,k2⟩,aAB hf⟩,k2⟩,?_⟩,?_⟩
  ·simp only [GR,List.all_append,Bool.and_eq_true]at k3 ⊢
   have h1:((names bx).all fun x=>((names bx).all fun y=>Nat.beq x y|| !(Nat.beq (look ren x) (look ren y)))&&(names bx).all fun y=>Nat.beq x y|| !(Nat.beq (look ren x) (look ren y)))=true:=by
    rw[List.all_eq_true]at k3 ⊢
    intro x hx
    simp[k3 x hx]
   exact⟨h1,h1⟩
  ·have:∀l:List Nat,(∀x,x∈l→x∈names bx)→nL ren σ.box (names bx) l=true:=by
    intro l
    induction l with
    |nil=>intro _;rfl
    |cons x r ih=>
     intro h
     simp only [nL,Bool.and_eq_true,Bool.or_eq_true]
     exact⟨.inl (by simpa using h x sM),ih (fun y hy=>h y (List.mem_cons_of_mem _ hy))⟩
   exact this _ (fun x hx=>hx)
 refine⟨hc.1,(Inv.aB3 i hc hm aL7 hv).mono ?_⟩
 rintro e w' ⟨v,M',β',h1,h2,h3,h4,h5,h6⟩
 obtain rfl:=h6 (fun x hx=>hx)
 refine⟨v,M',h1,?_,h3.boxes (aEF hm),h4,h5⟩
 have hr:nH ren r=r:=by
  have q1:∀x:SV,wJ x=true→uL ren x=x:=fun x h=>by cases x <;> first|rfl|cases h
  have q2:∀cs:List SV,nN cs=true→lJ ren cs=cs:=by
   intro cs
   induction cs with
   |nil=>intro _;rfl
   |cons c r ih=>intro h;simp only [nN,Bool.and_eq_true]at h;simp only [lJ];rw[q1 c h.1,ih h.2]
  have q3:∀cs:List TV,pS cs=true→z1 ren cs=cs:=by
   intro cs
   induction cs with
   |nil=>intro _;rfl
   |cons c r ih=>
    intro h
    simp only [pS,Bool.and_eq_true]at h
    simp only [z1]
    rw[ih h.2]
    cases c with
    |s x=>simp only [Y7];rw[q1 x h.1]
    |g l=>simp only [Y7];rw[q2 l h.1]
  cases r with
  |s x=>simp only [nH];rw[q1 x hf]
  |g l=>simp only [nH];rw[q2 l hf]
  |t l=>simp only [nH];rw[q3 l hf]
  |_=>cases hf
 rw[hr]at h2
 exact h2
section
variable{P:Program}{σ:St}{g:Option Bool}{K:AV→Prop}{o:Oper}
def kW(P:Program)(σ:St)(g:Option Bool)(f:FuncId)(args:List AV)(K:AV→Prop):Prop:=
 lY P σ g f args K∨∃r,imp g (BX P σ f args r)∧K r
def lZ(P:Program)(σ:St)(g:Option Bool)(vf:AV)(args:List AV)(K:AV→Prop):Prop:=
 match vf with
 |.s (.dQ f cs)=>kW P σ g f (args++uR cs) K
 |.s (.d (.dQ f k c))=>kW P σ g f (args++iX c k 0) K
 |.s (.d (.bnd f k c))=>lY P σ g f (.g (gD c k 0)::args) K
 |_=>False
theorem aKU.spec{fo:Operand}{args:Array Operand}{uX:Array TypeId}(ho:o.op=.call {callee:=.value fo,args:=args,argTypes:=uX})
  (h:fe g (ev σ fo) fun vf=>dO g σ args.toList fun ars=>lZ P σ g vf ars K):
  ∃r,K r∧(act g→∀cx N M β a w,Inv cx N M β σ a w→∃f vs,(execOp a.eval o).run P w=.ok (.enter f vs) w∧
   Calls P f vs w fun e w'=>∃v M',e=.returned v∧r.a7 M' β v∧Inv cx N M' β σ a w'∧Grow cx.B M M'∧b6 cx w w'):=by
 replace h:=fe.ev h
 obtain⟨vf,h,hf⟩:=h
 replace h:=dO.spec h
 obtain⟨ars,h,has⟩:=h
 have key:∀(f:FuncId) (extra:List AV),kW P σ g f (ars++extra) K→
   (act g→∀cx N M β a w,Inv cx N M β σ a w→∃us:List Value,a.eval fo=.func (.func f) #[] us.toArray∧gU M β extra us)→
   ∃r,K r∧(act g→∀cx N M β a w,Inv cx N M β σ a w→∃f vs,(execOp a.eval o).run P w=.ok (.enter f vs) w∧
   Calls P f vs w fun e w'=>∃v M',e=.returned v∧r.a7 M' β v∧Inv cx N M' β σ a w'∧Grow cx.B M M'∧b6 cx w w'):=by
  intro f extra hd hx
  rcases hd with hd|⟨r,hc,hk⟩
  ·exact call.key ho has hd hx
  ·refine⟨r,hk,fun ha cx N M β a w i=>?_⟩
   obtain⟨us,eu,QO⟩:=hx ha cx N M β a w i
   have wI:=(has ha cx N M β a w i).append QO
   obtain⟨yO,dV⟩:=BX.spec i (hc.get ha) wI
   refine⟨f,(args.toList.map a.eval++us).toArray,?_,dV⟩
   have:(args.map a.eval++us.toArray)=(args.toList.map a.eval++us).toArray:=by
    apply Array.ext';simp
   simp[execOp,ho,resolve,eu,Deferred.ofValue,invoke,this,yO]
 unfold lZ at h
 split at h
 case h_4=>cases h
 ·rename_i f cs
  refine key f _ h fun ha cx N M β a w i=>?_
  obtain⟨vs,e,hv⟩:=hf ha cx N M β a w i
  exact⟨vs,e,uR.rep hv⟩
 ·rename_i f k c
  refine key f _ h fun ha cx N M β a w i=>?_
  obtain⟨vs,e,hl,hv⟩:=hf ha cx N M β a w i
  exact⟨vs,e,by rw[←hl];exact iX.rep (fun i u hu=>by rw[Nat.zero_add];exact hv i u hu)⟩
 ·rename_i f k c
  refine call.aI4 (pre:=[.g (gD c k 0)]) (extra:=[]) ho has (by rw[List.append_nil];exact h) fun ha cx N M β a w i=>?_
  obtain⟨vs,e,hl,hv⟩:=hf ha cx N M β a w i
  exact⟨[.agg vs.toArray],[],e,⟨⟨vs,rfl,by rw[←hl];exact gD.rep (fun i u hu=>by rw[Nat.zero_add];exact hv i u hu)⟩,trivial⟩,trivial⟩
end
def hI(zs:List Nat):aO→aO
 |[]=>[]
 |(x,b)::r=>(x,bif zs.contains x then b else none)::hI zs r
def k7(zs:List Nat):aO→aO
 |[]=>[]
 |(x,b)::r=>(x,bif zs.contains x then none else b)::k7 zs r
theorem hI.get{zs:List Nat}{x:Nat}{b:jM}:∀{box:aO},aH (hI zs box) x=some (some b)→zs.contains x=true∧aH box x=some (some b)
 |[],h=>by cases h
 |(k,c)::r,h=>by
  rw[hI,aL]at h
  rw[aL]
  by_cases e:k=x
  ·subst e
   rw[if_pos rfl]at h
   cases hz:zs.contains k with
   |true=>rw[hz]at h;exact⟨rfl,by rw[if_pos rfl];exact h⟩
   |false=>rw[hz]at h;cases h
  ·rw[if_neg e]at h ⊢
   exact hI.get h
theorem k7.get{zs:List Nat}{x:Nat}{b:jM}:∀{box:aO},aH (k7 zs box) x=some (some b)→zs.contains x=false∧aH box x=some (some b)
 |[],h=>by cases h
 |(k,c)::r,h=>by
  rw[k7,aL]at h
  rw[aL]
  by_cases e:k=x
  ·subst e
   rw[if_pos rfl]at h
   cases hz:zs.contains k with
   |true=>rw[hz]at h;cases h
   |false=>rw[hz]at h;exact⟨rfl,by rw[if_pos rfl];exact h⟩
  ·rw[if_neg e]at h ⊢
   exact k7.get h
theorem hI.has{zs:List Nat}{x:Nat}{y:Option jM}:∀{box:aO},aH box x=some y→∃y',aH (hI zs box) x=some y'
 |[],h=>by cases h
 |(k,c)::r,h=>by
  rw[aL]at h
  rw[hI,aL]
  by_cases e:k=x
  ·rw[if_pos e];exact⟨_,rfl⟩
  ·rw[if_neg e]at h ⊢;exact hI.has h
theorem k7.has{zs:List Nat}{x:Nat}{y:Option jM}:∀{box:aO},aH box x=some y→∃y',aH (k7 zs box) x=some y'
 |[],h=>by cases h
 |(k,c)::r,h=>by
  rw[aL]at h
  rw[k7,aL]
  by_cases e:k=x
  ·rw[if_pos e];exact⟨_,rfl⟩
  ·rw[if_neg e]at h ⊢;exact k7.has h
section
variable{P:Program}{cx:Cx}{N:Nat}{σ:St}{M:Mem}{β:Nm}{a:Act}{w:World}
theorem Inv.hI(i:Inv cx N M β σ a w)(zs:List Nat):Inv cx N M β ⟨σ.env,hI zs σ.box⟩ a w:=by
 refine⟨i.defers,i.tmps,i.heap,i.env,i.mem,?_,?_,?_,?_,?_,i.ref⟩
 ·intro x p e
  obtain⟨y,hy⟩:=i.keys x p e
  exact hI.has hy
 ·exact fun x bc h=>i.box x bc (hI.get h).2
 ·exact fun x y bx xV b c c' hx hy=>i.inj x y bx xV b c c' (hI.get hx).2 (hI.get hy).2
 ·exact fun x bc b c h=>i.apart x bc b c (hI.get h).2
 ·exact fun x bc b c h=>i.low x bc b c (hI.get h).2
open Classical in
noncomputable def uP (σ:St) (zs:List Nat) (β:Nm) (M:Mem) (w:World):Mem:=fun b o=>if ∃x bc c,zs.contains x=true∧aH σ.box x=some (some bc)∧β x=some (b,c)then w.cell? ⟨b,o,none⟩else M b o
theorem uP.le(i:Inv cx N M β σ a w)(zs:List Nat):Mem.le M (uP σ zs β M w):=by
 intro b o u h
 unfold uP
 by_cases hb:∃x bc c,zs.contains x=true∧aH σ.box x=some (some bc)∧β x=some (b,c)
 ·obtain⟨x,bc,c,_,hg,e⟩:=hb
  rw[i.apart x bc b c hg e o]at h;cases h
 ·rw[if_neg hb];exact h
theorem uP.ok(i:Inv cx N M β σ a w)(zs:List Nat):kF (uP σ zs β M w) w:=by
 intro b o u h
 unfold uP at h
 by_cases hb:∃x bc c,zs.contains x=true∧aH σ.box x=some (some bc)∧β x=some (b,c)
 ·rw[if_pos hb]at h;exact h
 ·rw[if_neg hb]at h;exact i.mem b o u h
theorem Inv.eat(i:Inv cx N M β σ a w)(aA:cx.ref=[])(zs:List Nat):Inv cx N (uP σ zs β M w) β ⟨σ.env,k7 zs σ.box⟩ a w∧Grow cx.B M (uP σ zs β M w):=by
 have hM:=uP.le i zs
 refine⟨⟨i.defers,i.tmps,i.heap,fun t=>AV.a7.mono hM (Nm.le_refl β) (i.env t),uP.ok i zs,?_,?_,?_,?_,?_,i.ref⟩,⟨hM,?_⟩⟩
 ·intro x p e
  obtain⟨y,hy⟩:=i.keys x p e
  exact k7.has hy
 ·exact fun x bc h=>cH.mono hM (Nm.le_refl β) rfl (fun _ _ _=>rfl) (i.box x bc (k7.get h).2)
 ·exact fun x y bx xV b c c' hx hy=>i.inj x y bx xV b c c' (k7.get hx).2 (k7.get hy).2
 ·intro x bc b c h e o
  obtain⟨h1,h2⟩:=k7.get h
  unfold uP
  have hn:¬∃x bc c,zs.contains x=true∧aH σ.box x=some (some bc)∧β x=some (b,c):=by
   rintro⟨y,bc',c',hy,hg,e'⟩
   have:=i.inj x y bc bc' b c c' h2 hg e e'
   subst this
   rw[h1]at hy;cases hy
  rw[if_neg hn]
  exact i.apart x bc b c h2 e o
 ·exact fun x bc b c h=>i.low x bc b c (k7.get h).2
 ·intro b o u h
  unfold uP at h
  by_cases hb:∃x bc c,zs.contains x=true∧aH σ.box x=some (some bc)∧β x=some (b,c)
  ·obtain⟨x,bc,c,_,hg,e⟩:=hb
   rcases i.low x bc b c hg e with h1|⟨y,c',hy,_⟩
   ·exact .inr h1
   ·rw[aA]at hy;cases hy
  ·rw[if_neg hb]at h;exact .inl h
def aDS(P:Program)(σ:St)(vf:AV)(args:List AV)(K:AV→aO→Prop):Prop:=
 match vf with
 |.s (.dQ f cs)=>∃zs r,aF P f (iW ⟨σ.env,hI zs σ.box⟩ (args++uR cs)) r∧K r (k7 zs σ.box)
 |_=>False
def OX(rc ref:List Nat)(σ:St)(op:Op):Option (Operand×List Operand):=
 match op with
 |.call {callee:=.value fo,args, .. }=>match ev σ fo with
  |.s (.dQ f _)=>bif rc.contains (f+2000000)&&ref.isEmpty then some (fo,args.toList)else none
  |_=>none
 |_=>none
theorem OX.op{rc ref:List Nat}{op:Op}{fo:Operand}{l:List Operand}(h:OX rc ref σ op=some (fo,l)):ref=[]∧∃args uX,op=.call {callee:=.value fo,args:=args,argTypes:=uX}∧args.toList=l:=by
 unfold OX at h
 split at h
 ·split at h
  ·rename_i f cs hf
   cases hr:(rc.contains (f+2000000)&&ref.isEmpty)with
   |true=>
    rw[hr]at h
    cases h
    rw[Bool.and_eq_true]at hr
    exact⟨List.isEmpty_iff.1 hr.2,_,_,rfl,rfl⟩
   |false=>rw[hr]at h;cases h
  ·cases h
 ·cases h
theorem eat.spec{o:Oper}{fo:Operand}{l:List Operand}{K:AV→aO→Prop}(ho:∃args uX,o.op=.call {callee:=.value fo,args:=args,argTypes:=uX}∧args.toList=l)
  (h:fe none (ev σ fo) fun vf=>dO none σ l fun ars=>aDS P σ vf ars K):
  ∃r bx,K r bx∧∀cx N M β a w,cx.ref=[]→Inv cx N M β σ a w→∃f vs,(execOp a.eval o).run P w=.ok (.enter f vs) w∧
   Calls P f vs w fun e w'=>∃v M' β',e=.returned v∧r.a7 M' β' v∧Inv cx N M' β' ⟨σ.env,bx⟩ a w'∧Grow cx.B M M'∧b6 cx w w':=by
 obtain⟨args,uX,ho,rfl⟩:=ho
 replace h:=fe.ev h
 obtain⟨vf,h,hf⟩:=h
 replace h:=dO.spec h
 obtain⟨ars,h,has⟩:=h
 unfold aDS at h
 split at h
 case h_2=>cases h
 rename_i f cs
 obtain⟨zs,r,⟨yO,dV⟩,hk⟩:=h
 refine⟨_,_,hk,fun cx N M β a w aA i=>?_⟩
 obtain⟨us,eu,QO⟩:=hf iS cx N M β a w i
 have wI:=(has iS cx N M β a w i).append (uR.rep QO)
 have hM:=uP.le i zs
 have jA:=iW.rep (i.hI zs) hM (fun x bc b c hg e o u hu=>by
  obtain⟨h1,h2⟩:=hI.get hg
  unfold uP
  rw[if_pos ⟨x,bc,c,h1,h2,e⟩];exact hu) wI
 obtain⟨i2,g2⟩:=i.eat aA zs
 refine⟨f,(args.toList.map a.eval++us).toArray,?_,(dV _ w _ i.heap.aDO jA (uP.ok i zs)).mono ?_⟩
 ·have:(args.map a.eval++us.toArray)=(args.toList.map a.eval++us).toArray:=by
   apply Array.ext';simp
  simp[execOp,ho,resolve,eu,Deferred.ofValue,invoke,this,yO]
 ·rintro e w' ⟨v,M',rfl,RO,hg,hm,PE⟩
  obtain⟨i3,g3,k3⟩:=i2.after PE hg hm
  exact⟨v,M',β,rfl,AV.a7.mono (Mem.le_refl _) (fun _ _ h=>by cases h) RO,i3,g2.trans g3,k3⟩
def aDT(zs:List Nat)(σ:St)(v:AV):AV:=
 match v with
 |.s (.own b)=>bif zs.contains b then o0 ⟨σ.env,hI zs σ.box⟩ (.s (.own b))else .s (.own b)
 |.s (.mo z b)=>bif zs.contains b then o0 ⟨σ.env,hI zs σ.box⟩ (.s (.mo z b))else .s (.mo z b)
 |v=>v
def aDU(zs:List Nat)(σ:St):List (Nat×AV)→List (Nat×AV)
 |[]=>[]
 |(t,v)::r=>(t,aDT zs σ v)::aDU zs σ r
def A8(zs:List Nat)(σ:St):St:=⟨aDU zs σ σ.env,k7 zs σ.box⟩
theorem PH{zs:List Nat}{t:Nat}:∀{l:List (Nat×AV)},eZ (aDU zs σ l) t=aDT zs σ (eZ l t)
 |[]=>rfl
 |(k,v)::r=>by
  rw[aDU]
  unfold eZ
  cases Nat.beq k t with
  |true=>rfl
  |false=>exact PH
theorem Inv.A8(i:Inv cx N M β σ a w)(aA:cx.ref=[])(zs:List Nat):∃M',Inv cx N M' β (A8 zs σ) a w∧Grow cx.B M M':=by
 obtain⟨i2,g2⟩:=i.eat aA zs
 refine⟨_,⟨i2.defers,i2.tmps,i2.heap,fun t=>?_,i2.mem,i2.keys,i2.box,i2.inj,i2.apart,i2.low,i2.ref⟩,g2⟩
 have hM:=uP.le i zs
 have r0:=i.env t
 have conv:∀x:AV,x.a7 M β (a.tmps.getD t undef)→(o0 ⟨σ.env,Go.Ax.hI zs σ.box⟩ x).a7 (uP σ zs β M w) (fun _=>none) (a.tmps.getD t undef):=fun x hx=>
  o0.rep (i.hI zs) hM (fun x bc b c hg e o u hu=>by
   obtain⟨h1,h2⟩:=hI.get hg
   unfold uP
   rw[if_pos ⟨x,bc,c,h1,h2,e⟩];exact hu) hx
 have e0:eZ (Go.Ax.A8 zs σ).env t=aDT zs σ (eZ σ.env t):=PH
 rw[e0]
 unfold aDT
 split
 ·rename_i b hv
  rw[hv]at r0
  cases zs.contains b with
  |true=>exact AV.a7.mono (Mem.le_refl _) (fun _ _ h=>by cases h) (conv _ r0)
  |false=>exact AV.a7.mono hM (Nm.le_refl β) r0
 ·rename_i z b hv
  rw[hv]at r0
  cases zs.contains b with
  |true=>exact AV.a7.mono (Mem.le_refl _) (fun _ _ h=>by cases h) (conv _ r0)
  |false=>exact AV.a7.mono hM (Nm.le_refl β) r0
 ·exact AV.a7.mono hM (Nm.le_refl β) r0
end
def V8(rc ref:List Nat)(d:Nat):Bool:=rc.contains (d+3000000)&&ref.isEmpty
def lL(P:Program)(T:List (Nat×bJ))(op:Op)(σ:St)(g:Option Bool)(K:AV→Prop):Prop:=
 match op with
 |.move x=>fe g (ev σ x) K
 |.assign x=>fe g (ev σ x) K
 |.pick c x y=>fe g (ev σ c) fun vc=>tW g vc (ev σ x) (ev σ y) K
 |.load t x=>fe g (ev σ x) fun va=>match cV T t with|some ti=>jY σ ti.agg ti.size g va K|none=>False
 |.fieldAddr s x f=>fe g (ev σ x) fun va=>qX T s f va K
 |.binOp op t x y _=>fe g (ev σ x) fun va=>fe g (ev σ y) fun vb=>bin T op t g va vb K
 |.unOp op _ x=>fe g (ev σ x) fun va=>unV op va K
 |.convert src dst x=>fe g (ev σ x) fun va=>sB T src dst va K
 |.nilCheck x=>fe g (ev σ x) fun va=>LM va K
 |.extract x k=>IU k (ev σ x) K
 |.indexAddr t x y=>fe g (ev σ x) fun va=>fe g (ev σ y) fun vi=>pN T σ t g va vi K
 |.index t x y=>fe g (ev σ x) fun va=>fe g (ev σ y) fun vi=>B5 T t g va vi K
 |.lookup t x y ok=>fe g (ev σ x) fun va=>fe g (ev σ y) fun vi=>qK T σ t ok g va vi K
 |.slice t x lo hi none=>fe g (ev σ x) fun va=>kI T σ t g va lo hi K
 |.build t pa=>parts g σ pa.toList fun ps=>pZ T t ps K
 |.makeFunc (.func f) fs HS=>match fs.toList with
  |[]=>match pF σ HS.toList with|some cs=>K (.s (.dQ f cs))|none=>False
  |[y]=>match HS.toList with
   |[]=>fe g (ev σ y) fun va=>match va with|.g cs=>bif oF cs then K (.s (.d (aHW f cs)))else False|_=>False
   |_=>False
  |_=>False
 |.call c=>match c.callee with
  |.value fo=>fe g (ev σ fo) fun vf=>dO g σ c.args.toList fun ars=>lZ P σ g vf ars K
  |.builtin .len=>match c.args.toList,c.argTypes.toList with
   |[x],[t]=>fe g (ev σ x) fun va=>pL T σ t va K
   |_,_=>False
  |.builtin .cap=>match c.args.toList,c.argTypes.toList with
   |[x],[t]=>fe g (ev σ x) fun va=>IY T t va K
   |_,_=>False
  |.builtin .max=>ints g σ c.args.toList fun l=>match l with|(k,n)::r=>K (mmL true k n r)|[]=>False
  |.builtin .min=>ints g σ c.args.toList fun l=>match l with|(k,n)::r=>K (mmL false k n r)|[]=>False
  |_=>False
 |_=>False
def X1(P:Program)(o:Oper)(σ:St)(r:AV):Prop:=
 ∀cx N M β a w,Inv cx N M β σ a w→
  (∃v,(execOp a.eval o).run P w=.ok (.value v) w∧r.a7 M β v)∨
  (∃f vs,(execOp a.eval o).run P w=.ok (.enter f vs) w∧
   Calls P f vs w fun e w'=>∃v M',e=.returned v∧r.a7 M' β v∧Inv cx N M' β σ a w'∧Grow cx.B M M'∧b6 cx w w')
theorem jL.aMR{P:Program}{o:Oper}{σ:St}{g:Option Bool}{r:AV}(h:jL P o σ g r)(ha:act g):X1 P o σ r:=
 fun cx N M β a w i=>.inl (h ha cx N M β a w i)
theorem lL.spec{P:Program}{T:List (Nat×bJ)}(hT:b5 P T){o:Oper}{σ:St}{g:Option Bool}{K:AV→Prop}(h:lL P T o.op σ g K):
  ∃r,K r∧(act g→X1 P o σ r):=by
 have up:(∃r,K r∧jL P o σ g r)→∃r,K r∧(act g→X1 P o σ r):=fun ⟨r,hk,hp⟩=>⟨r,hk,hp.aMR⟩
 generalize nY:o.op=op at h
 cases op with
 |move x=>exact up (move.spec (.inl nY) h)
 |assign x=>exact up (move.spec (.inr nY) h)
 |pick c x y=>exact up (pick.spec nY h)
 |load t x=>exact up (load.spec hT nY h)
 |fieldAddr s x f=>exact up (field.spec hT nY h)
 |binOp op t x y ty=>
  simp only [lL]at h
  replace h:=fe.ev h
  obtain⟨va,h,hra⟩:=h
  replace h:=fe.ev h
  obtain⟨vb,h,hrb⟩:=h
  obtain⟨r,hk,hr⟩:=bin.spec hT nY h
  exact⟨r,hk,fun ha cx N M β a w i=>.inl (hr ha M β a w (hra ha cx N M β a w i) (hrb ha cx N M β a w i))⟩
 |unOp op t x=>exact up (un.spec nY h)
 |convert src dst x=>exact up (conv.spec hT nY h)
 |nilCheck x=>exact up (nil.spec nY h)
 |extract x k=>exact up (ext.spec nY h)
 |indexAddr t x y=>exact up (idx.spec hT nY h)
 |index t x y=>exact up (str.spec hT nY h)
 |lookup t x y ok=>exact up (qK.spec hT nY h)
 |slice t x lo hi mx=>
  cases mx with
  |none=>exact up (kI.spec hT nY h)
  |some m=>exact h.elim
 |build t pa=>exact up (build.spec hT nY h)
 |makeFunc fn fs HS=>
  cases fn with
  |func f=>
   simp only [lL]at h
   split at h
   ·rename_i YB
    have:fs= #[]:=by apply Array.ext';simpa using YB
    subst this
    exact up (mkf.spec nY h)
   ·split at h
    ·rename_i y YB _ mS
     have e1:fs= #[y]:=by apply Array.ext';simpa using YB
     have e2:HS= #[]:=by apply Array.ext';simpa using mS
     subst e1;subst e2
     exact up (mkb.spec nY h)
    ·cases h
   ·cases h
  |_=>exact h.elim
 |call c=>
  obtain⟨callee,args,uX⟩:=c
  simp only [lL]at h
  split at h
  ·obtain⟨r,hk,hr⟩:=aKU.spec nY h
   exact⟨r,hk,fun ha cx N M β a w i=>.inr (hr ha cx N M β a w i)⟩
  ·split at h
   ·rename_i x t hx ht
    have e1:args= #[x]:=by apply Array.ext';simpa using hx
    have e2:uX= #[t]:=by apply Array.ext';simpa using ht
    subst e1;subst e2
    exact up (len.spec hT nY h)
   ·cases h
  ·split at h
   ·rename_i x t hx ht
    have e1:args= #[x]:=by apply Array.ext';simpa using hx
    have e2:uX= #[t]:=by apply Array.ext';simpa using ht
    subst e1;subst e2
    exact up (cap.spec hT nY h)
   ·cases h
  ·exact up (mm.spec true nY h)
  ·exact up (mm.spec false nY h)
  ·cases h
 |_=>exact h.elim
def IJ(T:List (Nat×bJ))(ref:List Nat)(d:Nat)(op:Op)(σ:St)(K:AV→aO→Prop):Prop:=
 match op with
 |.alloc t=>wV T σ d t K
 |.box _ x=>I0 σ d x K
 |.store t x y=>oH T σ t x y K
 |.buildSlice t len pa=>IZ T σ d t len pa.toList K
 |.makeSlice t x y=>mkX T σ d t x y K
 |.makeMap t none=>GG T σ d t K
 |.mapUpdate t x y z=>YJ T σ t x y z K
 |.range t x=>FX T σ d t x K
 |.next x false=>OA σ x K
 |.entry x=>HH σ x fun v=>K v σ.box
 |.convert t t' x=>aBN T σ t t' x K
 |.call c=>match c.callee with
  |.builtin .append=>match c.args.toList,c.argTypes.toList with
   |[x,y],[t,t']=>bif Nat.beq t t' then(match ev σ x with
    |.s (.jQ _ _ _ _)=>aBY T σ d t x y K
    |_=>wU T σ ref d t x y K)else aBZ T σ d t t' x y K
   |_,_=>False
  |.builtin .copy=>match c.args.toList,c.argTypes.toList with
   |[x,y],[t,_]=>KS T σ t x y K
   |_,_=>False
  |_=>False
 |_=>False
def aFE(P:Program)(o:Oper)(σ:St)(K:AV→aO→Prop)(cx:Cx)(N:Nat)(M:Mem)(a:Act)(w:World):Prop:=
 ∃r bx,K r bx∧∃v w' M' β',
  ((execOp a.eval o).run P w=.ok (.value v) w'∨((execOp a.eval o).run P w=.ok .skip w'∧v=undef))∧
  r.a7 M' β' v∧Inv cx N M' β' ⟨σ.env,bx⟩ a w'∧Grow cx.B M M'∧b6 cx w w'
theorem IJ.spec{P:Program}{T:List (Nat×bJ)}(hT:b5 P T){ref:List Nat}{d:Nat}{o:Oper}{σ:St}{K:AV→aO→Prop}(h:IJ T ref d o.op σ K)
  {cx:Cx} {N:Nat} {M:Mem} {β:Nm} {a:Act} {w:World} (aA:cx.ref=ref) (i:Inv cx N M β σ a w):aFE P o σ K cx N M a w:=by
 have up:(∃r bx,K r bx∧I5 P o σ r bx)→aFE P o σ K cx N M a w:=fun ⟨r,bx,hk,hp⟩=>⟨r,bx,hk,hp cx N M β a w i⟩
 generalize nY:o.op=op at h
 cases op with
 |alloc t=>exact up (alloc.spec hT nY h)
 |box t x=>exact up (box.spec nY h)
 |store t x y=>exact up (store.spec hT nY h)
 |buildSlice t len pa=>exact up (bsl.spec hT nY h)
 |makeSlice t x y=>exact up (mk.spec hT nY h)
 |makeMap t r=>cases r with
  |none=>exact up (GG.spec nY h)
  |some x=>exact h.elim
 |mapUpdate t x y z=>exact up (YJ.spec hT nY h)
 |range t x=>exact up (FX.spec hT nY h)
 |next x s=>cases s with
  |true=>cases h
  |false=>
   obtain⟨r,bx,hk,v,w',h1,h2,h3,h4⟩:=OA.spec nY h i
   exact⟨r,bx,hk,v,w',M,β,.inl h1,h2,h3,Grow.refl _ _,h4⟩
 |entry x=>
  obtain⟨r,hk,hp⟩:=HH.spec (K:=fun v=>K v σ.box) nY h
  obtain⟨v,h1,h2⟩:=hp iS cx N M β a w i
  exact⟨r,σ.box,hk,v,w,M,β,.inl h1,h2,i,Grow.refl _ _,b6.refl _ _⟩
 |convert t t' x=>exact up (byte.spec hT nY h)
 |call c=>
  obtain⟨callee,args,uX⟩:=c
  simp only [IJ]at h
  split at h
  ·split at h
   ·rename_i x y t t' hx ht
    have e1:args= #[x,y]:=by apply Array.ext';simpa using hx
    have e2:uX= #[t,t']:=by apply Array.ext';simpa using ht
    subst e1;subst e2
    cases DR:Nat.beq t t' with
    |false=>
     rw[DR]at h
     exact up (aM5.spec hT nY h)
    |true=>
     rw[DR]at h
     have e0:=Nat.eq_of_beq_eq_true DR
     subst e0
     simp only [cond_true]at h
     split at h
     ·exact aM4.spec hT nY h i
     ·obtain⟨r,bx,hk,hs⟩:=app.spec hT nY h
      exact⟨r,bx,hk,hs cx N M β a w aA i⟩
   ·cases h
  ·split at h
   ·rename_i x y t t' hx ht
    have e1:args= #[x,y]:=by apply Array.ext';simpa using hx
    have e2:uX= #[t,t']:=by apply Array.ext';simpa using ht
    subst e1;subst e2
    exact up (KS.spec hT nY h)
   ·cases h
  ·cases h
 |_=>exact h.elim
def LX:Op→Bool
 |.alloc _=>true
 |.box _ _=>true
 |.store _ _ _=>true
 |.buildSlice _ _ _=>true
 |.makeSlice _ _ _=>true
 |.makeMap _ _=>true
 |.mapUpdate _ _ _ _=>true
 |.range _ _=>true
 |.next _ _=>true
 |.entry _=>true
 |.convert _ t _=>aHT.contains t
 |.call c=>match c.callee with
  |.builtin .append=>true
  |.builtin .copy=>true
  |_=>false
 |_=>false
def vA(b:Bool):AV→AV
 |.s x=>.ib b x
 |.g cs=>.ig b cs
 |_=>.s (.d .bC)
def oJ(σ:St)(d:Nat)(v:AV):St:=⟨(d,v)::σ.env,σ.box⟩
def QM(rc:List Nat)(σ:St)(op:Op):Option (Operand×List Operand):=
 match op with
 |.call {callee:=.value fo,args, .. }=>match ev σ fo with
  |.s (.dQ f _)=>bif rc.contains f then some (fo,args.toList)else none
  |_=>none
 |_=>none
def GP(T:List (Nat×bJ))(σ:St)(op:Op):Option (Nat×Bool):=
 match op with
 |.binOp bo t x y _=>match bo with
  |.eql=>match cV T t with
   |some i=>match i.jS with
    |.slice _=>match ev σ x,ev σ y with
     |.s (.d (.fJ n _ _)),.s (.d (.val (.slice none 0 0)))=>some (n,true)
     |_,_=>none
    |_=>none
   |none=>none
  |.neq=>match cV T t with
   |some i=>match i.jS with
    |.slice _=>match ev σ x,ev σ y with
     |.s (.d (.fJ n _ _)),.s (.d (.val (.slice none 0 0)))=>some (n,false)
     |_,_=>none
    |.iface=>match ev σ x,y with
     |.s (.d (.err e)),.const .nilIface=>some (1,!e)
     |_,_=>none
    |_=>none
   |none=>none
  |_=>none
 |_=>none
theorem NY{P:Program}{M:Mem}{e:Bool}{v:Value}(r:(DV.err e).a7 M v)(w:World){t:TypeId}{ms}(h:P.underlying t=some (.interface ms)):(binOp .neq t v .nilIface).run P w=.ok (.bool e) w:=by
 have key:∀d,(Op.equalIn (d+1) t v .nilIface).run P w=.ok (!e) w:=by
  intro d
  rcases r with⟨rfl,rfl⟩|⟨rfl,u,x,rfl⟩ <;> simp[Op.equalIn,run_underlying h]
 have:(binOp .neq t v .nilIface)=(do return .bool (!(←Op.equal t v .nilIface))):=by
  rcases r with⟨rfl,rfl⟩|⟨rfl,u,x,rfl⟩ <;> rfl
 rw[this]
 simp[Op.equal,Op.maxDepth,key 9999]
theorem IC{P:Program}{M:Mem}{e:Bool}{v:Value}(r:(DV.err e).a7 M v)(w:World)(t:TypeId)(x:Operand):(eqGuard .neq t x (.const .nilIface) v .nilIface).run P w=.ok () w:=by
 rcases r with⟨rfl,rfl⟩|⟨rfl,u,q,rfl⟩
 ·unfold eqGuard
  simp
 ·unfold eqGuard
  simp
theorem GP.spec{P:Program}{T:List (Nat×bJ)}(hT:b5 P T){o:Oper}{σ:St}{n:Nat}{p:Bool}(h:GP T σ o.op=some (n,p)){cx:Cx}{N:Nat}{M:Mem}{β:Nm}{a:Act}{w:World}(iv:Inv cx N M β σ a w):
  ∃b:Bool,(b=p→n=0)∧(execOp a.eval o).run P w=.ok (.value (.bool b)) w:=by
 have key:∀(v:Value) (m s:Nat) (f:Nat→Nat→DV),(DV.fJ m s f).a7 M v→∃(ad:Option Addr) (k c:Nat),v=.slice ad k c∧(ad.isNone=true→m=0):=by
  rintro v m s f ⟨ad,cap,e,_,h⟩
  refine⟨ad,m,cap,e,fun h0=>?_⟩
  rcases h with h|⟨b,o,h,_⟩
  ·exact h
  ·subst h;cases h0
 unfold GP at h
 split at h
 case h_2=>cases h
 rename_i bo t x y ty nY
 split at h
 case h_3=>cases h
 ·split at h
  case h_2=>cases h
  rename_i i hi
  split at h
  case h_2=>cases h
  rename_i e hu
  split at h
  case h_2=>cases h
  rename_i m s f hx hy
  cases h
  have rx:=ev.rep iv x
  have ry:=ev.rep iv y
  rw[hx]at rx;rw[hy]at ry
  obtain⟨ad,k,c,ex,h0⟩:=key _ _ _ _ rx
  have ey:a.eval y=.slice none 0 0:=ry
  refine⟨ad.isNone,h0,?_⟩
  simp only [execOp,nY,ex,ey,Sem.run_bind,eD BinOp.eql t x y (.slice ad k c) (.slice none 0 0) w sM sM,Result.andThen,yF w ((hT.get hi).wA hu),Sem.run_pure]
 ·split at h
  case h_2=>cases h
  rename_i i hi
  split at h
  case h_3=>cases h
  case h_2=>
   rename_i hu
   split at h
   case h_2=>cases h
   rename_i e hx
   cases h
   have rx:=ev.rep iv x
   rw[hx]at rx
   obtain⟨ds,q1,q2⟩:=(hT.get hi).jS
   rw[hu]at q2
   obtain⟨ms,rfl⟩:∃ms,ds=.interface ms:=by cases ds <;> first|exact⟨_,rfl⟩|cases q2
   have ey:a.eval (.const .nilIface)=.nilIface:=rfl
   have rx':(DV.err e).a7 M (a.eval x):=rx
   refine⟨e,fun h=>(by cases e <;> cases h),?_⟩
   simp only [execOp,nY,ey,Sem.run_bind,IC rx' w t x,Result.andThen,NY rx' w q1,Sem.run_pure]
  rename_i e hu
  split at h
  case h_2=>cases h
  rename_i m s f hx hy
  cases h
  have rx:=ev.rep iv x
  have ry:=ev.rep iv y
  rw[hx]at rx;rw[hy]at ry
  obtain⟨ad,k,c,ex,h0⟩:=key _ _ _ _ rx
  have ey:a.eval y=.slice none 0 0:=ry
  refine⟨!ad.isNone,fun hb=>h0 (by simpa using hb),?_⟩
  simp only [execOp,nY,ex,ey,Sem.run_bind,eD BinOp.neq t x y (.slice ad k c) (.slice none 0 0) w sM sM,Result.andThen,vO w ((hT.get hi).wA hu),Sem.run_pure]
def TO(P:Program)(T:List (Nat×bJ))(N:Nat)(ref rc:List Nat)(o:Oper)(σ:St)(K:St→Prop):Prop:=
 match o.dst with
 |some d=>bif Nat.blt d N then
   (bif LX o.op then(bif V8 rc ref d then ∃zs,IJ T ref d o.op (A8 zs σ) fun v bx=>K ⟨(d,v)::(A8 zs σ).env,bx⟩else IJ T ref d o.op σ fun v bx=>K ⟨(d,v)::σ.env,bx⟩)
   else match QM rc σ o.op with
    |some (fo,args)=>bif V8 rc ref d then ∃zs,fe none (ev (A8 zs σ) fo) fun vf=>dO none (A8 zs σ) args fun ars=>HU P (A8 zs σ) vf ars fun v bx=>K ⟨(d,v)::(A8 zs σ).env,bx⟩
     else fe none (ev σ fo) fun vf=>dO none σ args fun ars=>HU P σ vf ars fun v bx=>K ⟨(d,v)::σ.env,bx⟩
    |none=>match OX rc ref σ o.op with
     |some (fo,args)=>fe none (ev σ fo) fun vf=>dO none σ args fun ars=>aDS P σ vf ars fun v bx=>K ⟨(d,v)::σ.env,bx⟩
     |none=>match AO T σ o.op with
      |some (l,k)=>∀r,findD l k=r→K (oJ σ d (.s (.d (aIA r))))
      |none=>match GP T σ o.op with
      |some (n,p)=>∀b:Bool,(b=p→n=0)→K (oJ σ d (kY b))
      |none=>lL P T o.op σ none fun v=>K (oJ σ d v))else False
 |none=>bif LX o.op then IJ T ref 0 o.op σ fun _ bx=>K ⟨σ.env,bx⟩else False
def zS(N:Nat)(o:Oper)(σ:St)(K:St→Prop):Prop:=
 match o.dst with
 |some d=>bif Nat.blt d N then K (oJ σ d (.s (.d .bC)))else False
 |none=>K σ
def rV(all:List Oper)(j:Nat):Option Nat:=(all[j]?).bind (·.dst)
def isS(rc:List Nat)(σ:St)(op:Op):Bool:=match LX op with
 |true=>true
 |false=>match QM rc σ op with
  |some _=>true
  |none=>false
def tB(nB b:Bool):Bool:=match nB with|true=>b|false=> !b
def YQ(P:Program)(T:List (Nat×bJ))(N:Nat)(ref rc:List Nat)(all:List Oper)(o:Oper)(next:St→(St→Prop)→Prop)(σ:St)(K:St→Prop):Prop:=
  match o.guard with
  |none=>TO P T N ref rc o σ fun σ'=>next σ' K
  |some (j,nB)=>match rV all j with
   |none=>False
   |some t=>match eZ σ.env t with
    |.s (.d (.lit b))=>match b,nB with
     |true,true=>TO P T N ref rc o σ fun σ'=>next σ' K
     |false,false=>TO P T N ref rc o σ fun σ'=>next σ' K
     |_,_=>zS N o σ fun σ'=>next σ' K
    |.s (.d (.val (.bool b)))=>match isS rc σ o.op with
     |true=>
      (b=nB→TO P T N ref rc o (oJ σ t (.s (.d (.lit nB)))) fun σ'=>next σ' K)∧
      (b= !nB→zS N o (oJ σ t (.s (.d (.lit (!nB))))) fun σ'=>next σ' K)
     |false=>match o.dst with
      |some d=>bif Nat.blt d N then lL P T o.op σ (some (tB nB b)) fun v=>
        next (oJ σ d (vA (tB nB b) v)) K else False
      |none=>False
    |.ib c (.d (.val (.bool b)))=>match isS rc σ o.op with
     |true=>
      (c=true→b=nB→TO P T N ref rc o (oJ σ t (.s (.d (.lit nB)))) fun σ'=>next σ' K)∧
      (c=true→b= !nB→zS N o (oJ σ t (.s (.d (.lit (!nB))))) fun σ'=>next σ' K)∧
      (c=false→zS N o σ fun σ'=>next σ' K)
     |false=>match o.dst with
      |some d=>bif Nat.blt d N then lL P T o.op σ (some (c&&tB nB b)) fun v=>
        next (oJ σ d (vA (c&&tB nB b) v)) K else False
      |none=>False
    |_=>False
def lA(P:Program)(T:List (Nat×bJ))(N:Nat)(ref rc:List Nat)(all:List Oper)(l:List Oper):St→(St→Prop)→Prop:=
 @List.rec Oper (fun _=>St→(St→Prop)→Prop) (fun σ K=>K σ) (fun o _ ih σ K=>YQ P T N ref rc all o ih σ K) l
section
variable{P:Program}{T:List (Nat×bJ)}{N:Nat}{ref rc:List Nat}{cx:Cx}{M:Mem}{β:Nm}{σ:St}{a:Act}{w:World}
theorem Inv.put(i:Inv cx N M β σ a w){d:Nat}{r:AV}{v:Value}(hd:d<N)(hr:r.a7 M β v):Inv cx N M β (oJ σ d r) (a.put (some d) v) w:=by
 refine⟨i.defers,by simp[Act.put,i.tmps],i.heap,fun t=>?_,i.mem,i.keys,i.box,i.inj,i.apart,i.low,i.ref⟩
 simp only [oJ]
 rw[gG]
 by_cases h:d=t
 ·subst h
  rw[if_pos rfl]
  have:d<a.tmps.size:=by rw[i.tmps];exact hd
  simpa [Act.put,this]using hr
 ·rw[if_neg h]
  have:=i.env t
  simpa [Act.put,Array.getElem?_setIfInBounds_ne h]using this
def I3(cx:Cx)(N:Nat)(M:Mem)(w:World)(K:St→Prop)(a':Act)(w':World):Prop:=
 ∃σ' M' β',K σ'∧Inv cx N M' β' σ' a' w'∧Grow cx.B M M'∧b6 cx w w'
theorem SQ{r:Option Nat}{n:Nat}{f:FuncId}{args:Array Value}{R:Ending→World→Prop}:CallsIn (FW r) n P f args w R↔Calls P f args w R:=callsIn_wide (n:=n)
theorem VL{r:Option Nat}{n:Nat}{row:String}{args:Array Value}{R:Value→World→Prop}:RowsIn (FW r) n P row args w R↔Rows P row args w R:=
 ⟨fun h c cs=>let⟨v,w',h1,h2⟩:=h c cs (room_wide _);⟨v,w',h1,h2.steps⟩,fun h c cs _=>let⟨v,w',h1,h2⟩:=h c cs;⟨v,w',h1,(stepsIn_wide (P:=P)).2 h2⟩⟩
theorem E5{o:Oper}{r:AV}{d:Nat}{K:St→Prop}{Q:Exit→Act→World→Prop}(hd:o.dst=some d)(hN:d<N)(h:X1 P o σ r)(i:Inv cx N M β σ a w)(hk:K (oJ σ d r)):
  o.wp P a w (I3 cx N M w K) Q:=by
 unfold Oper.wp
 rcases h cx N M β a w i with⟨v,e,hr⟩|⟨f,vs,e,hc⟩
 ·rw[e,Oper.upon_value,hd]
  exact⟨_,M,β,hk,i.put hN hr,Grow.refl _ _,b6.refl _ _⟩
 ·rw[e,Oper.upon_enter]
  refine hc.mono ?_
  rintro e' w' ⟨v,M',rfl,hr,i',hg,kG⟩
  simp only [hd]
  exact⟨_,M',β,hk,i'.put hN hr,hg,kG⟩
theorem LJ{r:Option Nat}{o:Oper}{next:Act→World→Prop}{Q:Exit→Act→World→Prop}(hnd:∀c,o.op≠.defer c)(h:o.wp P a w next Q):o.wpIn (FW r) 0 P a w next Q:=by
 refine⟨fun _ _=>trivial,?_⟩
 rw[Oper.semAt_eq _ _ _ hnd]
 unfold Oper.wp at h
 generalize (execOp a.eval o).run P w=res at h ⊢
 unfold Oper.upon at h
 split at h
 ·exact h
 ·exact h
 ·exact h
 ·exact⟨fun e=>(by cases e),SQ.2 h⟩
 ·exact⟨fun e=>(by cases e),VL.2 h⟩
 ·exact h
 ·cases h
theorem QM.op{rc:List Nat}{σ:St}{o:Oper}{fo:Operand}{l:List Operand}(h:QM rc σ o.op=some (fo,l)):∃args uX,o.op=.call {callee:=.value fo,args:=args,argTypes:=uX}∧args.toList=l:=by
 unfold QM at h
 split at h
 ·rename_i fo' args uX nY
  split at h
  ·rename_i f cs hv
   cases hc:rc.contains f with
   |false=>rw[hc]at h;cases h
   |true=>rw[hc]at h;simp only [cond_true,Option.some.injEq,Prod.mk.injEq]at h;obtain⟨rfl,rfl⟩:=h;exact⟨_,_,nY,rfl⟩
  ·cases h
 ·cases h
theorem TO.sound(hT:b5 P T){o:Oper}{K:St→Prop}{Q:Exit→Act→World→Prop}(h:TO P T N ref rc o σ K)(aA:cx.ref=ref)(i:Inv cx N M β σ a w):
  o.wp P a w (I3 cx N M w K) Q:=by
 unfold TO at h
 split at h
 ·rename_i d hd
  cases hN:Nat.blt d N with
  |false=>rw[hN]at h;cases h
  |true=>
   rw[hN]at h
   have hN:d<N:=Nat.le_of_ble_eq_true hN
   simp only [cond_true]at h
   cases hx:LX o.op with
   |true=>
    rw[hx]at h
    simp only [cond_true]at h
    cases hfz:V8 rc ref d with
    |true=>
     rw[hfz]at h
     simp only [cond_true]at h
     obtain⟨zs,h⟩:=h
     unfold V8 at hfz
     rw[Bool.and_eq_true]at hfz
     obtain⟨M1,i1,g1⟩:=i.A8 (aA.trans (List.isEmpty_iff.1 hfz.2)) zs
     obtain⟨r,bx,hk,v,w',M',β',aV,hr,hi,hg,kG⟩:=IJ.spec hT h aA i1
     unfold Oper.wp
     rcases aV with aV|⟨aV,rfl⟩
     ·rw[aV,Oper.upon_value,hd]
      exact⟨_,M',β',hk,hi.put (σ:=⟨(A8 zs σ).env,bx⟩) hN hr,g1.trans hg,kG⟩
     ·rw[aV,Oper.upon_skip,hd]
      exact⟨_,M',β',hk,hi.put (σ:=⟨(A8 zs σ).env,bx⟩) hN hr,g1.trans hg,kG⟩
    |false=>
    rw[hfz]at h
    simp only [cond_false]at h
    obtain⟨r,bx,hk,v,w',M',β',aV,hr,hi,hg,kG⟩:=IJ.spec hT h aA i
    unfold Oper.wp
    rcases aV with aV|⟨aV,rfl⟩
    ·rw[aV,Oper.upon_value,hd]
     exact⟨_,M',β',hk,hi.put (σ:=⟨σ.env,bx⟩) hN hr,hg,kG⟩
    ·rw[aV,Oper.upon_skip,hd]
     exact⟨_,M',β',hk,hi.put (σ:=⟨σ.env,bx⟩) hN hr,hg,kG⟩
   |false=>
    rw[hx]at h
    simp only [cond_false]at h
    split at h
    ·rename_i fo args hR
     cases hfz:V8 rc ref d with
     |true=>
      rw[hfz]at h
      simp only [cond_true]at h
      obtain⟨zs,h⟩:=h
      unfold V8 at hfz
      rw[Bool.and_eq_true]at hfz
      obtain⟨M1,i1,g1⟩:=i.A8 (aA.trans (List.isEmpty_iff.1 hfz.2)) zs
      obtain⟨v,bx,hk,hs⟩:=aBL.spec (QM.op hR) h
      obtain⟨f,vs,aV,dV⟩:=hs cx N M1 β a w i1
      unfold Oper.wp
      rw[aV,Oper.upon_enter]
      refine dV.mono ?_
      rintro e' w' ⟨v',M',β',rfl,hr,i',hg,kG⟩
      simp only [hd]
      exact⟨_,M',β',hk,i'.put (σ:=⟨(A8 zs σ).env,bx⟩) hN hr,g1.trans hg,kG⟩
     |false=>
     rw[hfz]at h
     simp only [cond_false]at h
     obtain⟨v,bx,hk,hs⟩:=aBL.spec (QM.op hR) h
     obtain⟨f,vs,aV,dV⟩:=hs cx N M β a w i
     unfold Oper.wp
     rw[aV,Oper.upon_enter]
     refine dV.mono ?_
     rintro e' w' ⟨v',M',β',rfl,hr,i',hg,kG⟩
     simp only [hd]
     exact⟨_,M',β',hk,i'.put (σ:=⟨σ.env,bx⟩) hN hr,hg,kG⟩
    ·split at h
     ·rename_i fo args hR
      obtain⟨hr0,hR⟩:=OX.op hR
      obtain⟨v,bx,hk,hs⟩:=eat.spec hR h
      obtain⟨f,vs,aV,dV⟩:=hs cx N M β a w (by rw[aA,hr0]) i
      unfold Oper.wp
      rw[aV,Oper.upon_enter]
      refine dV.mono ?_
      rintro e' w' ⟨v',M',β',rfl,hr,i',hg,kG⟩
      simp only [hd]
      exact⟨_,M',β',hk,i'.put (σ:=⟨σ.env,bx⟩) hN hr,hg,kG⟩
     split at h
     ·rename_i l k hq
      obtain⟨v,aV,hv⟩:=AO.spec hT hq i
      unfold Oper.wp
      rw[aV,Oper.upon_value,hd]
      exact⟨_,M,β,h _ rfl,i.put hN hv,Grow.refl _ _,b6.refl _ _⟩
     split at h
     ·rename_i n p hq
      obtain⟨b,hb,aV⟩:=GP.spec hT hq i
      unfold Oper.wp
      rw[aV,Oper.upon_value,hd]
      exact⟨_,M,β,h b hb,i.put hN rfl,Grow.refl _ _,b6.refl _ _⟩
     ·obtain⟨r,hk,hs⟩:=lL.spec hT h
      exact E5 hd hN (hs iS) i hk
 ·rename_i hd
  cases hx:LX o.op with
  |false=>rw[hx]at h;cases h
  |true=>
   rw[hx]at h
   obtain⟨r,bx,hk,v,w',M',β',aV,hr,hi,hg,kG⟩:=IJ.spec hT h aA i
   unfold Oper.wp
   rcases aV with aV|⟨aV,rfl⟩
   ·rw[aV,Oper.upon_value,hd]
    exact⟨_,M',β',hk,hi,hg,kG⟩
   ·rw[aV,Oper.upon_skip,hd]
    exact⟨_,M',β',hk,hi,hg,kG⟩
theorem lL.nd{o:Oper}{σ:St}{g:Option Bool}{K:AV→Prop}(h:lL P T o.op σ g K):∀c,o.op≠.defer c:=by
 intro c e
 rw[e]at h
 cases h
theorem TO.nd{o:Oper}{K:St→Prop}(h:TO P T N ref rc o σ K):∀c,o.op≠.defer c:=by
 intro c e
 unfold TO at h
 rw[e]at h
 split at h
 ·rename_i d hd
  cases hN:Nat.blt d N with
  |false=>rw[hN]at h;cases h
  |true=>rw[hN]at h;cases h
 ·cases h
theorem zS.sound{o:Oper}{K:St→Prop}(h:zS N o σ K)(i:Inv cx N M β σ a w):
  I3 cx N M w K (a.put o.dst undef) w:=by
 unfold zS at h
 split at h
 ·rename_i d hd
  cases hN:Nat.blt d N with
  |false=>rw[hN]at h;cases h
  |true=>
   rw[hN]at h
   have hN:d<N:=Nat.le_of_ble_eq_true hN
   rw[hd]
   exact⟨_,M,β,h,i.put hN trivial,Grow.refl _ _,b6.refl _ _⟩
 ·rename_i hd
  rw[hd]
  exact⟨_,M,β,h,i,Grow.refl _ _,b6.refl _ _⟩
theorem WT{A:Array Value}{t:Nat}{b:Bool}(h:A.getD t undef=.bool b):A[t]? =some (.bool b):=by
 by_cases ht:t<A.size
 ·simp[ht]at h ⊢;exact h
 ·simp[ht,undef]at h
theorem pA{all:List Oper}{o:Oper}{j t:Nat}{nB b:Bool}(hg:o.guard=some (j,nB))(hj:rV all j=some t)(hb:a.tmps.getD t undef=.bool b):
  Region.wanted o (yielded all.toArray a.tmps)=(b==nB):=by
 have h1:((all[j]?).bind (·.dst))=some t:=hj
 simp[Region.wanted,hg,yielded,h1,WT hb]
theorem zI{all:List Oper}{o:Oper}{j t:Nat}{nB:Bool}(hg:o.guard=some (j,nB))(hj:rV all j=some t)(hb:a.tmps.getD t undef=undef):
  Region.wanted o (yielded all.toArray a.tmps)=false:=by
 have h1:((all[j]?).bind (·.dst))=some t:=hj
 have h2:∀b,a.tmps[t]? ≠some (.bool b):=by
  intro b e
  simp[e,undef]at hb
 simp only [Region.wanted,hg,yielded]
 simp[h1]
theorem YZ{t:Nat}{b nB:Bool}(i:Inv cx N M β σ a w)(hv:eZ σ.env t=.s (.d (.val (.bool b))))(hb:b=nB):Inv cx N M β (oJ σ t (.s (.d (.lit nB)))) a w:=by
 refine⟨i.defers,i.tmps,i.heap,fun u=>?_,i.mem,i.keys,i.box,i.inj,i.apart,i.low,i.ref⟩
 simp only [oJ]
 rw[gG]
 split
 ·rename_i h
  subst h
  have:=i.env t
  rw[hv]at this
  rw[←hb]
  exact this
 ·exact i.env u
theorem TF{t:Nat}{b nB c:Bool}(i:Inv cx N M β σ a w)(hv:eZ σ.env t=.ib c (.d (.val (.bool b))))(hc:c=true)(hb:b=nB):Inv cx N M β (oJ σ t (.s (.d (.lit nB)))) a w:=by
 refine⟨i.defers,i.tmps,i.heap,fun u=>?_,i.mem,i.keys,i.box,i.inj,i.apart,i.low,i.ref⟩
 simp only [oJ]
 rw[gG]
 split
 ·rename_i h
  subst h
  have:=i.env t
  rw[hv]at this
  rw[←hb]
  exact this.1 hc
 ·exact i.env u
theorem I3.trans{K:St→Prop}{M1:Mem}{w1:World}{a':Act}{w':World}(hg:Grow cx.B M M1)(hk:b6 cx w w1)(h:I3 cx N M1 w1 K a' w'):I3 cx N M w K a' w':=by
 obtain⟨σ',M',β',h1,h2,h3,h4⟩:=h
 exact⟨σ',M',β',h1,h2,hg.trans h3,hk.trans h4⟩
theorem lA.Q0(hT:b5 P T){all:List Oper}{K:St→Prop}{Q:Exit→Act→World→Prop}(aA:cx.ref=ref)(l2:List Oper):∀(l:List Oper) {M:Mem} {β:Nm} {σ:St} {a:Act} {w:World},
  lA P T N ref rc all l σ K→Inv cx N M β σ a w→(∀a' w',I3 cx N M w K a' w'→wpListIn (FW cx.rd) 0 P all.toArray Q l2 a' w')→wpListIn (FW cx.rd) 0 P all.toArray Q (l++l2) a w
 |[],M,β,σ,a,w,h,i,hQ=>hQ a w ⟨σ,M,β,h,i,Grow.refl _ _,b6.refl _ _⟩
 |o::rest,M,β,σ,a,w,h,i,hQ=>by
  have next:∀{a' w'},I3 cx N M w (fun σ'=>lA P T N ref rc all rest σ' K) a' w'→wpListIn (FW cx.rd) 0 P all.toArray Q (rest++l2) a' w':=by
   rintro a' w' ⟨σ',M',β',h1,h2,h3,h4⟩
   exact lA.Q0 hT aA l2 rest h1 h2 fun a2 w2 hp=>hQ a2 w2 (hp.trans h3 h4)
  have yes:∀{σ0:St},Inv cx N M β σ0 a w→TO P T N ref rc o σ0 (fun σ'=>lA P T N ref rc all rest σ' K)→Region.wanted o (yielded all.toArray a.tmps)=true→wpListIn (FW cx.rd) 0 P all.toArray Q (o::(rest++l2)) a w:=by
   intro σ0 i0 h hw
   unfold wpListIn
   rw[if_pos hw]
   exact LJ (TO.nd h) (Oper.wp_mono (fun a' w' hp=>next hp) (TO.sound hT h aA i0))
  have no:∀{σ0:St},Inv cx N M β σ0 a w→zS N o σ0 (fun σ'=>lA P T N ref rc all rest σ' K)→Region.wanted o (yielded all.toArray a.tmps)=false→wpListIn (FW cx.rd) 0 P all.toArray Q (o::(rest++l2)) a w:=by
   intro σ0 i0 h hw
   unfold wpListIn
   rw[if_neg (by simp[hw])]
   exact⟨fun _ _=>trivial,next (zS.sound h i0)⟩
  have part:∀{d:Nat} {gb:Bool},o.dst=some d→d<N→lL P T o.op σ (some gb) (fun v=>lA P T N ref rc all rest (oJ σ d (vA gb v)) K)→
    Region.wanted o (yielded all.toArray a.tmps)=gb→wpListIn (FW cx.rd) 0 P all.toArray Q (o::(rest++l2)) a w:=by
   intro d gb hd hN h hw
   obtain⟨r,hk,hs⟩:=lL.spec hT h
   unfold wpListIn
   cases hgb:gb with
   |true=>
    rw[if_pos (by rw[hw,hgb])]
    have G6:act (some gb):=fun c e=>by cases e;exact hgb
    have hdo:X1 P o σ (vA gb r):=by
     intro cx N M β a w i
     have hwr:∀{M β v},r.a7 M β v→(vA gb r).a7 M β v:=by
      intro M β v hr
      cases r with
      |s x=>exact⟨fun _=>hr,fun h=>by rw[hgb]at h;cases h⟩
      |g cs=>exact⟨fun _=>hr,fun h=>by rw[hgb]at h;cases h⟩
      |_=>exact trivial
     rcases hs G6 cx N M β a w i with⟨v,e,hr⟩|⟨f,vs,e,hc⟩
     ·exact .inl ⟨v,e,hwr hr⟩
     ·exact .inr ⟨f,vs,e,hc.mono fun e' w' ⟨v,M',h1,h2,h3⟩=>⟨v,M',h1,hwr h2,h3⟩⟩
    exact LJ (lL.nd h) (Oper.wp_mono (fun a' w' hp=>next hp) (E5 hd hN hdo i hk))
   |false=>
    rw[if_neg (by rw[hw,hgb];simp)]
    refine⟨fun _ _=>trivial,next ⟨_,M,β,hk,?_,Grow.refl _ _,b6.refl _ _⟩⟩
    rw[hd]
    refine i.put hN ?_
    cases r with
    |s x=>exact⟨fun h=>(by rw[hgb]at h;cases h),fun _=>rfl⟩
    |g cs=>exact⟨fun h=>(by rw[hgb]at h;cases h),fun _=>rfl⟩
    |_=>exact trivial
  replace h:YQ P T N ref rc all o (lA P T N ref rc all rest) σ K:=h
  unfold YQ at h
  split at h
  ·rename_i hg
   exact yes i h (by simp[Region.wanted,hg])
  ·rename_i j nB hg
   split at h
   ·cases h
   ·rename_i t ht
    split at h
    ·rename_i b hv
     have hb:a.tmps.getD t undef=.bool b:=by have:=i.env t;rw[hv]at this;exact this
     have hw:=pA hg ht hb
     cases b <;> cases nB
     ·exact yes i h hw
     ·exact no i h hw
     ·exact no i h hw
     ·exact yes i h hw
    ·rename_i b hv
     have hb:a.tmps.getD t undef=.bool b:=by have:=i.env t;rw[hv]at this;exact this
     have hw:=pA hg ht hb
     cases hx:isS rc σ o.op with
     |true=>
      rw[hx]at h
      by_cases hbp:b=nB
      ·exact yes (YZ i hv hbp) (h.1 hbp) (by rw[hw,hbp];simp)
      ·have hbn:b= !nB:=by cases b <;> cases nB <;> first|rfl|exact absurd rfl hbp
       exact no (YZ i hv hbn) (h.2 hbn) (by rw[hw,hbn];cases nB <;> rfl)
     |false=>
      rw[hx]at h
      simp only at h
      split at h
      ·rename_i d hd
       cases hN:Nat.blt d N with
       |false=>rw[hN]at h;cases h
       |true=>
        rw[hN]at h
        exact part hd (Nat.le_of_ble_eq_true hN) h (by rw[hw];cases b <;> cases nB <;> rfl)
      ·cases h
    ·rename_i c b hv
     have hr:(AV.ib c (.d (.val (.bool b)))).a7 M β (a.tmps.getD t undef):=by have:=i.env t;rw[hv]at this;exact this
     have hw:Region.wanted o (yielded all.toArray a.tmps)=(c&&tB nB b):=by
      cases c with
      |true=>rw[pA hg ht (hr.1 rfl)];cases b <;> cases nB <;> rfl
      |false=>exact zI hg ht (hr.2 rfl)
     split at h
     ·obtain⟨h1,h2,h3⟩:=h
      cases c with
      |false=>exact no i (h3 rfl) (by rw[hw];rfl)
      |true=>
       by_cases hbp:b=nB
       ·exact yes (TF i hv rfl hbp) (h1 rfl hbp) (by rw[hw,hbp];cases nB <;> rfl)
       ·have hbn:b= !nB:=by cases b <;> cases nB <;> first|rfl|exact absurd rfl hbp
        exact no (TF i hv rfl hbn) (h2 rfl hbn) (by rw[hw,hbn];cases nB <;> rfl)
     ·split at h
      ·rename_i d hd
       cases hN:Nat.blt d N with
       |false=>rw[hN]at h;cases h
       |true=>
        rw[hN]at h
        exact part hd (Nat.le_of_ble_eq_true hN) h hw
      ·cases h
    ·cases h
theorem lA.sound(hT:b5 P T){all:List Oper}{K:St→Prop}{Q:Exit→Act→World→Prop}(aA:cx.ref=ref)(l:List Oper){M:Mem}{β:Nm}{σ:St}{a:Act}{w:World}
  (h:lA P T N ref rc all l σ K) (i:Inv cx N M β σ a w) (hQ:∀a' w',I3 cx N M w K a' w'→Q .normal a' w'):wpListIn (FW cx.rd) 0 P all.toArray Q l a w:=by
 have:=lA.Q0 (Q:=Q) hT aA [] l h i (fun a' w' hp=>wpListIn_nil (hQ a' w' hp))
 rwa [List.append_nil]at this
end
def uZ(xs:List Nat)(σ σ':St):Prop:=∀x,x∈xs→aH σ'.box x=aH σ.box x
theorem dS.congr{σ σ':St}:∀(n:Nat) (x:SV),uZ (reach n σ x) σ σ'→dS n σ' x=dS n σ x:=by
 intro n
 induction n with
 |zero=>
  intro x h
  cases x with
  |own x=>simp only [dS,h x (by simp[reach])]
  |mo z x=>simp only [dS,h x (by simp[reach])]
  |jQ x s lo m=>simp only [dS,h x (by simp[reach])]
  |_=>rfl
 |succ n ih=>
  intro x h
  cases x with
  |d x=>rfl
  |ptr x off=>
   simp only [dS,h x (by simp[reach])]
   cases hb:aH σ.box x with
   |none=>rfl
   |some y=>cases y with
    |none=>rfl
    |some bc=>cases bc with
     |row e n s f=>rfl
     |bW e n s f=>rfl
     |map vk l=>rfl
     |smap vk l=>rfl
     |dm l n=>rfl
     |fresh T vs=>rfl
     |iter q n t=>rfl
     |cells cs=>
      simp only
      congr 1
      funext j
      cases hc:cs[off+j]? with
      |none=>rfl
      |some c=>exact ih c (fun m hm=>h m (by simp only [reach,hb];exact List.mem_cons_of_mem _ (iP hc hm)))
  |own x=>simp only [dS,h x (by simp[reach])]
  |mo z x=>simp only [dS,h x (by simp[reach])]
  |rw x i s o=>rfl
  |mp x=>rfl
  |jQ x s lo m=>
   simp only [dS,h x (by simp[reach])]
   cases hb:aH σ.box x with
   |none=>rfl
   |some y=>cases y with
    |none=>rfl
    |some bc=>cases bc with
     |row e n s f=>rfl
     |bW e n s f=>rfl
     |map vk l=>rfl
     |smap vk l=>rfl
     |dm l n=>rfl
     |fresh T vs=>rfl
     |iter q n t=>rfl
     |cells cs=>
      simp only
      congr 1
      congr 1
      funext i j
      cases hc:cs[(lo+i)*s+j]? with
      |none=>rfl
      |some c=>exact ih c (fun m hm=>h m (by simp only [reach,hb];exact List.mem_cons_of_mem _ (iP hc hm)))
  |dQ f cs=>
   simp only [dS]
   congr 1
   funext i
   cases hc:cs[i]? with
   |none=>rfl
   |some c=>cases c with
    |d x=>rfl
    |ptr x off=>exact ih (.ptr x off) (fun m hm=>h m (iP (f:=fun c=>match c with|.d _=>[]|.ptr x off=>reach n σ (.ptr x off)) hc hm))
theorem uZ.mono{xs ys:List Nat}{σ σ':St}(h:uZ xs σ σ')(hs:∀x,x∈ys→x∈xs):uZ ys σ σ':=fun x hx=>h x (hs x hx)
theorem ZD{σ:St}:∀(n:Nat) (x:SV) (m:Nat),m∈reach n σ x→m∈reach (n+1) σ x:=by
 intro n
 induction n with
 |zero=>
  intro x m h
  cases x with
  |ptr x off=>simp[reach]at h;subst h;simp[reach]
  |dQ f cs=>simp[reach]at h
  |jQ x s lo q=>simp[reach]at h;subst h;simp[reach]
  |_=>exact h
 |succ n ih=>
  intro x m h
  have lift:∀{α:Type} {f g:α→List Nat} (_:∀c,m∈f c→m∈g c) {l:List α},m∈dL f l→m∈dL g l:=by
   intro α f g hfg l
   induction l with
   |nil=>exact fun h=>h
   |cons c r ihl=>
    intro h
    simp only [dL,List.mem_append]at h ⊢
    exact h.imp (hfg c) ihl
  cases x with
  |ptr x off=>
   simp only [reach,List.mem_cons]at h ⊢
   refine h.imp id ?_
   cases hb:aH σ.box x with
   |none=>simp
   |some y=>cases y with
    |none=>simp
    |some bc=>cases bc with
     |row e n s f=>simp
     |bW e n s f=>simp
     |map vk l=>simp
     |smap vk l=>simp
     |dm l n=>simp
     |fresh T vs=>simp
     |iter q n t=>simp
     |cells cs=>exact lift (fun c hc=>ih c m hc)
  |jQ x s lo q=>
   simp only [reach,List.mem_cons]at h ⊢
   refine h.imp id ?_
   cases hb:aH σ.box x with
   |none=>simp
   |some y=>cases y with
    |none=>simp
    |some bc=>cases bc with
     |row e n s f=>simp
     |bW e n s f=>simp
     |map vk l=>simp
     |smap vk l=>simp
     |dm l n=>simp
     |fresh T vs=>simp
     |iter q n t=>simp
     |cells cs=>exact lift (fun c hc=>ih c m hc)
  |dQ f cs=>
   simp only [reach]at h ⊢
   refine lift (fun c hc=>?_) h
   cases c with
   |d x=>exact hc
   |ptr x off=>exact ih _ m hc
  |_=>exact h
theorem uC.congr{σ σ':St}{x:SV}(h:uZ (reach 4 σ x) σ σ'):uC σ' x=uC σ x:=by
 unfold uC
 rw[dS.congr 3 x (h.mono (fun m hm=>ZD 3 x m hm))]
theorem j9.congr{σ σ':St}:∀{cs:List SV},uZ (dL (reach 4 σ) cs) σ σ'→j9 σ' cs=j9 σ cs
 |[],_=>rfl
 |c::r,h=>by
  simp only [j9]
  rw[uC.congr (h.mono fun m hm=>List.mem_append_left _ hm),j9.congr (cs:=r) (h.mono fun m hm=>List.mem_append_right _ hm)]
theorem o0.congr{σ σ':St}{x:AV}(h:uZ (bP σ x) σ σ'):o0 σ' x=o0 σ x:=by
 cases x with
 |s x=>simp only [o0];rw[uC.congr h]
 |g cs=>simp only [o0];rw[j9.congr h]
 |_=>rfl
theorem iW.congr{σ σ':St}:∀{l:List AV},uZ (dL (bP σ) l) σ σ'→iW σ' l=iW σ l
 |[],_=>rfl
 |c::r,h=>by
  simp only [iW]
  rw[o0.congr (h.mono fun m hm=>List.mem_append_left _ hm),iW.congr (l:=r) (h.mono fun m hm=>List.mem_append_right _ hm)]
def BQ(v r:AV):Prop:=v=r∨(∃b x,v=.ib b x∧r=.s x)∨(∃b cs,v=.ig b cs∧r=.g cs)
theorem BQ.reach{v r:AV}(h:BQ v r)(σ:St):bP σ r=bP σ v:=by
 rcases h with rfl|⟨b,x,rfl,rfl⟩|⟨b,cs,rfl,rfl⟩ <;> rfl
theorem fe.imp{g:Option Bool}{v:AV}{K K':AV→Prop}(hk:∀r,BQ v r→K r→K' r)(h:fe g v K):fe g v K':=by
 cases v with
 |s x=>exact hk _ (.inl rfl) h
 |g cs=>exact hk _ (.inl rfl) h
 |t ts=>exact hk _ (.inl rfl) h
 |ib b x=>cases g with
  |none=>exact⟨h.1,hk _ (.inr (.inl ⟨b,x,rfl,rfl⟩)) h.2⟩
  |some gb=>exact⟨h.1,hk _ (.inr (.inl ⟨b,x,rfl,rfl⟩)) h.2⟩
 |ig b cs=>cases g with
  |none=>exact⟨h.1,hk _ (.inr (.inr ⟨b,cs,rfl,rfl⟩)) h.2⟩
  |some gb=>exact⟨h.1,hk _ (.inr (.inr ⟨b,cs,rfl,rfl⟩)) h.2⟩
section
variable{P:Program}{T:List (Nat×bJ)}{σ σ':St}{g:Option Bool}{K:AV→Prop}
theorem jY.congr{agg:Bool}{size:Nat}{va:AV}(h:uZ (bP σ va) σ σ')(k:jY σ agg size g va K):jY σ' agg size g va K:=by
 unfold jY at*
 cases va with
 |s x=>cases x with
  |ptr x off=>simp only [h x (by simp[bP,reach])];exact k
  |rw x i s o=>simp only [h x (by simp[bP,reach])];exact k
  |d x=>cases x <;> exact k
  |_=>exact k
 |_=>exact k
theorem pN.congr{t:Nat}{va vi:AV}(h:uZ (bP σ va) σ σ')(k:pN T σ t g va vi K):pN T σ' t g va vi K:=by
 have e:pN T σ' t g va vi K=pN T σ t g va vi K:=by
  unfold pN
  cases va with
  |s x=>cases x with
   |own x=>
    have hh:=h x (by simp[bP,reach])
    cases cV T t with
    |none=>rfl
    |some ti=>
     simp only
     generalize ti.jS=u
     cases u with
     |slice e=>
      simp only
      cases cV T e with
      |none=>rfl
      |some te=>
       cases vi with
       |s y=>cases y with
        |d z=>cases z with
         |val v=>cases v <;> first|rfl|simp only [hh]
         |_=>rfl
        |_=>rfl
       |_=>rfl
     |_=>rfl
   |mo z x=>
    have hh:=h x (by simp[bP,reach])
    cases cV T t with
    |none=>rfl
    |some ti=>
     simp only
     generalize ti.jS=u
     cases u with
     |slice e=>
      simp only
      cases cV T e with
      |none=>rfl
      |some te=>
       cases vi with
       |s y=>cases y with
        |d z=>cases z with
         |val v=>cases v <;> first|rfl|simp only [hh]
         |_=>rfl
        |_=>rfl
       |_=>rfl
     |_=>rfl
   |jQ x s lo m=>
    have hh:=h x (by simp[bP,reach])
    cases cV T t with
    |none=>rfl
    |some ti=>
     simp only
     generalize ti.jS=u
     cases u with
     |slice e=>
      simp only
      cases cV T e with
      |none=>rfl
      |some te=>
       cases vi with
       |s y=>cases y with
        |d z=>cases z with
         |val v=>cases v <;> first|rfl|simp only [hh]
         |_=>rfl
        |_=>rfl
       |_=>rfl
     |_=>rfl
   |d x=>cases x <;> rfl
   |_=>rfl
  |_=>rfl
 rw[e];exact k
theorem pL.congr{t:Nat}{va:AV}(h:uZ (bP σ va) σ σ')(k:pL T σ t va K):pL T σ' t va K:=by
 have e:pL T σ' t va K=pL T σ t va K:=by
  unfold pL
  cases cV T t with
  |none=>rfl
  |some ti=>
   simp only
   generalize ti.jS=u
   cases va with
   |s x=>cases x with
    |own x=>
     have hh:=h x (by simp[bP,reach])
     cases u <;> first|rfl|simp only [hh]
    |mo z x=>
     have hh:=h x (by simp[bP,reach])
     cases u <;> first|rfl|simp only [hh]
    |d x=>cases x with
     |val v=>cases v <;> cases u <;> rfl
     |_=>cases u <;> rfl
    |_=>cases u <;> rfl
   |_=>cases u <;> rfl
 rw[e];exact k
theorem lY.congr{f:FuncId}{args:List AV}(h:uZ (dL (bP σ) args) σ σ')(k:lY P σ g f args K):lY P σ' g f args K:=by
 unfold lY at*
 rw[iW.congr h]
 exact k
theorem reach.congr:∀(n:Nat) (x:SV),uZ (reach n σ x) σ σ'→reach n σ' x=reach n σ x:=by
 intro n
 induction n with
 |zero=>intro x _;cases x <;> rfl
 |succ n ih=>
  intro x h
  have cat:∀{α:Type} (f f':α→List Nat) (l:List α),(∀c,c∈l→f' c=f c)→dL f' l=dL f l:=by
   intro α f f' l hl
   induction l with
   |nil=>rfl
   |cons c r ihl=>simp only [dL];rw[hl c sM,ihl (fun c hc=>hl c (List.mem_cons_of_mem _ hc))]
  cases x with
  |ptr x off=>
   simp only [reach,h x (by simp[reach])]
   congr 1
   cases hb:aH σ.box x with
   |none=>rfl
   |some y=>cases y with
    |none=>rfl
    |some bc=>cases bc with
     |row e n s f=>rfl
     |bW e n s f=>rfl
     |map vk l=>rfl
     |smap vk l=>rfl
     |dm l n=>rfl
     |fresh T vs=>rfl
     |iter q n t=>rfl
     |cells cs=>
      simp only
      refine cat _ _ cs (fun c hc=>ih c (fun m hm=>h m ?_))
      simp only [reach,hb]
      obtain⟨j,hj⟩:=List.getElem?_of_mem hc
      exact List.mem_cons_of_mem _ (iP hj hm)
  |jQ x s lo q=>
   simp only [reach,h x (by simp[reach])]
   congr 1
   cases hb:aH σ.box x with
   |none=>rfl
   |some y=>cases y with
    |none=>rfl
    |some bc=>cases bc with
     |row e n s f=>rfl
     |bW e n s f=>rfl
     |map vk l=>rfl
     |smap vk l=>rfl
     |dm l n=>rfl
     |fresh T vs=>rfl
     |iter q n t=>rfl
     |cells cs=>
      simp only
      refine cat _ _ cs (fun c hc=>ih c (fun m hm=>h m ?_))
      simp only [reach,hb]
      obtain⟨j,hj⟩:=List.getElem?_of_mem hc
      exact List.mem_cons_of_mem _ (iP hj hm)
  |dQ f cs=>
   simp only [reach]
   refine cat _ _ cs (fun c hc=>?_)
   cases c with
   |d x=>rfl
   |ptr x off=>
    refine ih _ (fun m hm=>h m ?_)
    obtain⟨j,hj⟩:=List.getElem?_of_mem hc
    exact iP (f:=fun c=>match c with|.d _=>[]|.ptr x off=>reach n σ (.ptr x off)) hj hm
  |_=>rfl
theorem bP.congr(v:AV):uZ (bP σ v) σ σ'→bP σ' v=bP σ v:=by
 have mS:∀cs:List SV,uZ (dL (reach 4 σ) cs) σ σ'→dL (reach 4 σ') cs=dL (reach 4 σ) cs:=by
  intro cs
  induction cs with
  |nil=>intro _;rfl
  |cons c r ih=>intro h;simp only [dL];rw[reach.congr 4 c (h.mono fun m hm=>List.mem_append_left _ hm),ih (h.mono fun m hm=>List.mem_append_right _ hm)]
 intro h
 cases v with
 |s x=>exact reach.congr 4 x h
 |ib b x=>exact reach.congr 4 x h
 |g cs=>exact mS cs h
 |ig b cs=>exact mS cs h
 |t ts=>rfl
theorem ZE.congr:∀(l:List AV),uZ (dL (bP σ) l) σ σ'→dL (bP σ') l=dL (bP σ) l
 |[],_=>rfl
 |v::r,h=>by
  simp only [dL]
  rw[bP.congr v (h.mono fun m hm=>List.mem_append_left _ hm),ZE.congr r (h.mono fun m hm=>List.mem_append_right _ hm)]
theorem mM.congr{ren:List (Nat×Nat)}:∀{bx:eO},(∀x,x∈names bx→aH σ'.box (look ren x)=aH σ.box (look ren x))→mM ren σ.box bx→mM ren σ'.box bx
 |[],_,_=>trivial
 |(x,b)::r,h,⟨h1,h2⟩=>⟨(h x (by simp[names])).trans h1,mM.congr (fun y hy=>h y (by simp only [names];exact List.mem_cons_of_mem _ hy)) h2⟩
theorem BX.congr{f:FuncId}{args:List AV}{r:AV}(h:uZ (dL (bP σ) args) σ σ')(k:BX P σ f args r):BX P σ' f args r:=by
 obtain⟨ren,ar,bx,hc,he,hm,fT,hf,hx⟩:=k
 have O1:∀x,x∈names bx→look ren x∈dL (bP σ) args:=fun x QQ=>by
  rw[List.all_eq_true]at hx
  simpa using hx x QQ
 refine⟨ren,ar,bx,hc,he,hm.congr (fun x QQ=>h _ (O1 x QQ)),fT,hf,?_⟩
 rw[ZE.congr args h]
 exact hx
theorem kW.congr{f:FuncId}{args:List AV}(h:uZ (dL (bP σ) args) σ σ')(k:kW P σ g f args K):kW P σ' g f args K:=by
 rcases k with k|⟨r,h1,h2⟩
 ·exact .inl (lY.congr h k)
 ·refine .inr ⟨r,?_,h2⟩
  cases g with
  |none=>exact BX.congr h h1
  |some b=>exact fun hb=>BX.congr h (h1 hb)
theorem wR{α:Type}(f:α→List Nat):∀(a b:List α),dL f (a++b)=dL f a++dL f b
 |[],b=>rfl
 |x::a,b=>by simp only [List.cons_append,dL,wR f a b,List.append_assoc]
theorem CF(n:Nat):∀(cs:List CV) (m:Nat),m∈dL (bP σ) (uR cs)→n=4→m∈dL (fun c=>match c with|.d _=>[]|.ptr x off=>reach 4 σ (.ptr x off)) cs
 |[],_,h,_=>h
 |.d _::r,m,h,hn=>by
  simp only [uR,dL,bP,reach,List.nil_append]at h ⊢
  exact CF n r m h hn
 |.ptr x off::r,m,h,hn=>by
  simp only [uR,dL,List.mem_append]at h ⊢
  exact h.imp id (fun h=>CF n r m h hn)
theorem HT(c:Nat→DV):∀(k j m:Nat),m∈dL (bP σ) (iX c k j)→False
 |0,_,_,h=>by simp[iX,dL]at h
 |k+1,j,m,h=>by
  simp only [iX,dL,bP,reach,List.nil_append]at h
  exact HT c k (j+1) m h
theorem PJ(c:Nat→DV):∀(k j m:Nat),m∈dL (reach 4 σ) (gD c k j)→False
 |0,_,_,h=>by simp[gD,dL]at h
 |k+1,j,m,h=>by
  simp only [gD,dL,reach,List.nil_append]at h
  exact PJ c k (j+1) m h
def sR(σ:St):AV→List Nat
 |.s (.dQ _ cs)=>dL (fun c=>match c with|.d _=>[]|.ptr x off=>reach 4 σ (.ptr x off)) cs
 |.ib _ (.dQ _ cs)=>dL (fun c=>match c with|.d _=>[]|.ptr x off=>reach 4 σ (.ptr x off)) cs
 |_=>[]
theorem BQ.sR{v r:AV}(h:BQ v r)(σ:St):sR σ r=sR σ v:=by
 rcases h with rfl|⟨b,x,rfl,rfl⟩|⟨b,cs,rfl,rfl⟩
 ·rfl
 ·cases x <;> rfl
 ·rfl
theorem lZ.congr{vf:AV}{args:List AV}(h:uZ (sR σ vf++dL (bP σ) args) σ σ')(k:lZ P σ g vf args K):lZ P σ' g vf args K:=by
 unfold lZ at*
 split at k
 ·refine kW.congr (fun m hm=>h m ?_) k
  rw[wR,List.mem_append]at hm
  rcases hm with hm|hm
  ·exact List.mem_append_right _ hm
  ·exact List.mem_append_left _ (CF 4 _ m hm rfl)
 ·refine kW.congr (fun m hm=>h m ?_) k
  rw[wR,List.mem_append]at hm
  rcases hm with hm|hm
  ·exact List.mem_append_right _ hm
  ·exact(HT _ _ _ m hm).elim
 ·refine lY.congr (fun m hm=>h m ?_) k
  simp only [dL,List.mem_append]at hm
  rcases hm with hm|hm
  ·exact(PJ _ _ _ m hm).elim
  ·exact List.mem_append_right _ hm
 ·exact k.elim
def U5(xs:List Operand)(σ σ':St):Prop:=∀x,x∈xs→ev σ' x=ev σ x
theorem dO.congr:∀{l:List Operand} {K K':List AV→Prop},U5 l σ σ'→(∀ars,(∀m,m∈dL (bP σ) ars→m∈dL (fun x=>bP σ (ev σ x)) l)→K ars→K' ars)→dO g σ l K→dO g σ' l K'
 |[],_,_,_,hk,h=>hk [] (fun m hm=>hm) h
 |x::r,K,K',he,hk,h=>by
  simp only [dO]at*
  rw[he x sM]
  refine fe.imp (fun va hs h=>?_) h
  refine dO.congr (fun y hy=>he y (List.mem_cons_of_mem _ hy)) (fun ars hm h=>hk _ ?_ h) h
  intro m QQ
  simp only [dL,List.mem_append]at QQ ⊢
  rcases QQ with h1|h1
  ·rw[hs.reach σ]at h1;exact .inl h1
  ·exact .inr (hm m h1)
theorem ints.congr:∀{l:List Operand} {K:List (IntKind×Int)→Prop},U5 l σ σ'→ints g σ l K→ints g σ' l K
 |[],_,_,h=>h
 |x::r,K,he,h=>by
  simp only [ints]at*
  rw[he x sM]
  refine fe.imp (fun va hs h=>?_) h
  split at h
  ·exact ints.congr (fun y hy=>he y (List.mem_cons_of_mem _ hy)) h
  ·cases h
theorem parts.congr:∀{l:List (Nat×Operand)} {K:List (Nat×List SV)→Prop},U5 (l.map (·.2)) σ σ'→parts g σ l K→parts g σ' l K
 |[],_,_,h=>h
 |(i,x)::r,K,he,h=>by
  simp only [parts]at*
  rw[he x sM]
  refine fe.imp (fun va hs h=>?_) h
  split at h
  ·rename_i cs mS
   try simp only [mS]
   cases ho:lG cs with
   |false=>rw[ho]at h;cases h
   |true=>
    rw[ho]at h
    exact parts.congr (fun y hy=>he y (List.mem_cons_of_mem _ hy)) h
  ·cases h
theorem pF.congr:∀{l:List Operand},U5 l σ σ'→pF σ' l=pF σ l
 |[],_=>rfl
 |x::r,he=>by
  simp only [pF]
  rw[he x sM,pF.congr (l:=r) (fun y hy=>he y (List.mem_cons_of_mem _ hy))]
def rM(σ:St)(op:Op):List Nat:=
 match op with
 |.call {callee:=.value fo,args, .. }=>sR σ (ev σ fo)++dL (fun x=>bP σ (ev σ x)) args.toList
 |.move _=>[]
 |.assign _=>[]
 |.pick _ _ _=>[]
 |.fieldAddr _ _ _=>[]
 |.nilCheck _=>[]
 |.binOp _ _ _ _ _=>[]
 |.unOp _ _ _=>[]
 |.convert _ _ _=>[]
 |.extract _ _=>[]
 |.build _ _=>[]
 |.makeFunc _ _ _=>[]
 |.store _ _ _=>[]
 |.box _ _=>[]
 |.alloc _=>[]
 |.buildSlice _ _ _=>[]
 |op=>dL (fun x=>bP σ (ev σ x)) op.operands.toList
theorem lL.congr{op:Op}(he:U5 op.operands.toList σ σ')(hb:uZ (rM σ op) σ σ')(h:lL P T op σ g K):lL P T op σ' g K:=by
 cases op with
 |move x=>simp only [lL]at*;rw[he x (by simp[Op.operands])];exact h
 |assign x=>simp only [lL]at*;rw[he x (by simp[Op.operands])];exact h
 |pick c x y=>simp only [lL]at*;rw[he c (by simp[Op.operands]),he x (by simp[Op.operands]),he y (by simp[Op.operands])];exact h
 |load t x=>
  simp only [lL]at*
  rw[he x (by simp[Op.operands])]
  refine fe.imp (fun va hs h=>?_) h
  split at h
  ·exact jY.congr (hb.mono (fun m hm=>by rw[hs.reach σ]at hm;simp[rM,Op.operands,dL,hm])) h
  ·cases h
 |fieldAddr s x f=>simp only [lL]at*;rw[he x (by simp[Op.operands])];exact h
 |binOp op t x y ty=>simp only [lL]at*;rw[he x (by simp[Op.operands]),he y (by simp[Op.operands])];exact h
 |unOp op t x=>simp only [lL]at*;rw[he x (by simp[Op.operands])];exact h
 |convert src dst x=>simp only [lL]at*;rw[he x (by simp[Op.operands])];exact h
 |nilCheck x=>simp only [lL]at*;rw[he x (by simp[Op.operands])];exact h
 |extract x k=>simp only [lL]at*;rw[he x (by simp[Op.operands])];exact h
 |indexAddr t x y=>
  simp only [lL]at*
  rw[he x (by simp[Op.operands]),he y (by simp[Op.operands])]
  refine fe.imp (fun va hs h=>?_) h
  refine fe.imp (fun vi _ h=>?_) h
  exact pN.congr (hb.mono (fun m hm=>by rw[hs.reach σ]at hm;simp[rM,Op.operands,dL,hm])) h
 |index t x y=>simp only [lL]at*;rw[he x (by simp[Op.operands]),he y (by simp[Op.operands])];exact h
 |lookup t x y ok=>
  simp only [lL]at*
  rw[he x (by simp[Op.operands]),he y (by simp[Op.operands])]
  refine fe.imp (fun va hs h1=>?_) h
  refine fe.imp (fun vi hv h2=>?_) h1
  have YC:uZ (bP σ va) σ σ':=hb.mono (fun m hm=>by rw[hs.reach σ]at hm;simp[rM,Op.operands,dL,hm])
  clear h h1
  unfold qK at h2 ⊢
  cases hs:V7 T t with
  |true=>
   simp only [hs]at h2 ⊢
   unfold pK at h2 ⊢
   split at h2
   case h_2=>exact h2.elim
   rename_i b k
   simp only [YC b (by simp[bP,reach])]
   exact h2
  |false=>
   simp only [hs]at h2 ⊢
   unfold vV at h2 ⊢
   split at h2
   case h_2=>exact h2.elim
   rename_i b k
   simp only [YC b (by simp[bP,reach])]
   exact h2
 |slice t x lo hi mx=>
  cases mx with
  |some m=>exact h.elim
  |none=>
   simp only [lL]at*
   rw[he x (by simp[Op.operands])]
   refine fe.imp (fun va hs h=>?_) h
   have CP:U5 lo.toList σ σ':=fun y hy=>he y (by simp[Op.operands];exact .inr (.inl (by simpa using hy)))
   have RW:U5 hi.toList σ σ':=fun y hy=>he y (by simp[Op.operands];exact .inr (.inr (by simpa using hy)))
   unfold kI at*
   split at h <;> try (cases h)
   rename_i ti fX
   try simp only [fX]
   split at h
   ·rename_i e hu
    try simp only [hu]
    split at h <;> try (cases h)
    rename_i te mD
    try simp only [mD]
    split at h
    case h_5=>cases h
    case h_4=>
     cases lo with
     |none=>
      simp only [gB]at h ⊢
      cases hi with
      |none=>exact h
      |some y=>simp only at h ⊢;rw[RW y sM];exact h
     |some y=>
      simp only [gB]at h ⊢
      rw[CP y sM]
      cases hi with
      |none=>exact h
      |some z=>simp only at h ⊢;rw[RW z sM];exact h
    ·rename_i n s f
     try simp only
     cases hs:Nat.beq s te.size with
     |false=>rw[hs]at h;cases h
     |true=>
      rw[hs]at h
      simp only [cond_true]at*
      cases lo with
      |none=>
       simp only [gB]at h ⊢
       cases hi with
       |none=>exact h
       |some y=>simp only at h ⊢;rw[RW y sM];exact h
      |some y=>
       simp only [gB]at h ⊢
       rw[CP y sM]
       cases hi with
       |none=>exact h
       |some z=>simp only at h ⊢;rw[RW z sM];exact h
    ·rename_i x'
     have hgb:aH σ'.box x'=aH σ.box x':=hb x' (iP (j:=0) (c:=x) (by simp[Op.operands]) (by have:=hs.reach σ;simp only [←this];simp[bP,reach]))
     simp only [hgb]
     split at h
     case h_2=>cases h
     rename_i e' n s f qE
     cases hs:Nat.beq s te.size with
     |false=>rw[hs]at h;cases h
     |true=>
      rw[hs]at h
      simp only [cond_true]at*
      cases lo with
      |none=>
       simp only [gB]at h ⊢
       cases hi with
       |none=>exact h
       |some y=>simp only at h ⊢;rw[RW y sM];exact h
      |some y=>
       simp only [gB]at h ⊢
       rw[CP y sM]
       cases hi with
       |none=>exact h
       |some z=>simp only at h ⊢;rw[RW z sM];exact h
    ·rename_i x' s BY n
     try simp only
     cases hs:Nat.beq s te.size with
     |false=>rw[hs]at h;cases h
     |true=>
      rw[hs]at h
      simp only [cond_true]at*
      cases lo with
      |none=>
       simp only [gB]at h ⊢
       cases hi with
       |none=>exact h
       |some y=>simp only at h ⊢;rw[RW y sM];exact h
      |some y=>
       simp only [gB]at h ⊢
       rw[CP y sM]
       cases hi with
       |none=>exact h
       |some z=>simp only at h ⊢;rw[RW z sM];exact h
   ·rename_i hu
    try simp only [hu]
    split at h <;> try (cases h)
    rename_i s
    try simp only
    cases lo with
    |none=>
     simp only [gB]at h ⊢
     cases hi with
     |none=>exact h
     |some y=>simp only at h ⊢;rw[RW y sM];exact h
    |some y=>
     simp only [gB]at h ⊢
     rw[CP y sM]
     cases hi with
     |none=>exact h
     |some z=>simp only at h ⊢;rw[RW z sM];exact h
   ·cases h
 |build t pa=>
  simp only [lL]at*
  exact parts.congr (fun y hy=>he y (by simpa [Op.operands]using hy)) h
 |makeFunc fn fs HS=>
  cases fn with
  |func f=>
   simp only [lL]at*
   split at h
   ·rename_i YB
    try simp only [YB]
    rw[pF.congr (l:=HS.toList) (fun y hy=>he y (by simp[Op.operands];exact .inr (by simpa using hy)))]
    exact h
   ·rename_i y YB
    try simp only [YB]
    split at h
    ·rename_i mS
     try simp only [mS]
     rw[he y (by
      have:y∈fs:=by rw[←Array.mem_toList_iff,YB];simp
      simp[Op.operands];exact .inl this)]
     exact h
    ·cases h
   ·cases h
  |_=>exact h.elim
 |call c=>
  obtain⟨callee,args,uX⟩:=c
  simp only [lL]at*
  split at h
  ·rename_i fo
   try simp only
   rw[he fo (by simp[Op.operands,Call.operands])]
   refine fe.imp (fun vf hs h=>?_) h
   refine dO.congr (fun y hy=>he y (by simp[Op.operands,Call.operands];exact .inr (by simpa using hy))) (fun ars hm h=>?_) h
   refine lZ.congr (fun m QQ=>hb m ?_) h
   simp only [rM]
   rw[List.mem_append]at QQ ⊢
   rcases QQ with h1|h1
   ·rw[hs.sR σ]at h1;exact .inl h1
   ·exact .inr (hm m h1)
  ·try simp only
   split at h
   ·rename_i x t hx ht
    try simp only [hx,ht]
    have hxm:x∈args.toList:=by rw[hx];simp
    rw[he x (by simp[Op.operands,Call.operands];simpa using hxm)]
    refine fe.imp (fun va hs h=>?_) h
    refine pL.congr (hb.mono (fun m hm=>?_)) h
    rw[hs.reach σ]at hm
    have:args= #[x]:=by apply Array.ext';simpa using hx
    subst this
    simp[rM,Op.operands,Call.operands,dL,hm]
   ·cases h
  ·try simp only
   split at h
   ·rename_i x t hx ht
    try simp only [hx,ht]
    have hxm:x∈args.toList:=by rw[hx];simp
    rw[he x (by simp[Op.operands,Call.operands];simpa using hxm)]
    exact h
   ·cases h
  ·exact ints.congr (fun y hy=>he y (by simp[Op.operands,Call.operands];simpa using hy)) h
  ·exact ints.congr (fun y hy=>he y (by simp[Op.operands,Call.operands];simpa using hy)) h
  ·cases h
 |_=>exact h.elim
end
def eR{α:Type}(C:(α→Prop)→Prop)(r:α):Prop:=∀K,K r→C K
section
variable{P:Program}{T:List (Nat×bJ)}{σ:St}{g:Option Bool}
theorem fe.oV{v:AV}{K:AV→Prop}(h:fe g v K):∃r,K r∧eR (fe g v) r:=by
 cases v with
 |s x=>exact⟨_,h,fun _ k=>k⟩
 |g cs=>exact⟨_,h,fun _ k=>k⟩
 |t ts=>exact⟨_,h,fun _ k=>k⟩
 |ib b x=>cases g with
  |none=>exact⟨_,h.2,fun _ k=>⟨h.1,k⟩⟩
  |some gb=>exact⟨_,h.2,fun _ k=>⟨h.1,k⟩⟩
 |ig b cs=>cases g with
  |none=>exact⟨_,h.2,fun _ k=>⟨h.1,k⟩⟩
  |some gb=>exact⟨_,h.2,fun _ k=>⟨h.1,k⟩⟩
theorem fe.pt{α:Type}{v:AV}{C:AV→(α→Prop)→Prop}{K:α→Prop}(h:fe g v fun va=>C va K)(hC:∀va K,C va K→∃r,K r∧eR (C va) r):
  ∃r,K r∧eR (fun K=>fe g v fun va=>C va K) r:=by
 obtain⟨va,h1,h2⟩:=fe.oV h
 obtain⟨r,h3,h4⟩:=hC va K h1
 exact⟨r,h3,fun K k=>h2 _ (h4 K k)⟩
theorem dO.pt{α:Type}:∀{l:List Operand} {C:List AV→(α→Prop)→Prop} {K:α→Prop},dO g σ l (fun ars=>C ars K)→(∀ars K,C ars K→∃r,K r∧eR (C ars) r)→
  ∃r,K r∧eR (fun K=>dO g σ l fun ars=>C ars K) r
 |[],C,K,h,hC=>by
  obtain⟨r,h3,h4⟩:=hC [] K h
  exact⟨r,h3,fun K k=>h4 K k⟩
 |x::r,C,K,h,hC=>by
  simp only [dO]at h ⊢
  exact fe.pt (C:=fun va K=>dO g σ r fun l=>C (va::l) K) h (fun va K h=>dO.pt (C:=fun l K=>C (va::l) K) h (fun ars K h=>hC _ K h))
theorem ints.pt{α:Type}:∀{l:List Operand} {C:List (IntKind×Int)→(α→Prop)→Prop} {K:α→Prop},ints g σ l (fun ars=>C ars K)→(∀ars K,C ars K→∃r,K r∧eR (C ars) r)→
  ∃r,K r∧eR (fun K=>ints g σ l fun ars=>C ars K) r
 |[],C,K,h,hC=>by
  obtain⟨r,h3,h4⟩:=hC [] K h
  exact⟨r,h3,fun K k=>h4 K k⟩
 |x::r,C,K,h,hC=>by
  simp only [ints]at h ⊢
  refine fe.pt (C:=fun va K=>match va with|.s (.d (.val (.int k n)))=>ints g σ r fun l=>C ((k,n)::l) K|_=>False) h (fun va K h=>?_)
  split at h
  ·exact ints.pt (C:=fun l K=>C (_::l) K) h (fun ars K h=>hC _ K h)
  ·cases h
theorem parts.pt{α:Type}:∀{l:List (Nat×Operand)} {C:List (Nat×List SV)→(α→Prop)→Prop} {K:α→Prop},parts g σ l (fun ars=>C ars K)→(∀ars K,C ars K→∃r,K r∧eR (C ars) r)→
  ∃r,K r∧eR (fun K=>parts g σ l fun ars=>C ars K) r
 |[],C,K,h,hC=>by
  obtain⟨r,h3,h4⟩:=hC [] K h
  exact⟨r,h3,fun K k=>h4 K k⟩
 |(i,x)::r,C,K,h,hC=>by
  simp only [parts]at h ⊢
  refine fe.pt (C:=fun va K=>match oQ va with|some cs=>(bif lG cs then parts g σ r fun l=>C ((i,cs)::l) K else False)|none=>False) h (fun va K h=>?_)
  split at h
  ·rename_i cs mS
   cases ho:lG cs with
   |false=>rw[ho]at h;cases h
   |true=>
    rw[ho]at h
    obtain⟨r',h1,h2⟩:=parts.pt (C:=fun l K=>C (_::l) K) h (fun ars K h=>hC _ K h)
    refine⟨r',h1,fun K k=>?_⟩
    simp only [cond_true]
    exact h2 K k
  ·cases h
theorem jY.pt{agg:Bool}{size:Nat}{va:AV}{K:AV→Prop}(h:jY σ agg size g va K):∃r,K r∧eR (jY σ agg size g va) r:=by
 unfold jY at h
 split at h
 ·rename_i x off
  split at h
  ·rename_i cs hb
   split at h
   ·cases hle:Nat.ble (off+size) cs.length with
    |false=>rw[hle]at h;cases h
    |true=>rw[hle]at h;exact⟨_,h,fun K k=>by unfold jY;simp only [hb,hle,cond_true];exact k⟩
   ·split at h
    ·rename_i c hc
     exact⟨_,h,fun K k=>by unfold jY;simp only [hb,hc];exact k⟩
    ·cases h
  ·cases h
 ·rename_i x i s o
  split at h
  ·rename_i e n s' f hb
   cases hc:(Nat.beq s s'&&Nat.ble (o+cnt agg size) s)with
   |false=>rw[hc]at h;cases h
   |true=>
    rw[hc]at h
    cases agg with
    |true=>exact⟨_,h.2,fun K k=>by unfold jY;simp only [hb,hc,cond_true];exact⟨h.1,k⟩⟩
    |false=>exact⟨_,h.2,fun K k=>by unfold jY;simp only [hb,hc,cond_true];exact⟨h.1,k⟩⟩
  ·rename_i e n s' f hb
   cases hc:(Nat.beq s s'&&Nat.ble (o+cnt agg size) s)with
   |false=>rw[hc]at h;cases h
   |true=>
    rw[hc]at h
    cases agg with
    |true=>exact⟨_,h.2,fun K k=>by unfold jY;simp only [hb,hc,cond_true];exact⟨h.1,k⟩⟩
    |false=>exact⟨_,h.2,fun K k=>by unfold jY;simp only [hb,hc,cond_true];exact⟨h.1,k⟩⟩
  ·cases h
 ·rename_i m f
  split at h
  ·cases hle:Nat.ble size m with
   |false=>rw[hle]at h;cases h
   |true=>rw[hle]at h;exact⟨_,h,fun K k=>by unfold jY;simp only [hle,cond_true];exact k⟩
  ·cases hle:Nat.ble 1 m with
   |false=>rw[hle]at h;cases h
   |true=>rw[hle]at h;exact⟨_,h,fun K k=>by unfold jY;simp only [hle,cond_true];exact k⟩
 ·cases h
theorem qX.pt{s f:Nat}{va:AV}{K:AV→Prop}(h:qX T s f va K):∃r,K r∧eR (qX T s f va) r:=by
 unfold qX at h
 split at h
 case h_2=>cases h
 rename_i ti fX
 split at h
 case h_2=>cases h
 rename_i off sz hf
 split at h
 case h_2=>cases h
 rename_i hu
 cases hz:Nat.beq sz 0 with
 |true=>rw[hz]at h;cases h
 |false=>
  rw[hz]at h
  simp only [cond_false]at h
  split at h
  case h_4=>cases h
  all_goals exact⟨_,h,fun K k=>by unfold qX;simp only [fX,hf,hu,hz,cond_false];exact k⟩
theorem pN.pt{t:Nat}{va vi:AV}{K:AV→Prop}(h:pN T σ t g va vi K):∃r,K r∧eR (pN T σ t g va vi) r:=by
 unfold pN at h
 split at h
 case h_2=>cases h
 rename_i ti fX
 split at h
 case h_3=>cases h
 rotate_left
 ·rename_i len e hu
  split at h
  case h_2=>cases h
  rename_i te mD
  split at h
  case h_2=>cases h
  split at h
  case h_4=>cases h
  all_goals exact⟨_,h.2,fun K k=>by unfold pN;simp only [fX,hu,mD];exact⟨h.1,k⟩⟩
 rename_i e hu
 split at h
 case h_2=>cases h
 rename_i te mD
 split at h
 case h_2=>cases h
 split at h
 case h_5=>cases h
 rotate_left
 rotate_left
 rotate_left
 ·rename_i x' s lo m
  split at h
  ·rename_i cs hb
   cases hs:Nat.beq s te.size with
   |false=>rw[hs]at h;cases h
   |true=>rw[hs]at h;exact⟨_,h.2,fun K k=>by unfold pN;simp only [fX,hu,mD,hb,hs,cond_true];exact⟨h.1,k⟩⟩
  ·rename_i hV
   cases hs:Nat.beq s te.size with
   |false=>rw[hs]at h;cases h
   |true=>
    rw[hs]at h
    refine⟨_,h.2,fun K k=>?_⟩
    unfold pN
    simp only [fX,hu,mD]
    rw[hs,cond_true]
    exact⟨h.1,k⟩
 ·rename_i len s f
  cases hs:Nat.beq s te.size with
  |false=>rw[hs]at h;cases h
  |true=>rw[hs]at h;exact⟨_,h.2,fun K k=>by unfold pN;simp only [fX,hu,mD,hs,cond_true];exact⟨h.1,k⟩⟩
 ·split at h
  case h_2=>cases h
  rename_i e' len s f hb
  cases hs:Nat.beq s te.size with
  |false=>rw[hs]at h;cases h
  |true=>rw[hs]at h;exact⟨_,h.2,fun K k=>by unfold pN;simp only [fX,hu,mD,hb,hs,cond_true];exact⟨h.1,k⟩⟩
 ·split at h
  case h_2=>cases h
  rename_i e' len s f hb
  cases hs:Nat.beq s te.size with
  |false=>rw[hs]at h;cases h
  |true=>rw[hs]at h;exact⟨_,h.2,fun K k=>by unfold pN;simp only [fX,hu,mD,hb,hs,cond_true];exact⟨h.1,k⟩⟩
theorem B5.pt{t:Nat}{va vi:AV}{K:AV→Prop}(h:B5 T t g va vi K):∃r,K r∧eR (B5 T t g va vi) r:=by
 unfold B5 at h
 split at h
 case h_2=>cases h
 rename_i ti fX
 split at h
 case h_3=>cases h
 ·rename_i hu
  split at h
  case h_2=>cases h
  exact⟨_,h.2,fun K k=>by unfold B5;simp only [fX,hu];exact⟨h.1,k⟩⟩
 ·rename_i hu
  split at h
  case h_2=>cases h
  rename_i te mD
  split at h
  case h_2=>cases h
  rename_i cs kk n
  obtain⟨iT,h⟩:=h
  split at h
  ·rename_i G4
   cases hle:Nat.ble (n.toNat*te.size+te.size) cs.length with
   |false=>rw[hle]at h;cases h
   |true=>rw[hle]at h;exact⟨_,h,fun K k=>by unfold B5;simp only [fX,hu,mD,G4,hle,cond_true];exact⟨iT,k⟩⟩
  ·rename_i G4
   split at h
   case h_2=>cases h
   rename_i c hc
   exact⟨_,h,fun K k=>by unfold B5;simp only [fX,hu,mD,G4,hc];exact⟨iT,k⟩⟩
theorem IU.pt{n:Nat}{va:AV}{K:AV→Prop}(h:IU n va K):∃r,K r∧eR (IU n va) r:=by
 unfold IU at h
 split at h
 case h_2=>cases h
 rename_i ts
 split at h
 case h_3=>cases h
 ·rename_i hs
  exact⟨_,h,fun K k=>by unfold IU;simp only [hs];exact k⟩
 ·rename_i hs
  exact⟨_,h,fun K k=>by unfold IU;simp only [hs];exact k⟩
theorem unV.pt{op:UnOp}{va:AV}{K:AV→Prop}(h:unV op va K):∃r,K r∧eR (unV op va) r:=by
 unfold unV at h
 split at h
 case h_4=>cases h
 ·rename_i b
  cases b <;> exact⟨_,h,fun K k=>k⟩
 ·exact⟨_,h,fun K k=>k⟩
 ·exact⟨_,h,fun K k=>k⟩
theorem tW.pt{g:Option Bool}{vc vx vy:AV}{K:AV→Prop}(h:tW g vc vx vy K):∃r,K r∧eR (tW g vc vx vy) r:=by
 unfold tW at h
 split at h
 case h_3=>cases h
 ·rename_i b
  cases b
  ·obtain⟨r,h1,h2⟩:=fe.oV h;exact⟨r,h1,fun K k=>h2 K k⟩
  ·obtain⟨r,h1,h2⟩:=fe.oV h;exact⟨r,h1,fun K k=>h2 K k⟩
 ·rename_i b
  split at h
  case h_2=>cases h
  rename_i p gp q gq hp hq
  obtain⟨h1,h2,h⟩:=h
  cases e1:Z7 false vy with
  |true=>rw[e1]at h;exact⟨_,h,fun K k=>by unfold tW;simp only [hp,hq,e1,cond_true];exact⟨h1,h2,k⟩⟩
  |false=>
   rw[e1]at h
   cases e2:Z7 true vx with
   |true=>rw[e2]at h;exact⟨_,h,fun K k=>by unfold tW;simp only [hp,hq,e1,e2,cond_true,cond_false];exact⟨h1,h2,k⟩⟩
   |false=>rw[e2]at h;exact⟨_,h,fun K k=>by unfold tW;simp only [hp,hq,e1,e2,cond_false];exact⟨h1,h2,k⟩⟩
theorem sB.pt{src dst:Nat}{va:AV}{K:AV→Prop}(h:sB T src dst va K):∃r,K r∧eR (sB T src dst va) r:=by
 unfold sB at h
 split at h
 case h_2=>cases h
 rename_i ts td qV htd
 split at h
 case h_5=>cases h
 ·rename_i e1 e2
  exact⟨_,h,fun K k=>by unfold sB;simp only [qV,htd,e1,e2];exact k⟩
 ·rename_i e1 e2
  exact⟨_,h,fun K k=>by unfold sB;simp only [qV,htd,e1,e2];exact k⟩
 ·rename_i e1 e2
  exact⟨_,h,fun K k=>by unfold sB;simp only [qV,htd,e1,e2];exact k⟩
 ·rename_i e1 e2
  obtain⟨n,h1,h⟩:=h
  exact⟨_,h,fun K k=>by unfold sB;simp only [qV,htd,e1,e2];exact⟨n,h1,k⟩⟩
theorem LM.pt{va:AV}{K:AV→Prop}(h:LM va K):∃r,K r∧eR (LM va) r:=by
 unfold LM at h
 split at h
 case h_6=>cases h
 all_goals exact⟨_,h,fun K k=>k⟩
theorem pL.pt{t:Nat}{va:AV}{K:AV→Prop}(h:pL T σ t va K):∃r,K r∧eR (pL T σ t va) r:=by
 unfold pL at h
 split at h
 case h_2=>cases h
 rename_i ti fX
 split at h
 case h_8=>cases h
 ·rename_i hu;exact⟨_,h,fun K k=>by unfold pL;simp only [fX,hu];exact k⟩
 ·rename_i hu
  split at h
  case h_2=>cases h
  rename_i hb
  exact⟨_,h,fun K k=>by unfold pL;simp only [fX,hu,hb];exact k⟩
 ·rename_i hu
  split at h
  case h_2=>cases h
  rename_i hb
  exact⟨_,h,fun K k=>by unfold pL;simp only [fX,hu,hb];exact k⟩
 ·rename_i hu;exact⟨_,h,fun K k=>by unfold pL;simp only [fX,hu];exact k⟩
 ·rename_i hu;exact⟨_,h,fun K k=>by unfold pL;simp only [fX,hu];exact k⟩
 ·rename_i hu;exact⟨_,h,fun K k=>by unfold pL;simp only [fX,hu];exact k⟩
 ·rename_i hu;exact⟨_,h,fun K k=>by unfold pL;simp only [fX,hu];exact k⟩
theorem pZ.pt{t:Nat}{ps:List (Nat×List SV)}{K:AV→Prop}(h:pZ T t ps K):∃r,K r∧eR (pZ T t ps) r:=by
 unfold pZ at h
 split at h
 case h_2=>cases h
 rename_i ti fX
 split at h
 case h_3=>cases h
 ·rename_i hu
  split at h
  case h_2=>cases h
  rename_i cs mS
  exact⟨_,h,fun K k=>by unfold pZ;simp only [fX,hu,mS];exact k⟩
 ·rename_i n e hu
  split at h
  case h_2=>cases h
  rename_i te mD
  split at h
  case h_2=>cases h
  rename_i cs mS
  exact⟨_,h,fun K k=>by unfold pZ;simp only [fX,hu,mD,mS];exact k⟩
theorem I2.pt{op:BinOp}{k:IntKind}{x y:Int}{K:AV→Prop}(h:I2 op k g x y K):∃r,K r∧eR (I2 op k g x y) r:=by
 unfold I2 at h
 split at h <;> first
  |exact h.elim
  |exact⟨_,h,fun K k=>k⟩
  |exact⟨_,h.2,fun K k=>⟨h.1,k⟩⟩
theorem I1.pt{op:BinOp}{x y:ByteArray}{K:AV→Prop}(h:I1 op g x y K):∃r,K r∧eR (I1 op g x y) r:=by
 unfold I1 at h
 split at h <;> first
  |exact h.elim
  |exact⟨_,h,fun K k=>k⟩
  |exact⟨_,h.2,fun K k=>⟨h.1,k⟩⟩
theorem bin.pt{op:BinOp}{t:Nat}{va vb:AV}{K:AV→Prop}(h:bin T op t g va vb K):∃r,K r∧eR (bin T op t g va vb) r:=by
 unfold bin at h
 split at h
 ·rename_i k a k' b
  by_cases hk:k=k'
  ·subst hk
   simp only [decide_true,cond_true]at h
   obtain⟨r,h1,h2⟩:=I2.pt h
   exact⟨r,h1,fun K k=>by unfold bin;simp only [decide_true,cond_true];exact h2 K k⟩
  ·simp only [hk,decide_false,cond_false]at h
 ·obtain⟨r,h1,h2⟩:=I1.pt h
  exact⟨r,h1,fun K k=>h2 K k⟩
 ·split at h
  case h_2=>cases h
  rename_i i hi
  split at h
  case h_2=>cases h
  rename_i e hu
  cases op <;> first
   |exact h.elim
   |exact⟨_,h,fun K k=>by unfold bin;simp only [hi,hu];exact k⟩
 ·rename_i xs ys
  split at h
  case h_2=>cases h
  rename_i i hi
  cases hc:(i.ints&&(gJ i.zero xs&&gJ i.zero ys))with
  |false=>rw[hc]at h;cases h
  |true=>
   rw[hc]at h
   simp only [cond_true]at h
   split at h
   case h_2=>cases h
   rename_i b hb
   cases op <;> first
    |exact h.elim
    |exact⟨_,h,fun K k=>by unfold bin;simp only [hi,hc,cond_true,hb];exact k⟩
 ·split at h
  case h_2=>cases h
  rename_i i hi
  split at h
  case h_2=>cases h
  rename_i e hu
  cases op <;> first
   |exact h.elim
   |exact⟨_,h,fun K k=>by unfold bin;simp only [hi,hu];exact k⟩
 ·split at h
  case h_2=>cases h
  rename_i i hi
  split at h
  case h_2=>cases h
  rename_i e hu
  cases op <;> first
   |exact h.elim
   |exact⟨_,h,fun K k=>by unfold bin;simp only [hi,hu];exact k⟩
 ·rename_i n1 n2 n3 n4 n5
  split at h
  case h_2=>cases h
  rename_i a b ha hb
  split at h
  case h_2=>cases h
  rename_i i hi
  split at h
  case h_2=>cases h
  rename_i hu
  cases op <;> first
   |exact h.elim
   |exact⟨_,h,fun K k=>by unfold bin;simp only [ha,hb,hi,hu];exact k⟩
theorem gB.pt{α:Type}{x:Option Operand}{C:Option Int→(α→Prop)→Prop}{K:α→Prop}(h:gB g σ x fun r=>C r K)(hC:∀r K,C r K→∃e,K e∧eR (C r) e):
  ∃e,K e∧eR (fun K=>gB g σ x fun r=>C r K) e:=by
 cases x with
 |none=>exact hC none K h
 |some x=>
  simp only [gB]at h ⊢
  refine fe.pt (C:=fun va K=>match va with|.s (.d (.val (.int _ n)))=>C (some n) K|_=>False) h (fun va K h=>?_)
  split at h
  ·exact hC _ K h
  ·cases h
theorem lY.pt{f:FuncId}{args:List AV}{K:AV→Prop}(h:lY P σ g f args K):∃r,K r∧eR (lY P σ g f args) r:=by
 obtain⟨r,h1,h2⟩:=h
 cases hb:(!A2 r&&rL args)with
 |true=>rw[hb]at h2;exact h2.elim
 |false=>rw[hb]at h2;exact⟨r,h2,fun K k=>⟨r,h1,by rw[hb];exact k⟩⟩
theorem kW.pt{f:FuncId}{args:List AV}{K:AV→Prop}(h:kW P σ g f args K):∃r,K r∧eR (kW P σ g f args) r:=by
 rcases h with h|⟨r,h1,h2⟩
 ·obtain⟨r,h1,h2⟩:=lY.pt h
  exact⟨r,h1,fun K k=>.inl (h2 K k)⟩
 ·exact⟨r,h2,fun K k=>.inr ⟨r,h1,k⟩⟩
theorem lZ.pt{vf:AV}{args:List AV}{K:AV→Prop}(h:lZ P σ g vf args K):∃r,K r∧eR (lZ P σ g vf args) r:=by
 unfold lZ at h
 split at h
 case h_4=>cases h
 ·obtain⟨r,h1,h2⟩:=kW.pt h;exact⟨r,h1,fun K k=>h2 K k⟩
 ·obtain⟨r,h1,h2⟩:=kW.pt h;exact⟨r,h1,fun K k=>h2 K k⟩
 ·obtain⟨r,h1,h2⟩:=lY.pt h;exact⟨r,h1,fun K k=>h2 K k⟩
theorem kI.pt{t:Nat}{vx:AV}{lo hi:Option Operand}{K:AV→Prop}(h:kI T σ t g vx lo hi K):∃r,K r∧eR (kI T σ t g vx lo hi) r:=by
 unfold kI at h
 split at h
 case h_2=>cases h
 rename_i ti fX
 split at h
 case h_3=>cases h
 ·rename_i e hu
  split at h
  case h_2=>cases h
  rename_i te mD
  split at h
  case h_5=>cases h
  case h_4=>
   obtain⟨r,h1,h2⟩:=gB.pt (C:=fun l (K:AV→Prop)=>gB g σ hi fun h=>Go.Ax.imp g (l.getD 0=0∧h.getD 0=0)∧K (.s (.d (.val (.slice none 0 0))))) h (fun l K h=>by
    refine gB.pt (C:=fun h (K:AV→Prop)=>Go.Ax.imp g (l.getD 0=0∧h.getD 0=0)∧K (.s (.d (.val (.slice none 0 0))))) h (fun hh K h=>⟨_,h.2,fun K k=>⟨h.1,k⟩⟩))
   refine⟨r,h1,fun K k=>?_⟩
   unfold kI
   simp only [fX,hu,mD]
   exact h2 K k
  ·rename_i n s f
   cases hs:Nat.beq s te.size with
   |false=>rw[hs]at h;cases h
   |true=>
    rw[hs]at h
    simp only [cond_true]at h
    obtain⟨r,h1,h2⟩:=gB.pt (C:=fun l (K:AV→Prop)=>gB g σ hi fun h=>Go.Ax.imp g (0≤l.getD 0∧l.getD 0≤h.getD n∧h.getD n≤n)∧
       (match (generalizing:=false) l with
       |none=>K (.s (.d (.fJ (h.getD n).toNat s f)))
       |some l=>K (.s (.d (.fJ (h.getD n - l).toNat s fun i=>f (l.toNat+i)))))) h (fun l K h=>by
     refine gB.pt (C:=fun h (K:AV→Prop)=>Go.Ax.imp g (0≤l.getD 0∧l.getD 0≤h.getD n∧h.getD n≤n)∧
       (match (generalizing:=false) l with
       |none=>K (.s (.d (.fJ (h.getD n).toNat s f)))
       |some l=>K (.s (.d (.fJ (h.getD n - l).toNat s fun i=>f (l.toNat+i)))))) h (fun hh K h=>?_)
     cases l with
     |none=>exact⟨_,h.2,fun K k=>⟨h.1,k⟩⟩
     |some l=>exact⟨_,h.2,fun K k=>⟨h.1,k⟩⟩)
    refine⟨r,h1,fun K k=>?_⟩
    unfold kI
    simp only [fX,hu,mD,hs,cond_true]
    exact h2 K k
  ·rename_i x'
   split at h
   case h_2=>cases h
   rename_i e' n s f qE
   cases hs:Nat.beq s te.size with
   |false=>rw[hs]at h;cases h
   |true=>
    rw[hs]at h
    simp only [cond_true]at h
    obtain⟨r,h1,h2⟩:=gB.pt (C:=fun l (K:AV→Prop)=>gB g σ hi fun h=>Go.Ax.imp g (0≤l.getD 0∧l.getD 0≤h.getD n∧h.getD n≤n)∧K (.s (.jQ x' s (l.getD 0).toNat ((h.getD n).toNat - (l.getD 0).toNat)))) h (fun l K h=>by
     refine gB.pt (C:=fun h (K:AV→Prop)=>Go.Ax.imp g (0≤l.getD 0∧l.getD 0≤h.getD n∧h.getD n≤n)∧K (.s (.jQ x' s (l.getD 0).toNat ((h.getD n).toNat - (l.getD 0).toNat)))) h (fun hh K h=>⟨_,h.2,fun K k=>⟨h.1,k⟩⟩))
    refine⟨r,h1,fun K k=>?_⟩
    unfold kI
    simp only [fX,hu,mD,qE,hs,cond_true]
    exact h2 K k
  ·rename_i x' s BY n
   cases hs:Nat.beq s te.size with
   |false=>rw[hs]at h;cases h
   |true=>
    rw[hs]at h
    simp only [cond_true]at h
    obtain⟨r,h1,h2⟩:=gB.pt (C:=fun l (K:AV→Prop)=>gB g σ hi fun h=>Go.Ax.imp g (0≤l.getD 0∧l.getD 0≤h.getD n∧h.getD n≤n)∧K (.s (.jQ x' s (BY+(l.getD 0).toNat) ((h.getD n).toNat - (l.getD 0).toNat)))) h (fun l K h=>by
     refine gB.pt (C:=fun h (K:AV→Prop)=>Go.Ax.imp g (0≤l.getD 0∧l.getD 0≤h.getD n∧h.getD n≤n)∧K (.s (.jQ x' s (BY+(l.getD 0).toNat) ((h.getD n).toNat - (l.getD 0).toNat)))) h (fun hh K h=>⟨_,h.2,fun K k=>⟨h.1,k⟩⟩))
    refine⟨r,h1,fun K k=>?_⟩
    unfold kI
    simp only [fX,hu,mD,hs,cond_true]
    exact h2 K k
 ·rename_i hu
  split at h
  case h_2=>cases h
  rename_i s
  obtain⟨r,h1,h2⟩:=gB.pt (C:=fun l (K:AV→Prop)=>gB g σ hi fun h=>Go.Ax.imp g (0≤l.getD 0∧l.getD 0≤h.getD s.size∧h.getD s.size≤s.size)∧
      K (.s (.d (.val (.string (s.extract (l.getD 0).toNat (h.getD s.size).toNat)))))) h (fun l K h=>by
   refine gB.pt (C:=fun h (K:AV→Prop)=>Go.Ax.imp g (0≤l.getD 0∧l.getD 0≤h.getD s.size∧h.getD s.size≤s.size)∧
      K (.s (.d (.val (.string (s.extract (l.getD 0).toNat (h.getD s.size).toNat)))))) h (fun hh K h=>⟨_,h.2,fun K k=>⟨h.1,k⟩⟩))
  refine⟨r,h1,fun K k=>?_⟩
  unfold kI
  simp only [fX,hu]
  exact h2 K k
theorem IY.pt{t:Nat}{va:AV}{K:AV→Prop}(h:IY T t va K):∃r,K r∧eR (IY T t va) r:=by
 unfold IY at h
 split at h
 case h_2=>cases h
 rename_i ti fX
 split at h
 case h_2=>cases h
 rename_i e b n c hu
 exact⟨_,h,fun K k=>by unfold IY;simp only [fX,hu];exact k⟩
theorem vV.pt{t:Nat}{ok:Bool}{va vb:AV}{K:AV→Prop}(h:vV T σ t ok g va vb K):∃r,K r∧eR (vV T σ t ok g va vb) r:=by
 unfold vV at h
 split at h
 case h_2=>cases h
 rename_i b k
 split at h
 case h_2=>cases h
 rename_i vk l hb
 split at h
 case h_2=>cases h
 rename_i ti fX
 split at h
 case h_2=>cases h
 rename_i kt et hu
 cases hk:(RH T kt&&(cV T et).isSome)with
 |false=>rw[hk]at h;cases h
 |true=>
  rw[hk]at h
  cases ok with
  |true=>exact⟨_,h,fun K k=>by unfold vV;simp only [hb,fX,hu,hk,cond_true];exact k⟩
  |false=>exact⟨_,h.2,fun K k=>by unfold vV;simp only [hb,fX,hu,hk,cond_true];exact⟨h.1,k⟩⟩
theorem pK.pt{t:Nat}{ok:Bool}{va vb:AV}{K:AV→Prop}(h:pK T σ t ok g va vb K):∃r,K r∧eR (pK T σ t ok g va vb) r:=by
 unfold pK at h
 split at h
 case h_2=>cases h
 rename_i b k
 split at h
 case h_2=>cases h
 rename_i vk l hb
 split at h
 case h_2=>cases h
 rename_i ti fX
 split at h
 case h_2=>cases h
 rename_i kt et hu
 cases hk:(xR T kt&&zOK T et vk)with
 |false=>rw[hk]at h;cases h
 |true=>
  rw[hk]at h
  cases ok with
  |true=>exact⟨_,h,fun K k=>by unfold pK;simp only [hb,fX,hu,hk,cond_true];exact k⟩
  |false=>exact⟨_,h,fun K k=>by unfold pK;simp only [hb,fX,hu,hk,cond_true];exact k⟩
theorem qK.pt{t:Nat}{ok:Bool}{va vb:AV}{K:AV→Prop}(h:qK T σ t ok g va vb K):∃r,K r∧eR (qK T σ t ok g va vb) r:=by
 cases hs:V7 T t with
 |true=>unfold qK eR at*;simp only [hs]at*;exact pK.pt h
 |false=>unfold qK eR at*;simp only [hs]at*;exact vV.pt h
theorem lL.pt{op:Op}{K:AV→Prop}(h:lL P T op σ g K):∃r,K r∧eR (lL P T op σ g) r:=by
 cases op with
 |move x=>exact fe.oV h
 |assign x=>exact fe.oV h
 |pick c x y=>exact fe.pt (C:=fun vc K=>tW g vc (ev σ x) (ev σ y) K) h (fun _ _ h=>tW.pt h)
 |load t x=>
  refine fe.pt (C:=fun va K=>match cV T t with|some ti=>jY σ ti.agg ti.size g va K|none=>False) h (fun va K h=>?_)
  split at h
  ·exact jY.pt h
  ·cases h
 |fieldAddr s x f=>exact fe.pt (C:=fun va K=>qX T s f va K) h (fun _ _ h=>qX.pt h)
 |binOp op t x y ty=>exact fe.pt (C:=fun va K=>fe g (ev σ y) fun vb=>bin T op t g va vb K) h (fun va K h=>fe.pt (C:=fun vb K=>bin T op t g va vb K) h (fun _ _ h=>bin.pt h))
 |unOp op t x=>exact fe.pt (C:=fun va K=>unV op va K) h (fun _ _ h=>unV.pt h)
 |convert src dst x=>exact fe.pt (C:=fun va K=>sB T src dst va K) h (fun _ _ h=>sB.pt h)
 |nilCheck x=>exact fe.pt (C:=fun va K=>LM va K) h (fun _ _ h=>LM.pt h)
 |extract x k=>exact IU.pt h
 |indexAddr t x y=>exact fe.pt (C:=fun va K=>fe g (ev σ y) fun vb=>pN T σ t g va vb K) h (fun va K h=>fe.pt (C:=fun vb K=>pN T σ t g va vb K) h (fun _ _ h=>pN.pt h))
 |index t x y=>exact fe.pt (C:=fun va K=>fe g (ev σ y) fun vb=>B5 T t g va vb K) h (fun va K h=>fe.pt (C:=fun vb K=>B5 T t g va vb K) h (fun _ _ h=>B5.pt h))
 |lookup t x y ok=>exact fe.pt (C:=fun va K=>fe g (ev σ y) fun vb=>qK T σ t ok g va vb K) h (fun va K h=>fe.pt (C:=fun vb K=>qK T σ t ok g va vb K) h (fun _ _ h=>qK.pt h))
 |slice t x lo hi mx=>
  cases mx with
  |some m=>exact h.elim
  |none=>exact fe.pt (C:=fun va K=>kI T σ t g va lo hi K) h (fun _ _ h=>kI.pt h)
 |build t pa=>exact parts.pt (C:=fun ps K=>pZ T t ps K) h (fun _ _ h=>pZ.pt h)
 |makeFunc fn fs HS=>
  cases fn with
  |func f=>
   simp only [lL]at h
   split at h
   case h_3=>cases h
   ·rename_i YB
    split at h
    case h_2=>cases h
    rename_i cs mS
    exact⟨_,h,fun K k=>by simp only [lL,YB,mS];exact k⟩
   ·rename_i y YB
    split at h
    case h_2=>cases h
    rename_i mS
    have hp:=fe.pt (C:=fun va (K:AV→Prop)=>match va with|.g cs=>bif oF cs then K (.s (.d (aHW f cs)))else False|_=>False) h (fun va K h=>by
     split at h
     case h_2=>cases h
     rename_i cs
     cases hc:oF cs with
     |false=>rw[hc]at h;cases h
     |true=>
      rw[hc]at h
      exact⟨_,h,fun K k=>by simp only;exact k⟩)
    obtain⟨r,h1,h2⟩:=hp
    exact⟨r,h1,fun K k=>by simp only [lL,YB,mS];exact h2 K k⟩
  |_=>exact h.elim
 |call c=>
  obtain⟨callee,args,uX⟩:=c
  cases callee with
  |value fo=>exact fe.pt (C:=fun vf K=>dO g σ args.toList fun ars=>lZ P σ g vf ars K) h (fun vf K h=>dO.pt (C:=fun ars K=>lZ P σ g vf ars K) h (fun _ _ h=>lZ.pt h))
  |invoke r m=>exact h.elim
  |builtin b=>
   cases b with
   |len=>
    simp only [lL]at h
    split at h
    case h_2=>cases h
    rename_i x t hx ht
    obtain⟨r,h1,h2⟩:=fe.pt (C:=fun va K=>pL T σ t va K) h (fun _ _ h=>pL.pt h)
    exact⟨r,h1,fun K k=>by simp only [lL,hx,ht];exact h2 K k⟩
   |cap=>
    simp only [lL]at h
    split at h
    case h_2=>cases h
    rename_i x t hx ht
    obtain⟨r,h1,h2⟩:=fe.pt (C:=fun va K=>IY T t va K) h (fun _ _ h=>IY.pt h)
    exact⟨r,h1,fun K k=>by simp only [lL,hx,ht];exact h2 K k⟩
   |max=>
    refine ints.pt (C:=fun l K=>match l with|(k,n)::r=>K (mmL true k n r)|[]=>False) h (fun l K h=>?_)
    split at h
    ·exact⟨_,h,fun K k=>k⟩
    ·cases h
   |min=>
    refine ints.pt (C:=fun l K=>match l with|(k,n)::r=>K (mmL false k n r)|[]=>False) h (fun l K h=>?_)
    split at h
    ·exact⟨_,h,fun K k=>k⟩
    ·cases h
   |_=>exact h.elim
 |_=>exact h.elim
end
abbrev Ef:=Option AV×aO
def aHX:aO→aO→aO
 |[],s=>s
 |[p],s=>p::s
 |[p,q],s=>p::q::s
 |l,s=>l++s
theorem E9{u s:aO}:aHX u s=u++s:=by
 unfold aHX
 split <;> rfl
def K1(K:AV→aO→Prop)(v:AV)(bx:aO):Prop:=
 match bx with
 |p::_=>K v [p]
 |[]=>False
def K2(K:AV→aO→Prop)(v:AV)(bx:aO):Prop:=
 match bx with
 |p::q::_=>K v [p,q]
 |_=>False
def tX(T:List (Nat×bJ))(d:Nat)(op:Op)(σ:St)(K:AV→aO→Prop):Prop:=
 match op with
 |.alloc t=>wV T σ d t (K1 K)
 |.box _ x=>I0 σ d x (K1 K)
 |.store t x y=>oH T σ t x y (K1 K)
 |.buildSlice t len pa=>IZ T σ d t len pa.toList (K1 K)
 |.makeSlice t x y=>mkX T σ d t x y (K1 K)
 |.call c=>match c.callee with
  |.builtin .copy=>match c.args.toList,c.argTypes.toList with
   |[x,y],[t,_]=>bif Nat.beq (szE T t) 1 then x7 T σ t x y (K1 K)else False
   |_,_=>False
  |.builtin .append=>match c.args.toList,c.argTypes.toList with
   |[x,y],[t,t']=>bif Nat.beq t t' then(match ev σ x with
    |.s (.own _)=>wU T σ [] d t x y (K2 K)
    |.s (.mo _ _)=>wU T σ [] d t x y (K2 K)
    |.s (.d _)=>wU T σ [] d t x y (K1 K)
    |_=>False)else False
   |_,_=>False
  |_=>False
 |_=>False
section
variable{P:Program}{T:List (Nat×bJ)}{N:Nat}{ref rc:List Nat}{σ σ':St}{d:Nat}
theorem alloc.pt{t:Nat}{C:AV→aO→Prop}(h:wV T σ d t C):∃r b,C r ((d,some b)::σ.box)∧∀σ',aH σ'.box d=aH σ.box d→∀C':AV→aO→Prop,C' r ((d,some b)::σ'.box)→wV T σ' d t C':=by
 unfold wV at h
 split at h
 case h_2=>cases h
 rename_i ti fX
 split at h
 case h_2=>cases h
 rename_i hd
 exact⟨_,_,h,fun σ' e C' k=>by unfold wV;simp only [fX,e,hd];exact k⟩
theorem I0.pt{x:Operand}{C:AV→aO→Prop}(h:I0 σ d x C):∃r b,C r ((d,some b)::σ.box)∧∀σ',aH σ'.box d=aH σ.box d→ev σ' x=ev σ x→∀C':AV→aO→Prop,C' r ((d,some b)::σ'.box)→I0 σ' d x C':=by
 unfold I0 at h
 replace h:=fe.oV h
 obtain⟨va,h,hp⟩:=h
 split at h
 case h_2=>cases h
 rename_i cs mS
 cases nZ:lG cs with
 |false=>rw[nZ]at h;cases h
 |true=>
  rw[nZ]at h
  simp only [cond_true]at h
  split at h
  case h_2=>cases h
  rename_i hd
  refine⟨_,_,h,fun σ' e ex C' k=>?_⟩
  unfold I0
  rw[ex]
  refine hp _ ?_
  simp only [mS,nZ,cond_true,e,hd]
  exact k
theorem oH.pt{t:Nat}{x y:Operand}{C:AV→aO→Prop}(h:oH T σ t x y C):∃r n b,C r ((n,some b)::σ.box)∧∀σ',aH σ'.box n=aH σ.box n→ev σ' x=ev σ x→ev σ' y=ev σ y→∀C':AV→aO→Prop,C' r ((n,some b)::σ'.box)→oH T σ' t x y C':=by
 unfold oH at h
 replace h:=fe.oV h
 obtain⟨va,h,hp⟩:=h
 replace h:=fe.oV h
 obtain⟨vv,h,hp2⟩:=h
 split at h
 case h_2=>cases h
 rename_i ti cs fX mS
 cases nZ:(lG cs&&Nat.beq cs.length ti.size)with
 |false=>rw[nZ]at h;cases h
 |true=>
  rw[nZ]at h
  simp only [cond_true]at h
  split at h
  case h_3=>cases h
  ·rename_i b off
   split at h
   case h_2=>cases h
   rename_i X5 hb
   cases hle:Nat.ble (off+ti.size) X5.length with
   |false=>rw[hle]at h;cases h
   |true=>
    rw[hle]at h
    refine⟨_,_,_,h,fun σ' e ex ey C' k=>?_⟩
    unfold oH
    rw[ex,ey]
    refine hp _ (hp2 _ ?_)
    simp only [fX,mS,nZ,cond_true,e,hb,hle]
    exact k
  ·rename_i b ix s off
   split at h
   case h_3=>cases h
   ·rename_i e n s' f hb
    cases hc:(oF cs&&Nat.beq s s'&&Nat.ble (off+ti.size) s)with
    |false=>rw[hc]at h;cases h
    |true=>
     rw[hc]at h
     refine⟨_,_,_,h.2,fun σ' e ex ey C' k=>?_⟩
     unfold oH
     rw[ex,ey]
     refine hp _ (hp2 _ ?_)
     simp only [fX,mS,nZ,cond_true,e,hb,hc]
     exact⟨h.1,k⟩
   ·rename_i e n s' f hb
    cases hc:(oF cs&&Nat.beq s s'&&Nat.ble (off+ti.size) s)with
    |false=>rw[hc]at h;cases h
    |true=>
     rw[hc]at h
     refine⟨_,_,_,h.2,fun σ' e ex ey C' k=>?_⟩
     unfold oH
     rw[ex,ey]
     refine hp _ (hp2 _ ?_)
     simp only [fX,mS,nZ,cond_true,e,hb,hc]
     exact⟨h.1,k⟩
theorem parts.oV{g:Option Bool}{l:List (Nat×Operand)}{K:List (Nat×List SV)→Prop}(h:parts g σ l K):∃ps,K ps∧eR (parts g σ l) ps:=by
 obtain⟨r,h1,h2⟩:=parts.pt (α:=List (Nat×List SV)) (C:=fun ps K=>K ps) h (fun ps K h=>⟨ps,h,fun _ k=>k⟩)
 exact⟨r,h1,h2⟩
theorem IZ.pt{t len:Nat}{pa:List (Nat×Operand)}{C:AV→aO→Prop}(h:IZ T σ d t len pa C):∃r b,C r ((d,some b)::σ.box)∧∀σ',aH σ'.box d=aH σ.box d→U5 (pa.map (·.2)) σ σ'→∀C':AV→aO→Prop,C' r ((d,some b)::σ'.box)→IZ T σ' d t len pa C':=by
 unfold IZ at h
 replace h:=parts.oV h
 obtain⟨ps,h,hp⟩:=h
 split at h
 case h_2=>cases h
 rename_i ti fX
 split at h
 case h_2=>cases h
 rename_i e hu
 split at h
 case h_2=>cases h
 rename_i te mD
 split at h
 case h_2=>cases h
 rename_i cs mS
 cases hc:(oF cs&&Nat.ble (len*te.size) 16777216&&Nat.blt 0 te.size&&Nat.beq te.zero.length te.size)with
 |false=>rw[hc]at h;cases h
 |true=>
  rw[hc]at h
  simp only [cond_true]at h
  split at h
  case h_2=>cases h
  rename_i hd
  refine⟨_,_,h,fun σ' e hE C' k=>?_⟩
  unfold IZ
  refine parts.congr hE (hp _ ?_)
  simp only [fX,hu,mD,mS,hc,cond_true,e,hd]
  exact k
theorem mkX.pt{t:Nat}{x y:Operand}{C:AV→aO→Prop}(h:mkX T σ d t x y C):∃r b,C r ((d,some b)::σ.box)∧∀σ',aH σ'.box d=aH σ.box d→ev σ' x=ev σ x→ev σ' y=ev σ y→∀C':AV→aO→Prop,C' r ((d,some b)::σ'.box)→mkX T σ' d t x y C':=by
 unfold mkX at h
 replace h:=fe.oV h
 obtain⟨vx,h,hp⟩:=h
 replace h:=fe.oV h
 obtain⟨vy,h,hp2⟩:=h
 split at h
 case h_2=>cases h
 rename_i n c
 split at h
 case h_2=>cases h
 rename_i ti fX
 split at h
 case h_2=>cases h
 rename_i e hu
 split at h
 case h_2=>cases h
 rename_i te mD
 cases hc:(Nat.blt 0 te.size&&Nat.blt 0 te.bytes&&Nat.beq te.zero.length te.size)with
 |false=>rw[hc]at h;cases h
 |true=>
  rw[hc]at h
  simp only [cond_true]at h
  split at h
  case h_2=>cases h
  rename_i hd
  refine⟨_,_,h.2.2.2,fun σ' e ex ey C' k=>?_⟩
  unfold mkX
  rw[ex,ey]
  refine hp _ (hp2 _ ?_)
  simp only [fX,hu,mD,hc,cond_true,e,hd]
  exact⟨h.1,h.2.1,h.2.2.1,k⟩
theorem qS.congr{va:AV}(h:uZ (bP σ va) σ σ'):qS σ' va=qS σ va:=by
 have key:∀y,y∈bP σ va→aH σ'.box y=aH σ.box y:=fun y hy=>h y hy
 unfold qS
 split
 ·rw[key _ (by simp[bP,reach])]
 ·rfl
 ·rw[key _ (by simp[bP,reach])]
 ·rfl
theorem x7.pt{t:Nat}{x y:Operand}{C:AV→aO→Prop}(h:x7 T σ t x y C):∃r n b,C r ((n,some b)::σ.box)∧∀σ',aH σ'.box n=aH σ.box n→ev σ' x=ev σ x→ev σ' y=ev σ y→uZ (bP σ (ev σ y)) σ σ'→∀C':AV→aO→Prop,C' r ((n,some b)::σ'.box)→x7 T σ' t x y C':=by
 unfold x7 at h
 replace h:=fe.oV h
 obtain⟨vx,h,hp⟩:=h
 replace h:=fe.oV (fe.imp (K':=fun r=>BQ (ev σ y) r∧_) (fun r hs k=>⟨hs,k⟩) h)
 obtain⟨vy,⟨jE,h⟩,hp2⟩:=h
 split at h
 case h_2=>cases h
 rename_i ti fX
 split at h
 case h_2=>cases h
 rename_i e hu
 split at h
 case h_2=>cases h
 rename_i te mD
 split at h
 case h_2=>cases h
 rename_i k s' g wF
 split at h
 case h_2=>cases h
 rename_i b lo m RY
 split at h
 case h_2=>cases h
 rename_i e' n s f hb
 cases hc:(Nat.beq te.size 1&&Nat.beq s 1&&Nat.beq s' 1)with
 |false=>rw[hc]at h;cases h
 |true=>
  rw[hc]at h
  refine⟨_,_,_,h.2,fun σ' e ex ey hr C' kk=>?_⟩
  unfold x7
  rw[ex,ey]
  refine hp _ (hp2 _ ?_)
  rw[←jE.reach σ]at hr
  simp only [fX,hu,mD,qS.congr hr,wF,RY,e,hb,hc,cond_true]
  exact⟨h.1,kk⟩
theorem wU.pt{t:Nat}{x y:Operand}{C:AV→aO→Prop}(h:wU T σ [] d t x y C):∃r u z,C r (u++σ.box)∧BQ (ev σ x) (.s z)∧(match z with|.d _=>∃p,u=[p]|_=>∃p q,u=[p,q])∧∀σ',(∀n,n∈u.map (·.1)→aH σ'.box n=aH σ.box n)→ev σ' x=ev σ x→ev σ' y=ev σ y→uZ (bP σ (ev σ y)) σ σ'→∀C':AV→aO→Prop,C' r (u++σ'.box)→wU T σ' [] d t x y C':=by
 unfold wU at h
 replace h:=fe.oV (fe.imp (K':=fun r=>BQ (ev σ x) r∧_) (fun r hs k=>⟨hs,k⟩) h)
 obtain⟨vx,⟨hsx,h⟩,hp⟩:=h
 replace h:=fe.oV (fe.imp (K':=fun r=>BQ (ev σ y) r∧_) (fun r hs k=>⟨hs,k⟩) h)
 obtain⟨vy,⟨jE,h⟩,hp2⟩:=h
 split at h
 case h_2=>cases h
 rename_i ti fX
 split at h
 case h_2=>cases h
 rename_i e hu
 split at h
 case h_2=>cases h
 rename_i te mD
 split at h
 case h_2=>cases h
 rename_i hd
 split at h
 case h_2=>cases h
 rename_i m s' g wF
 cases hc:(Nat.beq s' te.size&&Nat.blt 0 te.size&&Nat.blt 0 te.bytes&&Nat.beq te.zero.length te.size)with
 |false=>rw[hc]at h;cases h
 |true=>
  rw[hc]at h
  simp only [cond_true]at h
  split at h
  ·rename_i b
   split at h
   case h_2=>cases h
   rename_i e' n s f hb
   cases H7:(Nat.beq e' e&&Nat.beq s te.size)with
   |false=>rw[H7]at h;cases h
   |true=>
    rw[H7]at h
    simp only [cond_true]at h
    refine⟨_,[(d,some (.row e (n+m) te.size (kM n f g))),(b,none)],_,h.2.2,hsx,⟨_,_,rfl⟩,fun σ' eb ex ey hr C' kk=>?_⟩
    have e1:aH σ'.box d=none:=by rw[eb d sM];exact hd
    have e2:aH σ'.box b=some (some (.row e' n s f)):=by rw[eb b sM];exact hb
    unfold wU
    rw[ex,ey]
    refine hp _ (hp2 _ ?_)
    rw[←jE.reach σ]at hr
    simp only [fX,hu,mD,e1,qS.congr hr,wF,hc,cond_true,e2,H7]
    exact⟨h.1,h.2.1,kk⟩
  ·rename_i z b
   split at h
   case h_2=>cases h
   rename_i e' n s f hb
   cases H7:(Nat.beq e' e&&Nat.beq s te.size)with
   |false=>rw[H7]at h;cases h
   |true=>
    rw[H7]at h
    simp only [cond_true]at h
    refine⟨_,[(d,some (.row e ((bif z then 0 else n)+m) te.size (kM (bif z then 0 else n) f g))),(b,none)],_,h.2.2.2,hsx,⟨_,_,rfl⟩,fun σ' eb ex ey hr C' kk=>?_⟩
    have e1:aH σ'.box d=none:=by rw[eb d sM];exact hd
    have e2:aH σ'.box b=some (some (.bW e' n s f)):=by rw[eb b sM];exact hb
    unfold wU
    rw[ex,ey]
    refine hp _ (hp2 _ ?_)
    rw[←jE.reach σ]at hr
    simp only [fX,hu,mD,e1,qS.congr hr,wF,hc,cond_true,e2,H7]
    exact⟨h.1,h.2.1,h.2.2.1,kk⟩
  ·refine⟨_,[(d,some (.row e m te.size g))],_,h.2.2,hsx,⟨_,rfl⟩,fun σ' eb ex ey hr C' kk=>?_⟩
   have e1:aH σ'.box d=none:=by rw[eb d sM];exact hd
   unfold wU
   rw[ex,ey]
   refine hp _ (hp2 _ ?_)
   rw[←jE.reach σ]at hr
   simp only [fX,hu,mD,e1,qS.congr hr,wF,hc,cond_true]
   exact⟨h.1,h.2.1,kk⟩
  ·cases h
theorem tX.pt{op:Op}{K:AV→aO→Prop}(h:tX T d op σ K):
  ∃r u,K r u∧(∀σ',(∀n,n∈u.map (·.1)→aH σ'.box n=aH σ.box n)→U5 op.operands.toList σ σ'→uZ (rM σ op) σ σ'→∀K':AV→aO→Prop,K' r u→tX T d op σ' K')∧
   ∀ref,IJ T ref d op σ fun v bx=>v=r∧bx=u++σ.box:=by
 cases op with
 |alloc t=>
  simp only [tX]at h
  obtain⟨r,b,h1,h2⟩:=alloc.pt h
  refine⟨r,[(d,some b)],h1,fun σ' e _ _ K' k=>?_,fun _=>?_⟩
  ·simp only [tX];exact h2 σ' (e d sM) _ k
  ·simp only [IJ];exact h2 σ rfl _ ⟨rfl,rfl⟩
 |box t x=>
  simp only [tX]at h
  obtain⟨r,b,h1,h2⟩:=I0.pt h
  refine⟨r,[(d,some b)],h1,fun σ' e he _ K' k=>?_,fun _=>?_⟩
  ·simp only [tX];exact h2 σ' (e d sM) (he x (by simp[Op.operands])) _ k
  ·simp only [IJ];exact h2 σ rfl rfl _ ⟨rfl,rfl⟩
 |store t x y=>
  simp only [tX]at h
  obtain⟨r,n,b,h1,h2⟩:=oH.pt h
  refine⟨r,[(n,some b)],h1,fun σ' e he _ K' k=>?_,fun _=>?_⟩
  ·simp only [tX];exact h2 σ' (e n sM) (he x (by simp[Op.operands])) (he y (by simp[Op.operands])) _ k
  ·simp only [IJ];exact h2 σ rfl rfl rfl _ ⟨rfl,rfl⟩
 |buildSlice t len pa=>
  simp only [tX]at h
  obtain⟨r,b,h1,h2⟩:=IZ.pt h
  refine⟨r,[(d,some b)],h1,fun σ' e he _ K' k=>?_,fun _=>?_⟩
  ·simp only [tX];exact h2 σ' (e d sM) (fun y hy=>he y (by simpa [Op.operands]using hy)) _ k
  ·simp only [IJ];exact h2 σ rfl (fun _ _=>rfl) _ ⟨rfl,rfl⟩
 |makeSlice t x y=>
  simp only [tX]at h
  obtain⟨r,b,h1,h2⟩:=mkX.pt h
  refine⟨r,[(d,some b)],h1,fun σ' e he _ K' k=>?_,fun _=>?_⟩
  ·simp only [tX];exact h2 σ' (e d sM) (he x (by simp[Op.operands])) (he y (by simp[Op.operands])) _ k
  ·simp only [IJ];exact h2 σ rfl rfl rfl _ ⟨rfl,rfl⟩
 |call c=>
  obtain⟨callee,args,uX⟩:=c
  simp only [tX]at h
  split at h
  ·split at h
   case h_2=>cases h
   rename_i x y t t' hx ht
   cases hz:Nat.beq (szE T t) 1 with
   |false=>rw[hz]at h;cases h
   |true=>
   rw[hz]at h
   simp only [cond_true]at h
   obtain⟨r,n,b,h1,h2⟩:=x7.pt h
   have e1:args= #[x,y]:=by apply Array.ext';simpa using hx
   have e2:uX= #[t,t']:=by apply Array.ext';simpa using ht
   subst e1;subst e2
   refine⟨r,[(n,some b)],h1,fun σ' e he hr K' k=>?_,fun _=>?_⟩
   ·simp only [tX,hz,cond_true]
    exact h2 σ' (e n sM) (he x (by simp[Op.operands,Call.operands])) (he y (by simp[Op.operands,Call.operands])) (hr.mono fun m hm=>by
     simp only [rM];exact iP (j:=1) (c:=y) (by simp[Op.operands,Call.operands]) hm) _ k
   ·simp only [IJ,KS,hz];exact h2 σ rfl rfl rfl (fun _ _=>rfl) _ ⟨rfl,rfl⟩
  ·split at h
   case h_2=>cases h
   rename_i x y t t' hx ht
   cases DR:Nat.beq t t' with
   |false=>rw[DR]at h;cases h
   |true=>
    rw[DR]at h
    simp only [cond_true]at h
    have e1:args= #[x,y]:=by apply Array.ext';simpa using hx
    have e2:uX= #[t,t']:=by apply Array.ext';simpa using ht
    subst e1;subst e2
    have two:∀{z:SV},ev σ x=.s z→(∀q,z≠.d q)→(∀i j k l,z≠.jQ i j k l)→(∀σ' (K':AV→aO→Prop),ev σ' x=.s z→wU T σ' [] d t x y (K2 K')→tX T d (.call ⟨.builtin .append, #[x,y], #[t,t']⟩) σ' K')→wU T σ [] d t x y (K2 K)→∃r u,K r u∧(∀σ',(∀n,n∈u.map (·.1)→aH σ'.box n=aH σ.box n)→U5 (Op.operands (.call ⟨.builtin .append, #[x,y], #[t,t']⟩)).toList σ σ'→uZ (rM σ (.call ⟨.builtin .append, #[x,y], #[t,t']⟩)) σ σ'→∀K':AV→aO→Prop,K' r u→tX T d (.call ⟨.builtin .append, #[x,y], #[t,t']⟩) σ' K')∧
      ∀ref,IJ T ref d (.call ⟨.builtin .append, #[x,y], #[t,t']⟩) σ fun v bx=>v=r∧bx=u++σ.box:=by
     intro z hz hnd WJ nY h
     obtain⟨r,u,z',h1,jE,hu,h2⟩:=wU.pt h
     rw[hz]at jE
     have hzz:z'=z:=by
      rcases jE with e|⟨_,_,e,_⟩|⟨_,_,e,_⟩
      ·cases e;rfl
      ·cases e
      ·cases e
     subst hzz
     have hu:∃p q,u=[p,q]:=by
      split at hu
      ·rename_i q;exact absurd rfl (hnd q)
      ·exact hu
     obtain⟨p,q,rfl⟩:=hu
     refine⟨r,[p,q],h1,fun σ' e he hr K' k=>?_,fun ref=>?_⟩
     ·have ex:=he x (by simp[Op.operands,Call.operands])
      refine nY σ' K' (ex.trans hz) ?_
      exact h2 σ' e ex (he y (by simp[Op.operands,Call.operands])) (hr.mono fun m hm=>by
       simp only [rM];exact iP (j:=1) (c:=y) (by simp[Op.operands,Call.operands]) hm) _ k
     ·have:=h2 σ (fun _ _=>rfl) rfl rfl (fun _ _=>rfl) (fun v bx=>v=r∧bx=[p,q]++σ.box) ⟨rfl,rfl⟩
      simp only [IJ,DR,cond_true,hz]
      split
      ·rename_i e;cases e;exact absurd rfl (WJ _ _ _ _)
      ·exact this
    split at h
    ·rename_i b hv
     exact two hv (fun q e=>nomatch e) (fun i j k l e=>nomatch e) (fun σ' K' e h=>by simp only [tX,DR,cond_true,e];exact h) h
    ·rename_i b c hv
     exact two hv (fun q e=>nomatch e) (fun i j k l e=>nomatch e) (fun σ' K' e h=>by simp only [tX,DR,cond_true,e];exact h) h
    ·rename_i q hv
     obtain⟨r,u,z',h1,jE,hu,h2⟩:=wU.pt h
     rw[hv]at jE
     have hzz:z'=.d q:=by
      rcases jE with e|⟨_,_,e,_⟩|⟨_,_,e,_⟩
      ·cases e;rfl
      ·cases e
      ·cases e
     subst hzz
     obtain⟨p,rfl⟩:=hu
     refine⟨r,[p],h1,fun σ' e he hr K' k=>?_,fun ref=>?_⟩
     ·have ex:=he x (by simp[Op.operands,Call.operands])
      have:=h2 σ' e ex (he y (by simp[Op.operands,Call.operands])) (hr.mono fun m hm=>by
       simp only [rM];exact iP (j:=1) (c:=y) (by simp[Op.operands,Call.operands]) hm) (K1 K') k
      simp only [tX,DR,cond_true,ex,hv]
      exact this
     ·have:=h2 σ (fun _ _=>rfl) rfl rfl (fun _ _=>rfl) (fun v bx=>v=r∧bx=[p]++σ.box) ⟨rfl,rfl⟩
      simp only [IJ,DR,cond_true,hv]
      exact this
    ·cases h
  ·cases h
 |_=>exact h.elim
def mP(box:aO)(x:Nat):Option jM:=match aH box x with
 |some (some b)=>some b
 |_=>none
theorem sU{box:aO}{x:Nat}{b:jM}:mP box x=some b↔aH box x=some (some b):=by
 unfold mP
 split
 ·rename_i c h;rw[h];simp
 ·rename_i h
  constructor
  ·intro h2;cases h2
  ·intro h2;exact absurd h2 (h b)
theorem vW{u v:aO}{x:Nat}(h:mP u x=mP v x):aH u x=aH v x∨((∀b,aH u x≠some (some b))∧∀b,aH v x≠some (some b)):=by
 cases hu:mP u x with
 |some b=>
  rw[hu]at h
  exact .inl ((sU.1 hu).trans (sU.1 h.symm).symm)
 |none=>
  rw[hu]at h
  refine .inr ⟨fun b hb=>?_,fun b hb=>?_⟩
  ·rw[sU.2 hb]at hu;cases hu
  ·rw[sU.2 hb]at h;cases h
theorem UP{σ σ':St}(h:∀x,mP σ.box x=mP σ'.box x):∀(n:Nat) (x:SV),dS n σ x=dS n σ' x:=by
 have own:∀n x,dS n σ (.own x)=dS n σ' (.own x):=by
  intro n x
  cases n <;>
  ·simp only [dS]
   rcases vW (h x)with e|⟨e1,e2⟩
   ·rw[e]
   ·split
    ·rename_i hb;exact absurd hb (e1 _)
    ·split
     ·rename_i hb;exact absurd hb (e2 _)
     ·rfl
 have mo:∀n z x,dS n σ (.mo z x)=dS n σ' (.mo z x):=by
  intro n z x
  cases n <;>
  ·simp only [dS]
   rcases vW (h x)with e|⟨e1,e2⟩
   ·rw[e]
   ·split
    ·rename_i hb;exact absurd hb (e1 _)
    ·split
     ·rename_i hb;exact absurd hb (e2 _)
     ·rfl
 have aLM:∀x s lo m,dS 0 σ (.jQ x s lo m)=dS 0 σ' (.jQ x s lo m):=by
  intro x s lo m
  simp only [dS]
  rcases vW (h x)with e|⟨e1,e2⟩
  ·rw[e]
  ·split
   ·rename_i hb;exact absurd hb (e1 _)
   ·split
    ·rename_i hb;exact absurd hb (e2 _)
    ·rfl
 intro n
 induction n with
 |zero=>
  intro x
  cases x with
  |own x=>exact own _ _
  |mo z x=>exact mo _ _ _
  |jQ x s lo m=>exact aLM _ _ _ _
  |_=>rfl
 |succ n ih=>
  intro x
  cases x with
  |own x=>exact own _ _
  |mo z x=>exact mo _ _ _
  |jQ x s lo m=>
   simp only [dS]
   rcases vW (h x)with e|⟨e1,e2⟩
   ·rw[e]
    split
    ·rfl
    ·rename_i cs hb
     congr 1
     congr 1
     funext i j
     split
     ·exact ih _
     ·rfl
    ·rfl
   ·split
    ·rename_i hb;exact absurd hb (e1 _)
    ·rename_i hb;exact absurd hb (e1 _)
    ·split
     ·rename_i hb;exact absurd hb (e2 _)
     ·rename_i hb;exact absurd hb (e2 _)
     ·rfl
  |ptr x off=>
   simp only [dS]
   rcases vW (h x)with e|⟨e1,e2⟩
   ·rw[e]
    split
    ·rename_i cs hb
     congr 1
     funext j
     split
     ·exact ih _
     ·rfl
    ·rfl
   ·split
    ·rename_i hb;exact absurd hb (e1 _)
    ·split
     ·rename_i hb;exact absurd hb (e2 _)
     ·rfl
  |dQ f cs=>
   simp only [dS]
   congr 1
   funext i
   split
   ·rfl
   ·exact ih _
   ·rfl
  |_=>rfl
theorem P2{σ σ':St}(h:∀x,mP σ.box x=mP σ'.box x)(l:List AV):iW σ l=iW σ' l:=by
 have hs:∀cs:List SV,j9 σ cs=j9 σ' cs:=by
  intro cs
  induction cs with
  |nil=>rfl
  |cons c r ih=>simp only [j9,uC,ih,UP h]
 induction l with
 |nil=>rfl
 |cons v r ih=>
  simp only [iW,ih]
  congr 1
  cases v with
  |s x=>simp only [o0,uC,UP h]
  |g cs=>simp only [o0,hs]
  |_=>rfl
theorem yJ{zs:List Nat}{x:Nat}:∀{box:aO},mP (hI zs box) x=bif zs.contains x then mP box x else none
 |[]=>by cases zs.contains x <;> rfl
 |(k,b)::r=>by
  have ih:=yJ (zs:=zs) (x:=x) (box:=r)
  unfold mP at*
  rw[hI,aL,aL]
  by_cases e:k=x
  ·subst e
   rw[if_pos rfl,if_pos rfl]
   cases zs.contains k <;> rfl
  ·rw[if_neg e,if_neg e];exact ih
theorem GL{zs:List Nat}{x:Nat}:∀{box:aO},aH (k7 zs box) x=match aH box x with
  |none=>none
  |some b=>some (bif zs.contains x then none else b)
 |[]=>rfl
 |(k,b)::r=>by
  rw[k7,aL,aL]
  by_cases e:k=x
  ·subst e
   rw[if_pos rfl,if_pos rfl]
  ·rw[if_neg e,if_neg e];exact GL
def BD(zs:List Nat):aO:=zs.map fun z=>(z,none)
theorem W8{zs:List Nat}{x:Nat}:aH (BD zs) x=bif zs.contains x then some none else none:=by
 induction zs with
 |nil=>rfl
 |cons z r ih=>
  show aH ((z,none)::BD r) x=_
  rw[aL]
  by_cases e:z=x
  ·subst e;rw[if_pos rfl];simp
  ·rw[if_neg e,ih]
   have:(z::r).contains x=r.contains x:=by
    simp only [List.contains_cons]
    rw[show(x==z)=false by simpa using fun h=>e h.symm]
    rfl
   rw[this]
def wB(rc:List Nat)(σ:St)(op:Op):Option (Operand×List Operand):=
 match op with
 |.call {callee:=.value fo,args, .. }=>match ev σ fo with
  |.s (.dQ f _)=>bif (rc.contains (f+1000000)||rc.contains (f+2000000))||rc.contains (f+1500000)then some (fo,args.toList)else none
  |_=>none
 |_=>none
def gL(P:Program)(rc:List Nat)(σ:St)(vf:AV)(ars:List AV)(K:AV→aO→Prop):Prop:=
 match vf with
 |.s (.dQ f cs)=>bif rc.contains (f+2000000)then
   ∃zs r,(zs.all fun z=>(mP σ.box z).isSome)=true∧aF P f (iW ⟨σ.env,hI zs σ.box⟩ (ars++uR cs)) r∧K r (BD zs)
  else bif rc.contains (f+1500000)then
   ∃ren args bx r bx',bM P f args bx r bx'∧ars++uR cs=xY ren args∧mM ren σ.box bx∧z7 ren σ.box args bx r bx'=true∧K (nH ren r) (q8 ren (jJ ren [] bx) bx')
  else ∃ren args r y b,bM P f args [] r [(y,b)]∧ars++uR cs=xY ren args∧z7 ren [] args [] r [(y,b)]=true∧aH σ.box (look ren y)=none∧K (nH ren r) [(look ren y,some (jN ren b))]
 |_=>False
theorem wB.op{rc:List Nat}{o:Oper}{fo:Operand}{l:List Operand}(h:wB rc σ o.op=some (fo,l)):(∃f cs,ev σ fo=.s (.dQ f cs))∧∃args uX,o.op=.call {callee:=.value fo,args:=args,argTypes:=uX}∧args.toList=l:=by
 unfold wB at h
 split at h
 ·rename_i fo' args uX nY
  split at h
  ·rename_i f cs hv
   cases hc:((rc.contains (f+1000000)||rc.contains (f+2000000))||rc.contains (f+1500000))with
   |false=>rw[hc]at h;cases h
   |true=>rw[hc]at h;simp only [cond_true,Option.some.injEq,Prod.mk.injEq]at h;obtain⟨rfl,rfl⟩:=h;exact⟨⟨_,_,hv⟩,_,_,nY,rfl⟩
  ·cases h
 ·cases h
theorem wB.congr{rc:List Nat}{op:Op}(he:U5 op.operands.toList σ σ'):wB rc σ' op=wB rc σ op:=by
 unfold wB
 split
 ·rw[he _ (by simp[Op.operands,Call.operands])]
 ·rfl
theorem ON{ren:List (Nat×Nat)}{x:Nat}:∀{bx:eO},x∈names bx→look ren x∈(jJ ren [] bx).map (·.1)
 |[],h=>by cases h
 |(y,b)::r,h=>by
  simp only [names,List.mem_cons]at h
  simp only [jJ,List.map_cons,List.mem_cons]
  exact h.imp (fun e=>by rw[e]) ON
theorem FA{ren:List (Nat×Nat)}{bx:eO}{x:Nat}:∀{bx':eO},x∈names bx∨x∈names bx'→look ren x∈(q8 ren (jJ ren [] bx) bx').map (·.1)
 |[],h=>ON (h.resolve_right (by simp[names]))
 |(y,b)::r,h=>by
  simp only [q8,List.map_cons,List.mem_cons]
  rcases h with h|h
  ·exact .inr (FA (.inl h))
  ·simp only [names,List.mem_cons]at h
   exact h.imp (fun e=>by rw[e]) (fun h=>FA (.inr h))
theorem JW{ren:List (Nat×Nat)}{box:aO}:∀{bx:eO},jJ ren box bx=jJ ren [] bx++box
 |[]=>rfl
 |(y,_)::r=>congrArg (fun l=>(look ren y,none)::l) (JW (bx:=r))
theorem QJ{ren:List (Nat×Nat)}{box:aO}{bx:eO}:∀{bx':eO},q8 ren (jJ ren box bx) bx'=q8 ren (jJ ren [] bx) bx'++box
 |[]=>JW
 |(y,b)::r=>congrArg (fun l=>(look ren y,some (jN ren b))::l) (QJ (bx':=r))
theorem AZ{ren:List (Nat×Nat)}{bo bo':aO}{ns:List Nat}:∀{l:List Nat},(∀y,y∈l→aH bo' (look ren y)=aH bo (look ren y))→nL ren bo ns l=true→nL ren bo' ns l=true
 |[],_,h=>h
 |y::r,hk,h=>by
  simp only [nL,Bool.and_eq_true]at h ⊢
  refine⟨?_,AZ (fun z hz=>hk z (List.mem_cons_of_mem _ hz)) h.2⟩
  have:=h.1
  rw[hk y (List.mem_cons_self)]
  exact this
theorem gL.pt{vf:AV}{ars:List AV}{K:Ef→Prop}(h:gL P rc σ vf ars fun v u=>K (some v,u)):∃e,K e∧eR (fun K:Ef→Prop=>gL P rc σ vf ars fun v u=>K (some v,u)) e:=by
 unfold gL at h
 split at h
 case h_2=>cases h
 rename_i f cs
 cases hc:rc.contains (f+2000000)with
 |true=>
  rw[hc]at h
  simp only [cond_true]at h
  obtain⟨zs,r,h1,h2,h3⟩:=h
  exact⟨_,h3,fun K k=>by simp only [gL,hc,cond_true];exact⟨zs,r,h1,h2,k⟩⟩
 |false=>
  rw[hc]at h
  simp only [cond_false]at h
  cases hd:rc.contains (f+1500000)with
  |true=>
   rw[hd]at h
   simp only [cond_true]at h
   obtain⟨ren,args,bx,r,bx',h1,h2,h3,h4,h5⟩:=h
   exact⟨_,h5,fun K k=>by
    show(bif rc.contains (f+2000000)then _ else bif rc.contains (f+1500000)then _ else _)
    rw[hc,cond_false,hd,cond_true];exact⟨ren,args,bx,r,bx',h1,h2,h3,h4,k⟩⟩
  |false=>
  rw[hd]at h
  simp only [cond_false]at h
  obtain⟨ren,args,r,y,b,h1,h2,h3,h4,h5⟩:=h
  exact⟨_,h5,fun K k=>by
    show(bif rc.contains (f+2000000)then _ else bif rc.contains (f+1500000)then _ else _)
    rw[hc,cond_false,hd,cond_false];exact⟨ren,args,r,y,b,h1,h2,h3,h4,k⟩⟩
theorem gL.congr{vf:AV}{ars:List AV}{K K':AV→aO→Prop}(hk:∀v u,K v u→(∀n,n∈u.map (·.1)→aH σ'.box n=aH σ.box n)∧K' v u)(h:gL P rc σ vf ars K):gL P rc σ' vf ars K':=by
 unfold gL at*
 split at h
 case h_2=>cases h
 rename_i f cs
 cases hc:rc.contains (f+2000000)with
 |true=>
  rw[hc]at h
  simp only [cond_true]at h
  simp only [cond_true]
  obtain⟨zs,r,h1,h2,h3⟩:=h
  obtain⟨q1,q2⟩:=hk _ _ h3
  have q:∀z,z∈zs→aH σ'.box z=aH σ.box z:=fun z hz=>q1 z (by unfold BD;rw[List.map_map];exact List.mem_map.2 ⟨z,hz,rfl⟩)
  refine⟨zs,r,?_,?_,q2⟩
  ·rw[List.all_eq_true]at h1 ⊢
   intro z hz
   have:=h1 z hz
   unfold mP at this ⊢
   rw[q z hz];exact this
  ·rw[P2 (σ':=⟨σ.env,hI zs σ.box⟩)]
   ·exact h2
   ·intro x
    show mP (hI zs σ'.box) x=mP (hI zs σ.box) x
    rw[yJ,yJ]
    cases hz:zs.contains x with
    |false=>rfl
    |true=>
     have hz:x∈zs:=by simpa using hz
     unfold mP
     rw[q x hz]
 |false=>
  rw[hc]at h
  simp only [cond_false]at h
  simp only [cond_false]
  cases hd:rc.contains (f+1500000)with
  |true=>
   rw[hd]at h
   simp only [cond_true]at h ⊢
   obtain⟨ren,args,bx,r,bx',h1,h2,h3,h4,h5⟩:=h
   obtain⟨q1,q2⟩:=hk _ _ h5
   refine⟨ren,args,bx,r,bx',h1,h2,mM.congr (fun x hx=>q1 _ (FA (.inl hx))) h3,?_,q2⟩
   simp only [z7,Bool.and_eq_true]at h4 ⊢
   exact⟨h4.1,AZ (fun y hy=>q1 _ (FA (.inr hy))) h4.2⟩
  |false=>
  rw[hd]at h
  simp only [cond_false]at h ⊢
  obtain⟨ren,args,r,y,b,h1,h2,h3,h4,h5⟩:=h
  obtain⟨q1,q2⟩:=hk _ _ h5
  exact⟨ren,args,r,y,b,h1,h2,h3,(q1 _ sM).trans h4,q2⟩
theorem gL.spec{o:Oper}{fo:Operand}{l:List Operand}{K:AV→aO→Prop}{cx:Cx}(hq:wB rc σ o.op=some (fo,l))(WG:∀f,rc.contains (f+2000000)=true→cx.ref=[])
  (h:fe none (ev σ fo) fun vf=>dO none σ l fun ars=>gL P rc σ vf ars K):
  ∃r u,K r u∧∀N M β a w,Inv cx N M β σ a w→∃f vs,(execOp a.eval o).run P w=.ok (.enter f vs) w∧
   Calls P f vs w fun e w'=>∃v M' β',e=.returned v∧r.a7 M' β' v∧Inv cx N M' β' ⟨σ.env,u++σ.box⟩ a w'∧Grow cx.B M M'∧b6 cx w w':=by
 obtain⟨⟨f,cs,hv⟩,ho⟩:=wB.op hq
 have h2:dO none σ l fun ars=>gL P rc σ (.s (.dQ f cs)) ars K:=by rw[hv]at h;exact h
 cases hc:rc.contains (f+2000000)with
 |true=>
  have h3:fe none (ev σ fo) fun vf=>dO none σ l fun ars=>aDS P σ vf ars fun r bx=>∃zs,(zs.all fun z=>(mP σ.box z).isSome)=true∧K r (BD zs)∧bx=k7 zs σ.box:=by
   rw[hv]
   refine dO.congr (fun _ _=>rfl) (fun ars _ h=>?_) h2
   unfold gL at h
   simp only [hc,cond_true]at h
   obtain⟨zs,r,h1,h2,h3⟩:=h
   exact⟨zs,r,h2,zs,h1,h3,rfl⟩
  obtain⟨r,bx,⟨zs,hz,hk,rfl⟩,hs⟩:=eat.spec ho h3
  refine⟨r,_,hk,fun N M β a w i=>?_⟩
  obtain⟨f,vs,aV,dV⟩:=hs cx N M β a w (WG _ hc) i
  refine⟨f,vs,aV,dV.mono ?_⟩
  rintro e w' ⟨v,M',β',e1,hr,i',hg,kG⟩
  have hb:∀x,aH (BD zs++σ.box) x=aH (k7 zs σ.box) x:=by
   intro x
   have aMO:aH (BD zs++σ.box) x=match aH (BD zs) x with|some y=>some y|none=>aH σ.box x:=by
    generalize BD zs=u
    induction u with
    |nil=>rfl
    |cons p r ih=>
     obtain⟨k,b⟩:=p
     rw[List.cons_append,aL,aL]
     by_cases e:k=x
     ·rw[if_pos e,if_pos e]
     ·rw[if_neg e,if_neg e];exact ih
   rw[aMO,W8,GL]
   cases hx:zs.contains x with
   |false=>cases aH σ.box x <;> rfl
   |true=>
    have hx:x∈zs:=by simpa using hx
    rw[List.all_eq_true]at hz
    have:=hz x hx
    cases hg:aH σ.box x with
    |none=>unfold mP at this;rw[hg]at this;cases this
    |some b=>rfl
  refine⟨v,M',β',e1,hr,⟨i'.defers,i'.tmps,i'.heap,i'.env,i'.mem,fun x p e=>by rw[hb];exact i'.keys x p e,fun x bc e=>i'.box x bc (by rw[←hb];exact e),
   fun x y bx xV b c c' ex ey=>i'.inj x y bx xV b c c' (by rw[←hb];exact ex) (by rw[←hb];exact ey),fun x bc b c e=>i'.apart x bc b c (by rw[←hb];exact e),fun x bc b c e=>i'.low x bc b c (by rw[←hb];exact e),i'.ref⟩,hg,kG⟩
 |false=>
  have h3:fe none (ev σ fo) fun vf=>dO none σ l fun ars=>HU P σ vf ars fun v bx=>∃u,K v u∧bx=u++σ.box:=by
   rw[hv]
   refine dO.congr (fun _ _=>rfl) (fun ars _ h=>?_) h2
   unfold gL at h
   simp only [hc,cond_false]at h
   cases hd:rc.contains (f+1500000)with
   |true=>
    simp only [hd,cond_true]at h
    obtain⟨ren,args,bx,r,bx',h1,h2,h3,h4,h5⟩:=h
    exact⟨ren,args,bx,r,bx',h1,h2,h3,h4,_,h5,QJ⟩
   |false=>
   simp only [hd,cond_false]at h
   obtain⟨ren,args,r,y,b,h1,h2,h3,h4,h5⟩:=h
   refine⟨ren,args,[],r,[(y,b)],h1,h2,trivial,?_,_,h5,rfl⟩
   simp only [z7,Bool.and_eq_true]at h3 ⊢
   refine⟨h3.1,?_⟩
   simp[names,nL,h4]
  obtain⟨r,bx,⟨u,hk,rfl⟩,hs⟩:=aBL.spec ho h3
  exact⟨r,u,hk,fun N M β a w i=>hs cx N M β a w i⟩
def aT(P:Program)(T:List (Nat×bJ))(N:Nat)(rc:List Nat)(all:List Oper)(o:Oper)(σ:St)(K:Ef→Prop):Prop:=
 let run:Prop:=match o.dst with
  |some d=>bif Nat.blt d N then
    (match LX o.op with
    |true=>tX T d o.op σ fun v u=>K (some v,u)
    |false=>match wB rc σ o.op with
     |some (fo,args)=>fe none (ev σ fo) fun vf=>dO none σ args fun ars=>gL P rc σ vf ars fun v u=>K (some v,u)
     |none=>lL P T o.op σ none fun v=>K (some v,[]))else False
  |none=>match LX o.op with
    |true=>tX T 0 o.op σ fun _ u=>K (none,u)
    |false=>False
 match o.guard with
 |none=>run
 |some (j,nB)=>match rV all j with
  |none=>False
  |some t=>match eZ σ.env t with
   |.s (.d (.lit b))=>match b,nB with
    |true,true=>run
    |false,false=>run
    |_,_=>match o.dst with
     |some d=>bif Nat.blt d N then K (some (.s (.d .bC)),[])else False
     |none=>K (none,[])
   |.s (.d (.val (.bool b)))=>match LX o.op with
    |true=>b=nB∧run
    |false=>match o.dst with
     |some d=>bif Nat.blt d N then lL P T o.op σ (some (tB nB b)) fun v=>K (some (vA (tB nB b) v),[])else False
     |none=>False
   |.ib c (.d (.val (.bool b)))=>match LX o.op with
    |true=>False
    |false=>match o.dst with
     |some d=>bif Nat.blt d N then lL P T o.op σ (some (c&&tB nB b)) fun v=>K (some (vA (c&&tB nB b) v),[])else False
     |none=>False
   |_=>False
def eL(o:Oper)(e:Ef)(σ:St):St:=
 ⟨match o.dst,e.1 with|some d,some v=>(d,v)::σ.env|_,_=>σ.env,aHX e.2 σ.box⟩
end
section
variable{P:Program}{T:List (Nat×bJ)}{N:Nat}{ref rc:List Nat}{all:List Oper}
theorem aT.pt{o:Oper}{σ:St}{K:Ef→Prop}(h:aT P T N rc all o σ K):∃e,K e∧eR (aT P T N rc all o σ) e:=by
 have run:∀{K:Ef→Prop},(match o.dst with
  |some d=>bif Nat.blt d N then
    (match LX o.op with
    |true=>tX T d o.op σ fun v u=>K (some v,u)
    |false=>match wB rc σ o.op with
     |some (fo,args)=>fe none (ev σ fo) fun vf=>dO none σ args fun ars=>gL P rc σ vf ars fun v u=>K (some v,u)
     |none=>lL P T o.op σ none fun v=>K (some v,[]))else False
  |none=>match LX o.op with
    |true=>tX T 0 o.op σ fun _ u=>K (none,u)
    |false=>False)→∃e,K e∧∀K':Ef→Prop,K' e→(match o.dst with
  |some d=>bif Nat.blt d N then
    (match LX o.op with
    |true=>tX T d o.op σ fun v u=>K' (some v,u)
    |false=>match wB rc σ o.op with
     |some (fo,args)=>fe none (ev σ fo) fun vf=>dO none σ args fun ars=>gL P rc σ vf ars fun v u=>K' (some v,u)
     |none=>lL P T o.op σ none fun v=>K' (some v,[]))else False
  |none=>match LX o.op with
    |true=>tX T 0 o.op σ fun _ u=>K' (none,u)
    |false=>False):=by
  intro K h
  split at h
  ·rename_i d hd
   cases hN:Nat.blt d N with
   |false=>rw[hN]at h;cases h
   |true=>
    rw[hN]at h
    simp only [cond_true]at h ⊢
    split at h
    ·obtain⟨r,u,h1,h2,_⟩:=tX.pt h
     exact⟨_,h1,fun K' k=>h2 σ (fun _ _=>rfl) (fun _ _=>rfl) (fun _ _=>rfl) _ k⟩
    ·split at h
     ·rename_i fo args hq
      obtain⟨r,h1,h2⟩:=fe.pt (C:=fun vf K=>dO none σ args fun ars=>gL P rc σ vf ars fun v u=>K (some v,u)) h (fun vf K h=>dO.pt (C:=fun ars K=>gL P rc σ vf ars fun v u=>K (some v,u)) h (fun _ _ h=>gL.pt h))
      exact⟨r,h1,fun K' k=>h2 K' k⟩
     ·obtain⟨r,h1,h2⟩:=lL.pt h
      exact⟨_,h1,fun K' k=>h2 _ k⟩
  ·split at h
   ·obtain⟨r,u,h1,h2,_⟩:=tX.pt h
    exact⟨_,h1,fun K' k=>h2 σ (fun _ _=>rfl) (fun _ _=>rfl) (fun _ _=>rfl) _ k⟩
   ·cases h
 unfold aT at h
 simp only at h
 split at h
 ·rename_i hg
  obtain⟨e,h1,h2⟩:=run h
  refine⟨e,h1,fun K' k=>?_⟩
  unfold aT
  simp only [hg]
  exact h2 K' k
 ·rename_i j nB hg
  split at h
  ·cases h
  ·rename_i t ht
   split at h
   ·rename_i b hv
    have skip:(match o.dst with
     |some d=>bif Nat.blt d N then K (some (.s (.d .bC)),[])else False
     |none=>K (none,[]))→∃e,K e∧∀K':Ef→Prop,K' e→(match o.dst with
     |some d=>bif Nat.blt d N then K' (some (.s (.d .bC)),[])else False
     |none=>K' (none,[])):=by
     intro h
     split at h
     ·rename_i d hd
      cases hN:Nat.blt d N with
      |false=>rw[hN]at h;cases h
      |true=>rw[hN]at h;exact⟨_,h,fun K' k=>k⟩
     ·exact⟨_,h,fun K' k=>k⟩
    cases b <;> cases nB
    ·obtain⟨e,h1,h2⟩:=run h
     exact⟨e,h1,fun K' k=>by unfold aT;simp only [hg,ht,hv];exact h2 K' k⟩
    ·obtain⟨e,h1,h2⟩:=skip h
     exact⟨e,h1,fun K' k=>by unfold aT;simp only [hg,ht,hv];exact h2 K' k⟩
    ·obtain⟨e,h1,h2⟩:=skip h
     exact⟨e,h1,fun K' k=>by unfold aT;simp only [hg,ht,hv];exact h2 K' k⟩
    ·obtain⟨e,h1,h2⟩:=run h
     exact⟨e,h1,fun K' k=>by unfold aT;simp only [hg,ht,hv];exact h2 K' k⟩
   ·rename_i b hv
    split at h
    ·rename_i hx
     have run':=@run
     simp only [hx]at run'
     obtain⟨e,h1,h2⟩:=run' h.2
     refine⟨e,h1,fun K' k=>?_⟩
     unfold aT
     simp only [hg,ht,hv,hx]
     exact⟨h.1,h2 K' k⟩
    ·rename_i hx
     split at h
     ·rename_i d hd
      cases hN:Nat.blt d N with
      |false=>rw[hN]at h;cases h
      |true=>
       rw[hN]at h
       obtain⟨r,h1,h2⟩:=lL.pt h
       exact⟨_,h1,fun K' k=>by unfold aT;simp only [hg,ht,hv,hx,hd,hN,cond_true];exact h2 _ k⟩
     ·cases h
   ·rename_i c b hv
    split at h
    ·cases h
    ·rename_i hx
     split at h
     ·rename_i d hd
      cases hN:Nat.blt d N with
      |false=>rw[hN]at h;cases h
      |true=>
       rw[hN]at h
       obtain⟨r,h1,h2⟩:=lL.pt h
       exact⟨_,h1,fun K' k=>by unfold aT;simp only [hg,ht,hv,hx,hd,hN,cond_true];exact h2 _ k⟩
     ·cases h
   ·cases h
abbrev fI:=List Nat×List Nat
def L8(σ:St)(o:Oper)(e:Ef):fI:=(rM σ o.op,e.2.map (·.1))
def S9(all:List Oper)(o:Oper)(σ σ':St):Prop:=∀t,t∈o.looksAt all.toArray→eZ σ'.env t=eZ σ.env t
theorem S9.ev{o:Oper}{σ σ':St}(h:S9 all o σ σ'):U5 o.op.operands.toList σ σ':=by
 intro x hx
 cases x with
 |tmp t=>
  refine h t ?_
  simp only [Oper.looksAt,List.mem_append,List.mem_filterMap]
  exact .inl ⟨_,hx,rfl⟩
 |_=>rfl
theorem S9.guard{o:Oper}{σ σ':St}(h:S9 all o σ σ'){j:Nat}{nB:Bool}{t:Nat}(hg:o.guard=some (j,nB))(ht:rV all j=some t):eZ σ'.env t=eZ σ.env t:=by
 refine h t ?_
 simp only [Oper.looksAt,List.mem_append,hg]
 refine .inr ?_
 have:((all.toArray[j]?).bind (·.dst))=some t:=by simpa [rV]using ht
 rw[this]
 simp
theorem rM.congr{op:Op}{σ σ':St}(he:U5 op.operands.toList σ σ')(hb:uZ (rM σ op) σ σ'):rM σ' op=rM σ op:=by
 have hr:∀(n:Nat) (x:SV),uZ (reach n σ x) σ σ'→reach n σ' x=reach n σ x:=by
  intro n
  induction n with
  |zero=>intro x _;cases x <;> rfl
  |succ n ih=>
   intro x h
   have cat:∀{α:Type} (f f':α→List Nat) (l:List α),(∀c,c∈l→f' c=f c)→dL f' l=dL f l:=by
    intro α f f' l hl
    induction l with
    |nil=>rfl
    |cons c r ihl=>simp only [dL];rw[hl c sM,ihl (fun c hc=>hl c (List.mem_cons_of_mem _ hc))]
   cases x with
   |ptr x off=>
    simp only [reach,h x (by simp[reach])]
    congr 1
    cases hb:aH σ.box x with
    |none=>rfl
    |some y=>cases y with
     |none=>rfl
     |some bc=>cases bc with
      |row e n s f=>rfl
      |bW e n s f=>rfl
      |map vk l=>rfl
      |smap vk l=>rfl
      |dm l n=>rfl
      |fresh T vs=>rfl
      |iter q n t=>rfl
      |cells cs=>
       simp only
       refine cat _ _ cs (fun c hc=>ih c (fun m hm=>h m ?_))
       simp only [reach,hb]
       obtain⟨j,hj⟩:=List.getElem?_of_mem hc
       exact List.mem_cons_of_mem _ (iP hj hm)
   |jQ x s lo q=>
    simp only [reach,h x (by simp[reach])]
    congr 1
    cases hb:aH σ.box x with
    |none=>rfl
    |some y=>cases y with
     |none=>rfl
     |some bc=>cases bc with
      |row e n s f=>rfl
      |bW e n s f=>rfl
      |map vk l=>rfl
      |smap vk l=>rfl
      |dm l n=>rfl
      |fresh T vs=>rfl
      |iter q n t=>rfl
      |cells cs=>
       simp only
       refine cat _ _ cs (fun c hc=>ih c (fun m hm=>h m ?_))
       simp only [reach,hb]
       obtain⟨j,hj⟩:=List.getElem?_of_mem hc
       exact List.mem_cons_of_mem _ (iP hj hm)
   |dQ f cs=>
    simp only [reach]
    refine cat _ _ cs (fun c hc=>?_)
    cases c with
    |d x=>rfl
    |ptr x off=>
     refine ih _ (fun m hm=>h m ?_)
     obtain⟨j,hj⟩:=List.getElem?_of_mem hc
     exact iP (f:=fun c=>match c with|.d _=>[]|.ptr x off=>reach n σ (.ptr x off)) hj hm
   |_=>rfl
 have hrA:∀v:AV,uZ (bP σ v) σ σ'→bP σ' v=bP σ v:=by
  have mS:∀cs:List SV,uZ (dL (reach 4 σ) cs) σ σ'→dL (reach 4 σ') cs=dL (reach 4 σ) cs:=by
   intro cs
   induction cs with
   |nil=>intro _;rfl
   |cons c r ih=>intro h;simp only [dL];rw[hr 4 c (h.mono fun m hm=>List.mem_append_left _ hm),ih (h.mono fun m hm=>List.mem_append_right _ hm)]
  intro v h
  cases v with
  |s x=>exact hr 4 x h
  |ib b x=>exact hr 4 x h
  |g cs=>exact mS cs h
  |ig b cs=>exact mS cs h
  |t ts=>rfl
 have hrF:∀v:AV,uZ (sR σ v) σ σ'→sR σ' v=sR σ v:=by
  have mS:∀cs:List CV,uZ (dL (fun c=>match c with|.d _=>[]|.ptr x off=>reach 4 σ (.ptr x off)) cs) σ σ'→
    dL (fun c=>match c with|.d _=>[]|.ptr x off=>reach 4 σ' (.ptr x off)) cs=dL (fun c=>match c with|.d _=>[]|.ptr x off=>reach 4 σ (.ptr x off)) cs:=by
   intro cs
   induction cs with
   |nil=>intro _;rfl
   |cons c r ih=>
    intro h
    simp only [dL]
    rw[ih (h.mono fun m hm=>List.mem_append_right _ hm)]
    congr 1
    cases c with
    |d x=>rfl
    |ptr x off=>exact hr 4 _ (h.mono fun m hm=>List.mem_append_left _ hm)
  intro v h
  cases v with
  |s x=>cases x with
   |dQ f cs=>exact mS cs h
   |_=>rfl
  |ib b x=>cases x with
   |dQ f cs=>exact mS cs h
   |_=>rfl
  |_=>rfl
 have hl:∀l:List Operand,U5 l σ σ'→uZ (dL (fun x=>bP σ (Ax.ev σ x)) l) σ σ'→dL (fun x=>bP σ' (Ax.ev σ' x)) l=dL (fun x=>bP σ (Ax.ev σ x)) l:=by
  intro l
  induction l with
  |nil=>intro _ _;rfl
  |cons x r ih=>
   intro he h
   simp only [dL]
   rw[he x sM,hrA _ (h.mono fun m hm=>List.mem_append_left _ hm),ih (fun y hy=>he y (List.mem_cons_of_mem _ hy)) (h.mono fun m hm=>List.mem_append_right _ hm)]
 unfold rM at*
 split at hb
 ·rename_i fo args uX
  rw[he fo (by simp[Op.operands,Call.operands]),hrF _ (hb.mono fun m hm=>List.mem_append_left _ hm),
   hl _ (fun y hy=>he y (by simp[Op.operands,Call.operands];exact .inr (by simpa using hy))) (hb.mono fun m hm=>List.mem_append_right _ hm)]
 all_goals first|rfl|exact hl _ he hb
structure EE(P:Program)(T:List (Nat×bJ))(N:Nat)(rc:List Nat)(all:List Oper)(o:Oper)(σ:St)(e:Ef)(f:fI):Prop where
 pt:eR (aT P T N rc all o σ) e
 rd:rM σ o.op=f.1
 wr:e.2.map (·.1)=f.2
theorem EE.congr{o:Oper}{σ σ':St}{e:Ef}{f:fI}(h:EE P T N rc all o σ e f)(ht:S9 all o σ σ')(hr:uZ f.1 σ σ')(hw:∀x,x∈f.2→aH σ'.box x=aH σ.box x):EE P T N rc all o σ' e f:=by
 have hE:=ht.ev
 have hrd:uZ (rM σ o.op) σ σ':=by rw[h.rd];exact hr
 refine⟨fun K k=>?_,(rM.congr hE hrd).trans h.rd,h.wr⟩
 have hk:=h.pt (fun e'=>e'=e∧K e') ⟨rfl,k⟩
 have run:(match o.dst with
  |some d=>bif Nat.blt d N then
    (match LX o.op with
    |true=>tX T d o.op σ fun v u=>(some v,u)=e∧K (some v,u)
    |false=>match wB rc σ o.op with
     |some (fo,args)=>fe none (Ax.ev σ fo) fun vf=>dO none σ args fun ars=>gL P rc σ vf ars fun v u=>(some v,u)=e∧K (some v,u)
     |none=>lL P T o.op σ none fun v=>(some v,[])=e∧K (some v,[]))else False
  |none=>match LX o.op with
    |true=>tX T 0 o.op σ fun _ u=>(none,u)=e∧K (none,u)
    |false=>False)→(match o.dst with
  |some d=>bif Nat.blt d N then
    (match LX o.op with
    |true=>tX T d o.op σ' fun v u=>K (some v,u)
    |false=>match wB rc σ' o.op with
     |some (fo,args)=>fe none (Ax.ev σ' fo) fun vf=>dO none σ' args fun ars=>gL P rc σ' vf ars fun v u=>K (some v,u)
     |none=>lL P T o.op σ' none fun v=>K (some v,[]))else False
  |none=>match LX o.op with
    |true=>tX T 0 o.op σ' fun _ u=>K (none,u)
    |false=>False):=by
  intro h1
  have hwr:=h.wr
  split at h1
  ·rename_i d hd
   cases hN:Nat.blt d N with
   |false=>rw[hN]at h1;exact h1.elim
   |true=>
    rw[hN]at h1
    simp only [cond_true]at h1 ⊢
    split at h1
    ·obtain⟨r,u,⟨he,hK⟩,h2,_⟩:=tX.pt h1
     rw[←he]at hwr
     exact h2 σ' (fun n hn=>hw n (by rw[←hwr];exact hn)) hE hrd _ hK
    ·rw[wB.congr hE]
     split at h1
     ·rename_i fo args hq
      obtain⟨_,args',uX,nY,hl⟩:=wB.op hq
      rw[nY]at hE
      rw[hE fo (by simp[Op.operands,Call.operands])]
      refine fe.imp (fun vf _ h=>?_) h1
      refine dO.congr (fun y hy=>hE y (by simp[Op.operands,Call.operands];exact .inr (by rw[←hl]at hy;simpa using hy))) (fun ars _ h=>?_) h
      refine gL.congr (fun v u hk=>⟨fun n hn=>?_,hk.2⟩) h
      refine hw n ?_
      rw[←hwr,←hk.1];exact hn
     ·exact lL.congr hE hrd ((lL.pt h1).elim fun r hr=>hr.2 _ hr.1.2)
  ·split at h1
   ·obtain⟨r,u,⟨he,hK⟩,h2,_⟩:=tX.pt h1
    rw[←he]at hwr
    exact h2 σ' (fun n hn=>hw n (by rw[←hwr];exact hn)) hE hrd _ hK
   ·exact h1.elim
 unfold aT at hk ⊢
 simp only at hk ⊢
 split at hk
 ·exact run hk
 ·rename_i j nB hg
  split at hk
  ·exact hk.elim
  ·rename_i t DR
   have hgt:=ht.guard hg DR
   simp only [hgt]
   split at hk
   ·rename_i b hv
    cases b <;> cases nB
    ·exact run hk
    ·simp only at hk ⊢
     split at hk
     ·rename_i d hd
      cases hN:Nat.blt d N with
      |false=>rw[hN]at hk;exact hk.elim
      |true=>rw[hN]at hk;exact hk.2
     ·exact hk.2
    ·simp only at hk ⊢
     split at hk
     ·rename_i d hd
      cases hN:Nat.blt d N with
      |false=>rw[hN]at hk;exact hk.elim
      |true=>rw[hN]at hk;exact hk.2
     ·exact hk.2
    ·exact run hk
   ·rename_i b hv
    split at hk
    ·rename_i hx
     have run':=run
     simp only [hx]at run' ⊢
     exact⟨hk.1,run' hk.2⟩
    ·split at hk
     ·rename_i d hd
      cases hN:Nat.blt d N with
      |false=>rw[hN]at hk;exact hk.elim
      |true=>
       rw[hN]at hk
       simp only [cond_true]at hk ⊢
       exact lL.congr hE hrd ((lL.pt hk).elim fun r hr=>hr.2 _ hr.1.2)
     ·exact hk.elim
   ·rename_i c b hv
    split at hk
    ·exact hk.elim
    ·split at hk
     ·rename_i d hd
      cases hN:Nat.blt d N with
      |false=>rw[hN]at hk;exact hk.elim
      |true=>
       rw[hN]at hk
       simp only [cond_true]at hk ⊢
       exact lL.congr hE hrd ((lL.pt hk).elim fun r hr=>hr.2 _ hr.1.2)
     ·exact hk.elim
   ·exact hk.elim
end
structure ET(σ σ':St):Prop where
 env:∀t,eZ σ'.env t=eZ σ.env t
 box:∀x,aH σ'.box x=aH σ.box x
theorem ET.refl(σ:St):ET σ σ:=⟨fun _=>rfl,fun _=>rfl⟩
theorem ET.symm{σ σ':St}(h:ET σ σ'):ET σ' σ:=⟨fun t=>(h.env t).symm,fun x=>(h.box x).symm⟩
theorem ET.trans{a b c:St}(h:ET a b)(k:ET b c):ET a c:=⟨fun t=>(k.env t).trans (h.env t),fun x=>(k.box x).trans (h.box x)⟩
theorem BO{o:Oper}{e:Ef}{σ:St}(t:Nat):eZ (eL o e σ).env t=match o.dst,e.1 with|some d,some v=>if d=t then v else eZ σ.env t|_,_=>eZ σ.env t:=by
 unfold eL
 cases o.dst with
 |none=>rfl
 |some d=>cases e.1 with
  |none=>rfl
  |some v=>exact gG d v σ.env t
theorem aAW{u v:aO}{x:Nat}:aH (u++v) x=match aH u x with|some y=>some y|none=>aH v x:=by
 induction u with
 |nil=>rfl
 |cons p r ih=>
  obtain⟨k,b⟩:=p
  rw[List.cons_append,aL,aL]
  by_cases e:k=x
  ·rw[if_pos e,if_pos e]
  ·rw[if_neg e,if_neg e];exact ih
theorem yT{u:aO}{x:Nat}(h:x∉u.map (·.1)):aH u x=none:=by
 induction u with
 |nil=>rfl
 |cons p r ih=>
  obtain⟨k,b⟩:=p
  simp only [List.map_cons,List.mem_cons,not_or]at h
  rw[aL,if_neg (fun e=>h.1 e.symm)]
  exact ih h.2
theorem BP{o:Oper}{e:Ef}{σ:St}(x:Nat):aH (eL o e σ).box x=match aH e.2 x with|some y=>some y|none=>aH σ.box x:=by
 unfold eL
 simp only [E9]
 exact aAW
theorem eL.eqv{o:Oper}{e:Ef}{σ σ':St}(h:ET σ σ'):ET (eL o e σ) (eL o e σ'):=by
 refine⟨fun t=>?_,fun x=>?_⟩
 ·rw[BO,BO,h.env]
 ·rw[BP,BP,h.box]
def iL(f h:fI):Bool:=
 (f.2.all fun x=> !(h.1.contains x)&& !(h.2.contains x))&&(h.2.all fun x=> !(f.1.contains x))
theorem iL.spec{f h:fI}(hd:iL f h=true):(∀x,x∈f.2→x∉h.1)∧(∀x,x∈f.2→x∉h.2)∧(∀x,x∈h.2→x∉f.1):=by
 simp only [iL,Bool.and_eq_true,List.all_eq_true]at hd
 obtain⟨h1,h2⟩:=hd
 refine⟨fun x hx=>?_,fun x hx=>?_,fun x hx=>?_⟩
 ·simpa using(h1 x hx).1
 ·simpa using(h1 x hx).2
 ·simpa using h2 x hx
theorem eL.comm{o p:Oper}{e u:Ef}{σ:St}(hd:∀d,o.dst=some d→p.dst≠some d)(hb:∀x,x∈e.2.map (·.1)→x∉u.2.map (·.1)):
  ET (eL o e (eL p u σ)) (eL p u (eL o e σ)):=by
 refine⟨fun t=>?_,fun x=>?_⟩
 ·simp only [BO]
  cases ho:o.dst with
  |none=>rfl
  |some d=>cases he:e.1 with
   |none=>rfl
   |some v=>cases hp:p.dst with
    |none=>rfl
    |some d'=>cases hu:u.1 with
     |none=>rfl
     |some v'=>
      have hV:d'≠d:=fun h=>hd d ho (by rw[hp,h])
      simp only
      by_cases h1:d=t
      ·subst h1;simp[hV]
      ·simp[h1]
 ·simp only [BP]
  by_cases h1:x∈e.2.map (·.1)
  ·rw[yT (hb x h1)]
  ·rw[yT h1]
section
variable{P:Program}{T:List (Nat×bJ)}{N:Nat}{rc:List Nat}{all:List Oper}{md:Region.Mode}{ft:List fI}
theorem EE.eqv{o:Oper}{σ σ':St}{e:Ef}{f:fI}(h:EE P T N rc all o σ e f)(k:ET σ σ'):EE P T N rc all o σ' e f:=
 h.congr (fun t _=>k.env t) (fun x _=>k.box x) (fun x _=>k.box x)
def w3(P:Program)(T:List (Nat×bJ))(N:Nat)(rc:List Nat)(all:List Oper)(md:Region.Mode)(ft:List fI)(σf:St):Nat→Array Bool→St→Prop
 |0,listed,σ=>Region.ready md all.toArray listed=[]∧ET σf σ
 |fuel+1,listed,σ=>
  (Region.ready md all.toArray listed=[]→ET σf σ)∧
  ∀i∈Region.ready md all.toArray listed,∃o e f,all[i]? =some o∧ft[i]? =some f∧EE P T N rc all o σ e f∧w3 P T N rc all md ft σf fuel (listed.setIfInBounds i true) (eL o e σ)
theorem w3.eqv{σf:St}:∀(fuel:Nat) {listed:Array Bool} {σ σ':St},ET σ σ'→w3 P T N rc all md ft σf fuel listed σ→w3 P T N rc all md ft σf fuel listed σ'
 |0,_,_,_,k,h=>⟨h.1,h.2.trans k⟩
 |fuel+1,_,_,_,k,h=>⟨fun h0=>(h.1 h0).trans k,fun i hi=>by
  obtain⟨o,e,f,h1,h2,h3,h4⟩:=h.2 i hi
  exact⟨o,e,f,h1,h2,h3.eqv k,w3.eqv fuel (eL.eqv k) h4⟩⟩
theorem S9.eL{oi oj:Oper}{e:Ef}{σ:St}(h:∀d,oi.dst=some d→d∉oj.looksAt all.toArray):S9 all oj σ (eL oi e σ):=by
 intro t ht
 rw[BO]
 cases ho:oi.dst with
 |none=>rfl
 |some d=>cases e.1 with
  |none=>rfl
  |some v=>
   simp only
   rw[if_neg (fun (hdt:d=t)=>h d ho (hdt▸ht))]
theorem oE{oi:Oper}{e:Ef}{σ:St}{x:Nat}(h:x∉e.2.map (·.1)):aH (eL oi e σ).box x=aH σ.box x:=by
 rw[BP,yT h]
theorem EE.past{oi oj:Oper}{ei ej:Ef}{fi fj:fI}{σ:St}(hwi:ei.2.map (·.1)=fi.2)(B0:oi.apart all.toArray oj=true)(wH:iL fi fj=true)(h:EE P T N rc all oj (eL oi ei σ) ej fj):EE P T N rc all oj σ ej fj:=by
 obtain⟨h1,h2,h3⟩:=Oper.apart_spec B0
 obtain⟨k1,k2,k3⟩:=iL.spec wH
 have ht:S9 all oj σ (eL oi ei σ):=S9.eL h1
 refine h.congr (fun t DR=>(ht t DR).symm) (fun x hx=>(oE (fun hw=>?_)).symm) (fun x hx=>(oE (fun hw=>?_)).symm)
 ·exact k1 x (hwi▸hw) hx
 ·exact k2 x (hwi▸hw) hx
theorem EE.over{oi oj:Oper}{ei ej:Ef}{fi fj:fI}{σ:St}(hwj:ej.2.map (·.1)=fj.2)(B0:oi.apart all.toArray oj=true)(wH:iL fi fj=true)(h:EE P T N rc all oi σ ei fi):EE P T N rc all oi (eL oj ej σ) ei fi:=by
 obtain⟨h1,h2,h3⟩:=Oper.apart_spec B0
 obtain⟨k1,k2,k3⟩:=iL.spec wH
 refine h.congr (S9.eL h3) (fun x hx=>oE (fun hw=>?_)) (fun x hx=>oE (fun hw=>?_))
 ·exact k3 x (hwj▸hw) hx
 ·exact k2 x hx (hwj▸hw)
def dep(md:Region.Mode)(ops:Array Oper)(i:Nat):Nat→Nat→Bool
 |0,_=>false
 |n+1,j=>match ops[j]? with
  |some oj=>oj.after.any fun e=>Region.binds md e&&(Nat.beq e.on i||dep md ops i n e.on)
  |none=>false
def rB(md:Region.Mode)(all:List Oper)(listed:Array Bool):Prop:=
 ∀m om,all[m]? =some om→listed.getD m false=true→∀e∈om.after,Region.binds md e=true→listed.getD e.on false=true
theorem L6{l:Array Bool}{i:Nat}(h:l.getD i true=false):l.getD i false=false:=by
 rcases Nat.lt_or_ge i l.size with h'|h'
 ·simp[h']at h ⊢;exact h
 ·simp[Array.getElem?_eq_none h']at h
theorem MF{md:Region.Mode}{listed:Array Bool}{i:Nat}(hc:rB md all listed)(hi:listed.getD i false=false):∀(n j:Nat) (oj:Oper),all[j]? =some oj→(∀e∈oj.after,Region.binds md e=true→listed.getD e.on false=true)→dep md all.toArray i n j=false
 |0,_,_,_,_=>rfl
 |n+1,j,oj,hj,h=>by
  have xS:all.toArray[j]? =some oj:=by simpa using hj
  simp only [dep,xS]
  rw[Bool.eq_false_iff]
  intro hx
  obtain⟨e,he,hb⟩:=Array.any_eq_true'.1 hx
  simp only [Bool.and_eq_true,Bool.or_eq_true]at hb
  have hl:=h e he hb.1
  rcases hb.2 with h1|h1
  ·rw[Nat.eq_of_beq_eq_true h1,hi]at hl;cases hl
  ·cases ho:all[e.on]? with
   |none=>
    cases n with
    |zero=>cases h1
    |succ n=>
     have:all.toArray[e.on]? =none:=by simpa using ho
     simp only [dep,this]at h1
     cases h1
   |some om=>
    rw[MF hc hi n e.on om ho (hc e.on om ho hl)]at h1
    cases h1
theorem rB.set{md:Region.Mode}{listed:Array Bool}{j:Nat}{oj:Oper}(hc:rB md all listed)(hj:all[j]? =some oj)(h:∀e∈oj.after,Region.binds md e=true→listed.getD e.on false=true):rB md all (listed.setIfInBounds j true):=by
 have up:∀x,listed.getD x false=true→(listed.setIfInBounds j true).getD x false=true:=fun x hx=>by
  by_cases hjx:j=x
  ·subst hjx
   rcases Nat.lt_or_ge j listed.size with h'|h'
   ·simp[h']
   ·simp[Array.getElem?_eq_none h']at hx
  ·rw[getD_set_ne false hjx];exact hx
 intro m om hm hl e he hb
 by_cases hmj:j=m
 ·subst hmj
  rw[hj]at hm;cases hm
  exact up _ (h e he hb)
 ·rw[getD_set_ne false hmj]at hl
  exact up _ (hc m om hm hl e he hb)
theorem w3.first{σf:St}{i:Nat}{oi:Oper}{ei:Ef}{fi:fI}(hi:all[i]? =some oi)(hfi:ft[i]? =some fi):
  ∀(fuel:Nat) (listed:Array Bool) (σ:St),
   (∀j oj fj,all[j]? =some oj→ft[j]? =some fj→j≠i→listed.getD j true=false→(∀n,dep md all.toArray i n j=false)→oi.apart all.toArray oj=true∧iL fi fj=true)→rB md all listed→
   i∈Region.ready md all.toArray listed→EE P T N rc all oi σ ei fi→
   w3 P T N rc all md ft σf fuel (listed.setIfInBounds i true) (eL oi ei σ)→w3 P T N rc all md ft σf (fuel+1) listed σ:=by
 intro fuel
 induction fuel with
 |zero=>
  intro listed σ _ _ hr hy H
  refine⟨fun h=>(by rw[h]at hr;cases hr),fun j hj=>?_⟩
  by_cases EK:j=i
  ·subst EK;exact⟨oi,ei,fi,hi,hfi,hy,H⟩
  ·have:=ready_mono hj EK
   rw[H.1]at this
   cases this
 |succ fuel ih=>
  intro listed σ DX uA hr hy H
  refine⟨fun h=>(by rw[h]at hr;cases hr),fun j hj=>?_⟩
  by_cases EK:j=i
  ·subst EK;exact⟨oi,ei,fi,hi,hfi,hy,H⟩
  ·obtain⟨oj,ej,fj,RQ,hfj,hyj,Hj⟩:=H.2 j (ready_mono hj EK)
   obtain⟨O9,oj',aAO,lE⟩:=mem_ready.1 hj
   have DU:all[j]? =some oj':=by simpa using aAO
   rw[RQ]at DU;cases DU
   have L0:∀n,dep md all.toArray i n j=false:=fun n=>MF uA (L6 (mem_ready.1 hr).1) n j oj RQ lE
   obtain⟨B0,wH⟩:=DX j oj fj RQ hfj EK O9 L0
   have aAE:EE P T N rc all oj σ ej fj:=EE.past hy.wr B0 wH hyj
   have aAF:EE P T N rc all oi (eL oj ej σ) ei fi:=EE.over hyj.wr B0 wH hy
   have G2:∀k ok fk,all[k]? =some ok→ft[k]? =some fk→k≠i→(listed.setIfInBounds j true).getD k true=false→
     (∀n,dep md all.toArray i n k=false)→oi.apart all.toArray ok=true∧iL fi fk=true:=fun k ok fk hk nS M6 T7 WJ=>by
    refine DX k ok fk hk nS M6 ?_ WJ
    by_cases hjk:j=k
    ·subst hjk;exact O9
    ·rw[getD_set_ne true hjk]at T7;exact T7
   refine⟨oj,ej,fj,RQ,hfj,aAE,ih (listed.setIfInBounds j true) (eL oj ej σ) G2 (uA.set RQ lE) (ready_mono hr (Ne.symm EK)) aAF ?_⟩
   rw[Array.setIfInBounds_comm _ _ EK]
   refine w3.eqv fuel ?_ Hj
   obtain⟨h1,h2,h3⟩:=Oper.apart_spec B0
   obtain⟨k1,k2,k3⟩:=iL.spec wH
   exact(eL.comm (fun d hd=>h2 d hd) (fun x hx=>by rw[hy.wr]at hx;rw[hyj.wr];exact k2 x hx)).symm
def A0(md:Region.Mode)(ops:Array Oper)(ft:List fI)(listed:Array Bool)(i:Nat):Bool:=
 match ops[i]?,ft[i]? with
 |some oi,some fi=>(List.range ops.size).all fun j=>Nat.beq j i||listed.getD j true||match ops[j]?,ft[j]? with
   |some oj,some fj=>(oi.apart ops oj&&iL fi fj)||dep md ops i 6 j
   |_,_=>true
 |_,_=>false
def V2(md:Region.Mode)(ops:Array Oper)(ft:List fI):Nat→Nat→Array Bool→Bool
 |0,_,listed=>(Region.ready md ops listed).isEmpty
 |fuel+1,k,listed=>(Region.ready md ops listed).contains k&&A0 md ops ft listed k&&V2 md ops ft fuel (k+1) (listed.setIfInBounds k true)
theorem A0.spec{i:Nat}{oi:Oper}{fi:fI}{listed:Array Bool}(hi:all[i]? =some oi)(hfi:ft[i]? =some fi)(h:A0 md all.toArray ft listed i=true)(j:Nat)(oj:Oper)(fj:fI)
  (hj:all[j]? =some oj) (hfj:ft[j]? =some fj) (hV:j≠i) (T7:listed.getD j true=false) (WJ:∀n,dep md all.toArray i n j=false):oi.apart all.toArray oj=true∧iL fi fj=true:=by
 have bN:all.toArray[i]? =some oi:=by simpa using hi
 have xS:all.toArray[j]? =some oj:=by simpa using hj
 unfold A0 at h
 rw[bN,hfi]at h
 simp only [List.all_eq_true,List.mem_range]at h
 have aMD:j<all.toArray.size:=by
  have:=(Array.getElem?_eq_some_iff.1 xS).1
  exact this
 have hx:=h j aMD
 rw[xS,hfj,T7]at hx
 have hb:Nat.beq j i=false:=SU hV
 rw[hb,WJ 6]at hx
 simp only [Bool.false_or,Bool.or_false,Bool.and_eq_true]at hx
 exact hx
def U4(P:Program)(T:List (Nat×bJ))(N:Nat)(rc:List Nat)(all:List Oper):List Oper→St→List Ef→List fI→Prop
 |[],_,[],[]=>True
 |o::l,σ,e::es,f::fs=>EE P T N rc all o σ e f∧U4 P T N rc all l (eL o e σ) es fs
 |_,_,_,_=>False
def p7:List Oper→St→List Ef→St
 |o::l,σ,e::es=>p7 l (eL o e σ) es
 |_,σ,_=>σ
theorem w3.lex:∀(l:List Oper) (k:Nat) (listed:Array Bool) (σ:St) (es:List Ef) (fs:List fI),(∀j,l[j]? =all[k+j]?)→(∀j,fs[j]? =ft[k+j]?)→
  rB md all listed→V2 md all.toArray ft l.length k listed=true→U4 P T N rc all l σ es fs→w3 P T N rc all md ft (p7 l σ es) l.length listed σ
 |[],_,_,_,[],[],_,_,_,hB,_=>⟨by simpa [V2]using hB,ET.refl _⟩
 |o::l,k,listed,σ,e::es,f::fs,hl,hf,uA,hB,⟨h1,h2⟩=>by
  have h0:all[k]? =some o:=by simpa using(hl 0).symm
  have UB:ft[k]? =some f:=by simpa using(hf 0).symm
  simp only [List.length_cons,V2,Bool.and_eq_true]at hB
  obtain⟨⟨hr,hfr⟩,hB'⟩:=hB
  have BZ:k∈Region.ready md all.toArray listed:=by simpa using hr
  have lE:∀e∈o.after,Region.binds md e=true→listed.getD e.on false=true:=by
   obtain⟨_,o',qW,h⟩:=mem_ready.1 BZ
   have:all[k]? =some o':=by simpa using qW
   rw[h0]at this;cases this
   exact h
  exact w3.first h0 UB l.length listed σ (A0.spec h0 UB hfr) uA BZ h1
   (w3.lex l (k+1) _ _ es fs (fun j=>by have:=hl (j+1);simpa [Nat.add_assoc,Nat.add_comm 1 j]using this) (fun j=>by have:=hf (j+1);simpa [Nat.add_assoc,Nat.add_comm 1 j]using this) (uA.set h0 lE) hB' h2)
 |[],_,_,_,_::_,_,_,_,_,_,h=>by cases ‹List fI› <;> exact h.elim
 |[],_,_,_,[],_::_,_,_,_,_,h=>h.elim
 |_::_,_,_,_,[],_,_,_,_,_,h=>by cases ‹List fI› <;> exact h.elim
 |_::_,_,_,_,_::_,[],_,_,_,_,h=>h.elim
end
section
variable{P:Program}{T:List (Nat×bJ)}{N:Nat}{ref rc:List Nat}{cx:Cx}{all:List Oper}
def BR(cx:Cx)(N:Nat)(M:Mem)(w:World)(o:Oper)(σ:St)(K:Ef→Prop)(a':Act)(w':World):Prop:=
 ∃e M' β',K e∧Inv cx N M' β' (eL o e σ) a' w'∧Grow cx.B M M'∧b6 cx w w'
theorem MX{o:Oper}{d:Nat}{v:AV}{σ:St}(hd:o.dst=some d):eL o (some v,[]) σ=oJ σ d v:=by
 unfold eL oJ;rw[hd];rfl
theorem S0{o:Oper}{d:Nat}{v:AV}{u:aO}{σ:St}(hd:o.dst=some d):eL o (some v,u) σ=⟨(d,v)::σ.env,u++σ.box⟩:=by
 unfold eL;rw[hd];simp only [E9]
theorem aB0{o:Oper}{v:Option AV}{u:aO}{σ:St}(hd:o.dst=none):eL o (v,u) σ=⟨σ.env,u++σ.box⟩:=by
 unfold eL;rw[hd];simp only [E9]
theorem aT.sound(hT:b5 P T)(WG:∀f,rc.contains (f+2000000)=true→cx.ref=[]){o:Oper}{σ:St}{K:Ef→Prop}{Q:Exit→Act→World→Prop}{M:Mem}{β:Nm}{a:Act}{w:World}(h:aT P T N rc all o σ K)(i:Inv cx N M β σ a w):
  if Region.wanted o (yielded all.toArray a.tmps)then(∀c,o.op≠.defer c)∧o.wp P a w (BR cx N M w o σ K) Q else BR cx N M w o σ K (a.put o.dst undef) w:=by
 have run:(match o.dst with
  |some d=>bif Nat.blt d N then
    (match LX o.op with
    |true=>tX T d o.op σ fun v u=>K (some v,u)
    |false=>match wB rc σ o.op with
     |some (fo,args)=>fe none (ev σ fo) fun vf=>dO none σ args fun ars=>gL P rc σ vf ars fun v u=>K (some v,u)
     |none=>lL P T o.op σ none fun v=>K (some v,[]))else False
  |none=>match LX o.op with
    |true=>tX T 0 o.op σ fun _ u=>K (none,u)
    |false=>False)→(∀c,o.op≠.defer c)∧o.wp P a w (BR cx N M w o σ K) Q:=by
  intro h
  refine⟨fun c e=>?_,?_⟩
  ·rw[e]at h
   split at h
   ·rename_i d hd
    cases hN:Nat.blt d N with
    |false=>rw[hN]at h;cases h
    |true=>rw[hN]at h;cases h
   ·cases h
  split at h
  ·rename_i d hd
   cases hN:Nat.blt d N with
   |false=>rw[hN]at h;cases h
   |true=>
    rw[hN]at h
    have hN:d<N:=Nat.le_of_ble_eq_true hN
    simp only [cond_true]at h
    split at h
    ·obtain⟨r,u,hk,_,hx⟩:=tX.pt h
     obtain⟨r',bx,⟨rfl,rfl⟩,v,w',M',β',aV,hr,hi,hg,kG⟩:=IJ.spec hT (hx cx.ref) rfl i
     unfold Oper.wp
     rcases aV with aV|⟨aV,rfl⟩
     ·rw[aV,Oper.upon_value,hd]
      exact⟨_,M',β',hk,by rw[S0 hd];exact hi.put (σ:=⟨σ.env,_⟩) hN hr,hg,kG⟩
     ·rw[aV,Oper.upon_skip,hd]
      exact⟨_,M',β',hk,by rw[S0 hd];exact hi.put (σ:=⟨σ.env,_⟩) hN hr,hg,kG⟩
    ·split at h
     ·rename_i fo args hq
      obtain⟨v,u,hk,hs⟩:=gL.spec hq WG h
      obtain⟨f,vs,aV,dV⟩:=hs N M β a w i
      unfold Oper.wp
      rw[aV,Oper.upon_enter]
      refine dV.mono ?_
      rintro e' w' ⟨v',M',β',rfl,hr,i',hg,kG⟩
      simp only [hd]
      exact⟨_,M',β',hk,by rw[S0 hd];exact i'.put (σ:=⟨σ.env,_⟩) hN hr,hg,kG⟩
     obtain⟨r,hk,hs⟩:=lL.spec hT h
     refine Oper.wp_mono ?_ (E5 (K:=fun σ'=>σ'=oJ σ d r) hd hN (hs iS) i rfl)
     rintro a' w' ⟨σ',M',β',rfl,h2,h3,h4⟩
     exact⟨_,M',β',hk,by rw[MX hd];exact h2,h3,h4⟩
  ·rename_i hd
   split at h
   ·obtain⟨r,u,hk,_,hx⟩:=tX.pt h
    obtain⟨r',bx,⟨rfl,rfl⟩,v,w',M',β',aV,hr,hi,hg,kG⟩:=IJ.spec hT (hx cx.ref) rfl i
    unfold Oper.wp
    rcases aV with aV|⟨aV,rfl⟩
    ·rw[aV,Oper.upon_value,hd]
     exact⟨_,M',β',hk,by rw[aB0 hd];exact hi,hg,kG⟩
    ·rw[aV,Oper.upon_skip,hd]
     exact⟨_,M',β',hk,by rw[aB0 hd];exact hi,hg,kG⟩
   ·cases h
 have skip:(match o.dst with
     |some d=>bif Nat.blt d N then K (some (.s (.d .bC)),[])else False
     |none=>K (none,[]))→BR cx N M w o σ K (a.put o.dst undef) w:=by
  intro h
  split at h
  ·rename_i d hd
   cases hN:Nat.blt d N with
   |false=>rw[hN]at h;cases h
   |true=>
    rw[hN]at h
    have hN:d<N:=Nat.le_of_ble_eq_true hN
    rw[hd]
    exact⟨_,M,β,h,by rw[MX hd];exact i.put hN trivial,Grow.refl _ _,b6.refl _ _⟩
  ·rename_i hd
   rw[hd]
   exact⟨_,M,β,h,by unfold eL;rw[hd];exact i,Grow.refl _ _,b6.refl _ _⟩
 have part:∀{d:Nat} {gb:Bool},o.dst=some d→d<N→(lL P T o.op σ (some gb) fun v=>K (some (vA gb v),[]))→Region.wanted o (yielded all.toArray a.tmps)=gb→
   if Region.wanted o (yielded all.toArray a.tmps)then(∀c,o.op≠.defer c)∧o.wp P a w (BR cx N M w o σ K) Q else BR cx N M w o σ K (a.put o.dst undef) w:=by
  intro d gb hd hN h hw
  obtain⟨r,hk,hs⟩:=lL.spec hT h
  cases hgf:gb with
  |true=>
   rw[if_pos (by rw[hw,hgf])]
   have G6:act (some gb):=fun c e=>by cases e;exact hgf
   have hdo:X1 P o σ (vA gb r):=by
    intro cx N M β a w i
    have hwr:∀{M β v},r.a7 M β v→(vA gb r).a7 M β v:=by
     intro M β v hr
     cases r with
     |s x=>exact⟨fun _=>hr,fun h=>by rw[hgf]at h;cases h⟩
     |g cs=>exact⟨fun _=>hr,fun h=>by rw[hgf]at h;cases h⟩
     |_=>exact trivial
    rcases hs G6 cx N M β a w i with⟨v,e,hr⟩|⟨f,vs,e,hc⟩
    ·exact .inl ⟨v,e,hwr hr⟩
    ·exact .inr ⟨f,vs,e,hc.mono fun e' w' ⟨v,M',h1,h2,h3⟩=>⟨v,M',h1,hwr h2,h3⟩⟩
   refine⟨lL.nd h,Oper.wp_mono ?_ (E5 (K:=fun σ'=>σ'=oJ σ d (vA gb r)) hd hN hdo i rfl)⟩
   rintro a' w' ⟨σ',M',β',rfl,h2,h3,h4⟩
   exact⟨_,M',β',hk,by rw[MX hd];exact h2,h3,h4⟩
  |false=>
   rw[if_neg (by rw[hw,hgf];simp),hd]
   refine⟨_,M,β,hk,?_,Grow.refl _ _,b6.refl _ _⟩
   rw[MX hd]
   refine i.put hN ?_
   cases r with
   |s x=>exact⟨fun h=>(by rw[hgf]at h;cases h),fun _=>rfl⟩
   |g cs=>exact⟨fun h=>(by rw[hgf]at h;cases h),fun _=>rfl⟩
   |_=>exact trivial
 unfold aT at h
 simp only at h
 split at h
 ·rename_i hg
  rw[if_pos (by simp[Region.wanted,hg])]
  exact run h
 ·rename_i j nB hg
  split at h
  ·cases h
  ·rename_i t ht
   split at h
   ·rename_i b hv
    have hb:a.tmps.getD t undef=.bool b:=by have:=i.env t;rw[hv]at this;exact this
    have hw:=pA hg ht hb
    cases b <;> cases nB
    ·rw[if_pos (by rw[hw];rfl)];exact run h
    ·rw[if_neg (by rw[hw];simp)];exact skip h
    ·rw[if_neg (by rw[hw];simp)];exact skip h
    ·rw[if_pos (by rw[hw];rfl)];exact run h
   ·rename_i b hv
    have hb:a.tmps.getD t undef=.bool b:=by have:=i.env t;rw[hv]at this;exact this
    have hw:=pA hg ht hb
    split at h
    ·rename_i hx
     obtain⟨hbp,h⟩:=h
     subst hbp
     have run':=run
     simp only [hx]at run'
     rw[if_pos (by rw[hw];cases b <;> rfl)];exact run' h
    ·split at h
     ·rename_i d hd
      cases hN:Nat.blt d N with
      |false=>rw[hN]at h;cases h
      |true=>
       rw[hN]at h
       exact part hd (Nat.le_of_ble_eq_true hN) h (by rw[hw];cases b <;> cases nB <;> rfl)
     ·cases h
   ·rename_i c b hv
    have hr:(AV.ib c (.d (.val (.bool b)))).a7 M β (a.tmps.getD t undef):=by have:=i.env t;rw[hv]at this;exact this
    have hw:Region.wanted o (yielded all.toArray a.tmps)=(c&&tB nB b):=by
     cases c with
     |true=>rw[pA hg ht (hr.1 rfl)];cases b <;> cases nB <;> rfl
     |false=>exact zI hg ht (hr.2 rfl)
    split at h
    ·cases h
    ·split at h
     ·rename_i d hd
      cases hN:Nat.blt d N with
      |false=>rw[hN]at h;cases h
      |true=>
       rw[hN]at h
       exact part hd (Nat.le_of_ble_eq_true hN) h hw
     ·cases h
   ·cases h
theorem Inv.eqv{σ σ':St}{M:Mem}{β:Nm}{a:Act}{w:World}(i:Inv cx N M β σ a w)(h:ET σ σ'):Inv cx N M β σ' a w:=
 ⟨i.defers,i.tmps,i.heap,fun t=>by rw[h.env];exact i.env t,i.mem,fun x p e=>by rw[h.box];exact i.keys x p e,fun x bc e=>i.box x bc (by rw[←h.box];exact e),
  fun x y bx xV b c c' ex ey=>i.inj x y bx xV b c c' (by rw[←h.box];exact ex) (by rw[←h.box];exact ey),fun x bc b c e=>i.apart x bc b c (by rw[←h.box];exact e),fun x bc b c e=>i.low x bc b c (by rw[←h.box];exact e),i.ref⟩
theorem w3.sound(hT:b5 P T)(WG:∀f,rc.contains (f+2000000)=true→cx.ref=[]){md:Region.Mode}{ft:List fI}{σf:St}{Q:Exit→Act→World→Prop}:∀(fuel:Nat) {listed:Array Bool} {σ:St} {M:Mem} {β:Nm} {a:Act} {w:World},
  w3 P T N rc all md ft σf fuel listed σ→Inv cx N M β σ a w→(∀a' w',I3 cx N M w (fun σ'=>σ'=σf) a' w'→Q .normal a' w')→wpAnyIn (FW cx.rd) 0 P md all.toArray Q fuel listed a w:=by
 intro fuel
 induction fuel with
 |zero=>
  intro listed σ M β a w h i hQ
  exact⟨h.1,hQ a w ⟨σf,M,β,rfl,i.eqv h.2.symm,Grow.refl _ _,b6.refl _ _⟩⟩
 |succ fuel ih=>
  intro listed σ M β a w h i hQ
  refine⟨fun h0=>hQ a w ⟨σf,M,β,rfl,i.eqv (h.1 h0).symm,Grow.refl _ _,b6.refl _ _⟩,fun k hk=>?_⟩
  obtain⟨o,e,f,ho,hf,fT,J7⟩:=h.2 k hk
  have jE:=aT.sound (cx:=cx) (Q:=Q) hT WG (fT.pt (fun e'=>e'=e) rfl) i
  have qW:all.toArray[k]? =some o:=by simpa using ho
  have next:∀a' w',BR cx N M w o σ (fun e'=>e'=e) a' w'→wpAnyIn (FW cx.rd) 0 P md all.toArray Q fuel (listed.setIfInBounds k true) a' w':=by
   rintro a' w' ⟨e',M',β',rfl,hi,hg,kG⟩
   exact ih J7 hi fun a2 w2 hp=>hQ a2 w2 (hp.trans hg kG)
  unfold wpOpIn
  rw[qW]
  simp only
  split
  ·rename_i hw
   rw[if_pos hw]at jE
   exact LJ jE.1 (Oper.wp_mono next jE.2)
  ·rename_i hw
   rw[if_neg hw]at jE
   exact⟨fun _ _=>trivial,next _ _ jE⟩
def oK(P:Program)(T:List (Nat×bJ))(N:Nat)(rc:List Nat)(all:List Oper):List Oper→St→List fI→(St→List fI→Prop)→Prop
 |[],σ,fs,K=>K σ fs.reverse
 |o::rest,σ,fs,K=>aT P T N rc all o σ fun e=>oK P T N rc all rest (eL o e σ) (L8 σ o e::fs) K
theorem oK.chain:∀{l:List Oper} {σ:St} {fs:List fI} {K:St→List fI→Prop},oK P T N rc all l σ fs K→∃es gs,U4 P T N rc all l σ es gs∧K (p7 l σ es) (fs.reverse++gs)
 |[],σ,fs,K,h=>⟨[],[],trivial,by have h':K σ fs.reverse:=h;simpa [p7]using h'⟩
 |o::rest,σ,fs,K,h=>by
  obtain⟨e,hk,hp⟩:=aT.pt h
  obtain⟨es,gs,hc,hK⟩:=oK.chain hk
  refine⟨e::es,L8 σ o e::gs,⟨⟨hp,rfl,rfl⟩,hc⟩,?_⟩
  simpa [p7]using hK
theorem AW.draw(hT:b5 P T)(WG:∀f,rc.contains (f+2000000)=true→cx.ref=[])(hm:P.follows .mixedOrders=true){id:Nat}{ops:Array Oper}{σ:St}{K:Exit→St→Prop}
  (h:oK P T N rc ops.toList ops.toList σ [] fun σ' fs=>V2 .any ops.toList.toArray fs ops.toList.length 0 (Array.replicate ops.toList.length false)=true∧K .normal σ'):AW P cx N (.region id ops true) σ K:=by
 obtain⟨es,gs,hc,hl,hK⟩:=oK.chain h
 intro M β a w i
 refine wpIn_region_any hm ?_
 have aAV:=w3.lex (md:=.any) (ft:=gs) ops.toList 0 (Array.replicate ops.toList.length false) σ es gs sM sM (fun m om _ h=>by simp[Array.getElem?_replicate]at h;split at h <;> simp_all) hl hc
 have hi:Inv cx N M β σ a {w with drawn:=w.drawn+1}:=
  ⟨i.defers,i.tmps,⟨i.heap.le,i.heap.tab⟩,i.env,i.mem,i.keys,i.box,i.inj,i.apart,i.low,i.ref⟩
 have:=w3.sound (cx:=cx) (Q:=fun e a' w'=>∃σ' M' β',K e σ'∧Inv cx N M' β' σ' a' w'∧Grow cx.B M M'∧b6 cx w w') hT WG ops.toList.length aAV hi (by
  rintro a' w' ⟨σ',M',β',rfl,h2,h3,h4⟩
  exact⟨_,M',β',hK,h2,h3,⟨h4.os,h4.tape,h4.output,h4.size,h4.block,trivial⟩⟩)
 simpa using this
end
def yY(σ:St)(c:Operand)(x y:Prop):Prop:=
 match ev σ c with
 |.s (.d (.lit b))=>match b with
  |true=>x
  |false=>y
 |.s (.d (.val (.bool b)))=>(b=true→x)∧(b=false→y)
 |_=>False
def aA1(P:Program)(T:List (Nat×bJ))(N:Nat)(ref rc:List Nat)(ops:Array Oper)(dr:Bool)(σ:St)(K:Exit→St→Prop):Prop:=
 match dr with
 |false=>lA P T N ref rc ops.toList ops.toList σ (K .normal)
 |true=>oK P T N (bif ref.isEmpty then rc else rc.filter fun x=>Nat.blt x 2000000) ops.toList ops.toList σ [] fun σ' fs=>V2 .any ops.toList.toArray fs ops.toList.length 0 (Array.replicate ops.toList.length false)=true∧K .normal σ'
def ex(P:Program)(T:List (Nat×bJ))(N:Nat)(ref rc:List Nat)(cx:Cx)(c:Code):St→(Exit→St→Prop)→Prop:=
 @Code.rec (fun _=>St→(Exit→St→Prop)→Prop)
  (fun σ K=>K .normal σ)
  (fun _ ops dr σ K=>aA1 P T N ref rc ops dr σ K)
  (fun _ _ iha ihb σ K=>iha σ (NI (fun s=>ihb s K) K))
  (fun c _ _ iha ihb σ K=>yY σ c (iha σ K) (ihb σ K))
  (fun id _ ih σ K=>ih σ (MV id K))
  (fun b _ σ K=>AW P cx N (.loop b) σ K)
  (fun f p a b _ _ σ K=>AW P cx N (.rangeFunc f p a b) σ K)
  (fun id σ K=>K (.exit id) σ)
  (fun b _ σ K=>AW P cx N (.scope b) σ K)
  (fun l σ K=>AW P cx N (.label l) σ K)
  (fun l σ K=>AW P cx N (.goto l) σ K)
  (fun σ K=>K .ret σ)
  (fun w σ K=>AW P cx N (.refuse w) σ K) c
theorem ex.sound{P:Program}{T:List (Nat×bJ)}{N:Nat}{ref rc:List Nat}{cx:Cx}(hT:b5 P T)(hm:P.follows .mixedOrders=true)(aA:cx.ref=ref):∀(c:Code) {σ:St} {K:Exit→St→Prop},ex P T N ref rc cx c σ K→AW P cx N c σ K:=by
 intro c
 induction c with
 |skip=>exact fun h=>AW.skip h
 |ret=>exact fun h=>AW.ret h
 |exit id=>exact fun h=>AW.exit h
 |seq x y ihx ihy=>
  intro σ K h
  refine AW.seq (AW.mono (ihx h) ?_)
  intro e s hk
  cases e with
  |normal=>exact ihy hk
  |_=>exact hk
 |block id c ih=>exact fun h=>AW.block (ih h)
 |cond c x y ihx ihy=>
  intro σ K h
  replace h:yY σ c (ex P T N ref rc cx x σ K) (ex P T N ref rc cx y σ K):=h
  unfold yY at h
  intro M β a w i
  split at h
  ·rename_i b hv
   have hb:a.eval c=.bool b:=by have:=ev.rep i c;rw[hv]at this;exact this
   cases b with
   |true=>exact wpIn_cond_true hb (ihx h M β a w i)
   |false=>exact wpIn_cond_false hb (ihy h M β a w i)
  ·rename_i b hv
   have hb:a.eval c=.bool b:=by have:=ev.rep i c;rw[hv]at this;exact this
   exact wpIn_cond_split hb (fun hb=>ihx (h.1 hb) M β a w i) (fun hb=>ihy (h.2 hb) M β a w i)
  ·cases h
 |region id ops dr=>
  intro σ K h
  replace h:aA1 P T N ref rc ops dr σ K:=h
  unfold aA1 at h
  cases dr with
  |true=>
   refine AW.draw hT (fun f hf=>?_) hm h
   cases hr:ref.isEmpty with
   |true=>rw[aA];exact List.isEmpty_iff.1 hr
   |false=>
    rw[hr]at hf
    simp only [cond_false,List.contains_eq_mem,decide_eq_true_eq,List.mem_filter]at hf
    have:=Nat.le_of_ble_eq_true hf.2
    omega
  |false=>
   intro M β a w i
   have:=lA.sound (Q:=fun e a' w'=>∃σ' M' β',K e σ'∧Inv cx N M' β' σ' a' w'∧Grow cx.B M M'∧b6 cx w w') hT aA ops.toList h i (fun a' w' hp=>hp)
   exact wpIn_region_list (by simpa using this)
 |_=>exact fun h=>h
def rY:List AV→Nat→List (Nat×AV)
 |[],_=>[]
 |v::r,k=>(k,v)::rY r (k+1)
def sY(args:List AV):St:=⟨rY args 0,[]⟩
theorem rY.rep{M:Mem}{β:Nm}:∀{args:List AV} {vs:List Value} {k t:Nat} (rest:List Value),gU M β args vs→k≤t→(eZ (rY args k) t).a7 M β ((vs++rest).getD (t - k) undef)
 |[],[],k,t,rest,_,_=>trivial
 |v::args,u::vs,k,t,rest,⟨h,r⟩,hk=>by
  simp only [rY,gG]
  by_cases he:k=t
  ·subst he;simpa using h
  ·rw[if_neg he]
   have:=rY.rep (k:=k+1) (t:=t) rest r oM
   rw[show t - k=(t - (k+1))+1 by omega]
   simpa using this
 |[],_::_,_,_,_,h,_=>h.elim
 |_::_,[],_,_,_,h,_=>h.elim
theorem gU.length:∀{M β} {cs:List AV} {vs:List Value},gU M β cs vs→vs.length=cs.length
 |_,_,[],[],_=>rfl
 |_,_,_::_,_::_,⟨_,r⟩=>by simp[gU.length r]
 |_,_,[],_::_,h=>h.elim
 |_,_,_::_,[],h=>h.elim
def VQ(T:List (Nat×bJ))(σ:St):ResultVar→Option TV
 |.tmp t=>match eZ σ.env t with
  |.s x=>some (.s x)
  |.g cs=>some (.g cs)
  |_=>none
 |.cell a t=>match cV T t,eZ σ.env a with
  |some ti,.s (.ptr x 0)=>match aH σ.box x with
   |some (some (.cells cs))=>match ti.agg with
    |true=>bif Nat.beq cs.length ti.size then some (.g cs)else none
    |false=>match cs with
     |[c]=>some (.s c)
     |_=>none
   |_=>none
  |_,_=>none
def nV(T:List (Nat×bJ))(σ:St):List ResultVar→Option (List TV)
 |[]=>some []
 |x::r=>match VQ T σ x,nV T σ r with
  |some t,some ts=>some (t::ts)
  |_,_=>none
def ofT:TV→AV
 |.s x=>.s x
 |.g cs=>.g cs
def xN:List TV→AV
 |[t]=>ofT t
 |ts=>.t ts
def aKL(σ:St):TV→TV
 |.s x=>.s (uC σ x)
 |.g cs=>.g (j9 σ cs)
def mY(σ:St):List TV→List TV
 |[]=>[]
 |t::r=>aKL σ t::mY σ r
def aC(v r:AV):Prop:=∀M u,v.a7 M nb u→r.a7 M nb u
theorem aC.refl(v:AV):aC v v:=fun _ _ h=>h
theorem aC.of_eq{v r:AV}(h:v=r):aC v r:=h▸aC.refl v
def VO(T:List (Nat×bJ))(rs:List ResultVar)(r:AV):Exit→St→Prop
 |.ret,σ=>match nV T σ rs with
  |some ts=>aC (xN (mY σ ts)) r
  |none=>False
 |.normal,σ=>match nV T σ rs with
  |some ts=>aC (xN (mY σ ts)) r
  |none=>False
 |_,_=>False
section
variable{P:Program}{T:List (Nat×bJ)}{cx:Cx}{N:Nat}{M F:Mem}{β:Nm}{σ:St}{a:Act}{w:World}
def lB(tmps:Array Value):ResultVar→Sem Value
 |.tmp t=>pure (tmps.getD t undef)
 |.cell a t=>do loadVar t (←asAddr (tmps.getD a undef))
theorem VQ.rep(hT:b5 P T)(i:Inv cx N M β σ a w){x:ResultVar}{t:TV}(h:VQ T σ x=some t):∃v,(lB a.tmps x).run P w=.ok v w∧t.a7 M β v:=by
 cases x with
 |tmp u=>
  simp only [VQ]at h
  have hr:=i.env u
  refine⟨a.tmps.getD u undef,rfl,?_⟩
  split at h
  ·rename_i e;cases h;rw[e]at hr;exact hr
  ·rename_i e;cases h;rw[e]at hr;exact hr
  ·cases h
 |cell u t'=>
  simp only [VQ]at h
  split at h
  ·rename_i ti x fX he
   have fT:=hT.get fX
   have hr:=i.env u
   rw[he]at hr
   obtain⟨b,c,e1,e2⟩:=hr
   split at h
   ·rename_i cs hb
    obtain⟨b',c',vs,ty,us,e3,hh,hrl⟩:=i.box x _ hb
    rw[e1]at e3;cases e3
    split at h
    ·rename_i G4
     cases hl:Nat.beq cs.length ti.size with
     |false=>rw[hl]at h;cases h
     |true=>
      rw[hl]at h;cases h
      have hl:=Nat.eq_of_beq_eq_true hl
      have WM:=hrl.length
      refine⟨_,?_,vs,rfl,hrl⟩
      have hld:=run_loadCells_list (P:=P) w ⟨b,0,none⟩ vs (fun j v hv=>by rw[jK];have:=BN (us:=us) hv;simpa [World.cell?,hh]using this)
      have ha:=fT.zX w
      rw[G4]at ha
      simp[lB,e2,asAddr,loadVar,ha,fT.gY,←hl,←WM,hld]
    ·rename_i G4
     split at h
     ·cases h
      rename_i c0
      cases vs with
      |nil=>exact hrl.elim
      |cons v r=>
       cases r with
       |cons _ _=>exact hrl.2.elim
       |nil=>
        refine⟨v,?_,hrl.1⟩
        have ha:=fT.zX w
        rw[G4]at ha
        have hc:w.cell? ⟨b,0,none⟩=some v:=by simp[World.cell?,hh]
        simp[lB,e2,asAddr,loadVar,ha,hc,run_load]
     ·cases h
   ·cases h
  ·cases h
theorem nV.rep(hT:b5 P T)(i:Inv cx N M β σ a w):∀{l:List ResultVar} {ts:List TV},nV T σ l=some ts→∃vs:List Value,(l.mapM (lB a.tmps)).run P w=.ok vs w∧p9 M β ts vs
 |[],ts,h=>by simp[nV]at h;subst h;exact⟨[],rfl,trivial⟩
 |x::r,ts,h=>by
  simp only [nV]at h
  split at h
  ·rename_i t ts' h1 h2
   cases h
   obtain⟨v,e1,r1⟩:=VQ.rep hT i h1
   obtain⟨vs,e2,r2⟩:=nV.rep hT i h2
   exact⟨v::vs,by simp[e1,e2],r1,r2⟩
  ·cases h
theorem mY.rep(i:Inv cx N M β σ a w)(hM:Mem.le M F)(hF:∀x bc b c,aH σ.box x=some (some bc)→β x=some (b,c)→∀o u,w.cell? ⟨b,o,none⟩=some u→F b o=some u):
  ∀{ts:List TV} {vs:List Value},p9 M β ts vs→p9 F nb (mY σ ts) vs
 |[],[],_=>trivial
 |t::_,_::_,⟨h,r⟩=>by
  refine⟨?_,mY.rep i hM hF r⟩
  cases t with
  |s x=>exact dS.rep i hM hF 3 _ _ h
  |g cs=>obtain⟨vs,e,hr⟩:=h;exact⟨vs,e,j9.rep i hM hF hr⟩
 |[],_::_,h=>h.elim
 |_::_,[],h=>h.elim
theorem EB{f N:Nat}{fn:Func}{c:Code}{args:List AV}{r:AV}(hf:P.funcs[f]? =some fn)(hb:fn.body=some c)(hN:fn.ntmps=N)(dV:∀vs w,(callFunc f vs).run P w=.ok (.enter f vs) w)
  (hT:b5 P T) (hl:Nat.ble args.length N=true) {rs:List ResultVar} (LZ:fn.results.toList=rs)
  (h:∀cx:Cx,cx.ref=[]→AW P cx N c (sY args) (VO T rs r)):aF P f args r:=by
 refine⟨dV,fun M w vs hG hr hM=>?_⟩
 refine calls_of_wp hf hb ?_
 let cx:Cx:={B:=w.heap.size,ref:=[],β0:=nb}
 have hlen:=hr.length
 have hl:=Nat.le_of_ble_eq_true hl
 have i0:Inv cx N M nb (sY args) {tmps:=vs.toArray++Array.replicate (fn.ntmps - vs.toArray.size) undef,defers:=[]} w:=by
  refine⟨rfl,by simp;omega,⟨Nat.le_refl _,by obtain⟨bs,hG⟩:=hG;exact⟨bs,hG,fun g t m=>⟨hG.lt m,by rintro⟨x,c,hx,_⟩;cases hx⟩⟩⟩,fun t=>?_,hM,fun _ _ e=>(by cases e),fun _ _ e=>(by cases e),fun _ _ _ _ _ _ _ e=>(by cases e),fun _ _ _ _ e=>(by cases e),fun _ _ _ _ e=>(by cases e),fun _ hx=>(by cases hx)⟩
  have:=rY.rep (k:=0) (t:=t) (List.replicate (fn.ntmps - vs.length) undef) hr (Nat.zero_le _)
  simp only [Nat.sub_zero]at this
  simp only [sY]
  have e:(vs.toArray++Array.replicate (fn.ntmps - vs.toArray.size) undef).getD t undef=(vs++List.replicate (fn.ntmps - vs.length) undef).getD t undef:=by
   simp[←List.toArray_replicate]
  rw[e]
  exact this
 refine wp_mono (wpIn_wide.1 (h cx rfl M nb _ w i0)) ?_
 rintro e a' w' ⟨σ',M',β',hk,i',hg,kG⟩
 have fin:∀ts,nV T σ' rs=some ts→aC (xN (mY σ' ts)) r→a'.defers=[]∧∃v,(results fn a'.tmps).run P w'=.ok v w'∧∃v' M',Ending.returned v=.returned v'∧r.a7 M' nb v'∧Grow w.heap.size M M'∧kF M' w'∧Bel w w':=by
  intro ts qV gK
  obtain⟨zJ,aV,dU⟩:=nV.rep hT i' qV
  let F:Mem:=fun b o=>if b<w.heap.size then M' b o else w'.cell? ⟨b,o,none⟩
  have hMF:Mem.le M' F:=fun b o u e=>by
   by_cases pR:b<w.heap.size
   ·simp[F,pR,e]
   ·simp[F,pR,i'.mem b o u e]
  have hFc:∀x bc b c,aH σ'.box x=some (some bc)→β' x=some (b,c)→∀o u,w'.cell? ⟨b,o,none⟩=some u→F b o=some u:=by
   intro x bc b c e e' o u hu
   rcases i'.low x bc b c e e' with h|h
   ·have:¬b<w.heap.size:=by have:w.heap.size≤b:=h;omega
    simp[F,this,hu]
   ·obtain⟨_,_,hx,_⟩:=h;cases hx
  have jA:=mY.rep i' hMF hFc dU
  refine⟨i'.defers,(if h:zJ.toArray.size=1 then zJ.toArray[0]else .tuple zJ.toArray),?_,_,F,rfl,gK F _ ?_,⟨fun b o u e=>hMF b o u (hg.le b o u e),fun b o u e=>?_⟩,fun b o u e=>?_,⟨⟨kG.os,kG.tape,kG.output,kG.size,fun k hk=>kG.block k hk (by rintro⟨x,c,hx,_⟩;cases hx)⟩,kG.drawn⟩⟩
  ·have:(fn.results.mapM (lB a'.tmps)).run P w'=.ok zJ.toArray w':=by
    rw[←Array.toArray_toList (xs:=fn.results),List.mapM_toArray,LZ]
    simp only [Sem.run_map,aV,Result.andThen]
   have e:results fn a'.tmps=(do let vs←fn.results.mapM (lB a'.tmps);pure (if h:vs.size=1 then vs[0]else .tuple vs)):=by
    unfold results
    congr 1
   rw[e]
   simp only [Sem.run_bind,this,Result.andThen,Sem.run_pure]
  ·cases O3:mY σ' ts with
   |nil=>
    rw[O3]at jA
    cases zJ with
    |nil=>exact⟨[],rfl,trivial⟩
    |cons _ _=>exact jA.elim
   |cons t r'=>
    rw[O3]at jA
    cases zJ with
    |nil=>exact jA.elim
    |cons v FD=>
     cases r' with
     |nil=>
      cases FD with
      |cons _ _=>exact jA.2.elim
      |nil=>
       have:=jA.1
       simp only [List.size_toArray,List.length_cons,List.length_nil,Nat.zero_add,dite_true,xN]
       cases t with
       |s x=>exact this
       |g cs=>exact this
     |cons t2 r2=>
      cases FD with
      |nil=>exact jA.2.elim
      |cons v2 vs3=>
       have hV:¬(v::v2::vs3).toArray.size=1:=sM
       rw[dif_neg hV]
       exact⟨_,rfl,jA⟩
  ·by_cases pR:b<w.heap.size
   ·simp[F,pR]at e
    exact hg.new b o u e
   ·exact .inr oM
  ·by_cases pR:b<w.heap.size
   ·simp[F,pR]at e
    exact i'.mem b o u e
   ·simp[F,pR]at e
    exact e
 cases e with
 |ret=>
  simp only [VO]at hk
  split at hk
  ·rename_i ts qV;exact fin ts qV hk
  ·exact hk.elim
 |normal=>
  simp only [VO]at hk
  split at hk
  ·rename_i ts qV;exact fin ts qV hk
  ·exact hk.elim
 |_=>exact hk.elim
theorem gA{rc:List Nat}{f N:Nat}{fn:Func}{c:Code}{args:List AV}{r:AV}(hf:P.funcs[f]? =some fn)(hb:fn.body=some c)(hN:fn.ntmps=N)(dV:∀vs w,(callFunc f vs).run P w=.ok (.enter f vs) w)
  (hT:b5 P T) (hm:P.follows .mixedOrders=true) (hl:Nat.ble args.length N=true) {rs:List ResultVar} (LZ:fn.results.toList=rs)
  (h:∀cx:Cx,cx.ref=[]→ex P T N [] rc cx c (sY args) (VO T rs r)):aF P f args r:=
 EB hf hb hN dV hT hl LZ fun cx aA=>ex.sound hT hm aA c (h cx aA)
end
theorem K9{P:Program}{w:World}{t:TypeId}(h:(isAgg t).run P w=.ok false w){V:Array Value}{k:Nat}{v:Value}(hv:V[k]? =some v):(part t V k).run P w=.ok v w:=by
 simp[part,h,hv]
theorem LA{P:Program}{w:World}{t:TypeId}{m:Nat}(h:(isAgg t).run P w=.ok true w)(hs:(sizeOf t).run P w=.ok m w){V:Array Value}{k:Nat}:(part t V k).run P w=.ok (.agg ((V.toList.drop k).take m).toArray) w:=by
 have:V.extract k (k+m)=((V.toList.drop k).take m).toArray:=by
  apply Array.ext';simp[List.extract_eq_take_drop]
 simp[part,h,hs,this]
abbrev H2(xs:List SV)(vs:List Value):Prop:=cK (fun _ _=>none) (fun _=>none) xs vs
def mkV(agg:Bool)(vs:List Value):Value:=match agg with|true=>.agg vs.toArray|false=>vs.headD undef
structure l5(P:Program)(n:Nat)(t:TypeId)(agg:Bool)(zs:List Value):Prop where
 isAgg:∀w,(isAgg t).run P w=.ok agg w
 size:agg=true→∀w,(sizeOf t).run P w=.ok zs.length w
 one:agg=false→zs.length=1
 run:∀(d:Nat) (w:World) (xs ys:List SV) (vs us:List Value) (b:Bool),gJ zs xs=true→gJ zs ys=true→sI xs ys=some b→H2 xs vs→H2 ys us→
  (Op.equalIn (d+n) t (mkV agg vs) (mkV agg us)).run P w=.ok b w
theorem l5.up{P:Program}{n:Nat}{t:TypeId}{agg:Bool}{zs:List Value}(h:l5 P n t agg zs):l5 P (n+1) t agg zs:=
 ⟨h.isAgg,h.size,h.one,fun d w xs ys vs us b h1 h2 h3 h4 h5=>by have:=h.run (d+1) w xs ys vs us b h1 h2 h3 h4 h5;rwa [show d+1+n=d+(n+1) by omega]at this⟩
theorem T0{k:IntKind}{z:Int}{x:SV}(h:kOK (.int k z) x=true):∃k' a,wD x=some (k',a):=by
 cases hx:wD x with
 |none=>simp[kOK,hx]at h
 |some p=>exact⟨p.1,p.2,rfl⟩
theorem GO{s:ByteArray}{x:SV}(h:kOK (.string s) x=true):∃a,uK x=some a:=by
 cases hx:uK x with
 |none=>simp[kOK,hx]at h
 |some p=>exact⟨p,rfl⟩
theorem OS{s:Bool}{x:SV}(h:kOK (.bool s) x=true):∃a,mZ x=some a:=by
 cases hx:mZ x with
 |none=>simp[kOK,hx]at h
 |some p=>exact⟨p,rfl⟩
theorem JV{z:Value}{xs:List SV}(h:gJ [z] xs=true):∃x,xs=[x]∧kOK z x=true:=by
 cases xs with
 |nil=>cases h
 |cons x r=>
  simp only [gJ,Bool.and_eq_true]at h
  cases r with
  |nil=>exact⟨x,rfl,h.1⟩
  |cons _ _=>exact absurd h.2 (by simp[gJ])
theorem VS{x:SV}{vs:List Value}(h:H2 [x] vs):∃v,vs=[v]∧x.a7 (fun _ _=>none) (fun _=>none) v:=by
 cases vs with
 |nil=>exact h.elim
 |cons v r=>cases r with
  |nil=>exact⟨v,rfl,h.1⟩
  |cons _ _=>exact h.2.elim
theorem wD.val{x:SV}{k:IntKind}{a:Int}{M:Mem}{β:Nm}{v:Value}(h:wD x=some (k,a))(r:x.a7 M β v):v=.int k a:=by
 unfold wD at h
 split at h
 ·cases h;exact r
 ·cases h
theorem GQ{x:SV}{s:ByteArray}(h:uK x=some s):wD x=none:=by
 unfold uK at h
 split at h
 ·rfl
 ·cases h
theorem CM{x:SV}{s:Bool}(h:mZ x=some s):wD x=none:=by
 unfold mZ at h
 split at h
 ·rfl
 ·rfl
 ·cases h
theorem B6{x:SV}{s:Bool}(h:mZ x=some s):uK x=none:=by
 unfold mZ at h
 split at h
 ·rfl
 ·rfl
 ·cases h
section
variable{P:Program}{t:TypeId}
theorem bV{k:IntKind}(z:Int)(h:P.underlying t=some (.int k)):l5 P 1 t false [.int k z]:=by
 refine⟨fun w=>by simp[isAgg,run_underlying h],(fun h=>by cases h),fun _=>rfl,fun d w xs ys vs us b h1 h2 e rx ry=>?_⟩
 obtain⟨x,rfl,kx⟩:=JV h1
 obtain⟨y,rfl,ky⟩:=JV h2
 obtain⟨v,rfl,rx'⟩:=VS rx
 obtain⟨u,rfl,ry'⟩:=VS ry
 obtain⟨k1,a,hx⟩:=T0 kx
 obtain⟨k2,a2,hy⟩:=T0 ky
 simp only [sI,hx,hy]at e
 by_cases hk:k1=k2
 ·subst hk
  simp only [decide_true,cond_true,Bool.and_true,Option.some.injEq]at e
  subst e
  have ev:=wD.val hx rx'
  have eu:=wD.val hy ry'
  subst ev;subst eu
  exact run_equalIn_int (w:=w) d t k1 k a a2 h
 ·simp[hk]at e
theorem fM(z:ByteArray)(h:P.underlying t=some .string):l5 P 1 t false [.string z]:=by
 refine⟨fun w=>by simp[isAgg,run_underlying h],(fun h=>by cases h),fun _=>rfl,fun d w xs ys vs us b h1 h2 e rx ry=>?_⟩
 obtain⟨x,rfl,kx⟩:=JV h1
 obtain⟨y,rfl,ky⟩:=JV h2
 obtain⟨v,rfl,rx'⟩:=VS rx
 obtain⟨u,rfl,ry'⟩:=VS ry
 obtain⟨a,hx⟩:=GO kx
 obtain⟨a2,hy⟩:=GO ky
 simp only [sI,GQ hx,hx,hy,Bool.and_true,Option.some.injEq]at e
 subst e
 have ev:=uK.val hx rx'
 have eu:=uK.val hy ry'
 subst ev;subst eu
 exact run_equalIn_string (w:=w) d t a a2 h
theorem aBI(z:Bool)(h:P.underlying t=some .bool):l5 P 1 t false [.bool z]:=by
 refine⟨fun w=>by simp[isAgg,run_underlying h],(fun h=>by cases h),fun _=>rfl,fun d w xs ys vs us b h1 h2 e rx ry=>?_⟩
 obtain⟨x,rfl,kx⟩:=JV h1
 obtain⟨y,rfl,ky⟩:=JV h2
 obtain⟨v,rfl,rx'⟩:=VS rx
 obtain⟨u,rfl,ry'⟩:=VS ry
 obtain⟨a,hx⟩:=OS kx
 obtain⟨a2,hy⟩:=OS ky
 simp only [sI,CM hx,B6 hx,hx,hy,Bool.and_true,Option.some.injEq]at e
 subst e
 have ev:=mZ.val hx rx'
 have eu:=mZ.val hy ry'
 subst ev;subst eu
 exact run_equalIn_bool' (w:=w) d t a a2 h
end
def aH7(P:Program)(n:Nat):List Field→List Value→Nat→Prop
 |[],zs,_=>zs=[]
 |f::fs,zs,k=>f.name≠ "_" ∧f.offset=k∧∃agg zf rest,zs=zf++rest∧l5 P n f.type agg zf∧aH7 P n fs rest (k+zf.length)
theorem yI:∀{zf rest:List Value} {xs:List SV},gJ (zf++rest) xs=true→gJ zf (xs.take zf.length)=true∧gJ rest (xs.drop zf.length)=true∧zf.length≤xs.length
 |[],_,_,h=>⟨rfl,h,Nat.zero_le _⟩
 |z::zf,rest,[],h=>by cases h
 |z::zf,rest,x::xs,h=>by
  simp only [List.cons_append,gJ,Bool.and_eq_true]at h
  obtain⟨i1,i2,i3⟩:=yI h.2
  exact⟨by simp only [List.length_cons,List.take_succ_cons,gJ,Bool.and_eq_true];exact⟨h.1,i1⟩,by simpa using i2,by simp;omega⟩
theorem aA3{x y:SV}{r s:List SV}(h:sI r s=none):sI (x::r) (y::s)=none:=by
 simp only [sI,h]
def eq1(x y:SV):Option Bool:=sI [x] [y]
theorem aA4{x y:SV}{r s:List SV}{b:Bool}(h:sI (x::r) (y::s)=some b):∃b1 b2,eq1 x y=some b1∧sI r s=some b2∧b=(b1&&b2):=by
 cases hc:sI r s with
 |none=>rw[aA3 hc]at h;cases h
 |some c=>
  simp only [sI,hc]at h
  split at h
  ·rename_i k1 a k2 b' c' ha hb PD
   cases PD
   by_cases hk:k1=k2
   ·subst hk
    simp only [decide_true,cond_true,Option.some.injEq]at h
    exact⟨a==b',c,by simp[eq1,sI,ha,hb],rfl,h.symm⟩
   ·simp[hk]at h
  ·rename_i c' PD hn
   cases PD
   split at h
   ·rename_i a b' ha hb
    cases h
    exact⟨a.toList==b'.toList,c,by simp[eq1,sI,GQ ha,ha,hb],rfl,rfl⟩
   ·rename_i hns
    split at h
    ·rename_i a b' ha hb
     cases h
     exact⟨a==b',c,by simp[eq1,sI,CM ha,B6 ha,ha,hb],rfl,rfl⟩
    ·cases h
  ·rename_i PD
   cases PD
theorem aG2{x y:SV}{r s:List SV}{b1 b2:Bool}(h:eq1 x y=some b1)(k:sI r s=some b2):sI (x::r) (y::s)=some (b1&&b2):=by
 simp only [eq1,sI]at h
 split at h
 ·rename_i k1 a k2 b' c' ha hb PD
  cases PD
  by_cases hk:k1=k2
  ·subst hk
   simp only [decide_true,cond_true,Option.some.injEq,Bool.and_true]at h
   simp[sI,k,ha,hb,h]
  ·simp[hk]at h
 ·rename_i c' PD hn
  cases PD
  split at h
  ·rename_i a b' ha hb
   simp only [Bool.and_true,Option.some.injEq]at h
   simp[sI,k,GQ ha,ha,hb,h]
  ·split at h
   ·rename_i a b' ha hb
    simp only [Bool.and_true,Option.some.injEq]at h
    simp[sI,k,CM ha,B6 ha,ha,hb,h]
   ·cases h
 ·rename_i PD
  cases PD
theorem UI:∀(m:Nat) {xs ys:List SV} {b:Bool},sI xs ys=some b→m≤xs.length→∃b1 b2,sI (xs.take m) (ys.take m)=some b1∧sI (xs.drop m) (ys.drop m)=some b2∧b=(b1&&b2)
 |0,xs,ys,b,h,_=>⟨true,b,by simp[sI],by simpa using h,sM⟩
 |m+1,[],ys,b,h,hl=>by simp at hl
 |m+1,x::xs,[],b,h,hl=>by simp[sI]at h
 |m+1,x::xs,y::ys,b,h,hl=>by
  obtain⟨c1,c2,h1,h2,rfl⟩:=aA4 h
  obtain⟨d1,d2,h3,h4,rfl⟩:=UI m h2 (by simpa using hl)
  exact⟨c1&&d1,d2,by simp only [List.take_succ_cons];exact aG2 h1 h3,by simpa using h4,by rw[Bool.and_assoc]⟩
theorem aDR{xs:List SV}{b:Bool}(h:sI [] xs=some b):b=true:=by
 cases xs with
 |nil=>simp only [sI,Option.some.injEq]at h;exact h.symm
 |cons _ _=>cases h
theorem A7{P:Program}{n d:Nat}{V U:Array Value}:∀{fs:List Field} {zs:List Value} {k:Nat} {w:World} {xs ys:List SV} {b:Bool} {vs us:List Value},aH7 P n fs zs k→gJ zs xs=true→gJ zs ys=true→sI xs ys=some b→H2 xs vs→H2 ys us→
  V.toList.drop k=vs→U.toList.drop k=us→(Op.eqFields (d+n) V U fs).run P w=.ok b w
 |[],zs,k,w,xs,ys,b,vs,us,hz,h1,h2,e,_,_,_,_=>by
  have hz:zs=[]:=hz
  subst hz
  cases xs with
  |nil=>rw[aDR e];rfl
  |cons _ _=>cases h1
 |f::fs,zs,k,w,xs,ys,b,vs,us,hz,h1,h2,e,rx,ry,hv,hu=>by
  obtain⟨hn,hk,agg,zf,rest,rfl,hc,hf⟩:=hz
  obtain⟨k1,k2,k3⟩:=yI h1
  obtain⟨k4,k5,k6⟩:=yI h2
  obtain⟨b1,b2,e1,e2,rfl⟩:=UI zf.length e k3
  have lx:=rx.length
  have ly:=ry.length
  have ih:=A7 (w:=w) (V:=V) (U:=U) (d:=d) hf k2 k5 e2 (cK.drop zf.length rx) (cK.drop zf.length ry) (by rw[←hv,List.drop_drop]) (by rw[←hu,List.drop_drop])
  have hr:=hc.run d w _ _ _ _ _ k1 k4 e1 (cK.take zf.length rx) (cK.take zf.length ry)
  have part:∀(W:Array Value) (ws:List Value),W.toList.drop k=ws→zf.length≤ws.length→(part f.type W k).run P w=.ok (mkV agg (ws.take zf.length)) w:=by
   intro W ws hw hl
   cases agg with
   |true=>rw[LA (hc.isAgg w) (hc.size rfl w),hw];rfl
   |false=>
    have h0:=hc.one rfl
    rw[h0]at hl ⊢
    cases ws with
    |nil=>simp at hl
    |cons v r=>
     show _=Result.ok v w
     refine K9 (hc.isAgg w) ?_
     have:(W.toList.drop k)[0]? =some v:=by rw[hw];rfl
     simpa using this
  simp only [Op.eqFields,hn,ne_eq,not_false_eq_true,if_true,Sem.run_bind,hk,part V vs hv oM,part U us hu oM,Result.andThen,hr,Sem.run_ite]
  cases b1 with
  |true=>simpa using ih
  |false=>simp
theorem dD{P:Program}{t n:Nat}{fs:Array Field}{zs:List Value}(cS:P.underlying t=some (.struct fs))(hp:P.stoodInHeld t=false)(hs:∀w,(sizeOf t).run P w=.ok zs.length w)(hf:aH7 P n fs.toList zs 0):l5 P (n+1) t true zs:=by
 refine⟨fun w=>by simp[isAgg,run_underlying cS],fun _=>hs,(fun h=>by cases h),fun d w xs ys vs us b h1 h2 e rx ry=>?_⟩
 have hff:P.fieldsOf t=fs:=by simp[Program.fieldsOf,cS]
 show(Op.equalIn (d+n+1) t _ _).run P w=_
 simp only [mkV]
 rw[run_equalIn_struct w (d+n) t vs.toArray us.toArray (by rw[hff];exact cS) hp,hff]
 exact A7 hf h1 h2 e rx ry sM sM
theorem iA{P:Program}{t n:Nat}{ti:TypeInfo}(h:P.info? t=some ti)(hn:ti.size=n)(w:World):(sizeOf t).run P w=.ok n w:=by
 simp[sizeOf,typeInfo,h,hn]
theorem cM{P:Program}{t n:Nat}{zs:List Value}(h:l5 P n t true zs)(hn:n≤10000):
  ∀(w:World) (xs ys:List SV) (vs us:List Value) (b:Bool),gJ zs xs=true→gJ zs ys=true→sI xs ys=some b→H2 xs vs→H2 ys us→
  (Op.equal t (.agg vs.toArray) (.agg us.toArray)).run P w=.ok b w:=by
 intro w xs ys vs us b h1 h2 e rx ry
 have:=h.run (10000 - n) w xs ys vs us b h1 h2 e rx ry
 rwa [show 10000 - n+n=10000 by omega]at this
def gC:eO→aO
 |[]=>[]
 |(x,b)::r=>(x,some b)::gC r
def pM(args:List AV)(bx:eO):St:=⟨rY args 0,gC bx⟩
def iY(box:aO):eO→aO
 |[]=>box
 |(x,_)::r=>(x,none)::iY box r
def iZ(box:aO):eO→Prop
 |[]=>True
 |(x,b)::r=>aH box x=some (some b)∧iZ box r
theorem gC.get{x:Nat}{b:jM}:∀{bx:eO},aH (gC bx) x=some (some b)→(x,b)∈bx
 |[],h=>by cases h
 |(y,c)::r,h=>by
  simp only [gC]at h
  rw[aL]at h
  by_cases e:y=x
  ·rw[if_pos e]at h;cases h;subst e;simp
  ·rw[if_neg e]at h
   exact List.mem_cons_of_mem _ (gC.get h)
theorem gC.has{x:Nat}:∀{bx:eO},x∈names bx→∃y,aH (gC bx) x=some y
 |[],h=>by cases h
 |(y,c)::r,h=>by
  simp only [gC]
  rw[aL]
  by_cases e:y=x
  ·rw[if_pos e];exact⟨_,rfl⟩
  ·rw[if_neg e]
   simp only [names,List.mem_cons]at h
   exact gC.has (h.resolve_left (fun h=>e h.symm))
theorem iY.get{box:aO}{x:Nat}{b:jM}:∀{bx:eO},aH (iY box bx) x=some (some b)→x∉names bx∧aH box x=some (some b)
 |[],h=>⟨by simp[names],h⟩
 |(y,c)::r,h=>by
  simp only [iY]at h
  rw[aL]at h
  by_cases e:y=x
  ·rw[if_pos e]at h;cases h
  ·rw[if_neg e]at h
   obtain⟨h1,h2⟩:=iY.get h
   refine⟨?_,h2⟩
   simp only [names,List.mem_cons]
   rintro(h|h)
   ·exact e h.symm
   ·exact h1 h
theorem iY.has{box:aO}{x:Nat}{y:Option jM}(h:aH box x=some y):∀{bx:eO},∃y,aH (iY box bx) x=some y
 |[]=>⟨y,h⟩
 |(z,c)::r=>by
  simp only [iY]
  rw[aL]
  by_cases e:z=x
  ·rw[if_pos e];exact⟨_,rfl⟩
  ·rw[if_neg e];exact iY.has h
theorem iZ.get{box:aO}{x:Nat}{b:jM}:∀{bx:eO},iZ box bx→(x,b)∈bx→aH box x=some (some b)
 |[],_,h=>by cases h
 |(y,c)::r,⟨h,hr⟩,hm=>by
  cases hm with
  |head=>exact h
  |tail _ hm=>exact iZ.get hr hm
def TI(T:List (Nat×bJ))(rs:List ResultVar)(r:AV)(bx':eO):Exit→St→Prop
 |.ret,σ=>match nV T σ rs with
  |some ts=>aC (xN (mY ⟨σ.env,iY σ.box bx'⟩ ts)) r∧iZ σ.box bx'
  |none=>False
 |.normal,σ=>match nV T σ rs with
  |some ts=>aC (xN (mY ⟨σ.env,iY σ.box bx'⟩ ts)) r∧iZ σ.box bx'
  |none=>False
 |_,_=>False
section
variable{P:Program}{T:List (Nat×bJ)}
theorem Inv.shut{cx:Cx}{N:Nat}{M:Mem}{β:Nm}{σ:St}{a:Act}{w:World}(i:Inv cx N M β σ a w)(bx':eO):Inv cx N M β ⟨σ.env,iY σ.box bx'⟩ a w:=by
 refine⟨i.defers,i.tmps,i.heap,i.env,i.mem,?_,?_,?_,?_,?_,i.ref⟩
 ·intro x p e
  obtain⟨y,hy⟩:=i.keys x p e
  exact iY.has hy
 ·exact fun x bc h=>i.box x bc (iY.get h).2
 ·exact fun x y bx xV b c c' hx hy=>i.inj x y bx xV b c c' (iY.get hx).2 (iY.get hy).2
 ·exact fun x bc b c h=>i.apart x bc b c (iY.get h).2
 ·exact fun x bc b c h=>i.low x bc b c (iY.get h).2
theorem AV.a7.aLO{M:Mem}{β:Nm}{r:AV}{v:Value}(h:r.a7 M nb v):r.a7 M β v:=AV.a7.mono (Mem.le_refl _) (fun _ _ h=>by cases h) h
theorem kN{f N:Nat}{fn:Func}{c:Code}{args:List AV}{bx:eO}{r:AV}{bx':eO}(hf:P.funcs[f]? =some fn)(hb:fn.body=some c)(hN:fn.ntmps=N)(dV:∀vs w,(callFunc f vs).run P w=.ok (.enter f vs) w)
  (hT:b5 P T) (hl:Nat.ble args.length N=true) (pP:((names bx).all fun x=>(names bx').contains x)=true) (jZ:(bx'.all fun p=>p.2.real)=true) {rs:List ResultVar} (LZ:fn.results.toList=rs)
  (h:∀cx:Cx,cx.ref=names bx→AW P cx N c (pM args bx) (TI T rs r bx')):bM P f args bx r bx':=by
 classical
 refine⟨dV,fun M β w vs hG hr hM qE hβ=>?_⟩
 refine calls_of_wp hf hb ?_
 let cx:Cx:={B:=w.heap.size,ref:=names bx,β0:=β}
 have hlen:=hr.length
 have hl:=Nat.le_of_ble_eq_true hl
 have hex:∀x,x∈names bx→∃p,β x=some p:=fun x hx=>by
  obtain⟨k,c,e⟩:=qE.has x hx
  exact⟨_,e⟩
 have i0:Inv cx N M β (pM args bx) {tmps:=vs.toArray++Array.replicate (fn.ntmps - vs.toArray.size) undef,defers:=[]} w:=by
  refine⟨rfl,by simp;omega,⟨Nat.le_refl _,by obtain⟨bs,hG,hN2⟩:=hG;exact⟨bs,hG,fun g t m=>⟨hG.lt m,by rintro⟨x,c,_,hx⟩;exact hN2 g t m x c hx⟩⟩⟩,fun t=>?_,hM,fun x p e=>gC.has (hβ x p e),fun x b e=>qE.rep x b (gC.get e),fun x y b1 b2 b c c' h1 h2 e1 e2=>?_,fun x b1 b c h1 e=>?_,fun x b1 b c h1 e=>?_,fun x hx=>⟨rfl,hex x hx⟩⟩
  ·have:=rY.rep (k:=0) (t:=t) (List.replicate (fn.ntmps - vs.length) undef) hr (Nat.zero_le _)
   simp only [Nat.sub_zero]at this
   simp only [pM]
   have e:(vs.toArray++Array.replicate (fn.ntmps - vs.toArray.size) undef).getD t undef=(vs++List.replicate (fn.ntmps - vs.length) undef).getD t undef:=by
    simp[←List.toArray_replicate]
   rw[e]
   exact this
  ·exact qE.inj x y b c c' (cX (gC.get h1)) (cX (gC.get h2)) e1 e2
  ·exact qE.apart x b c (cX (gC.get h1)) e
  ·exact .inr ⟨x,c,cX (gC.get h1),e⟩
 refine wp_mono (wpIn_wide.1 (h cx rfl M β _ w i0)) ?_
 rintro e a' w' ⟨σ',M',β',hk,i',hg,kG⟩
 have fin:∀ts,nV T σ' rs=some ts→aC (xN (mY ⟨σ'.env,iY σ'.box bx'⟩ ts)) r→iZ σ'.box bx'→a'.defers=[]∧∃v,(results fn a'.tmps).run P w'=.ok v w'∧∃v' M' β',Ending.returned v=.returned v'∧Nm.le β β'∧r.a7 M' β' v'∧Grow w.heap.size M M'∧kF M' w'∧qR M' β' w' bx'∧
   (∀x b c,x∈names bx'→β' x=some (b,c)→w.heap.size≤b∨∃y c',β y=some (b,c'))∧
   w'.os=w.os∧w'.tape=w.tape∧w'.output=w.output∧w.heap.size≤w'.heap.size∧(∀k,k<w.heap.size→(∀y c,β y≠some (k,c))→w'.heap[k]? =w.heap[k]?)∧Dr w w':=by
  intro ts qV gK pQ
  obtain⟨zJ,aV,dU⟩:=nV.rep hT i' qV
  let isB:Nat→Prop:=fun b=>∃x c,x∈names bx'∧β' x=some (b,c)
  let F:Mem:=fun b o=>if b<w.heap.size then M' b o else if isB b then none else w'.cell? ⟨b,o,none⟩
  have cI:∀x,x∈names bx'→∃b,aH σ'.box x=some (some b):=fun x hx=>by
   obtain⟨b,hb⟩:=jI hx
   exact⟨b,iZ.get pQ hb⟩
  have hMF:Mem.le M' F:=fun b o u e=>by
   by_cases pR:b<w.heap.size
   ·simp[F,pR,e]
   ·have:¬isB b:=by
     rintro⟨x,c,hx,hx2⟩
     obtain⟨bc,hbc⟩:=cI x hx
     rw[i'.apart x bc b c hbc hx2 o]at e
     cases e
    simp only [F,if_neg pR,if_neg this]
    exact i'.mem b o u e
  have hFc:∀x bc b c,aH (iY σ'.box bx') x=some (some bc)→β' x=some (b,c)→∀o u,w'.cell? ⟨b,o,none⟩=some u→F b o=some u:=by
   intro x bc b c e e' o u hu
   obtain⟨hnx,ex⟩:=iY.get e
   have hnb:¬isB b:=by
    rintro⟨y,c',hy,RM⟩
    obtain⟨bc',aGV⟩:=cI y hy
    exact hnx (i'.inj y x bc' bc b c' c aGV ex RM e'▸hy)
   rcases i'.low x bc b c ex e' with h|h
   ·have:¬b<w.heap.size:=by have:w.heap.size≤b:=h;omega
    simp only [F,if_neg this,if_neg hnb];exact hu
   ·obtain⟨y,c',hy,RM⟩:=h
    have hy':y∈names bx':=by
     rw[List.all_eq_true]at pP
     simpa using pP y hy
    have e1:β' y=some (b,c'):=by rw[(i'.ref y hy).1];exact RM
    exact(hnb ⟨y,c',hy',e1⟩).elim
  have jA:=mY.rep (i'.shut bx') hMF hFc dU
  refine⟨i'.defers,(if h:zJ.toArray.size=1 then zJ.toArray[0]else .tuple zJ.toArray),?_,_,F,β',rfl,?_,AV.a7.aLO (gK F _ ?_),⟨fun b o u e=>hMF b o u (hg.le b o u e),fun b o u e=>?_⟩,fun b o u e=>?_,?_,?_,kG.os,kG.tape,kG.output,kG.size,?_,kG.drawn⟩
  ·have:(fn.results.mapM (lB a'.tmps)).run P w'=.ok zJ.toArray w':=by
    rw[←Array.toArray_toList (xs:=fn.results),List.mapM_toArray,LZ]
    simp only [Sem.run_map,aV,Result.andThen]
   have e:results fn a'.tmps=(do let vs←fn.results.mapM (lB a'.tmps);pure (if h:vs.size=1 then vs[0]else .tuple vs)):=by
    unfold results
    congr 1
   rw[e]
   simp only [Sem.run_bind,this,Result.andThen,Sem.run_pure]
  ·intro x p e
   rw[(i'.ref x (hβ x p e)).1]
   exact e
  ·cases O3:mY ⟨σ'.env,iY σ'.box bx'⟩ ts with
   |nil=>
    rw[O3]at jA
    cases zJ with
    |nil=>exact⟨[],rfl,trivial⟩
    |cons _ _=>exact jA.elim
   |cons t r'=>
    rw[O3]at jA
    cases zJ with
    |nil=>exact jA.elim
    |cons v FD=>
     cases r' with
     |nil=>
      cases FD with
      |cons _ _=>exact jA.2.elim
      |nil=>
       have:=jA.1
       simp only [List.size_toArray,List.length_cons,List.length_nil,Nat.zero_add,dite_true,xN]
       cases t with
       |s x=>exact this
       |g cs=>exact this
     |cons t2 r2=>
      cases FD with
      |nil=>exact jA.2.elim
      |cons v2 vs3=>
       have hV:¬(v::v2::vs3).toArray.size=1:=sM
       rw[dif_neg hV]
       exact⟨_,rfl,jA⟩
  ·by_cases pR:b<w.heap.size
   ·simp only [F,if_pos pR]at e
    exact hg.new b o u e
   ·exact .inr oM
  ·by_cases pR:b<w.heap.size
   ·simp only [F,if_pos pR]at e
    exact i'.mem b o u e
   ·simp only [F,if_neg pR]at e
    split at e
    ·cases e
    ·exact e
  ·refine⟨fun x hx=>?_,fun x b hb=>?_,fun x y b c c' hx hy e1 e2=>?_,fun x b c hx e o=>?_⟩
   ·obtain⟨b,hb⟩:=jI hx
    rw[List.all_eq_true]at jZ
    exact(i'.box x b (iZ.get pQ hb)).exb (jZ _ hb)
   ·exact cH.mono hMF (Nm.le_refl β') rfl (fun _ _ _=>rfl) (i'.box x b (iZ.get pQ hb))
   ·obtain⟨CY,h1⟩:=cI x hx
    obtain⟨bx2,h2⟩:=cI y hy
    exact i'.inj x y CY bx2 b c c' h1 h2 e1 e2
   ·obtain⟨CY,h1⟩:=cI x hx
    have hB:isB b:=⟨x,c,hx,e⟩
    by_cases pR:b<w.heap.size
    ·simp only [F,if_pos pR]
     exact i'.apart x CY b c h1 e o
    ·simp only [F,if_neg pR,if_pos hB]
  ·intro x b c hx e
   obtain⟨CY,h1⟩:=cI x hx
   rcases i'.low x CY b c h1 e with h|⟨y,c',hy,RM⟩
   ·exact .inl h
   ·exact .inr ⟨y,c',RM⟩
  ·intro k hk hnk
   exact kG.block k hk (by rintro⟨x,c,_,hx⟩;exact hnk x c hx)
 cases e with
 |ret=>
  simp only [TI]at hk
  split at hk
  ·rename_i ts qV;exact fin ts qV hk.1 hk.2
  ·exact hk.elim
 |normal=>
  simp only [TI]at hk
  split at hk
  ·rename_i ts qV;exact fin ts qV hk.1 hk.2
  ·exact hk.elim
 |_=>exact hk.elim
theorem fZ{rc:List Nat}{f N:Nat}{fn:Func}{c:Code}{args:List AV}{bx:eO}{r:AV}{bx':eO}(hf:P.funcs[f]? =some fn)(hb:fn.body=some c)(hN:fn.ntmps=N)(dV:∀vs w,(callFunc f vs).run P w=.ok (.enter f vs) w)
  (hT:b5 P T) (hm:P.follows .mixedOrders=true) (hl:Nat.ble args.length N=true) (pP:((names bx).all fun x=>(names bx').contains x)=true) (jZ:(bx'.all fun p=>p.2.real)=true) {rs:List ResultVar} (LZ:fn.results.toList=rs)
  (h:∀cx:Cx,cx.ref=names bx→ex P T N (names bx) rc cx c (pM args bx) (TI T rs r bx')):bM P f args bx r bx':=
 kN hf hb hN dV hT hl pP jZ LZ fun cx aA=>ex.sound hT hm aA c (h cx aA)
end
theorem FR:∀(cs:List CV),FQ [] cs=cs
 |[]=>rfl
 |.d _::r=>by simp[FQ,FT,FR r]
 |.ptr _ _::r=>by simp[FQ,FT,look,FR r]
theorem z6(x:SV):uL [] x=x:=by
 cases x with
 |dQ f cs=>simp[uL,FR]
 |_=>rfl
theorem rK:∀(cs:List SV),lJ [] cs=cs
 |[]=>rfl
 |x::r=>by simp[lJ,z6,rK r]
theorem CD:∀(cs:List TV),z1 [] cs=cs
 |[]=>rfl
 |.s x::r=>by simp[z1,Y7,z6,CD r]
 |.g x::r=>by simp[z1,Y7,rK,CD r]
theorem Y9(x:AV):nH [] x=x:=by
 cases x with
 |s x=>simp[nH,z6]
 |g x=>simp[nH,rK]
 |ib b x=>simp[nH,z6]
 |ig b x=>simp[nH,rK]
 |t ts=>simp[nH,CD]
theorem Y8(b:jM):jN [] b=b:=by
 cases b with
 |cells cs=>simp[jN,rK]
 |row e n s f=>rfl
 |bW e n s f=>rfl
 |map vk l=>rfl
 |smap vk l=>rfl
 |dm l n=>rfl
 |fresh T vs=>rfl
 |iter m n seen=>rfl
theorem WD.mono{M:Mem}{β β':Nm}{xs:List Nat}(h:∀x,x∈xs→∀p,β x=some p→β' x=some p){x:AV}{v:Value}(hi:WD xs x=true)(r:x.a7 M β v):x.a7 M β' v:=
 nH.rep (ren:=[]) h hi (by rw[Y9];exact r)
theorem QN.mono{M:Mem}{β β':Nm}{xs:List Nat}(h:∀x,x∈xs→∀p,β x=some p→β' x=some p){w:World}{x:Nat}{b:jM}(hx:x∈xs)(hi:QN xs b=true)(r:cH M β w x b):cH M β' w x b:=
 jN.rep (ren:=[]) h hx hi (by rw[Y8];exact r)
def cJ:aO→List Nat
 |[]=>[]
 |(x,_)::r=>x::cJ r
theorem cJ.has{x:Nat}:∀{l:aO},x∈cJ l→∃y,aH l x=some y
 |[],h=>by cases h
 |(z,v)::r,h=>by
  rw[aL]
  by_cases e:z=x
  ·rw[if_pos e];exact⟨_,rfl⟩
  ·rw[if_neg e]
   simp only [cJ,List.mem_cons]at h
   exact cJ.has (h.resolve_left fun h=>e h.symm)
def HD(src:List (Nat×AV))(ks:List Nat):List (Nat×AV)→Prop
 |[]=>True
 |(t,v)::r=>(WD ks v=true∧eZ src t=v)∧HD src ks r
def BL(src:aO)(ks:List Nat):aO→Prop
 |[]=>True
 |(x,some b)::r=>(QN ks b=true∧aH src x=some (some b))∧BL src ks r
 |(_,none)::r=>BL src ks r
theorem HD.get{src:List (Nat×AV)}{ks:List Nat}{M:Mem}{β β':Nm}(h:∀x,x∈ks→∀p,β x=some p→β' x=some p):∀{tgt:List (Nat×AV)},HD src ks tgt→∀t v,(eZ src t).a7 M β v→(eZ tgt t).a7 M β' v
 |[],_,_,_,_=>trivial
 |(k,a)::r,⟨⟨h1,h2⟩,hr⟩,t,v,hv=>by
  rw[gG]
  by_cases e:k=t
  ·rw[if_pos e];subst e;rw[h2]at hv;exact WD.mono h h1 hv
  ·rw[if_neg e];exact HD.get h hr t v hv
theorem BL.get{src:aO}{ks:List Nat}:∀{tgt:aO},(∀x,x∈cJ tgt→x∈ks)→BL src ks tgt→∀x b,aH tgt x=some (some b)→x∈ks∧QN ks b=true∧aH src x=some (some b)
 |[],_,_,_,_,h=>by cases h
 |(k,some c)::r,hk,⟨⟨h1,h2⟩,hr⟩,x,b,h=>by
  rw[aL]at h
  by_cases e:k=x
  ·rw[if_pos e]at h;cases h;subst e;exact⟨hk k (by simp[cJ]),h1,h2⟩
  ·rw[if_neg e]at h;exact BL.get (fun y hy=>hk y (by simp[cJ,hy])) hr x b h
 |(k,none)::r,hk,hr,x,b,h=>by
  rw[aL]at h
  by_cases e:k=x
  ·rw[if_pos e]at h;cases h
  ·rw[if_neg e]at h;exact BL.get (tgt:=r) (fun y hy=>hk y (List.mem_cons_of_mem _ hy)) hr x b h
theorem Sub.of{cx:Cx}{σ σ':St}(hr:(cx.ref.all fun x=>(cJ σ'.box).contains x)=true)(hb:BL σ.box (cJ σ'.box) σ'.box)(he:HD σ.env (cJ σ'.box) σ'.env):Sub cx σ σ':=by
 refine⟨fun M β β' h t v hv=>HD.get (fun x hx p e=>h x p e (cJ.has hx)) he t v hv,fun M β β' w h x b e=>?_,fun x hx=>?_⟩
 ·obtain⟨h0,h1,h2⟩:=BL.get (fun _ h=>h) hb x b e
  exact⟨b,h2,QN.mono (fun x hx p e=>h x p e (cJ.has hx)) h0 h1⟩
 ·rw[List.all_eq_true]at hr
  exact cJ.has (by simpa using hr x hx)
theorem Sub.b7{cx:Cx}{σ σ':St}(h:cx.ref=[])(hb:BL σ.box (cJ σ'.box) σ'.box)(he:HD σ.env (cJ σ'.box) σ'.env):Sub cx σ σ':=Sub.of (by rw[h];rfl) hb he
def aJ(d e:DV):Prop:=∀M u,d.a7 M u→e.a7 M u
theorem aJ.refl(d:DV):aJ d d:=fun _ _ h=>h
theorem aJ.of_eq{d e:DV}(h:d=e):aJ d e:=h▸aJ.refl d
theorem aJ.fJ{n s:Nat}{f g:Nat→Nat→DV}(h:∀i j,i<n→j<s→aJ (f i j) (g i j)):aJ (.fJ n s f) (.fJ n s g):=by
 rintro M u ⟨a,cap,e,hn,hc⟩
 refine⟨a,cap,e,hn,hc.imp id ?_⟩
 rintro⟨b,o,ea,hc⟩
 exact⟨b,o,ea,fun i j hi hj=>let⟨u,hu,hr⟩:=hc i j hi hj;⟨u,hu,h i j hi hj M u hr⟩⟩
theorem aJ.nil{s':Nat}{f:Nat→Nat→DV}:aJ (.val (.slice none 0 0)) (.fJ 0 s' f):=by
 intro M u r
 cases r
 exact⟨none,0,rfl,Nat.le_refl _,.inl rfl⟩
theorem aJ.rp{m:Nat}{f g:Nat→DV}(h:∀j,j<m→aJ (f j) (g j)):aJ (.rp m f) (.rp m g):=by
 rintro M u ⟨b,o,e,hc⟩
 exact⟨b,o,e,fun j hj=>let⟨u,hu,hr⟩:=hc j hj;⟨u,hu,h j hj M u hr⟩⟩
theorem aJ.bnd{f k:Nat}{c d:Nat→DV}(h:∀j,j<k→aJ (c j) (d j)):aJ (.bnd f k c) (.bnd f k d):=by
 rintro M u ⟨cs,e,hk,hc⟩
 refine⟨cs,e,hk,fun i u hu=>h i ?_ M u (hc i u hu)⟩
 rw[←hk]
 exact(List.getElem?_eq_some_iff.1 hu).1
theorem aJ.dQ{f k:Nat}{c d:Nat→DV}(h:∀j,j<k→aJ (c j) (d j)):aJ (.dQ f k c) (.dQ f k d):=by
 rintro M u ⟨cs,e,hk,hc⟩
 refine⟨cs,e,hk,fun i u hu=>h i ?_ M u (hc i u hu)⟩
 rw[←hk]
 exact(List.getElem?_eq_some_iff.1 hu).1
def YE:SV→SV→Prop
 |.d x,.d y=>aJ x y
 |_,_=>False
def BS:List SV→List SV→Prop
 |[],[]=>True
 |x::r,y::s=>YE x y∧BS r s
 |_,_=>False
def LeA:AV→AV→Prop
 |.s x,.s y=>YE x y
 |.g x,.g y=>BS x y
 |_,_=>False
def q9:List AV→List AV→Prop
 |[],[]=>True
 |x::r,y::s=>LeA x y∧q9 r s
 |_,_=>False
def S4:List TV→List TV→Prop
 |[],[]=>True
 |.s x::r,.s y::s=>YE x y∧S4 r s
 |.g x::r,.g y::s=>BS x y∧S4 r s
 |_,_=>False
theorem YE.rep{M:Mem}{β:Nm}{x y:SV}{v:Value}(h:YE x y)(r:x.a7 M β v):y.a7 M β v:=by
 cases x <;> cases y <;> first|exact h M v r|exact h.elim
theorem BS.rep{M:Mem}{β:Nm}:∀{l m:List SV} {vs:List Value},BS l m→cK M β l vs→cK M β m vs
 |[],[],[],_,_=>trivial
 |_::_,_::_,_::_,⟨h,k⟩,⟨a,r⟩=>⟨h.rep a,BS.rep k r⟩
 |[],_::_,_,h,_=>h.elim
 |_::_,[],_,h,_=>h.elim
 |[],[],_::_,_,h=>h.elim
 |_::_,_::_,[],_,h=>h.elim
theorem LeA.rep{M:Mem}{β:Nm}{x y:AV}{v:Value}(h:LeA x y)(r:x.a7 M β v):y.a7 M β v:=by
 cases x <;> cases y <;> first|exact h.elim|skip
 ·exact YE.rep h r
 ·obtain⟨vs,e,hr⟩:=r;exact⟨vs,e,BS.rep h hr⟩
theorem q9.rep{M:Mem}{β:Nm}:∀{l m:List AV} {vs:List Value},q9 l m→gU M β l vs→gU M β m vs
 |[],[],[],_,_=>trivial
 |_::_,_::_,_::_,⟨h,k⟩,⟨a,r⟩=>⟨h.rep a,q9.rep k r⟩
 |[],_::_,_,h,_=>h.elim
 |_::_,[],_,h,_=>h.elim
 |[],[],_::_,_,h=>h.elim
 |_::_,_::_,[],_,h=>h.elim
theorem S4.rep{M:Mem}{β:Nm}:∀{l m:List TV} {vs:List Value},S4 l m→p9 M β l vs→p9 M β m vs
 |[],[],[],_,_=>trivial
 |.s _::_,.s _::_,_::_,⟨h,k⟩,⟨a,r⟩=>⟨YE.rep h a,S4.rep k r⟩
 |.g _::_,.g _::_,_::_,⟨h,k⟩,⟨⟨vs,e,a⟩,r⟩=>⟨⟨vs,e,BS.rep h a⟩,S4.rep k r⟩
 |[],_::_,_,h,_=>h.elim
 |.s _::_,[],_,h,_=>h.elim
 |.g _::_,[],_,h,_=>h.elim
 |.s _::_,.g _::_,_,h,_=>h.elim
 |.g _::_,.s _::_,_,h,_=>h.elim
 |[],[],_::_,_,h=>h.elim
 |.s _::_,.s _::_,[],_,h=>h.elim
 |.g _::_,.g _::_,[],_,h=>h.elim
theorem aC.le{x y:AV}(h:LeA x y):aC x y:=fun _ _ r=>h.rep r
theorem aC.t{x y:List TV}(h:S4 x y):aC (.t x) (.t y):=by
 rintro M u ⟨vs,e,r⟩
 exact⟨vs,e,h.rep r⟩
theorem aF.conv{P:Program}{f:FuncId}{args args':List AV}{r:AV}(h:aF P f args r)(k:q9 args' args):aF P f args' r:=
 ⟨h.1,fun M w vs hG hr hM=>h.2 M w vs hG (k.rep hr) hM⟩
def aP(cx:Cx)(N:Nat)(σ σ':St):Prop:=∀M β a w,Inv cx N M β σ a w→∃β',Inv cx N M β' σ' a w
theorem AW.cZ{P:Program}{cx:Cx}{N:Nat}{σ:St}{K:Exit→St→Prop}{S:Type}{c:Code}(NA:S→St)(J:S→Prop)(μ:S→Nat)(s0:S)(hJ:J s0)(hs:aP cx N σ (NA s0))
  (body:∀s,J s→AW P cx N c (NA s) (NI (fun σ'=>∃s',J s'∧μ s'<μ s∧aP cx N σ' (NA s')) K)):AW P cx N (.loop c) σ K:=by
 intro M β a w i
 obtain⟨β1,i1⟩:=hs M β a w i
 intro b k cs hro hb hr
 have key:∀n s,μ s=n→J s→∀M β a w,Inv cx N M β (NA s) a w→
   ∃e a' w',(∃σ' M' β',K e σ'∧Inv cx N M' β' σ' a' w'∧Grow cx.B M M'∧b6 cx w w')∧ArrivesIn (Machine.fenced P (FW cx.rd)) P (lone (b.atR a (.code c::.inLoop c::k)) cs w) b k cs e a' w':=by
  intro n
  induction n using Nat.strongRecOn with
  |_ n ih=>
   intro s hn hJ M β a w i
   obtain⟨e,a₁,w₁,⟨σ',M1,β1,hq,i1,hM,hk⟩,mI⟩:=body s hJ M β a w i b (.inLoop c::k) cs hro hb hr
   cases e with
   |normal=>
    obtain⟨s',hJ',fR,gK⟩:=hq
    obtain⟨β2,i2⟩:=gK M1 β1 a₁ w₁ i1
    obtain⟨e₂,a₂,w₂,⟨σ2,M2,β2,hq₂,i2,hM2,X9⟩,AU⟩:=ih (μ s') (hn▸fR) s' rfl hJ' M1 β2 a₁ w₁ i2
    exact⟨e₂,a₂,w₂,⟨σ2,M2,β2,hq₂,i2,hM.trans hM2,hk.trans X9⟩,.of_steps (StepsIn.trans mI (.one (fenced_calm hb hr rfl) stepR_inLoop)) AU⟩
   |exit id=>exact⟨_,a₁,w₁,⟨σ',M1,β1,hq,i1,hM,hk⟩,.pass (x:=.inLoop c) rfl (fun _ _=>.inl sM) mI⟩
   |goto l=>exact⟨_,a₁,w₁,⟨σ',M1,β1,hq,i1,hM,hk⟩,.pass (x:=.inLoop c) rfl (fun _ _=>.inl sM) mI⟩
   |ret=>exact⟨_,a₁,w₁,⟨σ',M1,β1,hq,i1,hM,hk⟩,.pass (x:=.inLoop c) rfl (fun _ _=>.inl sM) mI⟩
   |panic ch=>exact⟨_,a₁,w₁,⟨σ',M1,β1,hq,i1,hM,hk⟩,.pass (x:=.inLoop c) rfl (fun _ _=>.inl sM) mI⟩
   |outgrown=>exact⟨_,a₁,w₁,⟨σ',M1,β1,hq,i1,hM,hk⟩,.pass (x:=.inLoop c) rfl (fun _ _=>.inl sM) mI⟩
 obtain⟨e,a',w',hq,mI⟩:=key _ s0 rfl hJ M β1 a w i1
 exact⟨e,a',w',hq,.of_steps (.one (fenced_calm hb hr rfl) stepR_loop) mI⟩
theorem AW.cond{P:Program}{cx:Cx}{N:Nat}{σ:St}{K:Exit→St→Prop}{c:Operand}{x y:Code}(h:yY σ c (AW P cx N x σ K) (AW P cx N y σ K)):AW P cx N (.cond c x y) σ K:=by
 unfold yY at h
 intro M β a w i
 split at h
 ·rename_i b hv
  have hb:a.eval c=.bool b:=by have:=ev.rep i c;rw[hv]at this;exact this
  cases b with
  |true=>exact wpIn_cond_true hb (h M β a w i)
  |false=>exact wpIn_cond_false hb (h M β a w i)
 ·rename_i b hv
  have hb:a.eval c=.bool b:=by have:=ev.rep i c;rw[hv]at this;exact this
  exact wpIn_cond_split hb (fun hb=>h.1 hb M β a w i) (fun hb=>h.2 hb M β a w i)
 ·cases h
theorem AW.fU{P:Program}{cx:Cx}{N:Nat}{σ σ':St}{K:Exit→St→Prop}{c:Code}(h:aP cx N σ σ')(k:AW P cx N c σ' K):AW P cx N c σ K:=by
 intro M β a w i
 obtain⟨β',i'⟩:=h M β a w i
 exact k M β' a w i'
theorem AW.cut{P:Program}{cx:Cx}{N:Nat}{σ σ':St}{K:Exit→St→Prop}{x y:Code}(h:AW P cx N x σ fun e s=>e=.normal∧aP cx N s σ')(k:AW P cx N y σ' K):AW P cx N (.seq x y) σ K:=AW.seq (AW.mono h fun _ _ ⟨he,hs⟩=>by subst he;exact AW.fU hs k)
def aM(x y:AV):Prop:=∀M β v,x.a7 M β v→y.a7 M β v
theorem aM.rfl{x:AV}:aM x x:=fun _ _ _ h=>h
theorem aM.of_eq{x y:AV}(h:x=y):aM x y:=h▸aM.rfl
theorem aM.mo{x:Nat}{z:Bool}(h:z=false):aM (.s (.own x)) (.s (.mo z x)):=by subst h;exact fun M β v r=>⟨fun h=>(by cases h),fun _=>r⟩
theorem aM.nil{x:Nat}{z:Bool}(h:z=true):aM (.s (.d (.val (.slice none 0 0)))) (.s (.mo z x)):=by subst h;exact fun M β v r=>⟨fun _=>r,fun h=>(by cases h)⟩
theorem aM.d{x y:DV}(h:aJ x y):aM (.s (.d x)) (.s (.d y)):=fun M _ v r=>h M v r
def aQ(b b':jM):Prop:=∀M β w x,cH M β w x b→cH M β w x b'
theorem aQ.rfl{b:jM}:aQ b b:=fun _ _ _ _ h=>h
theorem aQ.of_eq{x y:jM}(h:x=y):aQ x y:=h▸aQ.rfl
theorem aQ.row{e n n' s:Nat}{f g:Nat→Nat→DV}(h:n=n')(hf:∀i j,i<n→j<s→aJ (f i j) (g i j)):aQ (.row e n s f) (.row e n' s g):=by
 subst h
 rintro M β w x ⟨b,c,cur,e1,h1,h2,h3,h4,h5,h6⟩
 exact⟨b,c,cur,e1,h1,h2,h3,h4,h5,fun i j hi hj=>let⟨u,hu,hr⟩:=h6 i j hi hj;⟨u,hu,hf i j hi hj M u hr⟩⟩
theorem aQ.bW{e n n' s:Nat}{f g:Nat→Nat→DV}(h:n=n')(hf:∀i j,i<n→j<s→aJ (f i j) (g i j)):aQ (.row e n s f) (.bW e n' s g):=by
 subst h
 rintro M β w x ⟨b,c,cur,e1,h1,h2,h3,h4,h5,h6⟩ b' c' e2
 rw[e1]at e2;cases e2
 exact⟨cur,h1,h2,h3,h4,h5,fun i j hi hj=>let⟨u,hu,hr⟩:=h6 i j hi hj;⟨u,hu,hf i j hi hj M u hr⟩⟩
def XZ:List SV→List SV→Prop
 |[],[]=>True
 |x::r,y::s=>aM (.s x) (.s y)∧XZ r s
 |_,_=>False
theorem XZ.rep{M:Mem}{β:Nm}:∀{l m:List SV} {vs:List Value},XZ l m→cK M β l vs→cK M β m vs
 |[],[],[],_,_=>trivial
 |_::_,_::_,_::_,⟨h,k⟩,⟨a,r⟩=>⟨h M β _ a,XZ.rep k r⟩
 |[],_::_,_,h,_=>h.elim
 |_::_,[],_,h,_=>h.elim
 |[],[],_::_,_,h=>h.elim
 |_::_,_::_,[],_,h=>h.elim
theorem aQ.cells{l m:List SV}(h:XZ l m):aQ (.cells l) (.cells m):=by
 rintro M β w x ⟨b,c,vs,T,us,e1,h1,h2⟩
 exact⟨b,c,vs,T,us,e1,h1,h.rep h2⟩
def aDL(xs:List Nat):jM→Bool
 |.cells cs=>GU xs cs
 |.iter m _ _=>xs.contains m
 |_=>true
def MB(ren:List (Nat×Nat))(src:List (Nat×AV))(ks:List Nat):List (Nat×AV)→Prop
 |[]=>True
 |(t,v)::r=>(WD ks v=true∧aM (eZ src t) (nH ren v))∧MB ren src ks r
def aFB(ren:List (Nat×Nat))(b:jM):Option (Option jM)→Prop
 |some (some b0)=>aQ b0 (jN ren b)
 |some none=>False
 |none=>b.real=false
def CZ(ren:List (Nat×Nat))(src:aO)(ks:List Nat):aO→Prop
 |[]=>True
 |(x,some b)::r=>(aDL ks b=true∧aFB ren b (aH src (look ren x)))∧CZ ren src ks r
 |(_,none)::r=>CZ ren src ks r
theorem MB.get{ren:List (Nat×Nat)}{src:List (Nat×AV)}{ks:List Nat}{M:Mem}{β β':Nm}(h:∀x,x∈ks→∀p,β (look ren x)=some p→β' x=some p):∀{tgt:List (Nat×AV)},MB ren src ks tgt→∀t v,(eZ src t).a7 M β v→(eZ tgt t).a7 M β' v
 |[],_,_,_,_=>trivial
 |(k,a)::r,⟨⟨h1,h2⟩,hr⟩,t,v,hv=>by
  rw[gG]
  by_cases e:k=t
  ·rw[if_pos e];subst e;exact nH.rep h h1 (h2 M β v hv)
  ·rw[if_neg e];exact MB.get h hr t v hv
theorem CZ.get{ren:List (Nat×Nat)}{src:aO}{ks:List Nat}:∀{tgt:aO},(∀x,x∈cJ tgt→x∈ks)→CZ ren src ks tgt→∀x b,aH tgt x=some (some b)→x∈ks∧aDL ks b=true∧aFB ren b (aH src (look ren x))
 |[],_,_,_,_,h=>by cases h
 |(k,some c)::r,hk,⟨⟨h1,h2⟩,hr⟩,x,b,h=>by
  rw[aL]at h
  by_cases e:k=x
  ·rw[if_pos e]at h;cases h;subst e;exact⟨hk k (by simp[cJ]),h1,h2⟩
  ·rw[if_neg e]at h;exact CZ.get (fun y hy=>hk y (by simp[cJ,hy])) hr x b h
 |(k,none)::r,hk,hr,x,b,h=>by
  rw[aL]at h
  by_cases e:k=x
  ·rw[if_pos e]at h;cases h
  ·rw[if_neg e]at h;exact CZ.get (tgt:=r) (fun y hy=>hk y (List.mem_cons_of_mem _ hy)) hr x b h
theorem aP.of{cx:Cx}{N:Nat}{σ σ':St}(ren:List (Nat×Nat))(hr:(cx.ref.all fun x=>(cJ σ'.box).contains x&&Nat.beq (look ren x) x)=true)(hi:GR ren (cJ σ'.box)=true)
  (hb:CZ ren σ.box (cJ σ'.box) σ'.box) (he:MB ren σ.env (cJ σ'.box) σ'.env):aP cx N σ σ':=by
 classical
 intro M β a w i
 let ks:=cJ σ'.box
 let β':Nm:=fun x=>if x∈ks then β (look ren x)else none
 have iT:∀x,x∈ks→β' x=β (look ren x):=fun x hx=>by simp[β',hx]
 have hβ:∀x p,β' x=some p→x∈ks∧β (look ren x)=some p:=fun x p h=>by
  simp only [β']at h
  split at h
  ·exact⟨by assumption,h⟩
  ·cases h
 have DQ:∀x,x∈ks→∀p,β (look ren x)=some p→β' x=some p:=fun x hx p e=>by rw[iT x hx];exact e
 have PA:∀x y,x∈ks→y∈ks→look ren x=look ren y→x=y:=by
  intro x y hx hy e
  simp only [GR,List.all_eq_true]at hi
  have:=hi x hx y hy
  simp only [Bool.or_eq_true]at this
  rcases this with h|h
  ·exact Nat.eq_of_beq_eq_true h
  ·rw[e]at h;simp at h
 have live:∀x b k c,aH σ'.box x=some (some b)→β' x=some (k,c)→x∈ks∧∃b0,aH σ.box (look ren x)=some (some b0)∧β (look ren x)=some (k,c):=by
  intro x b k c h e
  obtain⟨h1,h2,h3⟩:=CZ.get (fun _ h=>h) hb x b h
  have e:=(hβ x _ e).2
  obtain⟨y,hy⟩:=i.keys _ _ e
  rw[hy]at h3
  cases y with
  |none=>exact h3.elim
  |some b0=>exact⟨h1,b0,hy,e⟩
 refine⟨β',i.defers,i.tmps,i.heap,fun t=>MB.get DQ he t _ (i.env t),i.mem,?_,?_,?_,?_,?_,?_⟩
 ·intro x p e
  exact cJ.has (hβ x p e).1
 ·intro x b h
  obtain⟨h1,h2,h3⟩:=CZ.get (fun _ h=>h) hb x b h
  cases hs:aH σ.box (look ren x)with
  |none=>
   rw[hs]at h3
   have hn:β' x=none:=by
    rw[iT x h1]
    cases hb0:β (look ren x)with
    |none=>rfl
    |some p=>obtain⟨y,hy⟩:=i.keys _ _ hb0;rw[hs]at hy;cases hy
   cases b with
   |bW e n s f=>intro k c e;rw[hn]at e;cases e
   |_=>cases h3
  |some y=>
   cases y with
   |none=>rw[hs]at h3;exact h3.elim
   |some b0=>
    rw[hs]at h3
    have dU:=h3 M β w (look ren x) (i.box _ _ hs)
    cases b with
    |cells cs=>exact jN.rep DQ h1 h2 dU
    |row e n s f=>exact jN.rep DQ h1 rfl dU
    |bW e n s f=>intro k c e;rw[iT x h1]at e;exact dU k c e
    |map vk l=>exact jN.rep DQ h1 rfl dU
    |smap vk l=>exact jN.rep DQ h1 rfl dU
    |dm l n=>exact jN.rep DQ h1 rfl dU
    |fresh T vs=>exact jN.rep DQ h1 rfl dU
    |iter m n seen=>exact jN.rep DQ h1 h2 dU
 ·intro x y bx xV b c c' ex ey hx hy
  obtain⟨kx,b0,g0,e0⟩:=live x bx b c ex hx
  obtain⟨ky,b1,g1,e1⟩:=live y xV b c' ey hy
  exact PA x y kx ky (i.inj _ _ b0 b1 b c c' g0 g1 e0 e1)
 ·intro x bx b c ex hx
  obtain⟨kx,b0,g0,e0⟩:=live x bx b c ex hx
  exact i.apart _ b0 b c g0 e0
 ·intro x bx b c ex hx
  obtain⟨kx,b0,g0,e0⟩:=live x bx b c ex hx
  exact i.low _ b0 b c g0 e0
 ·intro x hx
  rw[List.all_eq_true]at hr
  have:=hr x hx
  simp only [Bool.and_eq_true]at this
  have h1:x∈ks:=by simpa using this.1
  have h2:=Nat.eq_of_beq_eq_true this.2
  rw[iT x h1,h2]
  exact i.ref x hx
theorem aP.b7{cx:Cx}{N:Nat}{σ σ':St}(h:cx.ref=[])(ren:List (Nat×Nat))(hi:GR ren (cJ σ'.box)=true)(hb:CZ ren σ.box (cJ σ'.box) σ'.box)(he:MB ren σ.env (cJ σ'.box) σ'.env):aP cx N σ σ':=
 aP.of ren (by rw[h];rfl) hi hb he
theorem aM.YN{x:Nat}{z:Bool}(h:z=true):aM (.s (.mo z x)) (.s (.d (.val (.slice none 0 0)))):=fun _ _ _ r=>r.1 h
theorem aP.own{cx:Cx}{N:Nat}{σ:St}{e n s:Nat}{f:Nat→Nat→DV}{z:Bool}(t x:Nat)(ht:eZ σ.env t=.s (.mo z x))(hz:z=false)(hb:aH σ.box x=some (some (.bW e n s f))):
  aP cx N σ ⟨(t,.s (.own x))::σ.env,(x,some (.row e n s f))::σ.box⟩:=by
 intro M β a w i
 have r:=i.env t
 rw[ht]at r
 obtain⟨b,c,hx,hv,hc⟩:=r.2 hz
 obtain⟨cur,h1,h2,h3,h4,h5,h6⟩:=i.box x _ hb b c hx
 have live:∀y bc,aH ((x,some (.row e n s f))::σ.box) y=some (some bc)→∃bc,aH σ.box y=some (some bc):=by
  intro y bc h
  rw[aL]at h
  by_cases hy:x=y
  ·subst hy;exact⟨_,hb⟩
  ·rw[if_neg hy]at h;exact⟨_,h⟩
 refine⟨β,i.defers,i.tmps,i.heap,?_,i.mem,?_,?_,?_,?_,?_,i.ref⟩
 ·intro u
  show(eZ ((t,_)::σ.env) u).a7 M β _
  rw[gG]
  by_cases hu:t=u
  ·subst hu
   rw[if_pos rfl]
   exact⟨b,c,hx,hv,hc⟩
  ·rw[if_neg hu];exact i.env u
 ·intro y p h
  obtain⟨z,hz⟩:=i.keys y p h
  show ∃y',aH ((x,_)::σ.box) y=some y'
  rw[aL]
  by_cases hy:x=y
  ·rw[if_pos hy];exact⟨_,rfl⟩
  ·rw[if_neg hy];exact⟨z,hz⟩
 ·intro y bc h
  have h:aH ((x,some (.row e n s f))::σ.box) y=some (some bc):=h
  rw[aL]at h
  by_cases hy:x=y
  ·subst hy
   rw[if_pos rfl]at h
   cases h
   exact⟨b,c,cur,hx,h1,h2,h3,h4,h5,h6⟩
  ·rw[if_neg hy]at h;exact i.box y bc h
 ·intro y y' bx bx' b1 c1 c2 e1 e2 g1 g2
  obtain⟨_,e1⟩:=live _ _ e1
  obtain⟨_,e2⟩:=live _ _ e2
  exact i.inj y y' _ _ b1 c1 c2 e1 e2 g1 g2
 ·intro y bx b1 c1 e1 g1
  obtain⟨_,e1⟩:=live _ _ e1
  exact i.apart y _ b1 c1 e1 g1
 ·intro y bx b1 c1 e1 g1
  obtain⟨_,e1⟩:=live _ _ e1
  exact i.low y _ b1 c1 e1 g1
end Go.Ax
namespace Go.Ax
theorem qZ{b:Bool}{x:AV}:b=b∧aM x x:=⟨rfl,aM.rfl⟩
theorem bQ{b:Bool}{x:jM}:b=b∧aQ x x:=⟨rfl,aQ.rfl⟩
def kH(cx:Cx)(N:Nat)(σ σ':St):Prop:=∀M β a w,Inv cx N M β σ a w→∃M' β',Inv cx N M' β' σ' a w∧Grow cx.B M M'
theorem kH.w9{cx:Cx}{N:Nat}{σ σ':St}(h:aP cx N σ σ'):kH cx N σ σ':=fun M β a w i=>let⟨β',i'⟩:=h M β a w i;⟨M,β',i',Grow.refl _ _⟩
theorem AW.VC{P:Program}{cx:Cx}{N:Nat}{σ σ':St}{K:Exit→St→Prop}{c:Code}(h:kH cx N σ σ')(k:AW P cx N c σ' K):AW P cx N c σ K:=by
 intro M β a w i
 obtain⟨M',β',i',g⟩:=h M β a w i
 exact wpIn_mono (k M' β' a w i') fun _ _ _ ⟨s,M2,β2,hk,i2,g2,kp⟩=>⟨s,M2,β2,hk,i2,g.trans g2,kp⟩
def Fz(box:aO)(fz:List Nat)(M:Mem)(β:Nm):Prop:=∀x,x∈fz→∀e n s f,aH box x=some (some (.row e n s f))→∀v,(SV.own x).a7 M β v→(DV.fJ n s f).a7 M v
def bO(box:aO)(fz:List Nat)(x y:AV):Prop:=∀M β v,Fz box fz M β→x.a7 M β v→y.a7 M β v
theorem bO.rfl{box:aO}{fz:List Nat}{x:AV}:bO box fz x x:=fun _ _ _ _ r=>r
theorem bO.then{box:aO}{fz:List Nat}{x y z:AV}(h:bO box fz x y)(k:aM y z):bO box fz x z:=fun M β v f r=>k M β v (h M β v f r)
theorem bO.own{box:aO}{fz:List Nat}{x e n s:Nat}{f:Nat→Nat→DV}(hx:x∈fz)(hb:aH box x=some (some (.row e n s f))):bO box fz (.s (.own x)) (.s (.d (.fJ n s f))):=
 fun _ _ v hf r=>hf x hx e n s f hb v r
def QK(box:aO)(fz:List Nat):List SV→List SV→Prop
 |[],[]=>True
 |x::r,y::s=>bO box fz (.s x) (.s y)∧QK box fz r s
 |_,_=>False
theorem QK.rep{box:aO}{fz:List Nat}{M:Mem}{β:Nm}(hf:Fz box fz M β):∀{l m:List SV} {vs:List Value},QK box fz l m→cK M β l vs→cK M β m vs
 |[],[],[],_,_=>trivial
 |_::_,_::_,_::_,⟨h,k⟩,⟨a,r⟩=>⟨h M β _ hf a,QK.rep hf k r⟩
 |[],_::_,_,h,_=>h.elim
 |_::_,[],_,h,_=>h.elim
 |[],[],_::_,_,h=>h.elim
 |_::_,_::_,[],_,h=>h.elim
def iI(box:aO)(fz:List Nat)(b b':jM):Prop:=∀M β w x,Fz box fz M β→cH M β w x b→cH M β w x b'
theorem iI.rfl{box:aO}{fz:List Nat}{b:jM}:iI box fz b b:=fun _ _ _ _ _ h=>h
theorem iI.cells{box:aO}{fz:List Nat}{l m:List SV}(h:QK box fz l m):iI box fz (.cells l) (.cells m):=by
 rintro M β w x hf ⟨b,c,vs,T,us,e1,h1,h2⟩
 exact⟨b,c,vs,T,us,e1,h1,h.rep hf h2⟩
def KI(ren:List (Nat×Nat))(fz:List Nat)(box:aO)(src:List (Nat×AV))(ks:List Nat):List (Nat×AV)→Prop
 |[]=>True
 |(t,v)::r=>(WD ks v=true∧bO box fz (eZ src t) (nH ren v))∧KI ren fz box src ks r
def aBP(ren:List (Nat×Nat))(fz:List Nat)(box:aO)(b:jM):Option (Option jM)→Prop
 |some (some b0)=>iI box fz b0 (jN ren b)
 |some none=>False
 |none=>b.real=false
def BK(ren:List (Nat×Nat))(fz:List Nat)(src:aO)(ks:List Nat):aO→Prop
 |[]=>True
 |(x,some b)::r=>(aDL ks b=true∧aBP ren fz src b (aH src (look ren x)))∧BK ren fz src ks r
 |(_,none)::r=>BK ren fz src ks r
theorem KI.get{ren:List (Nat×Nat)}{fz:List Nat}{box:aO}{src:List (Nat×AV)}{ks:List Nat}{M:Mem}{β β':Nm}(hf:Fz box fz M β)(h:∀x,x∈ks→∀p,β (look ren x)=some p→β' x=some p):∀{tgt:List (Nat×AV)},KI ren fz box src ks tgt→∀t v,(eZ src t).a7 M β v→(eZ tgt t).a7 M β' v
 |[],_,_,_,_=>trivial
 |(k,a)::r,⟨⟨h1,h2⟩,hr⟩,t,v,hv=>by
  rw[gG]
  by_cases e:k=t
  ·rw[if_pos e];subst e;exact nH.rep h h1 (h2 M β v hf hv)
  ·rw[if_neg e];exact KI.get hf h hr t v hv
theorem BK.get{ren:List (Nat×Nat)}{fz:List Nat}{src:aO}{ks:List Nat}:∀{tgt:aO},(∀x,x∈cJ tgt→x∈ks)→BK ren fz src ks tgt→∀x b,aH tgt x=some (some b)→x∈ks∧aDL ks b=true∧aBP ren fz src b (aH src (look ren x))
 |[],_,_,_,_,h=>by cases h
 |(k,some c)::r,hk,⟨⟨h1,h2⟩,hr⟩,x,b,h=>by
  rw[aL]at h
  by_cases e:k=x
  ·rw[if_pos e]at h;cases h;subst e;exact⟨hk k (by simp[cJ]),h1,h2⟩
  ·rw[if_neg e]at h;exact BK.get (fun y hy=>hk y (by simp[cJ,hy])) hr x b h
 |(k,none)::r,hk,hr,x,b,h=>by
  rw[aL]at h
  by_cases e:k=x
  ·rw[if_pos e]at h;cases h
  ·rw[if_neg e]at h;exact BK.get (tgt:=r) (fun y hy=>hk y (List.mem_cons_of_mem _ hy)) hr x b h
def aER:Option (Option jM)→Bool
 |some (some (.row _ _ _ _))=>true
 |_=>false
theorem kH.of{cx:Cx}{N:Nat}{σ σ':St}(aA:cx.ref=[])(ren:List (Nat×Nat))(fz:List Nat)(hi:GR ren (cJ σ'.box)=true)(hz:(fz.all fun x=>aER (aH σ.box x))=true)(hd:((cJ σ'.box).all fun x=> !fz.contains (look ren x))=true)
  (hb:BK ren fz σ.box (cJ σ'.box) σ'.box) (he:KI ren fz σ.box σ.env (cJ σ'.box) σ'.env):kH cx N σ σ':=by
 classical
 intro M β a w i
 let ks:=cJ σ'.box
 let isZ:Nat→Prop:=fun b=>∃x c,x∈fz∧β x=some (b,c)
 let M':Mem:=fun b o=>if isZ b then w.cell? ⟨b,o,none⟩else M b o
 have cI:∀x,x∈fz→∃e n s f,aH σ.box x=some (some (.row e n s f)):=by
  intro x hx
  rw[List.all_eq_true]at hz
  have:=hz x hx
  unfold aER at this
  split at this
  ·rename_i e n s f h;exact⟨e,n,s,f,h⟩
  ·cases this
 have hMM:Mem.le M M':=by
  intro b o u h
  by_cases hb:isZ b
  ·obtain⟨x,c,hx,e⟩:=hb
   obtain⟨e',n,s,f,hg⟩:=cI x hx
   rw[i.apart x _ b c hg e o]at h;cases h
  ·simp only [M',if_neg hb];exact h
 have hF:Fz σ.box fz M' β:=by
  intro x hx e n s f hg v ⟨b,c,e1,ev,hc⟩
  obtain⟨b',c',cur,e2,hh,hl,lT,hn,_,cN⟩:=i.box x _ hg
  rw[e1]at e2;cases e2
  subst ev
  refine⟨some ⟨b,0,none⟩,c.1,by rw[hl],hn,.inr ⟨b,0,rfl,fun k j hk hj=>?_⟩⟩
  obtain⟨u,hu,hr⟩:=cN k j hk hj
  have hZ:isZ b:=⟨x,c,hx,e1⟩
  exact⟨u,by simp only [M',if_pos hZ];simp[World.cell?,hh,hu],DV.a7.mono hMM hr⟩
 let β':Nm:=fun x=>if x∈ks then β (look ren x)else none
 have iT:∀x,x∈ks→β' x=β (look ren x):=fun x hx=>by simp[β',hx]
 have hβ:∀x p,β' x=some p→x∈ks∧β (look ren x)=some p:=fun x p h=>by
  simp only [β']at h
  split at h
  ·exact⟨by assumption,h⟩
  ·cases h
 have DQ:∀x,x∈ks→∀p,β (look ren x)=some p→β' x=some p:=fun x hx p e=>by rw[iT x hx];exact e
 have PA:∀x y,x∈ks→y∈ks→look ren x=look ren y→x=y:=by
  intro x y hx hy e
  simp only [GR,List.all_eq_true]at hi
  have:=hi x hx y hy
  simp only [Bool.or_eq_true]at this
  rcases this with h|h
  ·exact Nat.eq_of_beq_eq_true h
  ·rw[e]at h;simp at h
 have hnz:∀x,x∈ks→look ren x∉fz:=by
  intro x hx
  rw[List.all_eq_true]at hd
  simpa using hd x hx
 have live:∀x b k c,aH σ'.box x=some (some b)→β' x=some (k,c)→x∈ks∧∃b0,aH σ.box (look ren x)=some (some b0)∧β (look ren x)=some (k,c):=by
  intro x b k c h e
  obtain⟨h1,h2,h3⟩:=BK.get (fun _ h=>h) hb x b h
  have e:=(hβ x _ e).2
  obtain⟨y,hy⟩:=i.keys _ _ e
  rw[hy]at h3
  cases y with
  |none=>exact h3.elim
  |some b0=>exact⟨h1,b0,hy,e⟩
 refine⟨M',β',⟨i.defers,i.tmps,i.heap,fun t=>KI.get hF DQ he t _ (AV.a7.mono hMM (Nm.le_refl β) (i.env t)),?_,?_,?_,?_,?_,?_,?_⟩,hMM,?_⟩
 ·intro b o u h
  by_cases hb:isZ b
  ·simp only [M',if_pos hb]at h;exact h
  ·simp only [M',if_neg hb]at h;exact i.mem b o u h
 ·intro x p e
  exact cJ.has (hβ x p e).1
 ·intro x b h
  obtain⟨h1,h2,h3⟩:=BK.get (fun _ h=>h) hb x b h
  cases hs:aH σ.box (look ren x)with
  |none=>
   rw[hs]at h3
   have hn:β' x=none:=by
    rw[iT x h1]
    cases hb0:β (look ren x)with
    |none=>rfl
    |some p=>obtain⟨y,hy⟩:=i.keys _ _ hb0;rw[hs]at hy;cases hy
   cases b with
   |bW e n s f=>intro k c e;rw[hn]at e;cases e
   |_=>cases h3
  |some y=>
   cases y with
   |none=>rw[hs]at h3;exact h3.elim
   |some b0=>
    rw[hs]at h3
    have dU:=h3 M' β w (look ren x) hF (cH.mono hMM (Nm.le_refl β) rfl (fun _ _ _=>rfl) (i.box _ _ hs))
    cases b with
    |cells cs=>exact jN.rep DQ h1 h2 dU
    |row e n s f=>exact jN.rep DQ h1 rfl dU
    |bW e n s f=>intro k c e;rw[iT x h1]at e;exact dU k c e
    |map vk l=>exact jN.rep DQ h1 rfl dU
    |smap vk l=>exact jN.rep DQ h1 rfl dU
    |dm l n=>exact jN.rep DQ h1 rfl dU
    |fresh T vs=>exact jN.rep DQ h1 rfl dU
    |iter m n seen=>exact jN.rep DQ h1 h2 dU
 ·intro x y bx xV b c c' ex ey hx hy
  obtain⟨kx,b0,g0,e0⟩:=live x bx b c ex hx
  obtain⟨ky,b1,g1,e1⟩:=live y xV b c' ey hy
  exact PA x y kx ky (i.inj _ _ b0 b1 b c c' g0 g1 e0 e1)
 ·intro x bx b c ex hx o
  obtain⟨kx,b0,g0,e0⟩:=live x bx b c ex hx
  have:¬isZ b:=by
   rintro⟨z,c',hz',e'⟩
   obtain⟨e2,n,s,f,hg⟩:=cI z hz'
   have:=i.inj _ _ _ _ b c' c hg g0 e' e0
   subst this
   exact hnz x kx hz'
  simp only [M',if_neg this]
  exact i.apart _ b0 b c g0 e0 o
 ·intro x bx b c ex hx
  obtain⟨kx,b0,g0,e0⟩:=live x bx b c ex hx
  exact i.low _ b0 b c g0 e0
 ·intro x hx
  rw[aA]at hx;cases hx
 ·intro b o u h
  by_cases hb:isZ b
  ·obtain⟨x,c,hx,e⟩:=hb
   obtain⟨e',n,s,f,hg⟩:=cI x hx
   rcases i.low x _ b c hg e with h|⟨y,c',hy,_⟩
   ·exact .inr h
   ·rw[aA]at hy;cases hy
  ·simp only [M',if_neg hb]at h;exact .inl h
def GN(xs:List Nat)(σ:St)(x:SV):SV:=bif J4 xs x then x else uC σ x
def CL(xs:List Nat)(σ:St):List SV→List SV
 |[]=>[]
 |x::r=>GN xs σ x::CL xs σ r
def aI5(xs:List Nat)(σ:St):TV→TV
 |.s x=>.s (GN xs σ x)
 |.g cs=>.g (CL xs σ cs)
def qU(xs:List Nat)(σ:St):List TV→List TV
 |[]=>[]
 |t::r=>aI5 xs σ t::qU xs σ r
section
variable{cx:Cx}{N:Nat}{M F:Mem}{β:Nm}{σ:St}{a:Act}{w:World}
theorem GN.rep(xs:List Nat)(i:Inv cx N M β σ a w)(hM:Mem.le M F)(hF:∀x bc b c,aH σ.box x=some (some bc)→β x=some (b,c)→∀o u,w.cell? ⟨b,o,none⟩=some u→F b o=some u){x:SV}{v:Value}(r:x.a7 M β v):(GN xs σ x).a7 F β v:=by
 unfold GN
 cases J4 xs x with
 |true=>exact SV.a7.mono hM (Nm.le_refl β) r
 |false=>exact dS.rep i hM hF 3 _ _ r
theorem CL.rep(xs:List Nat)(i:Inv cx N M β σ a w)(hM:Mem.le M F)(hF:∀x bc b c,aH σ.box x=some (some bc)→β x=some (b,c)→∀o u,w.cell? ⟨b,o,none⟩=some u→F b o=some u):∀{cs:List SV} {vs:List Value},cK M β cs vs→cK F β (CL xs σ cs) vs
 |[],[],_=>trivial
 |_::_,_::_,⟨h,r⟩=>⟨GN.rep xs i hM hF h,CL.rep xs i hM hF r⟩
 |[],_::_,h=>h.elim
 |_::_,[],h=>h.elim
theorem qU.rep(xs:List Nat)(i:Inv cx N M β σ a w)(hM:Mem.le M F)(hF:∀x bc b c,aH σ.box x=some (some bc)→β x=some (b,c)→∀o u,w.cell? ⟨b,o,none⟩=some u→F b o=some u):∀{ts:List TV} {vs:List Value},p9 M β ts vs→p9 F β (qU xs σ ts) vs
 |[],[],_=>trivial
 |.s _::_,_::_,⟨h,r⟩=>⟨GN.rep xs i hM hF h,qU.rep xs i hM hF r⟩
 |.g _::_,_::_,⟨⟨vs,e,h⟩,r⟩=>⟨⟨vs,e,CL.rep xs i hM hF h⟩,qU.rep xs i hM hF r⟩
 |[],_::_,h=>h.elim
 |_::_,[],h=>h.elim
end
def LB(T:List (Nat×bJ))(rs:List ResultVar)(r:AV)(bx':eO):Exit→St→Prop
 |.ret,σ=>match nV T σ rs with
  |some ts=>aM (xN (qU (names bx') ⟨σ.env,iY σ.box bx'⟩ ts)) r∧iZ σ.box bx'
  |none=>False
 |.normal,σ=>match nV T σ rs with
  |some ts=>aM (xN (qU (names bx') ⟨σ.env,iY σ.box bx'⟩ ts)) r∧iZ σ.box bx'
  |none=>False
 |_,_=>False
section
variable{P:Program}{T:List (Nat×bJ)}
theorem gT{f N:Nat}{fn:Func}{c:Code}{args:List AV}{bx:eO}{r:AV}{bx':eO}(hf:P.funcs[f]? =some fn)(hb:fn.body=some c)(hN:fn.ntmps=N)(dV:∀vs w,(callFunc f vs).run P w=.ok (.enter f vs) w)
  (hT:b5 P T) (hl:Nat.ble args.length N=true) (pP:((names bx).all fun x=>(names bx').contains x)=true) (jZ:(bx'.all fun p=>p.2.real)=true) {rs:List ResultVar} (LZ:fn.results.toList=rs)
  (h:∀cx:Cx,cx.ref=names bx→AW P cx N c (pM args bx) (LB T rs r bx')):bM P f args bx r bx':=by
 classical
 refine⟨dV,fun M β w vs hG hr hM qE hβ=>?_⟩
 refine calls_of_wp hf hb ?_
 let cx:Cx:={B:=w.heap.size,ref:=names bx,β0:=β}
 have hlen:=hr.length
 have hl:=Nat.le_of_ble_eq_true hl
 have hex:∀x,x∈names bx→∃p,β x=some p:=fun x hx=>by
  obtain⟨k,c,e⟩:=qE.has x hx
  exact⟨_,e⟩
 have i0:Inv cx N M β (pM args bx) {tmps:=vs.toArray++Array.replicate (fn.ntmps - vs.toArray.size) undef,defers:=[]} w:=by
  refine⟨rfl,by simp;omega,⟨Nat.le_refl _,by obtain⟨bs,hG,hN2⟩:=hG;exact⟨bs,hG,fun g t m=>⟨hG.lt m,by rintro⟨x,c,_,hx⟩;exact hN2 g t m x c hx⟩⟩⟩,fun t=>?_,hM,fun x p e=>gC.has (hβ x p e),fun x b e=>qE.rep x b (gC.get e),fun x y b1 b2 b c c' h1 h2 e1 e2=>?_,fun x b1 b c h1 e=>?_,fun x b1 b c h1 e=>?_,fun x hx=>⟨rfl,hex x hx⟩⟩
  ·have:=rY.rep (k:=0) (t:=t) (List.replicate (fn.ntmps - vs.length) undef) hr (Nat.zero_le _)
   simp only [Nat.sub_zero]at this
   simp only [pM]
   have e:(vs.toArray++Array.replicate (fn.ntmps - vs.toArray.size) undef).getD t undef=(vs++List.replicate (fn.ntmps - vs.length) undef).getD t undef:=by
    simp[←List.toArray_replicate]
   rw[e]
   exact this
  ·exact qE.inj x y b c c' (cX (gC.get h1)) (cX (gC.get h2)) e1 e2
  ·exact qE.apart x b c (cX (gC.get h1)) e
  ·exact .inr ⟨x,c,cX (gC.get h1),e⟩
 refine wp_mono (wpIn_wide.1 (h cx rfl M β _ w i0)) ?_
 rintro e a' w' ⟨σ',M',β',hk,i',hg,kG⟩
 have fin:∀ts,nV T σ' rs=some ts→aM (xN (qU (names bx') ⟨σ'.env,iY σ'.box bx'⟩ ts)) r→iZ σ'.box bx'→a'.defers=[]∧∃v,(results fn a'.tmps).run P w'=.ok v w'∧∃v' M' β',Ending.returned v=.returned v'∧Nm.le β β'∧r.a7 M' β' v'∧Grow w.heap.size M M'∧kF M' w'∧qR M' β' w' bx'∧
   (∀x b c,x∈names bx'→β' x=some (b,c)→w.heap.size≤b∨∃y c',β y=some (b,c'))∧
   w'.os=w.os∧w'.tape=w.tape∧w'.output=w.output∧w.heap.size≤w'.heap.size∧(∀k,k<w.heap.size→(∀y c,β y≠some (k,c))→w'.heap[k]? =w.heap[k]?)∧Dr w w':=by
  intro ts qV gK pQ
  obtain⟨zJ,aV,dU⟩:=nV.rep hT i' qV
  let isB:Nat→Prop:=fun b=>∃x c,x∈names bx'∧β' x=some (b,c)
  let F:Mem:=fun b o=>if b<w.heap.size then M' b o else if isB b then none else w'.cell? ⟨b,o,none⟩
  have cI:∀x,x∈names bx'→∃b,aH σ'.box x=some (some b):=fun x hx=>by
   obtain⟨b,hb⟩:=jI hx
   exact⟨b,iZ.get pQ hb⟩
  have hMF:Mem.le M' F:=fun b o u e=>by
   by_cases pR:b<w.heap.size
   ·simp[F,pR,e]
   ·have:¬isB b:=by
     rintro⟨x,c,hx,hx2⟩
     obtain⟨bc,hbc⟩:=cI x hx
     rw[i'.apart x bc b c hbc hx2 o]at e
     cases e
    simp only [F,if_neg pR,if_neg this]
    exact i'.mem b o u e
  have hFc:∀x bc b c,aH (iY σ'.box bx') x=some (some bc)→β' x=some (b,c)→∀o u,w'.cell? ⟨b,o,none⟩=some u→F b o=some u:=by
   intro x bc b c e e' o u hu
   obtain⟨hnx,ex⟩:=iY.get e
   have hnb:¬isB b:=by
    rintro⟨y,c',hy,RM⟩
    obtain⟨bc',aGV⟩:=cI y hy
    exact hnx (i'.inj y x bc' bc b c' c aGV ex RM e'▸hy)
   rcases i'.low x bc b c ex e' with h|h
   ·have:¬b<w.heap.size:=by have:w.heap.size≤b:=h;omega
    simp only [F,if_neg this,if_neg hnb];exact hu
   ·obtain⟨y,c',hy,RM⟩:=h
    have hy':y∈names bx':=by
     rw[List.all_eq_true]at pP
     simpa using pP y hy
    have e1:β' y=some (b,c'):=by rw[(i'.ref y hy).1];exact RM
    exact(hnb ⟨y,c',hy',e1⟩).elim
  have jA:=qU.rep (names bx') (i'.shut bx') hMF hFc dU
  refine⟨i'.defers,(if h:zJ.toArray.size=1 then zJ.toArray[0]else .tuple zJ.toArray),?_,_,F,β',rfl,?_,gK F β' _ ?_,⟨fun b o u e=>hMF b o u (hg.le b o u e),fun b o u e=>?_⟩,fun b o u e=>?_,?_,?_,kG.os,kG.tape,kG.output,kG.size,?_,kG.drawn⟩
  ·have:(fn.results.mapM (lB a'.tmps)).run P w'=.ok zJ.toArray w':=by
    rw[←Array.toArray_toList (xs:=fn.results),List.mapM_toArray,LZ]
    simp only [Sem.run_map,aV,Result.andThen]
   have e:results fn a'.tmps=(do let vs←fn.results.mapM (lB a'.tmps);pure (if h:vs.size=1 then vs[0]else .tuple vs)):=by
    unfold results
    congr 1
   rw[e]
   simp only [Sem.run_bind,this,Result.andThen,Sem.run_pure]
  ·intro x p e
   rw[(i'.ref x (hβ x p e)).1]
   exact e
  ·cases O3:qU (names bx') ⟨σ'.env,iY σ'.box bx'⟩ ts with
   |nil=>
    rw[O3]at jA
    cases zJ with
    |nil=>exact⟨[],rfl,trivial⟩
    |cons _ _=>exact jA.elim
   |cons t r'=>
    rw[O3]at jA
    cases zJ with
    |nil=>exact jA.elim
    |cons v FD=>
     cases r' with
     |nil=>
      cases FD with
      |cons _ _=>exact jA.2.elim
      |nil=>
       have:=jA.1
       simp only [List.size_toArray,List.length_cons,List.length_nil,Nat.zero_add,dite_true,xN]
       cases t with
       |s x=>exact this
       |g cs=>exact this
     |cons t2 r2=>
      cases FD with
      |nil=>exact jA.2.elim
      |cons v2 vs3=>
       have hV:¬(v::v2::vs3).toArray.size=1:=sM
       rw[dif_neg hV]
       exact⟨_,rfl,jA⟩
  ·by_cases pR:b<w.heap.size
   ·simp only [F,if_pos pR]at e
    exact hg.new b o u e
   ·exact .inr oM
  ·by_cases pR:b<w.heap.size
   ·simp only [F,if_pos pR]at e
    exact i'.mem b o u e
   ·simp only [F,if_neg pR]at e
    split at e
    ·cases e
    ·exact e
  ·refine⟨fun x hx=>?_,fun x b hb=>?_,fun x y b c c' hx hy e1 e2=>?_,fun x b c hx e o=>?_⟩
   ·obtain⟨b,hb⟩:=jI hx
    rw[List.all_eq_true]at jZ
    exact(i'.box x b (iZ.get pQ hb)).exb (jZ _ hb)
   ·exact cH.mono hMF (Nm.le_refl β') rfl (fun _ _ _=>rfl) (i'.box x b (iZ.get pQ hb))
   ·obtain⟨CY,h1⟩:=cI x hx
    obtain⟨bx2,h2⟩:=cI y hy
    exact i'.inj x y CY bx2 b c c' h1 h2 e1 e2
   ·obtain⟨CY,h1⟩:=cI x hx
    have hB:isB b:=⟨x,c,hx,e⟩
    by_cases pR:b<w.heap.size
    ·simp only [F,if_pos pR]
     exact i'.apart x CY b c h1 e o
    ·simp only [F,if_neg pR,if_pos hB]
  ·intro x b c hx e
   obtain⟨CY,h1⟩:=cI x hx
   rcases i'.low x CY b c h1 e with h|⟨y,c',hy,RM⟩
   ·exact .inl h
   ·exact .inr ⟨y,c',RM⟩
  ·intro k hk hnk
   exact kG.block k hk (by rintro⟨x,c,_,hx⟩;exact hnk x c hx)
 cases e with
 |ret=>
  simp only [LB]at hk
  split at hk
  ·rename_i ts qV;exact fin ts qV hk.1 hk.2
  ·exact hk.elim
 |normal=>
  simp only [LB]at hk
  split at hk
  ·rename_i ts qV;exact fin ts qV hk.1 hk.2
  ·exact hk.elim
 |_=>exact hk.elim
theorem fG{rc:List Nat}{f N:Nat}{fn:Func}{c:Code}{args:List AV}{bx:eO}{r:AV}{bx':eO}(hf:P.funcs[f]? =some fn)(hb:fn.body=some c)(hN:fn.ntmps=N)(dV:∀vs w,(callFunc f vs).run P w=.ok (.enter f vs) w)
  (hT:b5 P T) (hm:P.follows .mixedOrders=true) (hl:Nat.ble args.length N=true) (pP:((names bx).all fun x=>(names bx').contains x)=true) (jZ:(bx'.all fun p=>p.2.real)=true) {rs:List ResultVar} (LZ:fn.results.toList=rs)
  (h:∀cx:Cx,cx.ref=names bx→ex P T N (names bx) rc cx c (pM args bx) (LB T rs r bx')):bM P f args bx r bx':=
 gT hf hb hN dV hT hl pP jZ LZ fun cx aA=>ex.sound hT hm aA c (h cx aA)
end
theorem sk{p q:Prop}(h:q):(p→p)∧q:=⟨id,h⟩
theorem st{q:Prop}(h:q):True∧q:=⟨trivial,h⟩
theorem sg{b:Bool}{q:Prop}(h:q):PF (b=false) (some (tB false b))∧q:=⟨fun h=>by simpa [tB]using h,h⟩
theorem sn1{b c:Bool}{q:Prop}(h:q):imp (some c) (PF (b=true) (some (c&&tB true b)))∧q:=⟨fun h1 h2=>by simp[h1,h2,tB],h⟩
theorem sn0{b c:Bool}{q:Prop}(h:q):imp (some c) (PF (b=false) (some (c&&tB false b)))∧q:=⟨fun h1 h2=>by simp[h1,h2,tB],h⟩
theorem su{c:Bool}{p q:Prop}(h:q):imp (some c) (PF p none)∧q:=⟨fun _=>trivial,h⟩
theorem ob{p q:Prop}(h:p)(k:q):p∧q:=⟨h,k⟩
theorem oi{p q:Prop}(h:p)(k:q):imp none p∧q:=⟨h,k⟩
theorem og{p q:Prop}{b:Bool}(h:b=true→p)(k:q):(b=true→p)∧q:=⟨h,k⟩
theorem eJ{P:Program}{f:FuncId}{args:List AV}{r:AV}{K:AV→Prop}{b:Bool}{X:Prop}(h:aF P f args r)(k:K r):(∃r,(b=true→aF P f args r)∧K r)∨X:=.inl ⟨r,fun _=>h,k⟩
theorem aB{P:Program}{f:FuncId}{args:List AV}{r:AV}{K:AV→Prop}{X:Prop}(h:aF P f args r)(k:K r):(∃r,aF P f args r∧K r)∨X:=.inl ⟨r,h,k⟩
theorem aJ.xL{n m s:Nat}{f g:Nat→Nat→DV}(e:n=m)(h:∀i j,i<n→j<s→aJ (f i j) (g i j)):aJ (.fJ n s f) (.fJ m s g):=by subst e;exact aJ.fJ h
theorem q9.iX{σ:St}{c:Nat→DV}:∀{k j:Nat},q9 (iW σ (iX c k j)) (iX c k j)
 |0,_=>trivial
 |_+1,_=>⟨aJ.refl _,q9.iX⟩
abbrev aU(n:Int):Int:=IntKind.i64.wrap n
abbrev dI(x:Int):DV:=.val (.int .i64 x)
abbrev vI(x:Int):AV:=.s (.d (.val (.int .i64 x)))
abbrev vB(b:Bool):AV:=.s (.d (.val (.bool b)))
theorem aC.lit{b c:Bool}(h:b=c):aC (.s (.d (.lit b))) (vB c):=by subst h;exact fun _ _ r=>r
theorem aG{n:Int}(h: -9223372036854775808≤n)(k:n≤9223372036854775807):aU n=n:=by
 unfold aU
 exact IntWalk.i64_in n ⟨h,k⟩
def dM(l:List Int):Nat→Nat→DV:=fun i _=>dI (l.getD i 0)
def cG(l:List Int):DV:=.fJ l.length 1 (dM l)
abbrev kA(l:List Int):AV:=.s (.d (cG l))
end Go.Ax
namespace Go.Ax
open Go.RowKit
theorem dW{α:Type}(l:List α):(bif l.isEmpty then 0 else l.length)=l.length:=by cases l <;> rfl
theorem b9{α:Type}(l:List α)(x:α):(l++ [x]).isEmpty=false:=by cases l <;> rfl
theorem aQ.snoc{α:Type} [Inhabited α] {e s:Nat}{l:List α}{x:α}{el:α→Nat→DV}{g:Nat→Nat→DV}(hg:∀j,j<s→g 0 j=el x j):
  aQ (.row e ((bif l.isEmpty then 0 else l.length)+1) s (kM (bif l.isEmpty then 0 else l.length) (fun i=>el (l.getD i default)) g)) (.bW e (l++ [x]).length s (fun i=>el ((l++ [x]).getD i default))):=by
 rw[dW]
 refine aQ.bW sM fun i j hi hj=>aJ.of_eq ?_
 unfold kM
 by_cases h:i<l.length
 ·rw[if_pos h]
  simp only [List.getD_eq_getElem?_getD,List.getElem?_append_left h]
 ·have:i=l.length:=oM
  subst this
  rw[if_neg h,Nat.sub_self,hg j hj]
  simp only [List.getD_eq_getElem?_getD,List.getElem?_concat_length,Option.getD_some]
theorem xO{p:Nat→Prop}(h:p 0):∀j,j<1→p j:=fun j hj=>by match j,hj with|0,_=>exact h
theorem lt2{p:Nat→Prop}(h:p 0)(h1:p 1):∀j,j<2→p j:=fun j hj=>by match j,hj with|0,_=>exact h|1,_=>exact h1
theorem lt3{p:Nat→Prop}(h:p 0)(h1:p 1)(h2:p 2):∀j,j<3→p j:=fun j hj=>by match j,hj with|0,_=>exact h|1,_=>exact h1|2,_=>exact h2
theorem lt4{p:Nat→Prop}(h:p 0)(h1:p 1)(h2:p 2)(h3:p 3):∀j,j<4→p j:=fun j hj=>by match j,hj with|0,_=>exact h|1,_=>exact h1|2,_=>exact h2|3,_=>exact h3
theorem mT{s:Nat}{g:Nat→Nat→DV}(h:∀j,j<s→(g 0 j).fit=true):fitAll 1 s g:=fun k j hk hj=>by
 have:k=0:=oM
 subst this;exact h j hj
end Go.Ax
namespace Go.Ax
theorem aC.mo{α:Type}{l:List α}{s:Nat}{f:Nat→Nat→DV}:aC (.s (.d (.fJ (bif l.isEmpty then 0 else l.length) s f))) (.s (.d (.fJ l.length s f))):=aC.of_eq (by rw[dW])
theorem cR{β:Type}(f:Nat→Option β)(n:Nat):(List.range (n+1)).filterMap f=(List.range n).filterMap f++(f n).toList:=by
 rw[List.range_succ,List.filterMap_append]
 cases h:f n <;> simp[h]
end Go.Ax
namespace Go.Ax
def gH{α:Type} [Inhabited α] (s n:Nat)(f:Nat→Nat→DV)(el:α→Nat→DV)(l:List α):Prop:=n=l.length∧∀i j,i<n→j<s→f i j=el (l.getD i default) j
section
variable{α:Type} [Inhabited α] {s n e:Nat}{f g:Nat→Nat→DV}{el:α→Nat→DV}{l:List α}{x:α}
theorem gH.refl:gH s l.length (fun i=>el (l.getD i default)) el l:=⟨rfl,fun _ _ _ _=>rfl⟩
theorem gH.snoc(h:gH s n f el l)(hg:∀j,j<s→g 0 j=el x j):gH s (n+1) (kM n f g) el (l++ [x]):=by
 obtain⟨rfl,h⟩:=h
 refine⟨sM,fun i j hi hj=>?_⟩
 unfold kM
 by_cases hl:i<l.length
 ·rw[if_pos hl,h i j hl hj]
  simp only [List.getD_eq_getElem?_getD,List.getElem?_append_left hl]
 ·have:i=l.length:=oM
  subst this
  rw[if_neg hl,Nat.sub_self,hg j hj]
  simp only [List.getD_eq_getElem?_getD,List.getElem?_concat_length,Option.getD_some]
theorem gH.one(hg:∀j,j<s→g 0 j=el x j):gH s 1 g el [x]:=by
 refine⟨rfl,fun i j hi hj=>?_⟩
 have:i=0:=oM
 subst this
 exact hg j hj
theorem gH.row(h:gH s n f el l):aQ (.row e n s f) (.row e l.length s (fun i=>el (l.getD i default))):=
 aQ.row h.1 fun i j hi hj=>aJ.of_eq (h.2 i j hi hj)
theorem gH.fJ(h:gH s n f el l):aJ (.fJ n s f) (.fJ l.length s (fun i=>el (l.getD i default))):=
 aJ.xL h.1 fun i j hi hj=>aJ.of_eq (h.2 i j hi hj)
end
theorem aM.lit{b c:Bool}(h:b=c):aM (.s (.d (.lit b))) (.s (.d (.val (.bool c)))):=by subst h;exact fun _ _ _ r=>r
theorem aM.int{x y:Int}(h:x=y):aM (.s (.d (.val (.int .i64 x)))) (vI y):=by subst h;exact aM.rfl
theorem aM.bool{x y:Bool}(h:x=y):aM (.s (.d (.val (.bool x)))) (vB y):=by subst h;exact aM.rfl
end Go.Ax
namespace Go.Ax
theorem aR{p q:Prop}(h:q)(hp:p:=by first|exact id|exact trivial|exact (sg trivial).1|exact (sh trivial).1|exact (su trivial).1|exact (sn1 trivial).1|exact (sn0 trivial).1):p∧q:=⟨hp,h⟩
theorem aD{p q:Prop}(h:q)(hp:p:=by kernel_rfl):p∧q:=⟨hp,h⟩
theorem aI{p q:Prop}(h:p)(k:q):p∧q:=⟨h,k⟩
theorem rQ.{u,v}{α:Sort u}{β:Sort v}{a:α}{b:β}:a=a∧b=b:=⟨rfl,rfl⟩
theorem oO:True:=trivial
def Rd(P:Program)(t:TypeId)(k:Nat){α:Type}(rep:α→List SV)(ok:α→Prop):Prop:=
 P.cellsOf t=k∧∀(H:Type) (enc:TypeId×Value→H) (W:World) (base:Nat) (spare:Nat→Bool) (held:Bool) (fuel:Nat) (cs:List Value) (x:DataW H×List MemPlace),
  DataW.trod enc P W base spare held fuel t cs=some x→cs.length=k∧∃a,ok a∧cK (full W) nb (rep a) cs
theorem aFX{P:Program}{t:TypeId}{k:IntKind}(ht:P.underlying t=some (.int k))(hc:P.cellsOf t=1):
  Rd P t 1 (fun n:Int=>[.d (.val (.int k n))]) (fun n=>(Lit.int k n).wf=true):=by
 refine⟨hc,fun H enc W base spare held fuel cs x h=>?_⟩
 obtain⟨n,rfl,_,hw⟩:=DataW.trod_int ht h
 exact⟨rfl,n,hw,rfl,trivial⟩
theorem aFW{P:Program}{t:TypeId}(ht:P.underlying t=some .string)(hc:P.cellsOf t=1):
  Rd P t 1 (fun s:ByteArray=>[.d (.val (.string s))]) (fun s=>s.size≤9223372036854775807):=by
 refine⟨hc,fun H enc W base spare held fuel cs x h=>?_⟩
 obtain⟨n,rfl,_,hs⟩:=DataW.trod_string ht h
 exact⟨rfl,n,hs,rfl,trivial⟩
theorem Rd.to{P:Program}{t:TypeId}{k:Nat}{α β:Type}{rep:α→List SV}{ok:α→Prop}{Y6:β→List SV}{ok':β→Prop}(h:Rd P t k rep ok)(g:α→β)(hr:∀a,Y6 (g a)=rep a)(ho:∀a,ok a→ok' (g a)):Rd P t k Y6 ok':=by
 refine⟨h.1,fun H enc W base spare held fuel cs x e=>?_⟩
 obtain⟨hl,a,ha,dU⟩:=h.2 H enc W base spare held fuel cs x e
 exact⟨hl,g a,ho a ha,by rw[hr];exact dU⟩
theorem Y5{M:Mem}{β:Nm}{el:Nat→DV}:∀{cs:List SV} {vs:List Value},cK M β cs vs→(∀j,j<cs.length→cs[j]? =some (.d (el j)))→∀j,j<cs.length→∃u,vs[j]? =some u∧(el j).a7 M u:=by
 intro cs vs hr he j hj
 obtain⟨u,hu,r⟩:=hr.get (he j hj)
 exact⟨u,hu,r⟩
theorem ZF{P:Program}{t e:TypeId}{s:Nat}{α:Type} [Inhabited α] {rep:α→List SV}{ok:α→Prop}(ht:P.underlying t=some (.slice e))(hc:P.cellsOf t=1)(h:Rd P e s rep ok)(hs:0<s)
  (el:α→Nat→DV) (hl:∀a,(rep a).length=s) (hel:∀a j,j<s→(rep a)[j]? =some (.d (el a j))):
  Rd P t 1 (fun l:List α=>[.d (.fJ l.length s fun i=>el (l.getD i default))]) (fun l=>l.length≤9223372036854775807∧∀a∈l,ok a):=by
 refine⟨hc,fun H enc W base spare held fuel cs x hx=>?_⟩
 rcases Go.Deep.open_slice ht hx with⟨rfl,_⟩|⟨a,len,cap,m,n,D,Pl,rfl,hb,hle,hm,hmm,_,cN⟩
 ·exact⟨rfl,[],⟨sM,sM⟩,⟨none,0,rfl,Nat.le_refl _,.inl rfl⟩,trivial⟩
 ·have hlm:len≤m:=by rw[hmm];split <;> omega
  have key:∀i,i<len→∃v:α,ok v∧∀j,j<s→∃u,W.cell? (a.add (i*s+j))=some u∧(el v j).a7 (full W) u:=by
   intro i hi
   obtain⟨cs',h1,h2⟩:=cN i oM
   obtain⟨hlen,v,hv,hr⟩:=h.2 H enc W base spare held n cs' _ h2
   refine⟨v,hv,fun j hj=>?_⟩
   obtain⟨u,hu,r⟩:=Y5 (el:=el v) hr (fun j hj=>hel v j (by rw[hl]at hj;exact hj)) j (by rw[hl];exact hj)
   obtain⟨_,_,h3⟩:=World.cells?_some h1
   have:=h3 j (by rw[h.1];exact hj)
   rw[hu,Go.Deep.add_add,h.1]at this
   exact⟨u,this,r⟩
  obtain⟨F,hF⟩:=Go.Deep.choose_lt key
  refine⟨rfl,(List.range len).map F,⟨by have:maxLen=9223372036854775807:=rfl;simp;omega,?_⟩,⟨some a,cap,sM,by simpa using hle,?_⟩,trivial⟩
  ·intro v hv
   simp only [List.mem_map,List.mem_range]at hv
   obtain⟨i,hi,rfl⟩:=hv
   exact(hF i hi).1
  ·by_cases h0:len=0
   ·exact .inl (by simp[h0])
   right
   obtain⟨u0,hu0,_⟩:=(hF 0 oM).2 0 hs
   obtain⟨b,o,spot⟩:=a
   have aJA:spot=none:=by
    have:=World.cell?_spot hu0
    simpa [Addr.add]using this
   subst aJA
   refine⟨b,o,rfl,fun i j hi hj=>?_⟩
   simp only [List.length_map,List.length_range]at hi
   obtain⟨u,hu,r⟩:=(hF i hi).2 j hj
   refine⟨u,?_,?_⟩
   ·rw[jK,←Nat.add_assoc]at hu
    exact hu
   ·show(el (((List.range len).map F).getD i default) j).a7 (full W) u
    rw[show((List.range len).map F).getD i default=F i by simp[hi]]
    exact r
def RdF(P:Program)(fs:List Field)(off k:Nat){α:Type}(rep:α→List SV)(ok:α→Prop):Prop:=
 ∀(H:Type) (enc:TypeId×Value→H) (W:World) (base:Nat) (spare:Nat→Bool) (held:Bool) (n:Nat) (cs:List Value),cs.length=k→
  (∀f∈fs,∃x,DataW.trod enc P W base spare held n f.type ((cs.drop f.offset).take (P.cellsOf f.type))=some x)→∃a,ok a∧cK (full W) nb (rep a) (cs.drop off)
theorem aCV{P:Program}{k:Nat}:RdF P [] k k (fun _:Unit=>[]) (fun _=>True):=by
 intro H enc W base spare held n cs hk _
 rw[List.drop_eq_nil_of_le oM]
 exact⟨(),trivial,trivial⟩
theorem jH{P:Program}{f:Field}{fs:List Field}{off k s:Nat}{α β:Type}{rep:α→List SV}{ok:α→Prop}{Y6:β→List SV}{ok':β→Prop}
  (ho:f.offset=off) (h:Rd P f.type s rep ok) (r:RdF P fs (off+s) k Y6 ok'):RdF P (f::fs) off k (fun a:α×β=>rep a.1++Y6 a.2) (fun a=>ok a.1∧ok' a.2):=by
 intro H enc W base spare held n cs hk hf
 obtain⟨x,hx⟩:=hf f sM
 obtain⟨hlen,a,ha,hr⟩:=h.2 H enc W base spare held n _ x hx
 obtain⟨b,hb,BZ⟩:=r H enc W base spare held n cs hk (fun g hg=>hf g (by simp[hg]))
 refine⟨(a,b),⟨ha,hb⟩,?_⟩
 rw[h.1,ho]at hr
 have:=hr.append BZ
 rw[←List.drop_drop,List.take_append_drop]at this
 exact this
theorem VT{P:Program}{t:TypeId}{fs:Array Field}{l:List Field}{k:Nat}{α:Type}{rep:α→List SV}{ok:α→Prop}(ht:P.underlying t=some (.struct fs))(hl:fs.toList=l)(hc:P.cellsOf t=k)(h:RdF P l 0 k rep ok):
  Rd P t k rep ok:=by
 refine⟨hc,fun H enc W base spare held fuel cs x hx=>?_⟩
 obtain⟨xs,n,_,_,hlen,hxl,hf⟩:=DataW.trod_struct ht hx
 obtain⟨a,ha,hr⟩:=h H enc W base spare held n cs (by rw[hlen,hc]) (fun f hfm=>by
  rw[←hl]at hfm
  obtain⟨i,hi,e⟩:=List.getElem_of_mem hfm
  have h1:fs[i]? =some f:=by
   rw[←Array.getElem?_toList,List.getElem?_eq_getElem hi,e]
  have:=hf i f h1
  rw[List.getElem?_eq_getElem (by rw[hxl];simpa using hi)]at this
  exact⟨_,this⟩)
 exact⟨by rw[hlen,hc],a,ha,by simpa using hr⟩
def RdA(P:Program)(t:TypeId){α:Type}(rep:α→AV)(ok:α→Prop):Prop:=
 ∀(H:Type) (enc:TypeId×Value→H) (W:World) (b0 base:Nat) (spare:Nat→Bool) (held:Bool) (v:Value) (d:DataW H) (ps:List MemPlace),
  Value.okWide P W .any b0 t v→DataW.Trod enc P W base spare held t v d ps→∃a,ok a∧(rep a).a7 (full W) nb v
theorem aCW{P:Program}{t:TypeId}{fs:Array Field}{k:Nat}{α:Type}{rep:α→List SV}{ok:α→Prop}(ht:P.underlying t=some (.struct fs))(h:Rd P t k rep ok):RdA P t (fun a=>.g (rep a)) ok:=by
 intro H enc W b0 base spare held v d ps hv ⟨fuel,hx⟩
 simp only [Value.okWide,ht]at hv
 obtain⟨cs,rfl,_⟩:=hv
 obtain⟨_,a,ha,hr⟩:=h.2 H enc W base spare held fuel _ _ hx
 exact⟨a,ha,cs.toList,sM,hr⟩
def ZK:TypeDesc→Bool
 |.bool=>true
 |.int _=>true
 |.string=>true
 |.slice _=>true
 |_=>false
theorem aK3{P:Program}{t:TypeId}{td:TypeDesc}{α:Type}{rep:α→SV}{ok:α→Prop}(ht:P.underlying t=some td)(hp:ZK td=true)(h:Rd P t 1 (fun a=>[rep a]) ok):RdA P t (fun a=>.s (rep a)) ok:=by
 intro H enc W b0 base spare held v d ps hv ⟨fuel,hx⟩
 obtain⟨_,a,ha,hr⟩:=h.2 H enc W base spare held fuel _ _ hx
 have hc:v.cells.toList=[v]:=by
  cases v <;> first
   |rfl
   |(simp only [Value.okWide,ht]at hv
     cases td <;> simp_all [Cell.okWide,Cell.ok,ZK])
 rw[hc]at hr
 exact⟨a,ha,hr.1⟩
end Go.Ax
namespace Go.Ax.aK0
open Ieee
theorem VJ(r:Nat)(h:r<double.infRung):∃m i,double.read r=.number false m i∧m<2^53∧(i=double.leastPlace∨i=double.leastPlace+((r / 4503599627370496 - 1:Nat):Int)):=by
 have e1:double.signWeight=9223372036854775808:=by decide
 have e2:double.binade=4503599627370496:=by decide
 have e3:double.infRung=9218868437227405312:=by decide
 have e53:(2:Nat)^53=9007199254740992:=by decide
 rw[e53]
 have fR:r<9223372036854775808:=by omega
 have hq:r / 9223372036854775808=0:=Nat.div_eq_of_lt fR
 have hm:r%9223372036854775808=r:=Nat.mod_eq_of_lt fR
 unfold Format.read
 rw[e1,hq,hm,e2]
 by_cases hs:r<4503599627370496
 ·rw[if_pos hs]
  exact⟨r,_,rfl,by omega,.inl rfl⟩
 ·rw[if_neg hs,if_pos h]
  refine⟨_,_,rfl,?_,.inr rfl⟩
  have:=Nat.mod_lt r (show 0<4503599627370496 by decide)
  omega
theorem aHA(n drop:Nat)(h:n<2^53*2^drop):Toward.even.cut false n drop≤2^53:=by
 unfold Toward.cut
 simp only
 have hb:∀b:Bool,b.toNat≤1:=fun b=>by cases b <;> decide
 have hg:n / 1<<<min drop (n.log2+2)<2^53:=by
  rw[Nat.shiftLeft_eq,Nat.one_mul]
  by_cases hd:drop≤n.log2+2
  ·rw[Nat.min_eq_left hd]
   exact Nat.div_lt_of_lt_mul (by rw[Nat.mul_comm];exact h)
  ·rw[Nat.min_eq_right (by omega)]
   have:n<2^(n.log2+2):=Nat.lt_trans Nat.lt_log2_self (Nat.pow_lt_pow_right (by decide) (by omega))
   rw[Nat.div_eq_of_lt this]
   decide
 have:=hb (decide (1<<<min drop (n.log2+2)<2*(n%1<<<min drop (n.log2+2)))||(1<<<min drop (n.log2+2)==2*(n%1<<<min drop (n.log2+2))&&n / 1<<<min drop (n.log2+2)%2==1))
 omega
theorem AG(rC:Nat)(place:Int)(h0:rC≠0)(CP:double.leastPlace≤place+rC.log2 - 52)(RW:place+rC.log2≤900):
  ∃m i,double.read (double.nearest false rC place)=.number false m i∧m<2^53∧i≤place+rC.log2 - 51∧ -1074≤i:=by
 have e0:double.fractionBits=52:=rfl
 have e2:double.binade=4503599627370496:=by decide
 have e3:double.infRung=9218868437227405312:=by decide
 have e4:double.leastPlace= -1074:=by decide
 have tZ:max (place+(rC.log2:Int) - (double.fractionBits:Int)) double.leastPlace=place+rC.log2 - 52:=by
  rw[e0]
  exact Int.max_eq_left CP
 have aEU:Toward.even.cut false (rC<<<(place - (place+rC.log2 - 52)).toNat) ((place+(rC.log2:Int) - 52) - place).toNat≤2^53:=by
  apply aHA
  rw[Nat.shiftLeft_eq]
  have hm:rC<2^(rC.log2+1):=Nat.lt_log2_self
  by_cases hk:52≤rC.log2
  ·have h1:(place - (place+rC.log2 - 52)).toNat=0:=by omega
   have h2:((place+(rC.log2:Int) - 52) - place).toNat=rC.log2 - 52:=by omega
   rw[h1,h2,Nat.pow_zero,Nat.mul_one,←Nat.pow_add]
   rw[show 53+(rC.log2 - 52)=rC.log2+1 by omega]
   exact hm
  ·have h1:(place - (place+rC.log2 - 52)).toNat=52 - rC.log2:=by omega
   have h2:((place+(rC.log2:Int) - 52) - place).toNat=0:=by omega
   rw[h1,h2,Nat.pow_zero,Nat.mul_one]
   calc rC*2^(52 - rC.log2)<2^(rC.log2+1)*2^(52 - rC.log2):=Nat.mul_lt_mul_of_pos_right hm (Nat.two_pow_pos _)
    _=2^53:=by rw[←Nat.pow_add];congr 1;omega
 unfold Format.nearest
 rw[if_neg h0,tZ]
 simp only [Format.word,Bool.false_eq_true,if_false]
 have e53:(2:Nat)^53=9007199254740992:=by decide
 rw[e53]at aEU
 generalize Toward.even.cut false (rC<<<(place - (place+rC.log2 - 52)).toNat) ((place+(rC.log2:Int) - 52) - place).toNat=kept at aEU ⊢
 rw[e2,e3,e4]
 have hA:(place+(rC.log2:Int) - 52 - -1074).toNat=(place+rC.log2+1022).toNat:=by congr 1;omega
 rw[hA]
 generalize hAe:(place+(rC.log2:Int)+1022).toNat=A
 rw[e4]at CP
 have hAi:(A:Int)=place+rC.log2+1022:=by omega
 have hA1:A≤1922:=by omega
 have aGM:min (A*4503599627370496+kept) 9218868437227405312=A*4503599627370496+kept:=by
  apply Nat.min_eq_left
  omega
 rw[aGM]
 have fR:A*4503599627370496+kept<double.infRung:=by
  rw[e3]
  clear aGM CP RW hAi tZ hA
  omega
 obtain⟨m,i,hr,hm,hi⟩:=VJ _ fR
 rw[e4]at hi
 refine⟨m,i,hr,hm,?_⟩
 have hdiv:(A*4503599627370496+kept) / 4503599627370496≤A+2:=by
  have h1:A*4503599627370496+kept≤(A+2)*4503599627370496:=by
   rw[Nat.add_mul]
   clear aGM CP RW hAi tZ hA fR hr hi
   omega
  have h2:=Nat.div_le_div_right (c:=4503599627370496) h1
  rw[Nat.mul_div_cancel _ (by decide)]at h2
  exact h2
 generalize (A*4503599627370496+kept) / 4503599627370496=D at hdiv hi
 rcases hi with rfl|rfl
 ·exact⟨by omega,by omega⟩
 ·exact⟨by omega,by omega⟩
theorem DA(n:Nat):∀(todo root:Nat),root*root≤n→Datum.rootFrom n todo root*Datum.rootFrom n todo root≤n
 |0,_,h=>h
 |todo+1,root,h=>by
  unfold Datum.rootFrom
  simp only
  apply DA n todo
  split
  ·assumption
  ·exact h
theorem LP{a b:Nat}(h0:a≠0)(h:a<2^(b+1)):a.log2≤b:=by
 have:=Nat.log2_self_le h0
 exact Nat.le_of_lt_succ ((Nat.pow_lt_pow_iff_right (by decide:1<2)).1 (Nat.lt_of_le_of_lt this h))
theorem QZ(s:Int)(h0:0≤s)(hs:s<2^43):∃r n,FloatKind.f64.format.sqrt (FloatKind.f64.nearest s)=some r∧(FloatKind.f64.decode r).toInt .zero=some n∧0≤n∧n<2^24:=by
 have e4:double.leastPlace= -1074:=by decide
 have e0:double.fractionBits=52:=rfl
 have hf:FloatKind.f64.format=double:=rfl
 by_cases hz:s=0
 ·subst hz
  exact⟨0,0,by decide+kernel,by decide+kernel,by decide,by decide⟩
 obtain⟨k,rfl⟩:=Int.eq_ofNat_of_zero_le h0
 have RU:k≠0:=by intro h;exact hz (by simp[h])
 have hk:k<2^43:=by exact_mod_cast hs
 have hlk:k.log2≤42:=LP RU hk
 have hn:FloatKind.f64.nearest (k:Int)=double.nearest false k 0:=by
  unfold FloatKind.nearest FloatKind.encode
  rw[hf]
  have:decide ((k:Int)<0)=false:=by simp
  simp only [this,Int.natAbs_natCast,Format.write]
 obtain⟨m,i,hr,hm,hi,hi2⟩:=AG k 0 RU (by rw[e4];omega) (by omega)
 obtain⟨d,hd,hdn⟩:∃d,(Datum.number false m i).root 54=some d∧∃rC p,d=.number false rC p∧(rC=0∨(rC≠0∧p+rC.log2≤22∧ -1022≤p+rC.log2)):=by
  by_cases hm0:m=0
  ·subst hm0
   exact⟨_,rfl,0,i,rfl,.inl rfl⟩
  ·unfold Datum.root
   simp only [hm0,if_false]
   have hlm:m.log2≤52:=LP hm0 hm
   have aNE:((2*54 - m.log2:Nat):Int)=108 - m.log2:=by omega
   obtain⟨q,hq,hq2⟩:∃q:Nat,((i - ((2*54 - m.log2:Nat):Int))%2).toNat=q∧q≤1:=⟨_,rfl,by omega⟩
   rw[hq]
   have hn0:(m<<<(2*54 - m.log2+q))<2^110:=by
    rw[Nat.shiftLeft_eq]
    calc m*2^(2*54 - m.log2+q)<2^(m.log2+1)*2^(2*54 - m.log2+q):=Nat.mul_lt_mul_of_pos_right Nat.lt_log2_self (Nat.two_pow_pos _)
     _=2^(109+q):=by rw[←Nat.pow_add];congr 1;omega
     _≤2^110:=Nat.pow_le_pow_right (by decide) (by omega)
   have hn1:1≤m<<<(2*54 - m.log2+q):=by
    rw[Nat.shiftLeft_eq]
    exact Nat.mul_pos (Nat.pos_of_ne_zero hm0) (Nat.two_pow_pos _)
   generalize hN:m<<<(2*54 - m.log2+q)=N at hn0 hn1 ⊢
   have hsq:=DA N (N.log2 / 2+1) 0 (by omega)
   generalize Datum.rootFrom N (N.log2 / 2+1) 0=root at hsq ⊢
   have aM9:root<2^55:=by
    rcases Nat.lt_or_ge root (2^55)with h|h
    ·exact h
    ·have:=Nat.mul_le_mul h h
     have e:(2:Nat)^55*2^55=2^110:=by decide
     omega
   have hb:(root*root !=N).toNat≤1:=by cases(root*root !=N) <;> decide
   generalize (root*root !=N).toNat=bb at hb
   refine⟨_,rfl,2*root+bb,_,rfl,?_⟩
   by_cases hz2:2*root+bb=0
   ·exact .inl hz2
   ·right
    have hl:(2*root+bb).log2≤55:=LP hz2 (by omega)
    refine⟨hz2,?_,?_⟩
    ·omega
    ·omega
 obtain⟨rC,p,rfl,hmp⟩:=hdn
 have hsq:FloatKind.f64.format.sqrt (FloatKind.f64.nearest (k:Int))=some (double.nearest false rC p):=by
  rw[hf,hn]
  unfold Format.sqrt
  rw[hr,e0,hd]
  rfl
 rcases hmp with rfl|⟨h1,h2,h3⟩
 ·refine⟨_,0,hsq,?_,by decide,by decide⟩
  have:double.nearest false 0 p=0:=rfl
  rw[this]
  decide+kernel
 ·obtain⟨m',i',BZ,QQ,bN,aNG⟩:=AG rC p h1 (by rw[e4];omega) (by omega)
  have hg:FloatKind.f64.decode (double.nearest false rC p)=.number false m' i':=BZ
  refine⟨_,_,hsq,by rw[hg];rfl,?_⟩
  simp only [signed,Bool.false_eq_true,if_false,Nat.shiftLeft_zero]
  have RV:i'.toNat=0:=by omega
  rw[RV,Nat.shiftLeft_zero]
  unfold Toward.cut
  simp only [Bool.toNat_false,Nat.add_zero]
  refine⟨Int.natCast_nonneg _,?_⟩
  have:m' / 1<<<min (-i').toNat (m'.log2+2)<2^24:=by
   rw[Nat.shiftLeft_eq,Nat.one_mul]
   by_cases hd:(-i').toNat≤m'.log2+2
   ·rw[Nat.min_eq_left hd]
    apply Nat.div_lt_of_lt_mul
    calc m'<2^53:=QQ
     _=2^29*2^24:=by decide
     _≤2^(-i').toNat*2^24:=Nat.mul_le_mul_right _ (Nat.pow_le_pow_right (by decide) (by omega))
   ·rw[Nat.min_eq_right (by omega)]
    have:m'<2^(m'.log2+2):=Nat.lt_trans Nat.lt_log2_self (Nat.pow_lt_pow_right (by decide) (by omega))
    rw[Nat.div_eq_of_lt this]
    decide
  exact_mod_cast this
end Go.Ax.aK0
namespace Go.Ax
open Go.RowKit
def aLC(bx':eO):Exit→St→Prop
 |.ret,σ=>iZ σ.box bx'
 |.normal,σ=>iZ σ.box bx'
 |_,_=>False
section
variable{P:Program}{T:List (Nat×bJ)}
theorem qP{rc:List Nat}{f N:Nat}{fn:Func}{c:Code}{args:List AV}{bx:eO}{bx':eO}(hf:P.funcs[f]? =some fn)(hb:fn.body=some c)(hN:fn.ntmps=N)(dV:∀vs w,(callFunc f vs).run P w=.ok (.enter f vs) w)
  (hT:b5 P T) (hm:P.follows .mixedOrders=true) (hl:Nat.ble args.length N=true) (jZ:(bx'.all fun p=>p.2.real)=true) (LZ:fn.results.toList=[])
  (h:∀cx:Cx,cx.ref=names bx→ex P T N (names bx) rc cx c (pM args bx) (aLC bx')):bM P f args bx (.t []) bx':=by
 classical
 refine⟨dV,fun M β w vs hG hr hM qE hβ=>?_⟩
 refine calls_of_wp hf hb ?_
 let cx:Cx:={B:=w.heap.size,ref:=names bx,β0:=β}
 have hlen:=hr.length
 have hl:=Nat.le_of_ble_eq_true hl
 have hex:∀x,x∈names bx→∃p,β x=some p:=fun x hx=>by
  obtain⟨k,c,e⟩:=qE.has x hx
  exact⟨_,e⟩
 have i0:Inv cx N M β (pM args bx) {tmps:=vs.toArray++Array.replicate (fn.ntmps - vs.toArray.size) undef,defers:=[]} w:=by
  refine⟨rfl,by simp;omega,⟨Nat.le_refl _,by obtain⟨bs,hG,hN2⟩:=hG;exact⟨bs,hG,fun g t m=>⟨hG.lt m,by rintro⟨x,c,_,hx⟩;exact hN2 g t m x c hx⟩⟩⟩,fun t=>?_,hM,fun x p e=>gC.has (hβ x p e),fun x b e=>qE.rep x b (gC.get e),fun x y b1 b2 b c c' h1 h2 e1 e2=>?_,fun x b1 b c h1 e=>?_,fun x b1 b c h1 e=>?_,fun x hx=>⟨rfl,hex x hx⟩⟩
  ·have:=rY.rep (k:=0) (t:=t) (List.replicate (fn.ntmps - vs.length) undef) hr (Nat.zero_le _)
   simp only [Nat.sub_zero]at this
   simp only [pM]
   have e:(vs.toArray++Array.replicate (fn.ntmps - vs.toArray.size) undef).getD t undef=(vs++List.replicate (fn.ntmps - vs.length) undef).getD t undef:=by
    simp[←List.toArray_replicate]
   rw[e]
   exact this
  ·exact qE.inj x y b c c' (cX (gC.get h1)) (cX (gC.get h2)) e1 e2
  ·exact qE.apart x b c (cX (gC.get h1)) e
  ·exact .inr ⟨x,c,cX (gC.get h1),e⟩
 refine wp_mono (wpIn_wide.1 (ex.sound hT hm (cx:=cx) rfl c (h cx rfl) M β _ w i0)) ?_
 rintro e a' w' ⟨σ',M',β',hk,i',hg,kG⟩
 have fin:iZ σ'.box bx'→a'.defers=[]∧∃v,(results fn a'.tmps).run P w'=.ok v w'∧∃v' M' β',Ending.returned v=.returned v'∧Nm.le β β'∧(AV.t []).a7 M' β' v'∧Grow w.heap.size M M'∧kF M' w'∧qR M' β' w' bx'∧
   (∀x b c,x∈names bx'→β' x=some (b,c)→w.heap.size≤b∨∃y c',β y=some (b,c'))∧
   w'.os=w.os∧w'.tape=w.tape∧w'.output=w.output∧w.heap.size≤w'.heap.size∧(∀k,k<w.heap.size→(∀y c,β y≠some (k,c))→w'.heap[k]? =w.heap[k]?)∧Dr w w':=by
  intro pQ
  have cI:∀x,x∈names bx'→∃b,aH σ'.box x=some (some b):=fun x hx=>by
   obtain⟨b,hb⟩:=jI hx
   exact⟨b,iZ.get pQ hb⟩
  refine⟨i'.defers,.tuple #[],?_,_,M',β',rfl,?_,⟨[],rfl,trivial⟩,hg,i'.mem,?_,?_,kG.os,kG.tape,kG.output,kG.size,?_,kG.drawn⟩
  ·have e0:fn.results= #[]:=by
    rw[←Array.toArray_toList (xs:=fn.results),LZ]
   have:(fn.results.mapM (lB a'.tmps)).run P w'=.ok #[] w':=by
    rw[e0];simp only [Array.mapM_empty,Sem.run_pure]
   have e:results fn a'.tmps=(do let vs←fn.results.mapM (lB a'.tmps);pure (if h:vs.size=1 then vs[0]else .tuple vs)):=by
    unfold results
    congr 1
   rw[e]
   simp only [Sem.run_bind,this,Result.andThen,Sem.run_pure]
   rfl
  ·intro x p e
   rw[(i'.ref x (hβ x p e)).1]
   exact e
  ·refine⟨fun x hx=>?_,fun x b hb=>i'.box x b (iZ.get pQ hb),fun x y b c c' hx hy e1 e2=>?_,fun x b c hx e o=>?_⟩
   ·obtain⟨b,hb⟩:=jI hx
    rw[List.all_eq_true]at jZ
    exact(i'.box x b (iZ.get pQ hb)).exb (jZ _ hb)
   ·obtain⟨CY,h1⟩:=cI x hx
    obtain⟨bx2,h2⟩:=cI y hy
    exact i'.inj x y CY bx2 b c c' h1 h2 e1 e2
   ·obtain⟨CY,h1⟩:=cI x hx
    exact i'.apart x CY b c h1 e o
  ·intro x b c hx e
   obtain⟨CY,h1⟩:=cI x hx
   rcases i'.low x CY b c h1 e with h|⟨y,c',hy,RM⟩
   ·exact .inl h
   ·exact .inr ⟨y,c',RM⟩
  ·intro k hk hnk
   exact kG.block k hk (by rintro⟨x,c,_,hx⟩;exact hnk x c hx)
 cases e with
 |ret=>exact fin hk
 |normal=>exact fin hk
 |_=>exact hk.elim
end
theorem aP.aF7{cx:Cx}{N:Nat}{σ:St}{e n s:Nat}{f:Nat→Nat→DV}{z:Bool}{cs:List SV}(y0 j x:Nat)(hy0:aH σ.box y0=some (some (.cells cs)))(hj:cs[j]? =some (.mo z x))(hz:z=false)(hb:aH σ.box x=some (some (.bW e n s f))):
  aP cx N σ ⟨σ.env,(x,some (.row e n s f))::σ.box⟩:=by
 intro M β a w i
 obtain⟨_,_,vs,_,_,_,_,hr⟩:=i.box y0 _ hy0
 obtain⟨v,_,r⟩:=hr.get hj
 obtain⟨b,c,hx,hv,hc⟩:=r.2 hz
 obtain⟨cur,h1,h2,h3,h4,h5,h6⟩:=i.box x _ hb b c hx
 have live:∀y bc,aH ((x,some (.row e n s f))::σ.box) y=some (some bc)→∃bc,aH σ.box y=some (some bc):=by
  intro y bc h
  rw[aL]at h
  by_cases hy:x=y
  ·subst hy;exact⟨_,hb⟩
  ·rw[if_neg hy]at h;exact⟨_,h⟩
 refine⟨β,i.defers,i.tmps,i.heap,?_,i.mem,?_,?_,?_,?_,?_,i.ref⟩
 ·exact i.env
 ·intro y p h
  obtain⟨z,hz⟩:=i.keys y p h
  show ∃y',aH ((x,_)::σ.box) y=some y'
  rw[aL]
  by_cases hy:x=y
  ·rw[if_pos hy];exact⟨_,rfl⟩
  ·rw[if_neg hy];exact⟨z,hz⟩
 ·intro y bc h
  have h:aH ((x,some (.row e n s f))::σ.box) y=some (some bc):=h
  rw[aL]at h
  by_cases hy:x=y
  ·subst hy
   rw[if_pos rfl]at h
   cases h
   exact⟨b,c,cur,hx,h1,h2,h3,h4,h5,h6⟩
  ·rw[if_neg hy]at h;exact i.box y bc h
 ·intro y y' bx bx' b1 c1 c2 e1 e2 g1 g2
  obtain⟨_,e1⟩:=live _ _ e1
  obtain⟨_,e2⟩:=live _ _ e2
  exact i.inj y y' _ _ b1 c1 c2 e1 e2 g1 g2
 ·intro y bx b1 c1 e1 g1
  obtain⟨_,e1⟩:=live _ _ e1
  exact i.apart y _ b1 c1 e1 g1
 ·intro y bx b1 c1 e1 g1
  obtain⟨_,e1⟩:=live _ _ e1
  exact i.low y _ b1 c1 e1 g1
end Go.Ax
