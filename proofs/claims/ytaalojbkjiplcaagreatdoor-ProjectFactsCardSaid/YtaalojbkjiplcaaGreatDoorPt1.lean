/- Part 1: lemmas that the proofs of this seat share; by itself it claims nothing. -/
import Derived.Below
import Derived.Lib.LaidTab
import Derived.Lib.ItoaNum
import Derived.Orders
import Derived.Laws.AppendOwn
import Derived.KernelRfl
import Derived.Tactics
import Derived.TacticsIn
import Derived.OrdersIn
import Derived.Laws.Bits
import Derived.Laws.Slices
import Derived.Laws.Small
import Derived.Laws.Cells
import Derived.Laws.StructEq
import Derived.Laws.NewFold
import Derived.Great.BuildSlice
import Derived.Laws.Append
import Derived.IntWalk
import Derived.Lib.ConvBytes
import Derived.Laws.CopyRow
import Derived.Laws.IdiomCopy
import Derived.Maps.RangeRun
import Derived.Carry
--AxTab
namespace Go.Ax
def ZJ:Array Value:=(Go.Lib.pow10Tab.map fun z=>Value.int .u64 z).toArray
structure aB6 where
 t2:TypeId
 p2:Value
 t3:TypeId
 p3:Value
 m:Int
def rH(x:aB6):List (Nat×Array Value):=
 [(0, #[.int .i64 x.m]),(1,ZJ),(4, #[.iface x.t2 x.p2]),(5, #[.iface x.t3 x.p3])]
def K5:List Nat:=[185]
def aHT:List Nat:=[146]
end Go.Ax
namespace Go
theorem oM{p:Prop}(h:p:=by omega):p:=h
theorem kR{p:Prop}(h:p:=by kernel_rfl):p:=h
theorem dC{p:Prop}(h:p:=by decide):p:=h
theorem sM{p:Prop}(h:p:=by simp):p:=h
end Go
namespace Go.Ax
open Go

end Go.Ax
namespace Go.Ax
open Go.RowKit
abbrev Mem:=Nat→Nat→Option Value
abbrev Nm:=Nat→Option (Nat×(Nat×Nat))
inductive DV where
 |val (v:Value)
 |lit (b:Bool)
 |rp (m:Nat) (f:Nat→DV)
 |fJ (n s:Nat) (f:Nat→Nat→DV)
 |dQ (f:FuncId) (k:Nat) (c:Nat→DV)
 |bnd (f:FuncId) (n:Nat) (c:Nat→DV)
 |err (b:Bool)
 |bC
def DV.a7(M:Mem):DV→Value→Prop
 |.val u,v=>v=u
 |.lit b,v=>v=.bool b
 |.rp m f,v=>∃b o,v=.pointer (some ⟨b,o,none⟩)∧∀j,j<m→∃u,M b (o+j)=some u∧(f j).a7 M u
 |.fJ n s f,v=>∃a cap,v=.slice a n cap∧n≤cap∧(n=0∨∃b o,a=some ⟨b,o,none⟩∧∀i j,i<n→j<s→∃u,M b (o+i*s+j)=some u∧(f i j).a7 M u)
 |.dQ f k c,v=>∃cs:List Value,v=.func (.func f) #[] cs.toArray∧cs.length=k∧∀i u,cs[i]? =some u→(c i).a7 M u
 |.bnd f k c,v=>∃cs:List Value,v=.func (.func f) #[.agg cs.toArray] #[]∧cs.length=k∧∀i u,cs[i]? =some u→(c i).a7 M u
 |.err b,v=>(b=false∧v=.nilIface)∨(b=true∧∃t u,v=.iface t u)
 |.bC,_=>True
def Mem.le(M M':Mem):Prop:=∀b o u,M b o=some u→M' b o=some u
theorem Mem.le_refl(M:Mem):Mem.le M M:=fun _ _ _ h=>h
theorem Mem.le_trans{A B C:Mem}(h:Mem.le A B)(k:Mem.le B C):Mem.le A C:=fun b o u x=>k b o u (h b o u x)
theorem DV.a7.mono{M M':Mem}(h:Mem.le M M'):∀{x:DV} {v:Value},x.a7 M v→x.a7 M' v:=by
 intro x
 induction x with
 |val u=>exact fun r=>r
 |lit b=>exact fun r=>r
 |rp m f ih=>
  rintro v ⟨b,o,e,hc⟩
  exact⟨b,o,e,fun j hj=>let⟨u,hu,hr⟩:=hc j hj;⟨u,h _ _ _ hu,ih j hr⟩⟩
 |fJ n s f ih=>
  rintro v ⟨a,cap,e,hn,hc⟩
  refine⟨a,cap,e,hn,hc.imp id ?_⟩
  rintro⟨b,o,ea,hc⟩
  exact⟨b,o,ea,fun i j hi hj=>let⟨u,hu,hr⟩:=hc i j hi hj;⟨u,h _ _ _ hu,ih i j hr⟩⟩
 |dQ f k c ih=>
  rintro v ⟨cs,e,hk,hc⟩
  exact⟨cs,e,hk,fun i u hu=>ih i (hc i u hu)⟩
 |bnd f k c ih=>
  rintro v ⟨cs,e,hk,hc⟩
  exact⟨cs,e,hk,fun i u hu=>ih i (hc i u hu)⟩
 |err b=>exact fun r=>r
 |bC=>exact fun _=>trivial
inductive CV where
 |d (x:DV)
 |ptr (x off:Nat)
inductive VK where
 |int|bool
def VK.val:VK→Int→Value
 |.int,n=>.int .i64 n
 |.bool,n=>.bool (n !=0)
def VK.dv:VK→Int→DV
 |.int,n=>.val (.int .i64 n)
 |.bool,n=>.val (.bool (n !=0))
def iD(vk:VK):List (Int×Int)→Nat→List MapEntry
 |[],_=>[]
 |(k,v)::r,i=>{key:=.int .i64 k,val:=vk.val v,born:=i}::iD vk r (i+1)
def eF(vk:VK):List (ByteArray×Int)→Nat→List MapEntry
 |[],_=>[]
 |(k,v)::r,i=>{key:=.string k,val:=vk.val v,born:=i}::eF vk r (i+1)
inductive SV where
 |d (x:DV)
 |ptr (x off:Nat)
 |own (x:Nat)
 |mo (z:Bool) (x:Nat)
 |rw(x i s o:Nat)
 |dQ (f:FuncId) (cs:List CV)
 |jQ (x s lo n:Nat)
 |mp (x:Nat)
def CV.a7(M:Mem)(β:Nm):CV→Value→Prop
 |.d x,v=>x.a7 M v
 |.ptr x off,v=>∃b c,β x=some (b,c)∧v=.pointer (some ⟨b,off,none⟩)
def tR(M:Mem)(β:Nm):List CV→List Value→Prop
 |[],[]=>True
 |c::cs,v::vs=>c.a7 M β v∧tR M β cs vs
 |_,_=>False
def SV.a7(M:Mem)(β:Nm):SV→Value→Prop
 |.d x,v=>x.a7 M v
 |.ptr x off,v=>∃b c,β x=some (b,c)∧v=.pointer (some ⟨b,off,none⟩)
 |.own x,v=>∃b c,β x=some (b,c)∧v=.slice (some ⟨b,0,none⟩) c.2 c.1∧c.2≤c.1
 |.mo z x,v=>(z=true→v=.slice none 0 0)∧(z=false→∃b c,β x=some (b,c)∧v=.slice (some ⟨b,0,none⟩) c.2 c.1∧c.2≤c.1)
 |.rw x i s o,v=>∃b c,β x=some (b,c)∧v=.pointer (some ⟨b,i*s+o,none⟩)
 |.dQ f cs,v=>∃vs:List Value,v=.func (.func f) #[] vs.toArray∧tR M β cs vs
 |.jQ x s lo n,v=>∃b c o,β x=some (b,c)∧v=.slice (some ⟨b,o,none⟩) n (c.1 - lo)∧(lo<c.1→o=lo*s)∧lo+n≤c.2∧c.2≤c.1
 |.mp x,v=>∃b c,β x=some (b,c)∧v=.map (some b)
def cK(M:Mem)(β:Nm):List SV→List Value→Prop
 |[],[]=>True
 |c::cs,v::vs=>c.a7 M β v∧cK M β cs vs
 |_,_=>False
inductive TV where
 |s (x:SV)
 |g (cs:List SV)
def TV.a7(M:Mem)(β:Nm):TV→Value→Prop
 |.s x,v=>x.a7 M β v
 |.g cs,v=>∃vs:List Value,v=.agg vs.toArray∧cK M β cs vs
def p9(M:Mem)(β:Nm):List TV→List Value→Prop
 |[],[]=>True
 |c::cs,v::vs=>c.a7 M β v∧p9 M β cs vs
 |_,_=>False
inductive AV where
 |s (x:SV)
 |g (cs:List SV)
 |ib (b:Bool) (x:SV)
 |ig (b:Bool) (cs:List SV)
 |t (ts:List TV)
def AV.a7(M:Mem)(β:Nm):AV→Value→Prop
 |.s x,v=>x.a7 M β v
 |.g cs,v=>∃vs:List Value,v=.agg vs.toArray∧cK M β cs vs
 |.ib b x,v=>(b=true→x.a7 M β v)∧(b=false→v=undef)
 |.ig b cs,v=>(b=true→∃vs:List Value,v=.agg vs.toArray∧cK M β cs vs)∧(b=false→v=undef)
 |.t ts,v=>∃vs:List Value,v=.tuple vs.toArray∧p9 M β ts vs
def Nm.le(β β':Nm):Prop:=∀x p,β x=some p→β' x=some p
theorem Nm.le_refl(β:Nm):Nm.le β β:=fun _ _ h=>h
section mono
variable{M M':Mem}{β β':Nm}(hM:Mem.le M M')(hβ:Nm.le β β')
include hM hβ
theorem CV.a7.mono{x:CV}{v:Value}(r:x.a7 M β v):x.a7 M' β' v:=by
 cases x with
 |d x=>exact DV.a7.mono hM r
 |ptr x off=>obtain⟨b,c,e,hv⟩:=r;exact⟨b,c,hβ _ _ e,hv⟩
theorem tR.mono:∀{cs:List CV} {vs:List Value},tR M β cs vs→tR M' β' cs vs
 |[],[],_=>trivial
 |_::_,_::_,⟨h,r⟩=>⟨CV.a7.mono hM hβ h,tR.mono r⟩
 |[],_::_,h=>h.elim
 |_::_,[],h=>h.elim
theorem SV.a7.mono{x:SV}{v:Value}(r:x.a7 M β v):x.a7 M' β' v:=by
 cases x with
 |d x=>exact DV.a7.mono hM r
 |ptr x off=>obtain⟨b,c,e,hv⟩:=r;exact⟨b,c,hβ _ _ e,hv⟩
 |own x=>obtain⟨b,c,e,hv⟩:=r;exact⟨b,c,hβ _ _ e,hv⟩
 |mo z x=>exact⟨r.1,fun h=>let⟨b,c,e,hv⟩:=r.2 h;⟨b,c,hβ _ _ e,hv⟩⟩
 |rw x i s o=>obtain⟨b,c,e,hv⟩:=r;exact⟨b,c,hβ _ _ e,hv⟩
 |dQ f cs=>obtain⟨vs,e,hv⟩:=r;exact⟨vs,e,tR.mono hM hβ hv⟩
 |jQ x s lo n=>obtain⟨b,c,o,e,hv⟩:=r;exact⟨b,c,o,hβ _ _ e,hv⟩
 |mp x=>obtain⟨b,c,e,hv⟩:=r;exact⟨b,c,hβ _ _ e,hv⟩
theorem cK.mono:∀{cs:List SV} {vs:List Value},cK M β cs vs→cK M' β' cs vs
 |[],[],_=>trivial
 |_::_,_::_,⟨h,r⟩=>⟨SV.a7.mono hM hβ h,cK.mono r⟩
 |[],_::_,h=>h.elim
 |_::_,[],h=>h.elim
theorem TV.a7.mono{x:TV}{v:Value}(r:x.a7 M β v):x.a7 M' β' v:=by
 cases x with
 |s x=>exact SV.a7.mono hM hβ r
 |g cs=>obtain⟨vs,e,hv⟩:=r;exact⟨vs,e,cK.mono hM hβ hv⟩
theorem p9.mono:∀{cs:List TV} {vs:List Value},p9 M β cs vs→p9 M' β' cs vs
 |[],[],_=>trivial
 |_::_,_::_,⟨h,r⟩=>⟨TV.a7.mono hM hβ h,p9.mono r⟩
 |[],_::_,h=>h.elim
 |_::_,[],h=>h.elim
theorem AV.a7.mono{x:AV}{v:Value}(r:x.a7 M β v):x.a7 M' β' v:=by
 cases x with
 |s x=>exact SV.a7.mono hM hβ r
 |g cs=>obtain⟨vs,e,hv⟩:=r;exact⟨vs,e,cK.mono hM hβ hv⟩
 |ib b x=>exact⟨fun hb=>SV.a7.mono hM hβ (r.1 hb),r.2⟩
 |ig b cs=>exact⟨fun hb=>let⟨vs,e,hv⟩:=r.1 hb;⟨vs,e,cK.mono hM hβ hv⟩,r.2⟩
 |t ts=>obtain⟨vs,e,hv⟩:=r;exact⟨vs,e,p9.mono hM hβ hv⟩
end mono
theorem cK.length:∀{M β} {cs:List SV} {vs:List Value},cK M β cs vs→vs.length=cs.length
 |_,_,[],[],_=>rfl
 |_,_,_::_,_::_,⟨_,r⟩=>by simp[cK.length r]
 |_,_,[],_::_,h=>h.elim
 |_,_,_::_,[],h=>h.elim
theorem cK.get:∀{M β} {cs:List SV} {vs:List Value} {j:Nat} {c:SV},cK M β cs vs→cs[j]? =some c→∃v,vs[j]? =some v∧c.a7 M β v
 |_,_,[],[],j,c,_,h=>by simp at h
 |_,_,_::_,v::_,0,c,⟨hv,_⟩,h=>⟨v,rfl,by simp at h;exact h▸hv⟩
 |_,_,_::_,_::_,j+1,c,⟨_,r⟩,h=>by
  have:=cK.get (j:=j) r (by simpa using h)
  simpa using this
 |_,_,[],_::_,_,_,h,_=>h.elim
 |_,_,_::_,[],_,_,h,_=>h.elim
theorem p9.get:∀{M β} {cs:List TV} {vs:List Value} {j:Nat} {c:TV},p9 M β cs vs→cs[j]? =some c→∃v,vs[j]? =some v∧c.a7 M β v
 |_,_,[],[],j,c,_,h=>by simp at h
 |_,_,_::_,v::_,0,c,⟨hv,_⟩,h=>⟨v,rfl,by simp at h;exact h▸hv⟩
 |_,_,_::_,_::_,j+1,c,⟨_,r⟩,h=>by
  have:=p9.get (j:=j) r (by simpa using h)
  simpa using this
 |_,_,[],_::_,_,_,h,_=>h.elim
 |_,_,_::_,[],_,_,h,_=>h.elim
theorem cK.append:∀{M β} {cs ds:List SV} {vs us:List Value},cK M β cs vs→cK M β ds us→cK M β (cs++ds) (vs++us)
 |_,_,[],_,[],_,_,h=>h
 |_,_,_::_,_,_::_,_,⟨h,r⟩,k=>⟨h,cK.append r k⟩
 |_,_,[],_,_::_,_,h,_=>h.elim
 |_,_,_::_,_,[],_,h,_=>h.elim
theorem cK.take:∀{M β} {cs:List SV} {vs:List Value} (n:Nat),cK M β cs vs→cK M β (cs.take n) (vs.take n)
 |_,_,[],[],n,_=>by simp[cK]
 |_,_,_::_,_::_,0,_=>trivial
 |_,_,_::_,_::_,n+1,⟨h,r⟩=>⟨h,cK.take n r⟩
 |_,_,[],_::_,_,h=>h.elim
 |_,_,_::_,[],_,h=>h.elim
theorem cK.drop:∀{M β} {cs:List SV} {vs:List Value} (n:Nat),cK M β cs vs→cK M β (cs.drop n) (vs.drop n)
 |_,_,[],[],n,_=>by simp[cK]
 |_,_,_::_,_::_,0,h=>h
 |_,_,_::_,_::_,n+1,⟨_,r⟩=>cK.drop n r
 |_,_,[],_::_,_,h=>h.elim
 |_,_,_::_,[],_,h=>h.elim
def DV.one:DV→Bool
 |.val v=>v.oneCell'
 |.bC=>false
 |_=>true
def SV.one:SV→Bool
 |.d x=>x.one
 |_=>true
theorem DV.a7.kD{M:Mem}{x:DV}{v:Value}(r:x.a7 M v)(h:x.one=true):v.oneCell'=true:=by
 cases x with
 |val u=>cases r;exact h
 |lit b=>cases r;rfl
 |rp m f=>obtain⟨b,o,rfl,_⟩:=r;rfl
 |fJ n s f=>obtain⟨a,cap,rfl,_⟩:=r;rfl
 |dQ f k c=>obtain⟨cs,rfl,_⟩:=r;rfl
 |bnd f k c=>obtain⟨cs,rfl,_⟩:=r;rfl
 |err b=>rcases r with⟨_,rfl⟩|⟨_,t,u,rfl⟩ <;> rfl
 |bC=>cases h
theorem SV.a7.kD{M:Mem}{β:Nm}{x:SV}{v:Value}(r:x.a7 M β v)(h:x.one=true):v.oneCell'=true:=by
 cases x with
 |d x=>exact DV.a7.kD r h
 |ptr x off=>obtain⟨b,c,_,rfl⟩:=r;rfl
 |own x=>obtain⟨b,c,_,rfl,_⟩:=r;rfl
 |mo z x=>
  cases z with
  |true=>rw[r.1 rfl];rfl
  |false=>obtain⟨b,c,_,rfl,_⟩:=r.2 rfl;rfl
 |rw x i s o=>obtain⟨b,c,_,rfl⟩:=r;rfl
 |dQ f cs=>obtain⟨vs,rfl,_⟩:=r;rfl
 |jQ x s lo n=>obtain⟨b,c,o,_,rfl,_⟩:=r;rfl
 |mp x=>obtain⟨b,c,_,rfl⟩:=r;rfl
def lG:List SV→Bool
 |[]=>true
 |x::r=>x.one&&lG r
theorem cK.kD:∀{M β} {cs:List SV} {vs:List Value},cK M β cs vs→lG cs=true→∀v∈vs,v.oneCell'=true
 |_,_,[],[],_,_,v,hv=>by cases hv
 |_,_,_::_,_::_,⟨h,r⟩,ha,v,hv=>by
  simp only [lG,Bool.and_eq_true]at ha
  cases hv with
  |head=>exact h.kD ha.1
  |tail _ hv=>exact cK.kD r ha.2 v hv
 |_,_,[],_::_,h,_,_,_=>h.elim
 |_,_,_::_,[],h,_,_,_=>h.elim
inductive jM where
 |cells (cs:List SV)
 |row (e:TypeId) (n s:Nat) (f:Nat→Nat→DV)
 |bW (e:TypeId) (n s:Nat) (f:Nat→Nat→DV)
 |map (vk:VK) (l:List (Int×Int))
 |smap (vk:VK) (l:List (ByteArray×Int))
 |dm (l:List (ByteArray×Nat×DV)) (n:Nat)
 |fresh (T:TypeId) (vs:List Value)
 |iter (m n:Nat) (seen:List Nat)
structure St where
 env:List (Nat×AV)
 box:List (Nat×Option jM)
def eZ:List (Nat×AV)→Nat→AV
 |[],_=>.s (.d .bC)
 |(k,v)::r,t=>bif Nat.beq k t then v else eZ r t
def aH:List (Nat×Option jM)→Nat→Option (Option jM)
 |[],_=>none
 |(k,v)::r,t=>bif Nat.beq k t then some v else aH r t
theorem SU{a b:Nat}(h:a≠b):Nat.beq a b=false:=by
 cases hb:Nat.beq a b with
 |false=>rfl
 |true=>exact absurd (Nat.eq_of_beq_eq_true hb) h
theorem gG(k:Nat)(v:AV)(r:List (Nat×AV))(t:Nat):eZ ((k,v)::r) t=if k=t then v else eZ r t:=by
 by_cases h:k=t
 ·subst h;simp[eZ]
 ·simp[eZ,SU h,h]
theorem aL(k:Nat)(v:Option jM)(r:List (Nat×Option jM))(t:Nat):aH ((k,v)::r) t=if k=t then some v else aH r t:=by
 by_cases h:k=t
 ·subst h;simp[aH]
 ·simp[aH,SU h,h]
theorem BN{α:Type}{vs us:List α}{j:Nat}{v:α}(h:vs[j]? =some v):(vs++us)[j]? =some v:=by
 have:=(List.getElem?_eq_some_iff.1 h).1
 rw[List.getElem?_append_left this];exact h
def k8:List (ByteArray×Nat×DV)→List Value→List MapEntry
 |(k,b,_)::r,v::vs=>{key:=.string k,val:=v,born:=b}::k8 r vs
 |_,_=>[]
def uU(M:Mem):List (ByteArray×Nat×DV)→List Value→Prop
 |[],[]=>True
 |(_,_,x)::r,v::vs=>x.a7 M v∧uU M r vs
 |_,_=>False
theorem uU.mono{M M':Mem}(h:Mem.le M M'):∀{l:List (ByteArray×Nat×DV)} {vs:List Value},uU M l vs→uU M' l vs
 |[],[],_=>trivial
 |(_,_,_)::_,_::_,k=>⟨DV.a7.mono h k.1,uU.mono h k.2⟩
 |[],_::_,k=>k.elim
 |(_,_,_)::_,[],k=>k.elim
def cH(M:Mem)(β:Nm)(w:World)(x:Nat):jM→Prop
 |.cells cs=>∃b c vs T us,β x=some (b,c)∧w.heap[b]? =some (.cells (List.toArray (vs++us)) T (0,0))∧cK M β cs vs
 |.row e n s f=>∃b c cur,β x=some (b,c)∧w.heap[b]? =some (.cells cur e (0,0))∧c.2=n∧cur.size=c.1*s∧n≤c.1∧c.1≤maxLen∧
   ∀i j,i<n→j<s→∃u,cur[i*s+j]? =some u∧(f i j).a7 M u
 |.bW e n s f=>∀b c,β x=some (b,c)→∃cur,w.heap[b]? =some (.cells cur e (0,0))∧c.2=n∧cur.size=c.1*s∧n≤c.1∧c.1≤maxLen∧
   ∀i j,i<n→j<s→∃u,cur[i*s+j]? =some u∧(f i j).a7 M u
 |.map vk l=>∃b c,β x=some (b,c)∧w.heap[b]? =some (.map (iD vk l 0).toArray l.length)
 |.smap vk l=>∃b c,β x=some (b,c)∧w.heap[b]? =some (.map (eF vk l 0).toArray l.length)
 |.dm l n=>∃b c vs,β x=some (b,c)∧w.heap[b]? =some (.map (k8 l vs).toArray n)∧uU M l vs
 |.fresh T vs=>∃b c,β x=some (b,c)∧w.heap[b]? =some (.cells vs.toArray T (0,0))
 |.iter m n seen=>∃b c bm cm,β x=some (b,c)∧β m=some (bm,cm)∧w.heap[b]? =some (.mapIter (some bm) n seen.reverse.toArray n)
structure Grow(B:Nat)(M M':Mem):Prop where
 le:Mem.le M M'
 new:∀b o u,M' b o=some u→M b o=some u∨B≤b
theorem Grow.refl(B:Nat)(M:Mem):Grow B M M:=⟨Mem.le_refl M,fun _ _ _ h=>.inl h⟩
theorem Grow.trans{B:Nat}{a b c:Mem}(h:Grow B a b)(k:Grow B b c):Grow B a c:=
 ⟨Mem.le_trans h.le k.le,fun x o u e=>(k.new x o u e).elim (fun e=>h.new x o u e) .inr⟩
structure Cx where
 B:Nat
 ref:List Nat
 β0:Nm
 rd:Option Nat:=none
 df:List Deferred:=[]
def FW(r:Option Nat):Fence:={Fence.wide with round:=r}
def Cx.vU(cx:Cx)(k:Nat):Prop:=∃x c,x∈cx.ref∧cx.β0 x=some (k,c)
def Dr(_ _:World):Prop:=True
structure b6(cx:Cx)(w w':World):Prop where
 os:w'.os=w.os
 tape:w'.tape=w.tape
 output:w'.output=w.output
 size:w.heap.size≤w'.heap.size
 block:∀k,k<cx.B→¬cx.vU k→w'.heap[k]? =w.heap[k]?
 drawn:Dr w w'
theorem b6.refl(cx:Cx)(w:World):b6 cx w w:=⟨rfl,rfl,rfl,Nat.le_refl _,fun _ _ _=>rfl,trivial⟩
theorem b6.trans{cx:Cx}{a b c:World}(h:b6 cx a b)(k:b6 cx b c):b6 cx a c:=
 ⟨k.os.trans h.os,k.tape.trans h.tape,k.output.trans h.output,Nat.le_trans h.size k.size,fun i hi hm=>(k.block i hi hm).trans (h.block i hi hm),trivial⟩
def BT(bs:aB6)(w:World):Prop:=∀g t,(g,t)∈rH bs→∃e fr,w.heap[g]? =some (.cells t e fr)
def aH5(w:World):Prop:=∃bs,BT bs w
theorem BT.lt{bs:aB6}{w:World}(h:BT bs w){g:Nat}{t:Array Value}(m:(g,t)∈rH bs):g<w.heap.size:=by
 obtain⟨e,fr,c⟩:=h g t m
 exact(Array.getElem?_eq_some_iff.1 c).1
structure Hp(cx:Cx)(w:World):Prop where
 le:cx.B≤w.heap.size
 tab:∃bs,BT bs w∧∀g t,(g,t)∈rH bs→g<cx.B∧¬cx.vU g
theorem Hp.aDO{cx:Cx}{w:World}(h:Hp cx w):aH5 w:=let⟨bs,h,_⟩:=h.tab;⟨bs,h⟩
theorem Hp.keep{cx:Cx}{w w':World}(h:Hp cx w)(k:b6 cx w w'):Hp cx w':=
 ⟨Nat.le_trans h.le k.size,by
  obtain⟨bs,h1,h2⟩:=h.tab
  refine⟨bs,fun g t m=>?_,h2⟩
  obtain⟨e,fr,c⟩:=h1 g t m
  obtain⟨a,b⟩:=h2 g t m
  exact⟨e,fr,(k.block g a b).trans c⟩⟩
structure Inv(cx:Cx)(N:Nat)(M:Mem)(β:Nm)(σ:St)(a:Act)(w:World):Prop where
 defers:a.defers=cx.df
 tmps:a.tmps.size=N
 heap:Hp cx w
 env:∀t,(eZ σ.env t).a7 M β (a.tmps.getD t undef)
 mem:∀b o u,M b o=some u→w.cell? ⟨b,o,none⟩=some u
 keys:∀x p,β x=some p→∃y,aH σ.box x=some y
 box:∀x bc,aH σ.box x=some (some bc)→cH M β w x bc
 inj:∀x y bx xV b c c',aH σ.box x=some (some bx)→aH σ.box y=some (some xV)→β x=some (b,c)→β y=some (b,c')→x=y
 apart:∀x bc b c,aH σ.box x=some (some bc)→β x=some (b,c)→∀o,M b o=none
 low:∀x bc b c,aH σ.box x=some (some bc)→β x=some (b,c)→cx.B≤b∨cx.vU b
 ref:∀x,x∈cx.ref→β x=cx.β0 x∧∃p,β x=some p
def AW(P:Program)(cx:Cx)(N:Nat)(c:Code)(σ:St)(K:Exit→St→Prop):Prop:=
 ∀M β a w,Inv cx N M β σ a w→
  c.wpIn (FW cx.rd) 0 P (fun e a' w'=>∃σ' M' β',K e σ'∧Inv cx N M' β' σ' a' w'∧Grow cx.B M M'∧b6 cx w w') a w
section rules
variable{P:Program}{cx:Cx}{N:Nat}{σ:St}{K:Exit→St→Prop}
theorem AW.mono{c:Code}{K':Exit→St→Prop}(h:AW P cx N c σ K)(hk:∀e s,K e s→K' e s):AW P cx N c σ K':=
 fun M β a w i=>wpIn_mono (h M β a w i) fun _ _ _ ⟨s,M',β',k,r⟩=>⟨s,M',β',hk _ _ k,r⟩
theorem AW.skip(h:K .normal σ):AW P cx N .skip σ K:=fun M β _ _ i=>wpIn_skip ⟨σ,M,β,h,i,Grow.refl _ _,b6.refl _ _⟩
theorem AW.ret(h:K .ret σ):AW P cx N .ret σ K:=fun M β _ _ i=>wpIn_ret ⟨σ,M,β,h,i,Grow.refl _ _,b6.refl _ _⟩
theorem AW.exit{id:Nat}(h:K (.exit id) σ):AW P cx N (.exit id) σ K:=fun M β _ _ i=>wpIn_exit ⟨σ,M,β,h,i,Grow.refl _ _,b6.refl _ _⟩
def NI(next:St→Prop)(K:Exit→St→Prop):Exit→St→Prop
 |.normal,s=>next s
 |e,s=>K e s
theorem AW.seq{x y:Code}(h:AW P cx N x σ (NI (fun s=>AW P cx N y s K) K)):AW P cx N (.seq x y) σ K:=by
 intro M β a w i
 refine wpIn_seq (wpIn_mono (h M β a w i) ?_)
 rintro e a' w' ⟨s,M',β',k,i',hM,hk⟩
 cases e with
 |normal=>
  refine wpIn_mono (k M' β' a' w' i') ?_
  rintro e2 a2 w2 ⟨s2,M2,β2,k2,i2,hM2,X9⟩
  exact⟨s2,M2,β2,k2,i2,hM.trans hM2,hk.trans X9⟩
 |exit id=>exact⟨s,M',β',k,i',hM,hk⟩
 |goto l=>exact⟨s,M',β',k,i',hM,hk⟩
 |ret=>exact⟨s,M',β',k,i',hM,hk⟩
 |panic ch=>exact⟨s,M',β',k,i',hM,hk⟩
 |outgrown=>exact⟨s,M',β',k,i',hM,hk⟩
def MV(id:Nat)(K:Exit→St→Prop):Exit→St→Prop
 |.exit id',s=>bif Nat.beq id' id then K .normal s else K (.exit id') s
 |e,s=>K e s
theorem AW.block{id:Nat}{c:Code}(h:AW P cx N c σ (MV id K)):AW P cx N (.block id c) σ K:=by
 intro M β a w i
 refine wpIn_block (wpIn_mono (h M β a w i) ?_)
 rintro e a' w' ⟨s,M',β',k,i',r⟩
 cases e with
 |exit id'=>
  by_cases hid:id'=id
  ·subst hid
   simp only [Exit.inBlock,if_true]
   simp only [MV,Nat.beq_refl,cond_true]at k
   exact⟨s,M',β',k,i',r⟩
  ·simp only [Exit.inBlock,hid,if_false]
   simp only [MV,SU hid,cond_false]at k
   exact⟨s,M',β',k,i',r⟩
 |_=>exact⟨s,M',β',k,i',r⟩
structure Sub(cx:Cx)(σ σ':St):Prop where
 env:∀(M:Mem) (β β':Nm),(∀x p,β x=some p→(∃y,aH σ'.box x=some y)→β' x=some p)→∀t v,(eZ σ.env t).a7 M β v→(eZ σ'.env t).a7 M β' v
 box:∀(M:Mem) (β β':Nm) (w:World),(∀x p,β x=some p→(∃y,aH σ'.box x=some y)→β' x=some p)→∀x bc',aH σ'.box x=some (some bc')→∃bc,aH σ.box x=some (some bc)∧(cH M β w x bc→cH M β' w x bc')
 ref:∀x,x∈cx.ref→∃y,aH σ'.box x=some y
theorem Inv.sub{σ':St}{M:Mem}{β:Nm}{a:Act}{w:World}(i:Inv cx N M β σ a w)(h:Sub cx σ σ'):
  ∃β',Inv cx N M β' σ' a w:=by
 classical
 let β':Nm:=fun x=>if ∃y,aH σ'.box x=some y then β x else none
 have hb:∀x p,β' x=some p→β x=some p:=fun x p h=>by
  simp only [β']at h
  split at h
  ·exact h
  ·cases h
 have YC:∀x p,β x=some p→(∃y,aH σ'.box x=some y)→β' x=some p:=fun x p e k=>by
  simp only [β',if_pos k];exact e
 refine⟨β',i.defers,i.tmps,i.heap,fun t=>h.env M β β' YC t _ (i.env t),i.mem,?_,?_,?_,?_,?_,?_⟩
 ·intro x p e
  simp only [β']at e
  split at e
  ·assumption
  ·cases e
 ·intro x bc' e
  obtain⟨bc,e1,hr⟩:=h.box M β β' w YC x bc' e
  exact hr (i.box x bc e1)
 ·intro x y bx xV b c c' ex ey hx hy
  obtain⟨bx',ex',_⟩:=h.box M β β' w YC x bx ex
  obtain⟨by',YD,_⟩:=h.box M β β' w YC y xV ey
  exact i.inj x y bx' by' b c c' ex' YD (hb _ _ hx) (hb _ _ hy)
 ·intro x bc b c ex hx
  obtain⟨bx',ex',_⟩:=h.box M β β' w YC x bc ex
  exact i.apart x bx' b c ex' (hb _ _ hx)
 ·intro x bc b c ex hx
  obtain⟨bx',ex',_⟩:=h.box M β β' w YC x bc ex
  exact i.low x bx' b c ex' (hb _ _ hx)
 ·intro x hx
  obtain⟨y,hy⟩:=h.ref x hx
  have:β' x=β x:=by
   simp only [β',hy]
   simp
  rw[this]
  exact i.ref x hx
theorem AW.loop{S:Type}{c:Code}(NA:S→St)(J:S→Prop)(μ:S→Nat)(s0:S)(hJ:J s0)(hs:Sub cx σ (NA s0))
  (body:∀s,J s→AW P cx N c (NA s) (NI (fun σ'=>∃s',J s'∧μ s'<μ s∧Sub cx σ' (NA s')) K)):AW P cx N (.loop c) σ K:=by
 intro M β a w i
 obtain⟨β1,i1⟩:=i.sub hs
 intro b k cs hro hb hr
 have key:∀n s,μ s=n→J s→∀M β a w,Inv cx N M β (NA s) a w→
   ∃e a' w',(∃σ' M' β',K e σ'∧Inv cx N M' β' σ' a' w'∧Grow cx.B M M'∧b6 cx w w')∧ArrivesIn (Machine.fenced P (FW cx.rd)) P (lone (b.atR a (.code c::.inLoop c::k)) cs w) b k cs e a' w':=by
  intro n
  induction n using Nat.strongRecOn with
  |_ n ih=>
   intro s hn hJ M β a w i
   obtain⟨e,a₁,w₁,⟨σ',M1,β1,hq,i1,hM,hk⟩,mI⟩:=body s hJ M β a w i b (.inLoop c::k) cs hro hb hr
   cases e with
   |normal=>
    obtain⟨s',hJ',fR,gK⟩:=hq
    obtain⟨β2,i2⟩:=i1.sub gK
    obtain⟨e₂,a₂,w₂,⟨σ2,M2,β2,hq₂,i2,hM2,X9⟩,AU⟩:=ih (μ s') (hn▸fR) s' rfl hJ' M1 β2 a₁ w₁ i2
    exact⟨e₂,a₂,w₂,⟨σ2,M2,β2,hq₂,i2,hM.trans hM2,hk.trans X9⟩,.of_steps (StepsIn.trans mI (.one (fenced_calm hb hr rfl) stepR_inLoop)) AU⟩
   |exit id=>exact⟨_,a₁,w₁,⟨σ',M1,β1,hq,i1,hM,hk⟩,.pass (x:=.inLoop c) rfl (fun _ _=>.inl sM) mI⟩
   |goto l=>exact⟨_,a₁,w₁,⟨σ',M1,β1,hq,i1,hM,hk⟩,.pass (x:=.inLoop c) rfl (fun _ _=>.inl sM) mI⟩
   |ret=>exact⟨_,a₁,w₁,⟨σ',M1,β1,hq,i1,hM,hk⟩,.pass (x:=.inLoop c) rfl (fun _ _=>.inl sM) mI⟩
   |panic ch=>exact⟨_,a₁,w₁,⟨σ',M1,β1,hq,i1,hM,hk⟩,.pass (x:=.inLoop c) rfl (fun _ _=>.inl sM) mI⟩
   |outgrown=>exact⟨_,a₁,w₁,⟨σ',M1,β1,hq,i1,hM,hk⟩,.pass (x:=.inLoop c) rfl (fun _ _=>.inl sM) mI⟩
 obtain⟨e,a',w',hq,mI⟩:=key _ s0 rfl hJ M β1 a w i1
 exact⟨e,a',w',hq,.of_steps (.one (fenced_calm hb hr rfl) stepR_loop) mI⟩
end rules
inductive QU where
 |bool|string|struct|func|pointer|iface|other
 |int (k:IntKind)|float (k:FloatKind)
 |slice (e:TypeId)|array (n:Nat) (e:TypeId)|map (k e:TypeId)
def QU.pJ:TypeDesc→QU
 |.bool=>.bool
 |.int k=>.int k
 |.float k=>.float k
 |.string=>.string
 |.slice e=>.slice e
 |.array n e=>.array n e
 |.map k e=>.map k e
 |.struct _=>.struct
 |.func _ _ _=>.func
 |.pointer _=>.pointer
 |.interface _=>.iface
 |_=>.other
structure bJ where
 jS:QU
 size:Nat
 bytes:Nat
 agg:Bool
 zero:List Value
 uO:List (Nat×Nat)
 ints:Bool
def wD:SV→Option (IntKind×Int)
 |.d (.val (.int k a))=>some (k,a)
 |_=>none
def uK:SV→Option ByteArray
 |.d (.val (.string s))=>some s
 |_=>none
def mZ:SV→Option Bool
 |.d (.lit b)=>some b
 |.d (.val (.bool b))=>some b
 |_=>none
def sI:List SV→List SV→Option Bool
 |[],[]=>some true
 |x::r,y::s=>
  match wD x,wD y,sI r s with
  |some (k,a),some (k',b),some c=>bif decide (k=k')then some (a==b&&c)else none
  |_,_,some c=>match uK x,uK y with
   |some a,some b=>some (a.toList==b.toList&&c)
   |_,_=>match mZ x,mZ y with
    |some a,some b=>some (a==b&&c)
    |_,_=>none
  |_,_,none=>none
 |_,_=>none
def kOK:Value→SV→Bool
 |.int _ _,x=>(wD x).isSome
 |.string _,x=>(uK x).isSome
 |.bool _,x=>(mZ x).isSome
 |_,_=>false
def gJ:List Value→List SV→Bool
 |[],[]=>true
 |z::zs,x::xs=>kOK z x&&gJ zs xs
 |_,_=>false
def rA(P:Program):List Field→List (Nat×Nat)→Prop
 |[],[]=>True
 |f::fs,(o,z)::r=>f.offset=o∧(∃ti,P.info? f.type=some ti∧ti.size=z)∧rA P fs r
 |_,_=>False
structure bL(P:Program)(t:TypeId)(i:bJ):Prop where
 jS:∃d,P.underlying t=some d∧QU.pJ d=i.jS
 info:∃ti,P.info? t=some ti∧ti.size=i.size∧ti.bytes=i.bytes∧∃z,ti.zero=some z∧z.cells.toList=i.zero
 agg:(match i.jS with|.struct|.array _ _=>true|_=>false)=i.agg
 uO:∀fs,P.underlying t=some (.struct fs)→rA P fs.toList i.uO
 one:i.agg=false→∃ti z,P.info? t=some ti∧ti.zero=some z∧i.zero=[z]
 eqg:i.ints=true→P.eqGuardType P.depth t=false
 ints:i.ints=true→∀(w:World) (xs ys:List SV) (vs us:List Value) (b:Bool),gJ i.zero xs=true→gJ i.zero ys=true→sI xs ys=some b→cK (fun _ _=>none) (fun _=>none) xs vs→cK (fun _ _=>none) (fun _=>none) ys us→
  (Op.equal t (.agg vs.toArray) (.agg us.toArray)).run P w=.ok b w
def cV:List (Nat×bJ)→Nat→Option bJ
 |[],_=>none
 |(k,v)::r,t=>bif Nat.beq k t then some v else cV r t
def b5(P:Program):List (Nat×bJ)→Prop
 |[]=>True
 |(k,v)::r=>bL P k v∧b5 P r
theorem b5.get{P:Program}:∀{T:List (Nat×bJ)} {t:Nat} {i:bJ},b5 P T→cV T t=some i→bL P t i
 |[],_,_,_,h=>by cases h
 |(k,v)::r,t,i,⟨h,hr⟩,e=>by
  by_cases hk:k=t
  ·subst hk
   simp only [cV,Nat.beq_refl,cond_true]at e
   cases e;exact h
  ·simp only [cV,SU hk,cond_false]at e
   exact b5.get hr e
section aK9
variable{P:Program}{t:TypeId}{i:bJ}(h:bL P t i)
include h
theorem bL.isSlice{e:TypeId}(hu:i.jS=.slice e):P.underlying t=some (.slice e):=by
 obtain⟨d,h1,h2⟩:=h.jS
 rw[hu]at h2
 cases d <;> simp only [QU.pJ]at h2 <;> first|cases h2;exact h1|cases h2
theorem bL.E2{n:Nat}{e:TypeId}(hu:i.jS=.array n e):P.underlying t=some (.array n e):=by
 obtain⟨d,h1,h2⟩:=h.jS
 rw[hu]at h2
 cases d <;> simp only [QU.pJ]at h2 <;> first|cases h2;exact h1|cases h2
theorem bL.DN{k e:TypeId}(hu:i.jS=.map k e):P.underlying t=some (.map k e):=by
 obtain⟨d,h1,h2⟩:=h.jS
 rw[hu]at h2
 cases d <;> simp only [QU.pJ]at h2 <;> first|cases h2;exact h1|cases h2
theorem bL.isInt{k:IntKind}(hu:i.jS=.int k):P.underlying t=some (.int k):=by
 obtain⟨d,h1,h2⟩:=h.jS
 rw[hu]at h2
 cases d <;> simp only [QU.pJ]at h2 <;> first|cases h2;exact h1|cases h2
theorem bL.T2{k:FloatKind}(hu:i.jS=.float k):P.underlying t=some (.float k):=by
 obtain⟨d,h1,h2⟩:=h.jS
 rw[hu]at h2
 cases d <;> simp only [QU.pJ]at h2 <;> first|cases h2;exact h1|cases h2
theorem bL.isBool(hu:i.jS=.bool):P.underlying t=some .bool:=by
 obtain⟨d,h1,h2⟩:=h.jS
 rw[hu]at h2
 cases d <;> simp only [QU.pJ]at h2 <;> first|exact h1|cases h2
theorem bL.wA{e:TypeId}(hu:i.jS=.slice e):P.underlying t=some (.slice e):=by
 obtain⟨d,h1,h2⟩:=h.jS
 rw[hu]at h2
 cases d <;> simp only [QU.pJ]at h2 <;> first|(cases h2;exact h1)|cases h2
theorem bL.isString(hu:i.jS=.string):P.underlying t=some .string:=by
 obtain⟨d,h1,h2⟩:=h.jS
 rw[hu]at h2
 cases d <;> simp only [QU.pJ]at h2 <;> first|exact h1|cases h2
theorem bL.OW(hu:i.jS=.struct):∃fs,P.underlying t=some (.struct fs):=by
 obtain⟨d,h1,h2⟩:=h.jS
 rw[hu]at h2
 cases d <;> simp only [QU.pJ]at h2 <;> first|exact⟨_,h1⟩|cases h2
theorem bL.gY(w:World):(sizeOf t).run P w=.ok i.size w:=by
 obtain⟨ti,e,hs,_⟩:=h.info
 simp[sizeOf,typeInfo,e,hs]
theorem bL.zX(w:World):(isAgg t).run P w=.ok i.agg w:=by
 have:=h.agg
 obtain⟨d,h1,h2⟩:=h.jS
 simp only [isAgg,Sem.run_bind,run_underlying h1,Result.andThen]
 rw[←this,←h2]
 cases d <;> rfl
theorem bL.vN(w:World):∃z:Value,(zeroValue t).run P w=.ok z w∧z.cells.toList=i.zero:=by
 obtain⟨ti,e,_,_,z,hz,hc⟩:=h.info
 exact⟨z,by simp[zeroValue,typeInfo,e,hz],hc⟩
end aK9
def act(g:Option Bool):Prop:=∀b,g=some b→b=true
def imp(g:Option Bool)(p:Prop):Prop:=match g with|none=>p|some b=>b=true→p
theorem imp.get{g:Option Bool}{p:Prop}(h:imp g p)(ha:act g):p:=by
 cases g with
 |none=>exact h
 |some b=>exact h (ha b rfl)
def fe(g:Option Bool)(v:AV)(K:AV→Prop):Prop:=
 match v with
 |.ib b x=>match g with|none=>b=true∧K (.s x)|some gb=>(gb=true→b=true)∧K (.s x)
 |.ig b cs=>match g with|none=>b=true∧K (.g cs)|some gb=>(gb=true→b=true)∧K (.g cs)
 |.s x=>K (.s x)
 |.g cs=>K (.g cs)
 |.t ts=>K (.t ts)
theorem fe.spec{g:Option Bool}{v:AV}{K:AV→Prop}(h:fe g v K):
  ∃r,K r∧(act g→∀M β u,v.a7 M β u→r.a7 M β u):=by
 cases v with
 |s x=>exact⟨_,h,fun _ _ _ _ r=>r⟩
 |g cs=>exact⟨_,h,fun _ _ _ _ r=>r⟩
 |t ts=>exact⟨_,h,fun _ _ _ _ r=>r⟩
 |ib b x=>
  cases g with
  |none=>exact⟨_,h.2,fun _ M β u r=>r.1 h.1⟩
  |some gb=>exact⟨_,h.2,fun ha M β u r=>r.1 (h.1 (ha gb rfl))⟩
 |ig b cs=>
  cases g with
  |none=>exact⟨_,h.2,fun _ M β u r=>r.1 h.1⟩
  |some gb=>exact⟨_,h.2,fun ha M β u r=>r.1 (h.1 (ha gb rfl))⟩
def cvC(v:Value):AV:=
 match v with
 |.bool b=>.s (.d (.lit b))
 |.agg _=>.s (.d .bC)
 |.tuple _=>.s (.d .bC)
 |v=>.s (.d (.val v))
def ev(σ:St):Operand→AV
 |.tmp t=>eZ σ.env t
 |.const v=>cvC v
 |.func f=>.s (.dQ f [])
 |.global _=>.s (.d .bC)
theorem cvC.rep(M:Mem)(β:Nm)(v:Value):(cvC v).a7 M β v:=by
 cases v <;> first|exact rfl|exact trivial
theorem ev.rep{cx:Cx}{N:Nat}{M:Mem}{β:Nm}{σ:St}{a:Act}{w:World}(i:Inv cx N M β σ a w)(x:Operand):
  (ev σ x).a7 M β (a.eval x):=by
 cases x with
 |tmp t=>exact i.env t
 |const v=>exact cvC.rep M β v
 |func f=>exact⟨[],rfl,trivial⟩
 |global g=>exact trivial
abbrev qB(k:IntKind)(n:Int):AV:=.s (.d (.val (.int k n)))
abbrev kY(b:Bool):AV:=.s (.d (.val (.bool b)))
def asB:AV→Option Bool
 |.s (.d (.lit b))=>some b
 |.s (.d (.val (.bool b)))=>some b
 |_=>none
theorem asB.spec{v:AV}{b:Bool}{M:Mem}{β:Nm}{u:Value}(h:asB v=some b)(r:v.a7 M β u):u=.bool b:=by
 unfold asB at h
 split at h
 ·cases h;exact r
 ·cases h;exact r
 ·cases h
def XS(k:IntKind)(x y:Int):Int:=k.wrap (BitVec.ofInt k.bits x&&&BitVec.ofInt k.bits y).toNat
def YW(k:IntKind)(x y:Int):Int:=x.fdiv (2^(min y.toNat k.bits))
def I2(op:BinOp)(k:IntKind)(g:Option Bool)(x y:Int)(K:AV→Prop):Prop:=
 match op with
 |.add=>K (qB k (k.wrap (x+y)))
 |.sub=>K (qB k (k.wrap (x - y)))
 |.mul=>K (qB k (k.wrap (x*y)))
 |.quo=>imp g (y≠0)∧K (qB k (k.wrap (x.tdiv y)))
 |.rem=>imp g (y≠0)∧K (qB k (x.tmod y))
 |.eql=>K (kY (x==y))
 |.neq=>K (kY (x !=y))
 |.lss=>K (kY (decide (x<y)))
 |.leq=>K (kY (decide (x≤y)))
 |.gtr=>K (kY (decide (x>y)))
 |.geq=>K (kY (decide (x≥y)))
 |.and=>K (qB k (XS k x y))
 |.shr=>imp g (0≤y)∧K (qB k (YW k x y))
 |_=>False
theorem I2.spec{P:Program}{op:BinOp}{k:IntKind}{g:Option Bool}{x y:Int}{K:AV→Prop}(h:I2 op k g x y K):
  ∃r,K r∧(act g→∀(t:TypeId) (w:World),∃v,(binOp op t (.int k x) (.int k y)).run P w=.ok v w∧∀M β,r.a7 M β v):=by
 unfold I2 at h
 split at h
 case h_1=>exact⟨_,h,fun _ t w=>⟨_,by simp[binOp,Op.intArith],fun _ _=>rfl⟩⟩
 case h_2=>exact⟨_,h,fun _ t w=>⟨_,by simp[binOp,Op.intArith],fun _ _=>rfl⟩⟩
 case h_3=>exact⟨_,h,fun _ t w=>⟨_,by simp[binOp,Op.intArith],fun _ _=>rfl⟩⟩
 case h_4=>exact⟨_,h.2,fun ha t w=>⟨_,by simp[binOp,Op.intDiv,h.1.get ha],fun _ _=>rfl⟩⟩
 case h_5=>exact⟨_,h.2,fun ha t w=>⟨_,by simp[binOp,Op.intDiv,h.1.get ha],fun _ _=>rfl⟩⟩
 case h_6=>exact⟨_,h,fun _ t w=>⟨_,by simp[binOp,Op.intCmp],fun _ _=>rfl⟩⟩
 case h_7=>exact⟨_,h,fun _ t w=>⟨_,by simp[binOp,Op.intCmp],fun _ _=>rfl⟩⟩
 case h_8=>exact⟨_,h,fun _ t w=>⟨_,by simp[binOp,Op.intCmp],fun _ _=>rfl⟩⟩
 case h_9=>exact⟨_,h,fun _ t w=>⟨_,by simp[binOp,Op.intCmp],fun _ _=>rfl⟩⟩
 case h_10=>exact⟨_,h,fun _ t w=>⟨_,by simp[binOp,Op.intCmp],fun _ _=>rfl⟩⟩
 case h_11=>exact⟨_,h,fun _ t w=>⟨_,by simp[binOp,Op.intCmp],fun _ _=>rfl⟩⟩
 case h_12=>exact⟨_,h,fun _ t w=>⟨.int k (XS k x y),by simp only [binOp,if_neg (fun h:k≠k=>h rfl)];rfl,fun _ _=>rfl⟩⟩
 case h_13=>
  refine⟨_,h.2,fun ha t w=>⟨.int k (YW k x y),?_,fun _ _=>rfl⟩⟩
  have hy:¬y<0:=by have:=h.1.get ha;omega
  simp only [binOp,Op.shift,if_neg hy];rfl
 case h_14=>cases h
def I1(op:BinOp)(g:Option Bool)(x y:ByteArray)(K:AV→Prop):Prop:=
 match op with
 |.eql=>K (kY (x.toList==y.toList))
 |.neq=>K (kY (!(x.toList==y.toList)))
 |.add=>imp g (x.size+y.size≤9223372036854775807)∧K (.s (.d (.val (.string (x++y)))))
 |_=>False
theorem I1.spec{P:Program}{op:BinOp}{g:Option Bool}{x y:ByteArray}{K:AV→Prop}(h:I1 op g x y K):
  ∃r,K r∧(act g→∀(t:TypeId) (w:World),∃v,(binOp op t (.string x) (.string y)).run P w=.ok v w∧∀M β,r.a7 M β v):=by
 unfold I1 at h
 split at h
 case h_1=>exact⟨_,h,fun _ t w=>⟨_,by simp[binOp,Op.stringOp],fun _ _=>rfl⟩⟩
 case h_2=>exact⟨_,h,fun _ t w=>⟨_,by simp[binOp,Op.stringOp],fun _ _=>rfl⟩⟩
 case h_3=>
  refine⟨_,h.2,fun ha t w=>⟨_,?_,fun _ _=>rfl⟩⟩
  have hb:=h.1.get ha
  have:¬((x.size:Int)+(y.size:Int)>IntKind.i64.max):=by
   have:IntKind.i64.max=9223372036854775807:=dC
   rw[this];omega
  simp[binOp,Op.stringOp]
  omega
 case h_4=>cases h
theorem EG{P:Program}(w:World)(d:Nat){t e:TypeId}(h:P.underlying t=some (.slice e)):(Op.equalIn (d+1) t (.slice none 0 0) (.slice none 0 0)).run P w=.ok true w:=by
 simp[Op.equalIn,run_underlying h]
theorem NX{P:Program}(w:World){t e:TypeId}(h:P.underlying t=some (.slice e)):(binOp .eql t (.slice none 0 0) (.slice none 0 0)).run P w=.ok (.bool true) w:=by
 simp only [binOp]
 simp[Op.equal,Op.maxDepth,EG w 9999 h]
theorem eD{P:Program}(op:BinOp)(t:TypeId)(x y:Operand)(a b:Value)(w:World)(h:a≠.nilIface)(ha:∀cs,a≠.agg cs):
  (eqGuard op t x y a b).run P w=.ok () w:=by
 unfold eqGuard
 cases a <;> first
  |exact absurd rfl h
  |exact absurd rfl (ha _)
  |(cases op <;> rfl)
theorem yF{P:Program}(w:World){t e:TypeId}{a:Option Addr}{n c:Nat}(h:P.underlying t=some (.slice e)):(binOp .eql t (.slice a n c) (.slice none 0 0)).run P w=.ok (.bool a.isNone) w:=by
 have key:∀d,(Op.equalIn (d+1) t (.slice a n c) (.slice none 0 0)).run P w=.ok a.isNone w:=by
  intro d
  cases a <;> simp[Op.equalIn,run_underlying h]
 simp only [binOp]
 simp[Op.equal,Op.maxDepth,key 9999]
theorem vO{P:Program}(w:World){t e:TypeId}{a:Option Addr}{n c:Nat}(h:P.underlying t=some (.slice e)):(binOp .neq t (.slice a n c) (.slice none 0 0)).run P w=.ok (.bool (!a.isNone)) w:=by
 have key:∀d,(Op.equalIn (d+1) t (.slice a n c) (.slice none 0 0)).run P w=.ok a.isNone w:=by
  intro d
  cases a <;> simp[Op.equalIn,run_underlying h]
 simp only [binOp]
 simp[Op.equal,Op.maxDepth,key 9999]
def bin(T:List (Nat×bJ))(op:BinOp)(t:TypeId)(g:Option Bool)(x y:AV)(K:AV→Prop):Prop:=
 match x,y with
 |.s (.d (.val (.int k a))),.s (.d (.val (.int k' b)))=>bif decide (k=k')then I2 op k g a b K else False
 |.s (.d (.val (.string a))),.s (.d (.val (.string b)))=>I1 op g a b K
 |.s (.d (.val (.slice none 0 0))),.s (.d (.val (.slice none 0 0)))=>
  match cV T t with
  |some i=>match i.jS with
   |.slice _=>match op with
    |.eql=>K (kY true)
    |_=>False
   |_=>False
  |none=>False
 |.g xs,.g ys=>
  match cV T t with
  |some i=>bif i.ints&&(gJ i.zero xs&&gJ i.zero ys)then
    match sI xs ys with
    |some b=>match op with
     |.eql=>K (kY b)
     |.neq=>K (kY (!b))
     |_=>False
    |none=>False
   else False
  |none=>False
 |.s (.own _),.s (.d (.val (.slice none 0 0)))=>
  match cV T t with
  |some i=>match i.jS with
   |.slice _=>match op with
    |.eql=>K (match g with|none=>.s (.d (.lit false))|some _=>kY false)
    |.neq=>K (match g with|none=>.s (.d (.lit true))|some _=>kY true)
    |_=>False
   |_=>False
  |none=>False
 |.s (.mo z _),.s (.d (.val (.slice none 0 0)))=>
  match cV T t with
  |some i=>match i.jS with
   |.slice _=>match op with
    |.eql=>K (kY z)
    |.neq=>K (kY (!z))
    |_=>False
   |_=>False
  |none=>False
 |x,y=>match asB x,asB y with
  |some a,some b=>match cV T t with
   |some i=>match i.jS with
    |.bool=>match op with
     |.eql=>K (kY (a==b))
     |.neq=>K (kY (!(a==b)))
     |_=>False
    |_=>False
   |none=>False
  |_,_=>False
theorem wD.closed{x:SV}{a:IntKind×Int}{M:Mem}{β:Nm}{v:Value}(h:wD x=some a)(r:x.a7 M β v):x.a7 (fun _ _=>none) (fun _=>none) v:=by
 unfold wD at h
 split at h
 ·exact r
 ·cases h
theorem uK.closed{x:SV}{a:ByteArray}{M M':Mem}{β β':Nm}{v:Value}(h:uK x=some a)(r:x.a7 M β v):x.a7 M' β' v:=by
 unfold uK at h
 split at h
 ·exact r
 ·cases h
theorem mZ.closed{x:SV}{a:Bool}{M M':Mem}{β β':Nm}{v:Value}(h:mZ x=some a)(r:x.a7 M β v):x.a7 M' β' v:=by
 unfold mZ at h
 split at h
 ·exact r
 ·exact r
 ·cases h
theorem uK.val{x:SV}{a:ByteArray}{M:Mem}{β:Nm}{v:Value}(h:uK x=some a)(r:x.a7 M β v):v=.string a:=by
 unfold uK at h
 split at h
 ·cases h;exact r
 ·cases h
theorem mZ.val{x:SV}{a:Bool}{M:Mem}{β:Nm}{v:Value}(h:mZ x=some a)(r:x.a7 M β v):v=.bool a:=by
 unfold mZ at h
 split at h
 ·cases h;exact r
 ·cases h;exact r
 ·cases h
theorem sI.closed:∀{xs ys:List SV} {b:Bool} {M:Mem} {β:Nm} {vs us:List Value},sI xs ys=some b→cK M β xs vs→cK M β ys us→
  cK (fun _ _=>none) (fun _=>none) xs vs∧cK (fun _ _=>none) (fun _=>none) ys us
 |[],[],_,_,_,[],[],_,_,_=>⟨trivial,trivial⟩
 |x::r,y::s,b,M,β,v::vs,u::us,e,h,k=>by
  simp only [sI]at e
  split at e
  ·rename_i k1 a k2 b c ha hb hc
   obtain⟨i1,i2⟩:=sI.closed hc h.2 k.2
   exact⟨⟨wD.closed ha h.1,i1⟩,⟨wD.closed hb k.1,i2⟩⟩
  ·rename_i c hc _
   obtain⟨i1,i2⟩:=sI.closed hc h.2 k.2
   split at e
   ·rename_i ha hb
    exact⟨⟨uK.closed ha h.1,i1⟩,⟨uK.closed hb k.1,i2⟩⟩
   ·split at e
    ·rename_i ha hb
     exact⟨⟨mZ.closed ha h.1,i1⟩,⟨mZ.closed hb k.1,i2⟩⟩
    ·cases e
  ·cases e
 |[],_::_,_,_,_,_,_,e,_,_=>by cases e
 |_::_,[],_,_,_,_,_,e,_,_=>by cases e
 |[],[],_,_,_,_::_,_,_,h,_=>h.elim
 |[],[],_,_,_,[],_::_,_,_,h=>h.elim
 |_::_,_::_,_,_,_,[],_,_,h,_=>h.elim
 |_::_,_::_,_,_,_,_::_,[],_,_,h=>h.elim
theorem bin.spec{P:Program}{T:List (Nat×bJ)}(hT:b5 P T){o:Oper}{op:BinOp}{t ty:TypeId}{x y:Operand}{g:Option Bool}{va vb:AV}{K:AV→Prop}
  (ho:o.op=.binOp op t x y ty) (h:bin T op t g va vb K):
  ∃r,K r∧(act g→∀(M:Mem) (β:Nm) (a:Act) (w:World),va.a7 M β (a.eval x)→vb.a7 M β (a.eval y)→∃v,(execOp a.eval o).run P w=.ok (.value v) w∧r.a7 M β v):=by
 unfold bin at h
 split at h
 ·rename_i k a k' b
  by_cases hk:k=k'
  ·subst hk
   simp only [decide_true,cond_true]at h
   obtain⟨r,hr,hs⟩:=I2.spec (P:=P) h
   refine⟨r,hr,fun ha M β a' w rx ry=>?_⟩
   obtain⟨v,e,rr⟩:=hs ha t w
   have ex:a'.eval x=.int k a:=rx
   have ey:a'.eval y=.int k b:=ry
   refine⟨v,?_,rr M β⟩
   simp only [execOp,ho,ex,ey,Sem.run_bind,eD op t x y (.int k a) (.int k b) w sM sM,Result.andThen,e,Sem.run_pure]
  ·simp only [hk,decide_false,cond_false]at h
 ·rename_i a b
  obtain⟨r,hr,hs⟩:=I1.spec (P:=P) h
  refine⟨r,hr,fun ha M β a' w rx ry=>?_⟩
  obtain⟨v,e,rr⟩:=hs ha t w
  have ex:a'.eval x=.string a:=rx
  have ey:a'.eval y=.string b:=ry
  refine⟨v,?_,rr M β⟩
  simp only [execOp,ho,ex,ey,Sem.run_bind,eD op t x y (.string a) (.string b) w sM sM,Result.andThen,e,Sem.run_pure]
 ·split at h
  ·rename_i i hi
   have fT:=hT.get hi
   split at h
   ·rename_i e hu
    have T8:=fT.wA hu
    cases op <;> first|exact h.elim|skip
    refine⟨_,h,fun ha M β a' w rx ry=>?_⟩
    have ex:a'.eval x=.slice none 0 0:=rx
    have ey:a'.eval y=.slice none 0 0:=ry
    refine⟨.bool true,?_,rfl⟩
    simp only [execOp,ho,ex,ey,Sem.run_bind,eD BinOp.eql t x y (.slice none 0 0) (.slice none 0 0) w sM sM,Result.andThen,NX w T8,Sem.run_pure]
   ·cases h
  ·cases h
 ·rename_i xs ys
  split at h
  ·rename_i i hi
   have fT:=hT.get hi
   cases hc:(i.ints&&(gJ i.zero xs&&gJ i.zero ys))with
   |true=>
    rw[hc]at h
    simp only [cond_true]at h
    simp only [Bool.and_eq_true]at hc
    split at h
    ·rename_i b hb
     have key:∀(M:Mem) (β:Nm) (a':Act) (w:World),(AV.g xs).a7 M β (a'.eval x)→(AV.g ys).a7 M β (a'.eval y)→
       ∃vs us:List Value,a'.eval x=.agg vs.toArray∧a'.eval y=.agg us.toArray∧(Op.equal t (.agg vs.toArray) (.agg us.toArray)).run P w=.ok b w:=by
      rintro M β a' w ⟨vs,ex,rx⟩ ⟨us,ey,ry⟩
      obtain⟨c1,c2⟩:=sI.closed hb rx ry
      exact⟨vs,us,ex,ey,fT.ints hc.1 w xs ys vs us b hc.2.1 hc.2.2 hb c1 c2⟩
     have hq:=fT.eqg hc.1
     cases op <;> first|exact h.elim|skip
     ·refine⟨_,h,fun ha M β a' w rx ry=>?_⟩
      obtain⟨vs,us,ex,ey,e⟩:=key M β a' w rx ry
      refine⟨.bool b,?_,rfl⟩
      simp only [execOp,ho,ex,ey,Sem.run_bind,run_eqGuard_agg (w:=w) .eql t x y vs.toArray us.toArray hq,Result.andThen,Sem.run_pure,binOp,e]
     ·refine⟨_,h,fun ha M β a' w rx ry=>?_⟩
      obtain⟨vs,us,ex,ey,e⟩:=key M β a' w rx ry
      refine⟨.bool (!b),?_,rfl⟩
      simp only [execOp,ho,ex,ey,Sem.run_bind,run_eqGuard_agg (w:=w) .neq t x y vs.toArray us.toArray hq,Result.andThen,Sem.run_pure,binOp,e]
    ·cases h
   |false=>
    rw[hc]at h
    cases h
  ·cases h
 ·rename_i xo
  split at h
  case h_2=>cases h
  rename_i i hi
  have fT:=hT.get hi
  split at h
  case h_2=>cases h
  rename_i e hu
  have T8:=fT.wA hu
  cases op <;> first|exact h.elim|skip
  ·refine⟨_,h,fun ha M β a' w rx ry=>?_⟩
   obtain⟨b,c,_,ex,_⟩:=rx
   have ey:a'.eval y=.slice none 0 0:=ry
   refine⟨.bool false,?_,by cases g <;> rfl⟩
   simp only [execOp,ho,ex,ey,Sem.run_bind,eD BinOp.eql t x y (.slice (some ⟨b,0,none⟩) c.2 c.1) (.slice none 0 0) w sM sM,Result.andThen,yF w T8,Sem.run_pure,Option.isNone_some]
  ·refine⟨_,h,fun ha M β a' w rx ry=>?_⟩
   obtain⟨b,c,_,ex,_⟩:=rx
   have ey:a'.eval y=.slice none 0 0:=ry
   refine⟨.bool true,?_,by cases g <;> rfl⟩
   simp only [execOp,ho,ex,ey,Sem.run_bind,eD BinOp.neq t x y (.slice (some ⟨b,0,none⟩) c.2 c.1) (.slice none 0 0) w sM sM,Result.andThen,vO w T8,Sem.run_pure,Option.isNone_some,Bool.not_false]
 ·rename_i z xo
  split at h
  case h_2=>cases h
  rename_i i hi
  have fT:=hT.get hi
  split at h
  case h_2=>cases h
  rename_i e hu
  have T8:=fT.wA hu
  have key:∀(M:Mem) (β:Nm) (v:Value),(SV.mo z xo).a7 M β v→∃a n c,v=.slice a n c∧a.isNone=z:=by
   intro M β v r
   cases z with
   |true=>exact⟨none,0,0,r.1 rfl,rfl⟩
   |false=>
    obtain⟨b,c,_,ex,_⟩:=r.2 rfl
    exact⟨_,_,_,ex,rfl⟩
  cases op <;> first|exact h.elim|skip
  ·refine⟨_,h,fun ha M β a' w rx ry=>?_⟩
   obtain⟨ad,n,c,ex,hz⟩:=key M β _ rx
   have ey:a'.eval y=.slice none 0 0:=ry
   refine⟨.bool z,?_,rfl⟩
   simp only [execOp,ho,ex,ey,Sem.run_bind,eD BinOp.eql t x y (.slice ad n c) (.slice none 0 0) w sM sM,Result.andThen,yF w T8,Sem.run_pure,hz]
  ·refine⟨_,h,fun ha M β a' w rx ry=>?_⟩
   obtain⟨ad,n,c,ex,hz⟩:=key M β _ rx
   have ey:a'.eval y=.slice none 0 0:=ry
   refine⟨.bool (!z),?_,rfl⟩
   simp only [execOp,ho,ex,ey,Sem.run_bind,eD BinOp.neq t x y (.slice ad n c) (.slice none 0 0) w sM sM,Result.andThen,vO w T8,Sem.run_pure,hz]
 ·split at h
  ·rename_i a b ha hb
   split at h
   ·rename_i i hi
    have fT:=hT.get hi
    split at h
    ·rename_i hu
     have T8:P.underlying t=some .bool:=fT.isBool hu
     cases op <;> first|exact h.elim|skip
     ·refine⟨_,h,fun _ M β a' w rx ry=>?_⟩
      have ex:=asB.spec ha rx
      have ey:=asB.spec hb ry
      refine⟨.bool (a==b),?_,rfl⟩
      simp only [execOp,ho,ex,ey,Sem.run_bind,eD BinOp.eql t x y (.bool a) (.bool b) w sM sM,Result.andThen,run_eql_bool (w:=w) t a b T8,Sem.run_pure]
     ·refine⟨_,h,fun _ M β a' w rx ry=>?_⟩
      have ex:=asB.spec ha rx
      have ey:=asB.spec hb ry
      refine⟨.bool (!(a==b)),?_,rfl⟩
      simp only [execOp,ho,ex,ey,Sem.run_bind,eD BinOp.neq t x y (.bool a) (.bool b) w sM sM,Result.andThen,run_neq_bool (w:=w) t a b T8,Sem.run_pure]
    ·cases h
   ·cases h
  ·cases h
def gen:Nat→Nat→(Nat→DV)→List SV
 |0,_,_=>[]
 |k+1,j,f=>.d (f j)::gen k (j+1) f
theorem jK{b o j:Nat}:(⟨b,o,none⟩:Addr).add j=⟨b,o+j,none⟩:=by unfold Addr.add;split <;> simp_all
theorem gen.rep{M:Mem}{β:Nm}{C:Nat→Value→Prop}{f:Nat→DV}:∀(k j:Nat),(∀i,j≤i→i<j+k→∃u,C i u∧(f i).a7 M u)→
  ∃vs:List Value,vs.length=k∧cK M β (gen k j f) vs∧∀i v,vs[i]? =some v→C (j+i) v
 |0,_,_=>⟨[],rfl,trivial,sM⟩
 |k+1,j,h=>by
  obtain⟨u,hu,hr⟩:=h j (Nat.le_refl _) oM
  obtain⟨vs,hl,WH,hm⟩:=gen.rep (M:=M) (β:=β) (C:=C) (f:=f) k (j+1) (fun i h1 h2=>h i oM oM)
  refine⟨u::vs,by simp[hl],⟨hr,WH⟩,?_⟩
  intro i v hv
  cases i with
  |zero=>simp at hv;subst hv;exact hu
  |succ i=>have:=hm i v (by simpa using hv);rw[show j+(i+1)=j+1+i by omega];exact this
def cnt(agg:Bool)(size:Nat):Nat:=match agg with|true=>size|false=>1
def jY(σ:St)(agg:Bool)(size:Nat)(g:Option Bool)(va:AV)(K:AV→Prop):Prop:=
 match va with
 |.s (.ptr x off)=>
  match aH σ.box x with
  |some (some (.cells cs))=>
   match agg with
   |true=>bif Nat.ble (off+size) cs.length then K (.g ((cs.drop off).take size))else False
   |false=>match cs[off]? with
    |some c=>K (.s c)
    |none=>False
  |_=>False
 |.s (.rw x i s o)=>
  match aH σ.box x with
  |some (some (.row _ n s' f))=>
   bif Nat.beq s s'&&Nat.ble (o+cnt agg size) s then
    imp g (i<n)∧(match agg with
    |true=>K (.g (gen size 0 fun j=>f i (o+j)))
    |false=>K (.s (.d (f i o))))
   else False
  |some (some (.bW _ n s' f))=>
   bif Nat.beq s s'&&Nat.ble (o+cnt agg size) s then
    imp g (i<n)∧(match agg with
    |true=>K (.g (gen size 0 fun j=>f i (o+j)))
    |false=>K (.s (.d (f i o))))
   else False
  |_=>False
 |.s (.d (.rp m f))=>
  match agg with
  |true=>bif Nat.ble size m then K (.g (gen size 0 f))else False
  |false=>bif Nat.ble 1 m then K (.s (.d (f 0)))else False
 |_=>False
section
variable{P:Program}{cx:Cx}{N:Nat}{M:Mem}{β:Nm}{σ:St}{a:Act}{w:World}
theorem jY.spec{agg:Bool}{size:Nat}{g:Option Bool}{va:AV}{K:AV→Prop}(h:jY σ agg size g va K):
  ∃r,K r∧(act g→∀(cx:Cx) N M β a w,Inv cx N M β σ a w→∀(t:TypeId) (u:Value),va.a7 M β u→(∀w,(isAgg t).run P w=.ok agg w)→(∀w,(sizeOf t).run P w=.ok size w)→
   ∃v,(Instr.loadAt t u).run P w=.ok v w∧r.a7 M β v):=by
 have many:∀(w:World) (t:TypeId) (b o:Nat) (vs:List Value),(∀w,(isAgg t).run P w=.ok true w)→(∀w,(sizeOf t).run P w=.ok vs.length w)→(∀j v,vs[j]? =some v→w.cell? ⟨b,o+j,none⟩=some v)→
   (Instr.loadAt t (.pointer (some ⟨b,o,none⟩))).run P w=.ok (.agg vs.toArray) w:=by
  intro w t b o vs ha hs hc
  have:=run_loadCells_list (P:=P) w ⟨b,o,none⟩ vs (fun j v hv=>by rw[jK];exact hc j v hv)
  simp[Instr.loadAt,Instr.sureAddr,loadVar,ha,hs,this]
 have one:∀(w:World) (t:TypeId) (b o:Nat) (v:Value),(∀w,(isAgg t).run P w=.ok false w)→w.cell? ⟨b,o,none⟩=some v→
   (Instr.loadAt t (.pointer (some ⟨b,o,none⟩))).run P w=.ok v w:=by
  intro w t b o v ha hc
  simp[Instr.loadAt,Instr.sureAddr,loadVar,ha,hc,run_load]
 unfold jY at h
 split at h
 ·rename_i x off
  split at h
  ·rename_i cs hb
   split at h
   ·cases hle:Nat.ble (off+size) cs.length with
    |false=>rw[hle]at h;cases h
    |true=>
     rw[hle]at h
     have hle:=Nat.le_of_ble_eq_true hle
     refine⟨_,h,fun _ cx N M β a w i t u ru ha hs=>?_⟩
     obtain⟨b,c,e1,rfl⟩:=ru
     obtain⟨b',c',vs,T,us,e2,x3,hr⟩:=i.box x _ hb
     rw[e1]at e2;cases e2
     have hlen:=hr.length
     refine⟨_,many w t b off ((vs.drop off).take size) ha ?_ ?_,_,rfl,(hr.drop off).take size⟩
     ·intro w;rw[hs];simp;omega
     ·intro j v hv
      rw[List.getElem?_take]at hv
      split at hv
      ·simp only [World.cell?,x3]
       rw[List.getElem?_drop]at hv
       have:=BN (us:=us) hv
       simpa using this
      ·cases hv
   ·split at h
    ·rename_i c hc
     refine⟨_,h,fun _ cx N M β a w i t u ru ha hs=>?_⟩
     obtain⟨b,c',e1,rfl⟩:=ru
     obtain⟨b',c'',vs,T,us,e2,x3,hr⟩:=i.box x _ hb
     rw[e1]at e2;cases e2
     obtain⟨v,hv,RO⟩:=hr.get hc
     exact⟨v,one w t b off v ha (by have:=BN (us:=us) hv;simpa [World.cell?,x3]using this),RO⟩
    ·cases h
  ·cases h
 ·rename_i x i s o
  split at h
  ·rename_i e n s' f hb
   have row:∀(cx:Cx) N M β a w,Inv cx N M β σ a w→s=s'→i<n→∀u,(AV.s (.rw x i s o)).a7 M β u→
     ∃b,u=.pointer (some ⟨b,i*s+o,none⟩)∧∀j,o+j<s→∃v,w.cell? ⟨b,i*s+o+j,none⟩=some v∧(f i (o+j)).a7 M v:=by
    rintro cx N M β a w iv rfl hi u ⟨b,c,e1,rfl⟩
    obtain⟨b',c',cur,e2,x3,_,lT,hn,H6,hc⟩:=iv.box x _ hb
    rw[e1]at e2;cases e2
    refine⟨b,rfl,fun j hj=>?_⟩
    obtain⟨v,hv,hr⟩:=hc i (o+j) hi hj
    exact⟨v,by simp[World.cell?,x3];rw[Nat.add_assoc];exact hv,hr⟩
   cases o7:(Nat.beq s s'&&Nat.ble (o+cnt agg size) s)with
   |false=>rw[o7]at h;cases h
   |true=>
    rw[o7]at h
    simp only [Bool.and_eq_true]at o7
    have J6:=Nat.eq_of_beq_eq_true o7.1
    have M5:=Nat.le_of_ble_eq_true o7.2
    obtain⟨iT,h⟩:=h
    cases agg with
    |true=>
     refine⟨_,h,fun G6 cx N M β a w iv t u ru ha hs=>?_⟩
     obtain⟨b,rfl,cN⟩:=row cx N M β a w iv J6 (iT.get G6) u ru
     simp only [cnt]at M5
     obtain⟨vs,hl,hr,hm⟩:=gen.rep (M:=M) (β:=β) (C:=fun j v=>w.cell? ⟨b,i*s+o+j,none⟩=some v) (f:=fun j=>f i (o+j)) size 0
      (fun j _ hj=>cN j oM)
     exact⟨_,many w t b _ vs ha (by intro w;rw[hs,hl]) (fun j v hv=>by have:=hm j v hv;rwa [Nat.zero_add]at this),vs,rfl,hr⟩
    |false=>
     refine⟨_,h,fun G6 cx N M β a w iv t u ru ha hs=>?_⟩
     obtain⟨b,rfl,cN⟩:=row cx N M β a w iv J6 (iT.get G6) u ru
     simp only [cnt]at M5
     obtain⟨v,hv,hr⟩:=cN 0 oM
     exact⟨v,one w t b _ v ha hv,hr⟩
  ·rename_i e n s' f hb
   have row:∀(cx:Cx) N M β a w,Inv cx N M β σ a w→s=s'→i<n→∀u,(AV.s (.rw x i s o)).a7 M β u→
     ∃b,u=.pointer (some ⟨b,i*s+o,none⟩)∧∀j,o+j<s→∃v,w.cell? ⟨b,i*s+o+j,none⟩=some v∧(f i (o+j)).a7 M v:=by
    rintro cx N M β a w iv rfl hi u ⟨b,c,e1,rfl⟩
    obtain⟨cur,x3,_,lT,hn,H6,hc⟩:=iv.box x _ hb b c e1
    refine⟨b,rfl,fun j hj=>?_⟩
    obtain⟨v,hv,hr⟩:=hc i (o+j) hi hj
    exact⟨v,by simp[World.cell?,x3];rw[Nat.add_assoc];exact hv,hr⟩
   cases o7:(Nat.beq s s'&&Nat.ble (o+cnt agg size) s)with
   |false=>rw[o7]at h;cases h
   |true=>
    rw[o7]at h
    simp only [Bool.and_eq_true]at o7
    have J6:=Nat.eq_of_beq_eq_true o7.1
    have M5:=Nat.le_of_ble_eq_true o7.2
    obtain⟨iT,h⟩:=h
    cases agg with
    |true=>
     refine⟨_,h,fun G6 cx N M β a w iv t u ru ha hs=>?_⟩
     obtain⟨b,rfl,cN⟩:=row cx N M β a w iv J6 (iT.get G6) u ru
     simp only [cnt]at M5
     obtain⟨vs,hl,hr,hm⟩:=gen.rep (M:=M) (β:=β) (C:=fun j v=>w.cell? ⟨b,i*s+o+j,none⟩=some v) (f:=fun j=>f i (o+j)) size 0
      (fun j _ hj=>cN j oM)
     exact⟨_,many w t b _ vs ha (by intro w;rw[hs,hl]) (fun j v hv=>by have:=hm j v hv;rwa [Nat.zero_add]at this),vs,rfl,hr⟩
    |false=>
     refine⟨_,h,fun G6 cx N M β a w iv t u ru ha hs=>?_⟩
     obtain⟨b,rfl,cN⟩:=row cx N M β a w iv J6 (iT.get G6) u ru
     simp only [cnt]at M5
     obtain⟨v,hv,hr⟩:=cN 0 oM
     exact⟨v,one w t b _ v ha hv,hr⟩
  ·cases h
 ·rename_i m f
  split at h
  ·cases hle:Nat.ble size m with
   |false=>rw[hle]at h;cases h
   |true=>
    rw[hle]at h
    have hle:=Nat.le_of_ble_eq_true hle
    refine⟨_,h,fun _ cx N M β a w i t u ru ha hs=>?_⟩
    obtain⟨b,o,rfl,hc⟩:=ru
    obtain⟨vs,hl,hr,hm⟩:=gen.rep (M:=M) (β:=β) (C:=fun j v=>M b (o+j)=some v) (f:=f) size 0 (fun j _ hj=>hc j oM)
    exact⟨_,many w t b o vs ha (by intro w;rw[hs,hl]) (fun j v hv=>i.mem _ _ _ (by have:=hm j v hv;rwa [Nat.zero_add]at this)),vs,rfl,hr⟩
  ·cases hle:Nat.ble 1 m with
   |false=>rw[hle]at h;cases h
   |true=>
    rw[hle]at h
    have hle:=Nat.le_of_ble_eq_true hle
    refine⟨_,h,fun _ cx N M β a w i t u ru ha hs=>?_⟩
    obtain⟨b,o,rfl,hc⟩:=ru
    obtain⟨v,hv,hr⟩:=hc 0 oM
    exact⟨v,one w t b o v ha (i.mem _ _ _ hv),hr⟩
 ·cases h
end
def jL(P:Program)(o:Oper)(σ:St)(g:Option Bool)(r:AV):Prop:=
 act g→∀cx N M β a w,Inv cx N M β σ a w→∃v,(execOp a.eval o).run P w=.ok (.value v) w∧r.a7 M β v
section
variable{P:Program}{σ:St}{g:Option Bool}{K:AV→Prop}{o:Oper}
theorem fe.ev{x:Operand}(h:fe g (ev σ x) K):
  ∃r,K r∧(act g→∀cx N M β a w,Inv cx N M β σ a w→r.a7 M β (a.eval x)):=by
 obtain⟨r,hk,hr⟩:=fe.spec h
 exact⟨r,hk,fun ha cx N M β a w i=>hr ha M β _ (Go.Ax.ev.rep i x)⟩
theorem move.spec{x:Operand}(ho:o.op=.move x∨o.op=.assign x)(h:fe g (ev σ x) K):∃r,K r∧jL P o σ g r:=by
 obtain⟨r,hk,hr⟩:=fe.ev h
 refine⟨r,hk,fun ha cx N M β a w i=>⟨a.eval x,?_,hr ha cx N M β a w i⟩⟩
 rcases ho with ho|ho <;> simp[execOp,ho]
theorem load.spec{T:List (Nat×bJ)}(hT:b5 P T){t:TypeId}{x:Operand}(ho:o.op=.load t x)
  (h:fe g (ev σ x) fun va=>match cV T t with|some ti=>jY σ ti.agg ti.size g va K|none=>False):∃r,K r∧jL P o σ g r:=by
 replace h:=fe.ev h
 obtain⟨va,h,hr⟩:=h
 split at h
 ·rename_i ti fX
  have fT:=hT.get fX
  obtain⟨r,hk,hs⟩:=jY.spec (P:=P) h
  refine⟨r,hk,fun ha cx N M β a w i=>?_⟩
  obtain⟨v,e,rv⟩:=hs ha cx N M β a w i t (a.eval x) (hr ha cx N M β a w i) fT.zX fT.gY
  exact⟨v,by simp[execOp,ho,e],rv⟩
 ·cases h
def qX(T:List (Nat×bJ))(s f:Nat)(va:AV)(K:AV→Prop):Prop:=
 match cV T s with
 |some ti=>match ti.uO[f]? with
  |some (off,sz)=>match ti.jS with
   |.struct=>bif Nat.beq sz 0 then False else
    match va with
    |.s (.ptr x o)=>K (.s (.ptr x (o+off)))
    |.s (.rw x i s' o)=>K (.s (.rw x i s' (o+off)))
    |.s (.d (.rp m f))=>K (.s (.d (.rp (m - off) fun j=>f (off+j))))
    |_=>False
   |_=>False
  |none=>False
 |none=>False
theorem rA.get:∀{fs:List Field} {l:List (Nat×Nat)} {k:Nat} {off sz:Nat},rA P fs l→l[k]? =some (off,sz)→
  ∃f,fs[k]? =some f∧f.offset=off∧∃ti,P.info? f.type=some ti∧ti.size=sz
 |[],[],_,_,_,_,h=>by simp at h
 |f::fs,(o,z)::r,0,off,sz,⟨h1,h2,_⟩,h=>by
  simp at h;obtain⟨rfl,rfl⟩:=h
  exact⟨f,rfl,h1,h2⟩
 |f::fs,(o,z)::r,k+1,off,sz,⟨_,_,h3⟩,h=>by
  have:=rA.get (k:=k) h3 (by simpa using h)
  simpa using this
 |[],_::_,_,_,_,h,_=>h.elim
 |_::_,[],_,_,_,h,_=>h.elim
theorem field.spec{T:List (Nat×bJ)}(hT:b5 P T){s f:Nat}{x:Operand}(ho:o.op=.fieldAddr s x f)
  (h:fe g (ev σ x) fun va=>qX T s f va K):∃r,K r∧jL P o σ g r:=by
 replace h:=fe.ev h
 obtain⟨va,h,hr⟩:=h
 unfold qX at h
 split at h
 ·rename_i ti fX
  have fT:=hT.get fX
  split at h
  ·rename_i off sz hf
   split at h
   ·rename_i hu
    obtain⟨fs,cS⟩:=fT.OW hu
    cases hz:Nat.beq sz 0 with
    |true=>rw[hz]at h;cases h
    |false=>
     rw[hz]at h
     have hz:sz≠0:=fun e=>by subst e;cases hz
     obtain⟨fl,hfl,aL8,ti2,hi2,lT⟩:=(fT.uO fs cS).get hf
     have run:∀(b o:Nat) (w:World),(Instr.fieldAt s (.pointer (some ⟨b,o,none⟩)) f).run P w=.ok (.pointer (some ⟨b,o+off,none⟩)) w:=by
      intro b o w
      have aMF:fs[f]? =some fl:=by simpa using hfl
      have:(underlying s).run P w=.ok (.struct fs) w:=by simp[underlying,cS]
      have hz':¬ti2.size=0:=by rw[lT];exact hz
      simp[Instr.fieldAt,this,aMF,Instr.sureAddr,fieldPlace,sizeOf,typeInfo,hi2,hz',jK,aL8]
     split at h
     ·refine⟨_,h,fun ha cx N M β a w i=>?_⟩
      obtain⟨b,c,e1,e2⟩:=hr ha cx N M β a w i
      exact⟨_,by simp[execOp,ho,e2,run],b,c,e1,rfl⟩
     ·refine⟨_,h,fun ha cx N M β a w i=>?_⟩
      obtain⟨b,c,e1,e2⟩:=hr ha cx N M β a w i
      exact⟨_,by simp[execOp,ho,e2,run];rfl,b,c,e1,by rw[Nat.add_assoc]⟩
     ·rename_i m fn
      refine⟨_,h,fun ha cx N M β a w i=>?_⟩
      obtain⟨b,o',e2,hc⟩:=hr ha cx N M β a w i
      refine⟨_,by simp[execOp,ho,e2,run],b,o'+off,rfl,fun j hj=>?_⟩
      obtain⟨u,hu,EI⟩:=hc (off+j) oM
      exact⟨u,by rw[Nat.add_assoc];exact hu,EI⟩
     ·cases h
   ·cases h
  ·cases h
 ·cases h
def pN(T:List (Nat×bJ))(σ:St)(t:Nat)(g:Option Bool)(va vi:AV)(K:AV→Prop):Prop:=
 match cV T t with
 |some ti=>match ti.jS with
  |.slice e=>match cV T e with
   |some te=>match vi with
    |.s (.d (.val (.int _ n)))=>match va with
     |.s (.d (.fJ len s f))=>bif Nat.beq s te.size then imp g (0≤n∧n<(len:Int))∧K (.s (.d (.rp s (f n.toNat))))else False
     |.s (.own x)=>match aH σ.box x with
      |some (some (.row _ len s _))=>bif Nat.beq s te.size then imp g (0≤n∧n<(len:Int))∧K (.s (.rw x n.toNat s 0))else False
      |_=>False
     |.s (.mo z x)=>match aH σ.box x with
      |some (some (.bW _ len s _))=>bif Nat.beq s te.size then imp g (0≤n∧n<((bif z then 0 else len:Nat):Int))∧K (.s (.rw x n.toNat s 0))else False
      |_=>False
     |.s (.jQ x s lo m)=>match aH σ.box x with
      |some (some (.cells _))=>bif Nat.beq s te.size then imp g (0≤n∧n<(m:Int))∧K (.s (.ptr x ((lo+n.toNat)*s)))else False
      |_=>bif Nat.beq s te.size then imp g (0≤n∧n<(m:Int))∧K (.s (.rw x (lo+n.toNat) s 0))else False
     |_=>False
    |_=>False
   |none=>False
  |.array len e=>match cV T e with
   |some te=>match vi with
    |.s (.d (.val (.int _ n)))=>match va with
     |.s (.ptr x off)=>imp g (0≤n∧n<(len:Int))∧K (.s (.ptr x (off+n.toNat*te.size)))
     |.s (.rw x i s' off)=>imp g (0≤n∧n<(len:Int))∧K (.s (.rw x i s' (off+n.toNat*te.size)))
     |.s (.d (.rp m f))=>imp g (0≤n∧n<(len:Int))∧K (.s (.d (.rp (m - n.toNat*te.size) fun j=>f (n.toNat*te.size+j))))
     |_=>False
    |_=>False
   |none=>False
  |_=>False
 |none=>False
theorem idx.spec{T:List (Nat×bJ)}(hT:b5 P T){t:Nat}{x y:Operand}(ho:o.op=.indexAddr t x y)
  (h:fe g (ev σ x) fun va=>fe g (ev σ y) fun vi=>pN T σ t g va vi K):∃r,K r∧jL P o σ g r:=by
 replace h:=fe.ev h
 obtain⟨va,h,hr⟩:=h
 replace h:=fe.ev h
 obtain⟨vi,h,X7⟩:=h
 unfold pN at h
 split at h
 case h_2=>cases h
 rename_i ti fX
 have fT:=hT.get fX
 split at h
 case h_3=>cases h
 rotate_left
 ·rename_i len e hu
  have cS:P.underlying t=some (.array len e):=fT.E2 hu
  split at h
  case h_2=>cases h
  rename_i te mD
  have lW:=hT.get mD
  split at h
  case h_2=>cases h
  rename_i k n
  have aV:∀(b off:Nat) (w:World),0≤n→n<(len:Int)→(Instr.indexAt t (.pointer (some ⟨b,off,none⟩)) (.int k n)).run P w=.ok (.pointer (some ⟨b,off+n.toNat*te.size,none⟩)) w:=by
   intro b off w h0 h1
   have hu1:(underlying t).run P w=.ok (.array len e) w:=by simp[underlying,cS]
   have hs:=lW.gY w
   simp[Instr.indexAt,asIntOf,hu1,h0,h1,hs,jK,Instr.sureAddr]
  split at h
  ·rename_i x' off
   refine⟨_,h.2,fun ha cx N M β a w i=>?_⟩
   obtain⟨h0,h1⟩:=h.1.get ha
   obtain⟨b,c,e1,ex⟩:=hr ha cx N M β a w i
   have ey:a.eval y=.int k n:=X7 ha cx N M β a w i
   exact⟨_,by simp only [execOp,ho,ex,ey,aV b off w h0 h1,Sem.run_bind,Result.andThen,Sem.run_pure],b,c,e1,rfl⟩
  ·rename_i x' i' s' off
   refine⟨_,h.2,fun ha cx N M β a w i=>?_⟩
   obtain⟨h0,h1⟩:=h.1.get ha
   obtain⟨b,c,e1,ex⟩:=hr ha cx N M β a w i
   have ey:a.eval y=.int k n:=X7 ha cx N M β a w i
   exact⟨_,by simp only [execOp,ho,ex,ey,aV b _ w h0 h1,Sem.run_bind,Result.andThen,Sem.run_pure];rfl,b,c,e1,by rw[Nat.add_assoc]⟩
  ·rename_i m fn
   refine⟨_,h.2,fun ha cx N M β a w i=>?_⟩
   obtain⟨h0,h1⟩:=h.1.get ha
   obtain⟨b,o',ex,hc⟩:=hr ha cx N M β a w i
   have ey:a.eval y=.int k n:=X7 ha cx N M β a w i
   refine⟨_,by simp only [execOp,ho,ex,ey,aV b o' w h0 h1,Sem.run_bind,Result.andThen,Sem.run_pure],b,o'+n.toNat*te.size,rfl,fun j hj=>?_⟩
   obtain⟨u,hu,EI⟩:=hc (n.toNat*te.size+j) oM
   exact⟨u,by rw[Nat.add_assoc];exact hu,EI⟩
  ·cases h
 rename_i e hu
 have cS:P.underlying t=some (.slice e):=fT.isSlice hu
 split at h
 case h_2=>cases h
 rename_i te mD
 have lW:=hT.get mD
 split at h
 case h_2=>cases h
 rename_i k n
 have run:∀(b o:Nat) (len cap:Nat) (w:World),0≤n→n<(len:Int)→
   (Instr.indexAt t (.slice (some ⟨b,o,none⟩) len cap) (.int k n)).run P w=.ok (.pointer (some ⟨b,o+n.toNat*te.size,none⟩)) w:=by
  intro b o len cap w h0 h1
  have hu1:(underlying t).run P w=.ok (.slice e) w:=by simp[underlying,cS]
  have hs:=lW.gY w
  simp[Instr.indexAt,asIntOf,hu1,h0,h1,hs,jK]
 split at h
 ·rename_i len s f
  cases hs:Nat.beq s te.size with
  |false=>rw[hs]at h;cases h
  |true=>
   rw[hs]at h
   have hs:=Nat.eq_of_beq_eq_true hs
   refine⟨_,h.2,fun ha cx N M β a w i=>?_⟩
   obtain⟨h0,h1⟩:=h.1.get ha
   obtain⟨ad,cap,ex,uN,hc⟩:=hr ha cx N M β a w i
   have ey:a.eval y=.int k n:=X7 ha cx N M β a w i
   rcases hc with h0'|⟨b,o',rfl,hc⟩
   ·omega
   ·refine⟨_,by simp only [execOp,ho,ex,ey,run b o' len cap w h0 h1,Sem.run_bind,Result.andThen,Sem.run_pure];rfl,b,_,rfl,fun j hj=>?_⟩
    obtain⟨u,hu,EI⟩:=hc n.toNat j oM hj
    exact⟨u,by rw[←hs];exact hu,EI⟩
 ·rename_i x'
  split at h
  case h_2=>cases h
  rename_i e' len s f hb
  cases hs:Nat.beq s te.size with
  |false=>rw[hs]at h;cases h
  |true=>
   rw[hs]at h
   have hs:=Nat.eq_of_beq_eq_true hs
   refine⟨_,h.2,fun ha cx N M β a w i=>?_⟩
   obtain⟨h0,h1⟩:=h.1.get ha
   obtain⟨b,c,e1,ex,uN⟩:=hr ha cx N M β a w i
   obtain⟨b2,c2,cur,e2,_,hlen,_⟩:=i.box x' _ hb
   rw[e1]at e2;cases e2
   rw[hlen]at ex
   have ey:a.eval y=.int k n:=X7 ha cx N M β a w i
   exact⟨_,by simp only [execOp,ho,ex,ey,run b 0 len c.1 w h0 h1,Sem.run_bind,Result.andThen,Sem.run_pure];rfl,b,c,e1,by rw[hs];simp⟩
 ·rename_i zz x'
  split at h
  case h_2=>cases h
  rename_i e' len s f hb
  cases hs:Nat.beq s te.size with
  |false=>rw[hs]at h;cases h
  |true=>
   rw[hs]at h
   have hs:=Nat.eq_of_beq_eq_true hs
   refine⟨_,h.2,fun ha cx N M β a w i=>?_⟩
   obtain⟨h0,h1⟩:=h.1.get ha
   cases zz with
   |true=>simp only [cond_true]at h1;omega
   |false=>
    simp only [cond_false]at h1
    obtain⟨b,c,e1,ex,uN⟩:=(hr ha cx N M β a w i).2 rfl
    obtain⟨cur,_,hlen,_⟩:=i.box x' _ hb b c e1
    rw[hlen]at ex
    have ey:a.eval y=.int k n:=X7 ha cx N M β a w i
    exact⟨_,by simp only [execOp,ho,ex,ey,run b 0 len c.1 w h0 h1,Sem.run_bind,Result.andThen,Sem.run_pure];rfl,b,c,e1,by rw[hs];simp⟩
 ·rename_i x' s lo m
  split at h
  ·cases hs:Nat.beq s te.size with
   |false=>rw[hs]at h;cases h
   |true=>
    rw[hs]at h
    have hs:=Nat.eq_of_beq_eq_true hs
    refine⟨_,h.2,fun ha cx N M β a w i=>?_⟩
    obtain⟨h0,h1⟩:=h.1.get ha
    obtain⟨b,c,o',e1,ex,hoo,hc1,H7⟩:=hr ha cx N M β a w i
    have ey:a.eval y=.int k n:=X7 ha cx N M β a w i
    refine⟨_,by simp only [execOp,ho,ex,ey,run b o' m (c.1 - lo) w h0 h1,Sem.run_bind,Result.andThen,Sem.run_pure];rfl,b,c,e1,?_⟩
    rw[hoo oM,hs,Nat.add_mul]
  ·cases hs:Nat.beq s te.size with
   |false=>rw[hs]at h;cases h
   |true=>
    rw[hs]at h
    have hs:=Nat.eq_of_beq_eq_true hs
    refine⟨_,h.2,fun ha cx N M β a w i=>?_⟩
    obtain⟨h0,h1⟩:=h.1.get ha
    obtain⟨b,c,o',e1,ex,hoo,hc1,H7⟩:=hr ha cx N M β a w i
    have ey:a.eval y=.int k n:=X7 ha cx N M β a w i
    refine⟨_,by simp only [execOp,ho,ex,ey,run b o' m (c.1 - lo) w h0 h1,Sem.run_bind,Result.andThen,Sem.run_pure];rfl,b,c,e1,?_⟩
    rw[hoo oM,hs,Nat.add_mul];rfl
 ·cases h
def B5(T:List (Nat×bJ))(t:Nat)(g:Option Bool)(va vi:AV)(K:AV→Prop):Prop:=
 match cV T t with
 |some ti=>match ti.jS with
  |.string=>match va,vi with
   |.s (.d (.val (.string s))),.s (.d (.val (.int _ n)))=>imp g (0≤n∧n<(s.size:Int))∧K (qB .u8 (s[n.toNat]!).toNat)
   |_,_=>False
  |.array len e=>match cV T e with
   |some te=>match va,vi with
    |.g cs,.s (.d (.val (.int _ n)))=>imp g (0≤n∧n<(len:Int))∧(match te.agg with
     |true=>bif Nat.ble (n.toNat*te.size+te.size) cs.length then K (.g ((cs.drop (n.toNat*te.size)).take te.size))else False
     |false=>match cs[n.toNat*te.size]? with
      |some c=>K (.s c)
      |none=>False)
    |_,_=>False
   |none=>False
  |_=>False
 |none=>False
theorem str.spec{T:List (Nat×bJ)}(hT:b5 P T){t:Nat}{x y:Operand}(ho:o.op=.index t x y)
  (h:fe g (ev σ x) fun va=>fe g (ev σ y) fun vi=>B5 T t g va vi K):∃r,K r∧jL P o σ g r:=by
 replace h:=fe.ev h
 obtain⟨va,h,hr⟩:=h
 replace h:=fe.ev h
 obtain⟨vi,h,X7⟩:=h
 unfold B5 at h
 split at h
 case h_2=>cases h
 rename_i ti fX
 have fT:=hT.get fX
 split at h
 case h_3=>cases h
 ·rename_i hu
  have cS:P.underlying t=some .string:=fT.isString hu
  split at h
  case h_2=>cases h
  rename_i s k n
  refine⟨_,h.2,fun ha cx N M β a w i=>?_⟩
  obtain⟨h0,h1⟩:=h.1.get ha
  have ex:a.eval x=.string s:=hr ha cx N M β a w i
  have ey:a.eval y=.int k n:=X7 ha cx N M β a w i
  have hu1:(underlying t).run P w=.ok .string w:=by simp[underlying,cS]
  have fR:n.toNat<s.size:=oM
  have hg:s[n.toNat]? =some s[n.toNat]! :=by
   rw[getElem?_pos s n.toNat fR,getElem!_pos s n.toNat fR]
  refine⟨_,?_,rfl⟩
  simp[execOp,ho,ex,ey,Instr.index,asIntOf,hu1,h0,hg]
 ·rename_i len e hu
  have cS:P.underlying t=some (.array len e):=fT.E2 hu
  split at h
  case h_2=>cases h
  rename_i te mD
  have lW:=hT.get mD
  split at h
  case h_2=>cases h
  rename_i cs k n
  obtain⟨iT,h⟩:=h
  split at h
  ·rename_i G4
   cases hle:Nat.ble (n.toNat*te.size+te.size) cs.length with
   |false=>rw[hle]at h;cases h
   |true=>
    rw[hle]at h
    refine⟨_,h,fun ha cx N M β a w i=>?_⟩
    obtain⟨h0,h1⟩:=iT.get ha
    obtain⟨vs,ex,hrl⟩:=hr ha cx N M β a w i
    have ey:a.eval y=.int k n:=X7 ha cx N M β a w i
    have hu1:(underlying t).run P w=.ok (.array len e) w:=by simp[underlying,cS]
    have ha1:=lW.zX w
    rw[G4]at ha1
    refine⟨.agg ((vs.drop (n.toNat*te.size)).take te.size).toArray,?_,_,rfl,(hrl.drop _).take _⟩
    simp[execOp,ho,ex,ey,Instr.index,asIntOf,hu1,h0,h1,part,ha1,lW.gY,List.extract_eq_take_drop]
  ·rename_i G4
   split at h
   case h_2=>cases h
   rename_i c hc
   refine⟨_,h,fun ha cx N M β a w i=>?_⟩
   obtain⟨h0,h1⟩:=iT.get ha
   obtain⟨vs,ex,hrl⟩:=hr ha cx N M β a w i
   have ey:a.eval y=.int k n:=X7 ha cx N M β a w i
   have hu1:(underlying t).run P w=.ok (.array len e) w:=by simp[underlying,cS]
   have ha1:=lW.zX w
   rw[G4]at ha1
   obtain⟨v,hv,RO⟩:=hrl.get hc
   refine⟨v,?_,RO⟩
   simp[execOp,ho,ex,ey,Instr.index,asIntOf,hu1,h0,h1,part,ha1,lW.gY,hv]
def IU(k:Nat)(va:AV)(K:AV→Prop):Prop:=
 match va with
 |.t ts=>match ts[k]? with
  |some (.s x)=>K (.s x)
  |some (.g cs)=>K (.g cs)
  |none=>False
 |_=>False
theorem ext.spec{k:Nat}{x:Operand}(ho:o.op=.extract x k)(h:IU k (ev σ x) K):∃r,K r∧jL P o σ g r:=by
 unfold IU at h
 split at h
 case h_2=>cases h
 rename_i ts qV
 have key:∀tv,ts[k]? =some tv→∀cx N M β a w,Inv cx N M β σ a w→∃v,(execOp a.eval o).run P w=.ok (.value v) w∧tv.a7 M β v:=by
  intro tv htv cx N M β a w i
  have:=ev.rep i x
  rw[qV]at this
  obtain⟨vs,ex,hv⟩:=this
  obtain⟨v,hv1,X6⟩:=hv.get htv
  exact⟨v,by simp[execOp,ho,ex,Instr.extract,hv1],X6⟩
 split at h
 case h_3=>cases h
 ·rename_i s hs
  exact⟨_,h,fun _ cx N M β a w i=>key _ hs cx N M β a w i⟩
 ·rename_i cs hs
  exact⟨_,h,fun _ cx N M β a w i=>key _ hs cx N M β a w i⟩
def unV(op:UnOp)(va:AV)(K:AV→Prop):Prop:=
 match op,va with
 |.not,.s (.d (.lit b))=>match b with|true=>K (.s (.d (.lit false)))|false=>K (.s (.d (.lit true)))
 |.not,.s (.d (.val (.bool b)))=>K (kY (!b))
 |.neg,.s (.d (.val (.int k n)))=>K (qB k (k.wrap (0 - n)))
 |_,_=>False
theorem un.spec{op:UnOp}{t:Nat}{x:Operand}(ho:o.op=.unOp op t x)(h:fe g (ev σ x) fun va=>unV op va K):∃r,K r∧jL P o σ g r:=by
 replace h:=fe.ev h
 obtain⟨va,h,hr⟩:=h
 unfold unV at h
 split at h
 case h_4=>cases h
 ·rename_i b
  cases b with
  |true=>
   refine⟨_,h,fun ha cx N M β a w i=>⟨.bool false,?_,rfl⟩⟩
   have ex:a.eval x=.bool true:=hr ha cx N M β a w i
   simp[execOp,ho,ex,Op.unary]
  |false=>
   refine⟨_,h,fun ha cx N M β a w i=>⟨.bool true,?_,rfl⟩⟩
   have ex:a.eval x=.bool false:=hr ha cx N M β a w i
   simp[execOp,ho,ex,Op.unary]
 ·rename_i b
  refine⟨_,h,fun ha cx N M β a w i=>⟨.bool (!b),?_,rfl⟩⟩
  have ex:a.eval x=.bool b:=hr ha cx N M β a w i
  simp[execOp,ho,ex,Op.unary]
 ·rename_i k n
  refine⟨_,h,fun ha cx N M β a w i=>⟨_,?_,rfl⟩⟩
  have ex:a.eval x=.int k n:=hr ha cx N M β a w i
  simp[execOp,ho,ex,Op.unary,Op.intArith]
def BH:AV→Option (Bool×Option Bool)
 |.s (.d (.lit b))=>some (b,none)
 |.s (.d (.val (.bool b)))=>some (b,none)
 |.ib c (.d (.lit b))=>some (b,some c)
 |.ib c (.d (.val (.bool b)))=>some (b,some c)
 |_=>none
theorem BH.spec{v:AV}{b:Bool}{c:Option Bool}{M:Mem}{β:Nm}{u:Value}(h:BH v=some (b,c))(r:v.a7 M β u)(hc:act c):u=.bool b:=by
 unfold BH at h
 split at h
 ·cases h;exact r
 ·cases h;exact r
 ·cases h;exact r.1 (hc _ rfl)
 ·cases h;exact r.1 (hc _ rfl)
 ·cases h
def PF(p:Prop):Option Bool→Prop
 |none=>True
 |some c=>p→c=true
theorem PF.act{p:Prop}{c:Option Bool}(h:PF p c)(hp:p):act c:=by
 intro b e;subst e;exact h hp
def Z7(b:Bool):AV→Bool
 |.s (.d (.lit c))=>match b,c with|true,true=>true|false,false=>true|_,_=>false
 |_=>false
theorem Z7.eq{b:Bool}{v:AV}(h:Z7 b v=true):v=.s (.d (.lit b)):=by
 unfold Z7 at h
 split at h
 ·rename_i c
  cases b <;> cases c <;> first|rfl|cases h
 ·cases h
def tW(g:Option Bool)(vc vx vy:AV)(K:AV→Prop):Prop:=
 match vc with
 |.s (.d (.lit b))=>match b with
  |true=>fe g vx K
  |false=>fe g vy K
 |.s (.d (.val (.bool b)))=>
  match BH vx,BH vy with
  |some (p,gp),some (q,gq)=>imp g (PF (b=true) gp)∧imp g (PF (b=false) gq)∧
    (bif Z7 false vy then K (kY (b&&p))else bif Z7 true vx then K (kY (b||q))else K (kY (bif b then p else q)))
  |_,_=>False
 |_=>False
theorem pick.spec{c x y:Operand}(ho:o.op=.pick c x y)(h:fe g (ev σ c) fun vc=>tW g vc (ev σ x) (ev σ y) K):∃r,K r∧jL P o σ g r:=by
 replace h:=fe.ev h
 obtain⟨vc,h,hr⟩:=h
 unfold tW at h
 split at h
 case h_3=>cases h
 ·rename_i b
  cases b with
  |true=>
   obtain⟨r,hk,hx⟩:=fe.ev h
   refine⟨r,hk,fun ha cx N M β a w i=>⟨a.eval x,?_,hx ha cx N M β a w i⟩⟩
   have ex:a.eval c=.bool true:=hr ha cx N M β a w i
   simp[execOp,ho,ex,asBool]
  |false=>
   obtain⟨r,hk,hx⟩:=fe.ev h
   refine⟨r,hk,fun ha cx N M β a w i=>⟨a.eval y,?_,hx ha cx N M β a w i⟩⟩
   have ex:a.eval c=.bool false:=hr ha cx N M β a w i
   simp[execOp,ho,ex,asBool]
 ·rename_i b
  split at h
  case h_2=>cases h
  rename_i p gp q gq hp hq
  obtain⟨h1,h2,h⟩:=h
  have key:∀cx N M β a w,act g→Inv cx N M β σ a w→(execOp a.eval o).run P w=.ok (.value (.bool (bif b then p else q))) w:=by
   intro cx N M β a w ha i
   have ex:a.eval c=.bool b:=hr ha cx N M β a w i
   cases b with
   |true=>
    have:=BH.spec hp (ev.rep i x) ((imp.get h1 ha).act rfl)
    simp[execOp,ho,ex,asBool,this]
   |false=>
    have:=BH.spec hq (ev.rep i y) ((imp.get h2 ha).act rfl)
    simp[execOp,ho,ex,asBool,this]
  cases e1:Z7 false (ev σ y)with
  |true=>
   rw[e1]at h
   refine⟨_,h,fun ha cx N M β a w i=>⟨_,key cx N M β a w ha i,?_⟩⟩
   have:q=false:=by
    rw[Z7.eq e1]at hq
    simp only [BH,Option.some.injEq,Prod.mk.injEq]at hq
    exact hq.1.symm
   subst this
   show Value.bool _=Value.bool _
   cases b <;> rfl
  |false=>
   rw[e1]at h
   cases e2:Z7 true (ev σ x)with
   |true=>
    rw[e2]at h
    refine⟨_,h,fun ha cx N M β a w i=>⟨_,key cx N M β a w ha i,?_⟩⟩
    have:p=true:=by
     rw[Z7.eq e2]at hp
     simp only [BH,Option.some.injEq,Prod.mk.injEq]at hp
     exact hp.1.symm
    subst this
    show Value.bool _=Value.bool _
    cases b <;> rfl
   |false=>
    rw[e2]at h
    exact⟨_,h,fun ha cx N M β a w i=>⟨_,key cx N M β a w ha i,rfl⟩⟩
end
section
variable{P:Program}{σ:St}{g:Option Bool}{K:AV→Prop}{o:Oper}
def sB(T:List (Nat×bJ))(src dst:Nat)(va:AV)(K:AV→Prop):Prop:=
 match cV T src,cV T dst with
 |some ts,some td=>match ts.jS,td.jS,va with
  |.int _,.int k,.s (.d (.val (.int _ n)))=>K (qB k (k.wrap n))
  |.string,.string,.s (.d (.val (.string s)))=>K (.s (.d (.val (.string s))))
  |.int _,.float k,.s (.d (.val (.int _ n)))=>K (.s (.d (.val (.float k (k.nearest n)))))
  |.float _,.int k,.s (.d (.val (.float s b)))=>∃n:Int,((s.decode b).toInt .zero=some n∧k.min≤n∧n≤k.max)∧K (qB k n)
  |_,_,_=>False
 |_,_=>False
theorem conv.spec{T:List (Nat×bJ)}(hT:b5 P T){src dst:Nat}{x:Operand}(ho:o.op=.convert src dst x)
  (h:fe g (ev σ x) fun va=>sB T src dst va K):∃r,K r∧jL P o σ g r:=by
 replace h:=fe.ev h
 obtain⟨va,h,hr⟩:=h
 unfold sB at h
 split at h
 case h_2=>cases h
 rename_i ts td qV htd
 have k1:=hT.get qV
 have k2:=hT.get htd
 split at h
 case h_5=>cases h
 ·rename_i k0 k kk n e1 e2
  have h1:=k1.isInt e1
  have h2:=k2.isInt e2
  refine⟨_,h,fun ha cx N M β a w i=>⟨_,?_,rfl⟩⟩
  have ex:a.eval x=.int kk n:=hr ha cx N M β a w i
  simp[execOp,ho,ex,convert,run_underlying h1,run_underlying h2,Conv.intToInt]
 ·rename_i s e1 e2
  have h1:=k1.isString e1
  have h2:=k2.isString e2
  refine⟨_,h,fun ha cx N M β a w i=>⟨_,?_,rfl⟩⟩
  have ex:a.eval x=.string s:=hr ha cx N M β a w i
  simp[execOp,ho,ex,convert,run_underlying h1,run_underlying h2]
 ·rename_i k0 k kk n e1 e2
  have h1:=k1.isInt e1
  have h2:=k2.T2 e2
  refine⟨_,h,fun ha cx N M β a w i=>⟨_,?_,rfl⟩⟩
  have ex:a.eval x=.int kk n:=hr ha cx N M β a w i
  simp[execOp,ho,ex,convert,run_underlying h1,run_underlying h2,Conv.intToFloat]
 ·rename_i k0 k s b e1 e2
  have h1:=k1.T2 e1
  have h2:=k2.isInt e2
  obtain⟨n,⟨hn,CP,RW⟩,h⟩:=h
  refine⟨_,h,fun ha cx N M β a w i=>⟨_,?_,rfl⟩⟩
  have ex:a.eval x=.float s b:=hr ha cx N M β a w i
  simp[execOp,ho,ex,convert,run_underlying h1,run_underlying h2,Conv.floatToInt,hn,CP,RW]
def LM(va:AV)(K:AV→Prop):Prop:=
 match va with
 |.s (.ptr x o)=>K (.s (.ptr x o))
 |.s (.rw x i s o)=>K (.s (.rw x i s o))
 |.s (.d (.rp m f))=>K (.s (.d (.rp m f)))
 |.s (.dQ f cs)=>K (.s (.dQ f cs))
 |.s (.d (.dQ f k c))=>K (.s (.d (.dQ f k c)))
 |_=>False
theorem nil.spec{x:Operand}(ho:o.op=.nilCheck x)(h:fe g (ev σ x) fun va=>LM va K):∃r,K r∧jL P o σ g r:=by
 replace h:=fe.ev h
 obtain⟨va,h,hr⟩:=h
 unfold LM at h
 split at h
 case h_6=>cases h
 ·refine⟨_,h,fun ha cx N M β a w i=>?_⟩
  obtain⟨b,c,e1,e2⟩:=hr ha cx N M β a w i
  exact⟨_,by simp[execOp,ho,e2],b,c,e1,rfl⟩
 ·refine⟨_,h,fun ha cx N M β a w i=>?_⟩
  obtain⟨b,c,e1,e2⟩:=hr ha cx N M β a w i
  exact⟨_,by simp[execOp,ho,e2],b,c,e1,rfl⟩
 ·refine⟨_,h,fun ha cx N M β a w i=>?_⟩
  obtain⟨b,c,e2,e1⟩:=hr ha cx N M β a w i
  exact⟨_,by simp[execOp,ho,e2],b,c,rfl,e1⟩
 ·refine⟨_,h,fun ha cx N M β a w i=>?_⟩
  obtain⟨vs,e2,e1⟩:=hr ha cx N M β a w i
  exact⟨_,by simp[execOp,ho,e2],vs,rfl,e1⟩
 ·refine⟨_,h,fun ha cx N M β a w i=>?_⟩
  obtain⟨vs,e2,e1⟩:=hr ha cx N M β a w i
  exact⟨_,by simp[execOp,ho,e2],vs,rfl,e1⟩
def aID:AV→Option CV
 |.s (.d x)=>some (.d x)
 |.s (.ptr x o)=>some (.ptr x o)
 |_=>none
def pF(σ:St):List Operand→Option (List CV)
 |[]=>some []
 |x::r=>match aID (ev σ x),pF σ r with
  |some c,some cs=>some (c::cs)
  |_,_=>none
theorem pF.rep{cx:Cx}{N:Nat}{M:Mem}{β:Nm}{a:Act}{w:World}(i:Inv cx N M β σ a w):∀{l:List Operand} {cs:List CV},pF σ l=some cs→tR M β cs (l.map a.eval)
 |[],cs,h=>by simp[pF]at h;subst h;trivial
 |x::r,cs,h=>by
  simp only [pF]at h
  split at h
  ·rename_i c cs' hc mS
   cases h
   refine⟨?_,pF.rep i mS⟩
   have:=ev.rep i x
   unfold aID at hc
   split at hc
   ·rename_i e;cases hc;rw[e]at this;exact this
   ·rename_i e;cases hc;rw[e]at this;exact this
   ·cases hc
  ·cases h
theorem mkf.spec{f:FuncId}{HS:Array Operand}(ho:o.op=.makeFunc (.func f) #[] HS)
  (h:match pF σ HS.toList with|some cs=>K (.s (.dQ f cs))|none=>False):∃r,K r∧jL P o σ g r:=by
 split at h
 case h_2=>cases h
 rename_i cs mS
 refine⟨_,h,fun ha cx N M β a w i=>⟨_,?_,(HS.toList.map a.eval),rfl,pF.rep i mS⟩⟩
 simp[execOp,ho,Instr.makeFunc]
 apply Array.ext'
 simp
def IY(T:List (Nat×bJ))(t:Nat)(va:AV)(K:AV→Prop):Prop:=
 match cV T t with
 |some ti=>match ti.jS,va with
  |.slice _,.s (.d (.val (.slice _ _ c)))=>K (qB .i64 c)
  |_,_=>False
 |none=>False
theorem cap.spec{T:List (Nat×bJ)}(hT:b5 P T){t:Nat}{x:Operand}(ho:o.op=.call {callee:=.builtin .cap,args:= #[x],argTypes:= #[t]})
  (h:fe g (ev σ x) fun va=>IY T t va K):∃r,K r∧jL P o σ g r:=by
 replace h:=fe.ev h
 obtain⟨va,h,hr⟩:=h
 unfold IY at h
 split at h
 case h_2=>cases h
 rename_i ti fX
 split at h
 case h_2=>cases h
 rename_i e b n c hu
 have cS:=(hT.get fX).isSlice hu
 refine⟨_,h,fun ha cx N M β a w i=>⟨_,?_,rfl⟩⟩
 have ex:a.eval x=.slice b n c:=hr ha cx N M β a w i
 simp[execOp,ho,ex,resolve,invoke,builtin,Builtin.cap_,run_underlying cS,goInt]
def pL(T:List (Nat×bJ))(σ:St)(t:Nat)(va:AV)(K:AV→Prop):Prop:=
 match cV T t with
 |some ti=>match ti.jS,va with
  |.slice _,.s (.d (.fJ n _ _))=>K (qB .i64 n)
  |.slice _,.s (.own x)=>match aH σ.box x with
   |some (some (.row _ n _ _))=>K (qB .i64 n)
   |_=>False
  |.slice _,.s (.mo z x)=>match aH σ.box x with
   |some (some (.bW _ n _ _))=>K (qB .i64 ((bif z then 0 else n:Nat):Int))
   |_=>False
  |.slice _,.s (.jQ _ _ _ n)=>K (qB .i64 n)
  |.slice _,.s (.d (.val (.slice _ n _)))=>K (qB .i64 n)
  |.string,.s (.d (.val (.string s)))=>K (qB .i64 s.size)
  |.array n _,_=>K (qB .i64 n)
  |_,_=>False
 |none=>False
theorem len.spec{T:List (Nat×bJ)}(hT:b5 P T){t:Nat}{x:Operand}(ho:o.op=.call {callee:=.builtin .len,args:= #[x],argTypes:= #[t]})
  (h:fe g (ev σ x) fun va=>pL T σ t va K):∃r,K r∧jL P o σ g r:=by
 replace h:=fe.ev h
 obtain⟨va,h,hr⟩:=h
 unfold pL at h
 split at h
 case h_2=>cases h
 rename_i ti fX
 have h1:=hT.get fX
 have run:∀(a:Act) (w:World),(execOp a.eval o).run P w=((Builtin.len_ #[t] o.type #[a.eval x]).run P w).andThen fun v w'=>.ok (.value v) w':=by
  intro a w
  simp[execOp,ho,resolve,invoke,builtin]
 split at h
 case h_8=>cases h
 ·rename_i e1
  refine⟨_,h,fun ha cx N M β a w i=>⟨_,?_,rfl⟩⟩
  obtain⟨ad,cap,e2,_⟩:=hr ha cx N M β a w i
  rw[run,e2]
  simp[Builtin.len_,run_underlying (h1.isSlice e1),goInt]
 ·rename_i e1
  split at h
  case h_2=>cases h
  rename_i hb
  refine⟨_,h,fun ha cx N M β a w i=>⟨_,?_,rfl⟩⟩
  obtain⟨b,c,e0,e2,_⟩:=hr ha cx N M β a w i
  obtain⟨b2,c2,cur,e3,_,hlen,_⟩:=i.box _ _ hb
  rw[e0]at e3;cases e3
  rw[run,e2,hlen]
  simp[Builtin.len_,run_underlying (h1.isSlice e1),goInt]
 ·rename_i zz x' e1
  split at h
  case h_2=>cases h
  rename_i hb
  refine⟨_,h,fun ha cx N M β a w i=>?_⟩
  cases zz with
  |true=>
   have e2:=(hr ha cx N M β a w i).1 rfl
   refine⟨_,?_,rfl⟩
   rw[run,e2]
   simp[Builtin.len_,run_underlying (h1.isSlice e1),goInt]
  |false=>
   obtain⟨b,c,e0,e2,_⟩:=(hr ha cx N M β a w i).2 rfl
   obtain⟨cur,_,hlen,_⟩:=i.box _ _ hb b c e0
   refine⟨_,?_,rfl⟩
   rw[run,e2,hlen]
   simp[Builtin.len_,run_underlying (h1.isSlice e1),goInt]
 ·rename_i e1
  refine⟨_,h,fun ha cx N M β a w i=>⟨_,?_,rfl⟩⟩
  obtain⟨b,c,o',e0,e2,_⟩:=hr ha cx N M β a w i
  rw[run,e2]
  simp[Builtin.len_,run_underlying (h1.isSlice e1),goInt]
 ·rename_i e1
  refine⟨_,h,fun ha cx N M β a w i=>⟨_,?_,rfl⟩⟩
  have e2:=hr ha cx N M β a w i
  simp only [AV.a7,SV.a7,DV.a7]at e2
  rw[run,e2]
  simp[Builtin.len_,run_underlying (h1.isSlice e1),goInt]
 ·rename_i e1
  refine⟨_,h,fun ha cx N M β a w i=>⟨_,?_,rfl⟩⟩
  have e2:=hr ha cx N M β a w i
  simp only [AV.a7,SV.a7,DV.a7]at e2
  rw[run,e2]
  simp[Builtin.len_,run_underlying (h1.isString e1),goInt]
 ·rename_i e1
  refine⟨_,h,fun ha cx N M β a w i=>⟨_,?_,rfl⟩⟩
  rw[run]
  simp[Builtin.len_,run_underlying (h1.E2 e1),goInt]
def mm(mx:Bool)(x y:Int):Int:=match mx with|true=>if y>x then y else x|false=>if y<x then y else x
def ints(g:Option Bool)(σ:St):List Operand→(List (IntKind×Int)→Prop)→Prop
 |[],K=>K []
 |x::r,K=>fe g (ev σ x) fun va=>match va with
  |.s (.d (.val (.int k n)))=>ints g σ r fun l=>K ((k,n)::l)
  |_=>False
theorem ints.spec:∀{l:List Operand} {K:List (IntKind×Int)→Prop},ints g σ l K→
  ∃ns,K ns∧(act g→∀cx N M β a w,Inv cx N M β σ a w→l.map a.eval=ns.map fun p=>Value.int p.1 p.2)
 |[],_,h=>⟨[],h,fun _ _ _ _ _ _ _ _=>rfl⟩
 |x::r,K,h=>by
  replace h:=fe.ev h
  obtain⟨va,h,hr⟩:=h
  split at h
  case h_2=>cases h
  rename_i k n
  obtain⟨ns,hk,hs⟩:=ints.spec h
  refine⟨_,hk,fun ha cx N M β a w i=>?_⟩
  have ex:a.eval x=.int k n:=hr ha cx N M β a w i
  simp[hs ha cx N M β a w i,ex]
def mmL(mx:Bool)(k:IntKind)(x:Int):List (IntKind×Int)→AV
 |[]=>qB k x
 |(_,y)::r=>mmL mx k (mm mx x y) r
theorem mmL.spec(mx:Bool)(k:IntKind):∀(l:List (IntKind×Int)) (x:Int) (w:World),∃v,((l.map fun p=>Value.int p.1 p.2).foldlM (match mx with|true=>Builtin.max2|false=>Builtin.min2) (Value.int k x):Sem Value).run P w=.ok v w∧∀M β,(mmL mx k x l).a7 M β v
 |[],x,w=>⟨_,rfl,fun _ _=>rfl⟩
 |(k',y)::r,x,w=>by
  obtain⟨v,e,hv⟩:=mmL.spec mx k r (mm mx x y) w
  refine⟨v,?_,hv⟩
  cases mx <;> simp[Builtin.max2,Builtin.min2,mm]at e ⊢ <;> exact e
theorem mm.spec(mx:Bool){args:Array Operand}{uX:Array TypeId}(ho:o.op=.call {callee:=.builtin (match mx with|true=>.max|false=>.min),args:=args,argTypes:=uX})
  (h:ints g σ args.toList fun l=>match l with|(k,n)::r=>K (mmL mx k n r)|[]=>False):∃r,K r∧jL P o σ g r:=by
 replace h:=ints.spec h
 obtain⟨ns,h,hs⟩:=h
 split at h
 case h_2=>cases h
 rename_i k n r
 refine⟨_,h,fun ha cx N M β a w i=>?_⟩
 obtain⟨v,e,hv⟩:=mmL.spec (P:=P) mx k r n w
 refine⟨v,?_,hv M β⟩
 have hm:=hs ha cx N M β a w i
 have QQ:(args.map a.eval).toList=Value.int k n::r.map fun p=>Value.int p.1 p.2:=by simpa using hm
 cases mx
 ·simp only [execOp,ho,resolve,invoke,builtin,Builtin.min_,Sem.run_bind,Sem.run_pure,Result.andThen,QQ,e]
 ·simp only [execOp,ho,resolve,invoke,builtin,Builtin.max_,Sem.run_bind,Sem.run_pure,Result.andThen,QQ,e]
end
theorem N5(off:Nat):∀(l:List Value) (k:Nat) (A:Array Value),off+k+l.length≤A.size→
  (l.zipIdx k).foldl (fun cs p=>cs.setIfInBounds (off+p.2) p.1) A=(A.toList.take (off+k)++l++A.toList.drop (off+k+l.length)).toArray
 |[],k,A,_=>by simp
 |v::r,k,A,h=>by
  simp only [List.length_cons]at h
  have ih:=N5 off r (k+1) (A.setIfInBounds (off+k) v) (by simp;omega)
  simp only [List.zipIdx_cons,List.foldl_cons]
  rw[ih]
  congr 1
  have t1:(A.toList.set (off+k) v).take (off+(k+1))=A.toList.take (off+k)++ [v]:=by
   rw[show off+(k+1)=(off+k)+1 by omega,List.take_succ_eq_append_getElem (by simp;omega),List.getElem_set_self]
   congr 1
   exact List.take_set_of_le (Nat.le_refl _)
  have t2:(A.toList.set (off+k) v).drop (off+(k+1)+r.length)=A.toList.drop (off+k+(r.length+1)):=by
   rw[List.drop_set_of_lt oM]
   congr 1
   omega
  simp only [Array.toList_setIfInBounds,t1,t2,List.length_cons,List.append_assoc,List.cons_append,List.nil_append]
def pT(place:Nat→Option (Nat×Nat))(cells:List SV):List (Nat×List SV)→Option (List SV)
 |[]=>some cells
 |(i,cs)::r=>match place i with
  |some (off,sz)=>bif Nat.beq cs.length sz&&Nat.ble (off+sz) cells.length then pT place (cells.take off++(cs++cells.drop (off+sz))) r else none
  |none=>none
def aH0(M:Mem)(β:Nm):List (Nat×List SV)→List (Nat×Value)→Prop
 |[],[]=>True
 |(i,cs)::r,(j,v)::s=>i=j∧(∃vs:List Value,v.cells.toList=vs∧cK M β cs vs)∧aH0 M β r s
 |_,_=>False
theorem pT.spec{M:Mem}{β:Nm}{pl pl':Nat→Option (Nat×Nat)}(hpl:∀i p,pl i=some p→pl' i=some p):∀{ps:List (Nat×List SV)} {qs:List (Nat×Value)} {cells cs':List SV} {yB:List Value},pT pl cells ps=some cs'→aH0 M β ps qs→cK M β cells yB→
  ∃C6:List Value,Instr.fill pl' yB.toArray qs=some C6.toArray∧cK M β cs' C6
 |[],[],cells,cs',yB,h,_,hr=>by
  simp only [pT,Option.some.injEq]at h
  subst h
  exact⟨yB,rfl,hr⟩
 |(i,cs)::r,(j,v)::s,cells,cs',yB,h,hp,hr=>by
  obtain⟨rfl,⟨vs,hv,mS⟩,hp⟩:=hp
  simp only [pT]at h
  split at h
  ·rename_i off sz hpi
   cases hc:(Nat.beq cs.length sz&&Nat.ble (off+sz) cells.length)with
   |false=>rw[hc]at h;cases h
   |true=>
    rw[hc]at h
    simp only [cond_true]at h
    simp only [Bool.and_eq_true]at hc
    have h1:=Nat.eq_of_beq_eq_true hc.1
    have h2:=Nat.le_of_ble_eq_true hc.2
    have l1:=mS.length
    have l2:=hr.length
    have lT:v.cells.size=sz:=by rw[←Array.length_toList,hv];omega
    have WK:cK M β (cells.take off++(cs++cells.drop (off+sz))) (yB.take off++(vs++yB.drop (off+sz))):=
     (hr.take off).append (mS.append (hr.drop (off+sz)))
    obtain⟨C6,e,BZ⟩:=pT.spec hpl h hp WK
    refine⟨C6,?_,BZ⟩
    simp only [Instr.fill,hpl _ _ hpi]
    rw[if_neg (by simp[lT];omega)]
    rw[←e]
    congr 1
    have:=N5 off vs 0 yB.toArray (by simp;omega)
    simp only [Nat.add_zero]at this
    rw[←Array.foldl_toList,Array.toList_zipIdx,hv,this]
    apply Array.ext'
    have h3:vs.length=sz:=oM
    simp[h3]
  ·cases h
 |[],_::_,_,_,_,_,h,_=>h.elim
 |_::_,[],_,_,_,_,h,_=>h.elim
section
variable{P:Program}{σ:St}{g:Option Bool}{K:AV→Prop}{o:Oper}
def oQ:AV→Option (List SV)
 |.s x=>some [x]
 |.g cs=>some cs
 |_=>none
theorem oQ.rep{v:AV}{cs:List SV}{M:Mem}{β:Nm}{u:Value}(h:oQ v=some cs)(ho:lG cs=true)(r:v.a7 M β u):∃vs:List Value,u.cells.toList=vs∧cK M β cs vs:=by
 unfold oQ at h
 split at h
 ·cases h
  refine⟨[u],?_,r,trivial⟩
  have:u.oneCell'=true:=SV.a7.kD r (by simpa [lG]using ho)
  cases u <;> first|rfl|cases this
 ·cases h
  obtain⟨vs,rfl,hr⟩:=r
  exact⟨vs,rfl,hr⟩
 ·cases h
def parts(g:Option Bool)(σ:St):List (Nat×Operand)→(List (Nat×List SV)→Prop)→Prop
 |[],K=>K []
 |(i,x)::r,K=>fe g (ev σ x) fun va=>match oQ va with
  |some cs=>bif lG cs then parts g σ r fun l=>K ((i,cs)::l)else False
  |none=>False
theorem parts.spec:∀{l:List (Nat×Operand)} {K:List (Nat×List SV)→Prop},parts g σ l K→
  ∃ps,K ps∧(act g→∀cx N M β a w,Inv cx N M β σ a w→aH0 M β ps (l.map fun p=>(p.1,a.eval p.2)))
 |[],_,h=>⟨[],h,fun _ _ _ _ _ _ _ _=>trivial⟩
 |(i,x)::r,K,h=>by
  replace h:=fe.ev h
  obtain⟨va,h,hr⟩:=h
  split at h
  case h_2=>cases h
  rename_i cs mS
  cases ho:lG cs with
  |false=>rw[ho]at h;cases h
  |true=>
   rw[ho]at h
   obtain⟨ps,hk,hs⟩:=parts.spec h
   exact⟨_,hk,fun ha cx N M β a w i=>⟨rfl,oQ.rep mS ho (hr ha cx N M β a w i),hs ha cx N M β a w i⟩⟩
def zv:Value→SV
 |.bool b=>.d (.lit b)
 |v=>.d (.val v)
def iE:List Value→List SV
 |[]=>[]
 |v::r=>zv v::iE r
theorem iE.rep(M:Mem)(β:Nm):∀l:List Value,cK M β (iE l) l
 |[]=>trivial
 |v::r=>⟨by cases v <;> exact rfl,iE.rep M β r⟩
def pZ(T:List (Nat×bJ))(t:Nat)(ps:List (Nat×List SV))(K:AV→Prop):Prop:=
 match cV T t with
 |some ti=>match ti.jS with
  |.struct=>match pT (fun i=>ti.uO[i]?) (iE ti.zero) ps with
   |some cs=>K (.g cs)
   |none=>False
  |.array _ e=>match cV T e with
   |some te=>match pT (fun i=>some (i*te.size,te.size)) (iE ti.zero) ps with
    |some cs=>K (.g cs)
    |none=>False
   |none=>False
  |_=>False
 |none=>False
theorem rA.places(w:World):∀{fs:List Field} {l:List (Nat×Nat)},rA P fs l→
  (fs.mapM (fun f=>(do pure (f.offset,←sizeOf f.type):Sem (Nat×Nat)))).run P w=.ok l w
 |[],[],_=>by simp
 |f::fs,(o,z)::r,⟨h1,⟨ti,h2,h3⟩,h4⟩=>by
  have:=rA.places w h4
  simp[sizeOf,typeInfo,h1,h2,h3]at this ⊢
  simp[this]
 |[],_::_,h=>h.elim
 |_::_,[],h=>h.elim
theorem build.spec{T:List (Nat×bJ)}(hT:b5 P T){t:Nat}{pa:Array (Nat×Operand)}(ho:o.op=.build t pa)
  (h:parts g σ pa.toList fun ps=>pZ T t ps K):∃r,K r∧jL P o σ g r:=by
 replace h:=parts.spec h
 obtain⟨ps,h,hs⟩:=h
 unfold pZ at h
 split at h
 case h_2=>cases h
 rename_i ti fX
 have fT:=hT.get fX
 have run:∀(a:Act) (w:World) (r:Value),(Instr.build t (pa.map fun (i,x)=>(i,a.eval x))).run P w=.ok r w→(execOp a.eval o).run P w=.ok (.value r) w:=by
  intro a w r h
  simp[execOp,ho,h]
 split at h
 case h_3=>cases h
 ·rename_i hu
  obtain⟨fs,cS⟩:=fT.OW hu
  split at h
  case h_2=>cases h
  rename_i cs mS
  refine⟨_,h,fun ha cx N M β a w i=>?_⟩
  have hp:=hs ha cx N M β a w i
  obtain⟨z,hz,J5⟩:=fT.vN w
  obtain⟨C6,e,hr⟩:=pT.spec (pl':=fun i=>ti.uO.toArray[i]?) (by intro i p h;simpa using h) mS hp (iE.rep M β ti.zero)
  have hpl:=rA.places w (fT.uO fs cS)
  refine⟨_,run a w _ ?_,C6,rfl,hr⟩
  have aL6:(fs.mapM (fun f=>(do pure (f.offset,←sizeOf f.type):Sem (Nat×Nat)))).run P w=.ok ti.uO.toArray w:=by
   rw[←Array.toArray_toList (xs:=fs),List.mapM_toArray]
   simp only [Sem.run_map,hpl,Result.andThen]
  have aGH:z.cells=ti.zero.toArray:=by rw[←J5]
  simp only [Instr.build,Sem.run_bind,hz,Result.andThen,run_underlying cS,aL6,aGH]
  simp only [Array.toList_map,e,Sem.run_pure]
 ·rename_i n e hu
  split at h
  case h_2=>cases h
  rename_i te mD
  split at h
  case h_2=>cases h
  rename_i cs mS
  refine⟨_,h,fun ha cx N M β a w i=>?_⟩
  have hp:=hs ha cx N M β a w i
  obtain⟨z,hz,J5⟩:=fT.vN w
  obtain⟨C6,e',hr⟩:=pT.spec (pl':=fun i=>some (i*te.size,te.size)) (fun _ _ h=>h) mS hp (iE.rep M β ti.zero)
  have cS:P.underlying t=some (.array n e):=fT.E2 hu
  refine⟨_,run a w _ ?_,C6,rfl,hr⟩
  have aGH:z.cells=ti.zero.toArray:=by rw[←J5]
  simp only [Instr.build,Sem.run_bind,hz,Result.andThen,run_underlying cS,(hT.get mD).gY,aGH]
  simp only [Array.toList_map,e',Sem.run_pure]
end
section world
variable{w:World}{cx:Cx}{N:Nat}{M:Mem}{β:Nm}{σ:St}{a:Act}
theorem nA{w:World}{b:Nat}{ob:Obj}(h:w.heap[b]? =some ob):b<w.heap.size:=(Array.getElem?_eq_some_iff.1 h).1
theorem Inv.GH(i:Inv cx N M β σ a w){b o:Nat}{u:Value}(h:M b o=some u):b<w.heap.size:=World.block_lt_of_cell? w ⟨b,o,none⟩ (i.mem b o u h)
theorem Inv.tQ(i:Inv cx N M β σ a w){x:Nat}{bc:jM}{b:Nat}{c:Nat×Nat}(h:aH σ.box x=some (some bc))(e:β x=some (b,c)):b<w.heap.size:=by
 have:=i.box x bc h
 cases bc with
 |cells cs=>obtain⟨b',c',vs,T,us,e',hh,_⟩:=this;rw[e]at e';cases e';exact nA hh
 |row et n s f=>obtain⟨b',c',cur,e',hh,_⟩:=this;rw[e]at e';cases e';exact nA hh
 |bW et n s f=>obtain⟨cur,hh,_⟩:=this b c e;exact nA hh
 |map vk l=>obtain⟨b',c',e',hh⟩:=this;rw[e]at e';cases e';exact nA hh
 |smap vk l=>obtain⟨b',c',e',hh⟩:=this;rw[e]at e';cases e';exact nA hh
 |dm l n=>obtain⟨b',c',vs,e',hh,_⟩:=this;rw[e]at e';cases e';exact nA hh
 |fresh T vs=>obtain⟨b',c',e',hh⟩:=this;rw[e]at e';cases e';exact nA hh
 |iter m n seen=>obtain⟨b',c',bm,cm,e',_,hh⟩:=this;rw[e]at e';cases e';exact nA hh
def jM.real:jM→Bool
 |.bW _ _ _ _=>false
 |_=>true
theorem cH.exb{x:Nat}{bc:jM}(jZ:bc.real=true)(h:cH M β w x bc):∃b c,β x=some (b,c):=by
 cases bc with
 |cells cs=>obtain⟨b',c',vs,T,us,e',_⟩:=h;exact⟨b',c',e'⟩
 |row et n s f=>obtain⟨b',c',cur,e',_⟩:=h;exact⟨b',c',e'⟩
 |bW et n s f=>cases jZ
 |map vk l=>obtain⟨b',c',e',_⟩:=h;exact⟨b',c',e'⟩
 |smap vk l=>obtain⟨b',c',e',_⟩:=h;exact⟨b',c',e'⟩
 |dm l n=>obtain⟨b',c',_,e',_⟩:=h;exact⟨b',c',e'⟩
 |fresh T vs=>obtain⟨b',c',e',_⟩:=h;exact⟨b',c',e'⟩
 |iter m n seen=>obtain⟨b',c',bm,cm,e',_⟩:=h;exact⟨b',c',e'⟩
theorem cH.mono{M':Mem}{β':Nm}{w':World}{x:Nat}{bc:jM}(hM:Mem.le M M')(hβ:Nm.le β β')(hx:β' x=β x)(hw:∀b c,β x=some (b,c)→w'.heap[b]? =w.heap[b]?)
  (h:cH M β w x bc):cH M' β' w' x bc:=by
 cases bc with
 |cells cs=>
  obtain⟨b,c,vs,T,us,e,hh,hr⟩:=h
  exact⟨b,c,vs,T,us,hβ _ _ e,(hw b c e).trans hh,cK.mono hM hβ hr⟩
 |row et n s f=>
  obtain⟨b,c,cur,e,hh,h0,h1,h2,h3,h4⟩:=h
  exact⟨b,c,cur,hβ _ _ e,(hw b c e).trans hh,h0,h1,h2,h3,fun i j hi hj=>let⟨u,hu,hr⟩:=h4 i j hi hj;⟨u,hu,DV.a7.mono hM hr⟩⟩
 |bW et n s f=>
  intro b c e
  rw[hx]at e
  obtain⟨cur,hh,h0,h1,h2,h3,h4⟩:=h b c e
  exact⟨cur,(hw b c e).trans hh,h0,h1,h2,h3,fun i j hi hj=>let⟨u,hu,hr⟩:=h4 i j hi hj;⟨u,hu,DV.a7.mono hM hr⟩⟩
 |map vk l=>
  obtain⟨b,c,e,hh⟩:=h
  exact⟨b,c,hβ _ _ e,(hw b c e).trans hh⟩
 |smap vk l=>
  obtain⟨b,c,e,hh⟩:=h
  exact⟨b,c,hβ _ _ e,(hw b c e).trans hh⟩
 |dm l n=>
  obtain⟨b,c,vs,e,hh,hr⟩:=h
  exact⟨b,c,vs,hβ _ _ e,(hw b c e).trans hh,hr.mono hM⟩
 |fresh T vs=>
  obtain⟨b,c,e,hh⟩:=h
  exact⟨b,c,hβ _ _ e,(hw b c e).trans hh⟩
 |iter m n seen=>
  obtain⟨b,c,bm,cm,e,em,hh⟩:=h
  exact⟨b,c,bm,cm,hβ _ _ e,hβ _ _ em,(hw b c e).trans hh⟩
theorem Inv.new{d:Nat}{bc:jM}{ob:Obj}{c:Nat×Nat}(i:Inv cx N M β σ a w)(hd:aH σ.box d=none){w':World}
  (hw:w'.heap=w.heap.push ob) (ho:w'.os=w.os) (ht:w'.tape=w.tape) (aAL:w'.output=w.output)
  (hb:∀β':Nm,β' d=some (w.heap.size,c)→Nm.le β β'→cH M β' w' d bc) (hdr:Dr w w':=by exact trivial):
  ∃β',β' d=some (w.heap.size,c)∧Nm.le β β'∧Inv cx N M β' ⟨σ.env,(d,some bc)::σ.box⟩ a w'∧b6 cx w w':=by
 have G1:β d=none:=by
  cases h:β d with
  |none=>rfl
  |some p=>obtain⟨y,hy⟩:=i.keys d p h;rw[hd]at hy;cases hy
 let β':Nm:=fun x=>if x=d then some (w.heap.size,c)else β x
 have iR:β' d=some (w.heap.size,c):=by simp[β']
 have hβ:Nm.le β β':=fun x p e=>by
  by_cases hx:x=d
  ·subst hx;rw[G1]at e;cases e
  ·simp[β',hx,e]
 have nJ:∀x,x≠d→β' x=β x:=fun x hx=>by simp[β',hx]
 have hold:∀k,k<w.heap.size→w'.heap[k]? =w.heap[k]? :=fun k hk=>by rw[hw,Array.getElem?_push,if_neg oM]
 have lT:w.heap.size≤w'.heap.size:=by rw[hw];simp
 have j0:∀b o u,M b o=some u→w'.cell? ⟨b,o,none⟩=some u:=fun b o u e=>by
  rw[World.cell?_of_block (w:=w) (w':=w') (a:=⟨b,o,none⟩) (hold b (i.GH e))]
  exact i.mem b o u e
 have cI:∀x bx,aH ((d,some bc)::σ.box) x=some (some bx)→(x=d∧bx=bc)∨(x≠d∧aH σ.box x=some (some bx)):=fun x bx e=>by
  rw[aL]at e
  split at e
  ·rename_i h;subst h;simp at e;exact .inl ⟨rfl,e.symm⟩
  ·rename_i h;exact .inr ⟨fun k=>h k.symm,e⟩
 have hblk:∀x bx b c',aH σ.box x=some (some bx)→β x=some (b,c')→b<w.heap.size:=fun x bx b c' e1 e2=>i.tQ e1 e2
 have kp:b6 cx w w':=⟨ho,ht,aAL,lT,fun k hk _=>hold k (Nat.lt_of_lt_of_le hk i.heap.le),hdr⟩
 refine⟨β',iR,hβ,⟨i.defers,i.tmps,i.heap.keep kp,fun t=>AV.a7.mono (Mem.le_refl M) hβ (i.env t),j0,?_,?_,?_,?_,?_,?_⟩,kp⟩
 ·intro x p e
  by_cases hx:x=d
  ·subst hx;exact⟨_,by rw[aL,if_pos rfl]⟩
  ·rw[nJ x hx]at e
   obtain⟨y,hy⟩:=i.keys x p e
   exact⟨y,by rw[aL,if_neg (fun h=>hx h.symm)];exact hy⟩
 ·intro x bx e
  rcases cI x bx e with⟨rfl,rfl⟩|⟨hx,e⟩
  ·exact hb β' iR hβ
  ·have hr:=i.box x bx e
   exact cH.mono (Mem.le_refl M) hβ (nJ x hx) (fun b c' e'=>hold b (hblk x bx b c' e e')) hr
 ·intro x y bx xV b c1 c2 ex ey hx hy
  by_cases CO:x=d
  ·by_cases DP:y=d
   ·rw[CO,DP]
   ·rcases cI y xV ey with⟨h,_⟩|⟨_,YD⟩
    ·exact absurd h DP
    rw[CO,iR]at hx;cases hx
    rw[nJ y DP]at hy
    have:=hblk y xV _ _ YD hy;omega
  ·rcases cI x bx ex with⟨h,_⟩|⟨_,ex'⟩
   ·exact absurd h CO
   rw[nJ x CO]at hx
   by_cases DP:y=d
   ·rw[DP,iR]at hy;cases hy
    have:=hblk x bx _ _ ex' hx;omega
   ·rcases cI y xV ey with⟨h,_⟩|⟨_,YD⟩
    ·exact absurd h DP
    rw[nJ y DP]at hy
    exact i.inj x y bx xV b c1 c2 ex' YD hx hy
 ·intro x bx b c1 ex hx o
  rcases cI x bx ex with⟨rfl,rfl⟩|⟨CO,ex⟩
  ·rw[iR]at hx;cases hx
   cases h:M w.heap.size o with
   |none=>rfl
   |some u=>have:=i.GH h;omega
  ·rw[nJ x CO]at hx
   exact i.apart x bx b c1 ex hx o
 ·intro x bx b c1 ex hx
  rcases cI x bx ex with⟨rfl,rfl⟩|⟨CO,ex⟩
  ·rw[iR]at hx;cases hx
   exact .inl i.heap.le
  ·rw[nJ x CO]at hx
   exact i.low x bx b c1 ex hx
 ·intro x hx
  obtain⟨h1,p,h2⟩:=i.ref x hx
  by_cases CO:x=d
  ·subst CO;rw[G1]at h2;cases h2
  ·rw[nJ x CO];exact⟨h1,p,h2⟩
theorem Inv.write{x:Nat}{bc bc':jM}{b:Nat}{c:Nat×Nat}(i:Inv cx N M β σ a w)(hx:aH σ.box x=some (some bc))(hβ:β x=some (b,c)){w':World}
  (lT:w'.heap.size=w.heap.size) (hold:∀k,k≠b→w'.heap[k]? =w.heap[k]?) (ho:w'.os=w.os) (ht:w'.tape=w.tape) (aAL:w'.output=w.output)
  (hb:cH M β w' x bc') (hdr:Dr w w':=by exact trivial):Inv cx N M β ⟨σ.env,(x,some bc')::σ.box⟩ a w'∧b6 cx w w':=by
 have cI:∀y bx,aH ((x,some bc')::σ.box) y=some (some bx)→(y=x∧bx=bc')∨(y≠x∧aH σ.box y=some (some bx)):=fun y bx e=>by
  rw[aL]at e
  split at e
  ·rename_i h;subst h;simp at e;exact .inl ⟨rfl,e.symm⟩
  ·rename_i h;exact .inr ⟨fun k=>h k.symm,e⟩
 have B0:=i.apart x bc b c hx hβ
 have aAP:∀k o u,M k o=some u→k≠b:=fun k o u e h=>by subst h;rw[B0 o]at e;cases e
 have hl:∀y bx,aH ((x,some bc')::σ.box) y=some (some bx)→∃bx',aH σ.box y=some (some bx'):=fun y bx e=>by
  rcases cI y bx e with⟨rfl,_⟩|⟨_,e⟩
  ·exact⟨_,hx⟩
  ·exact⟨_,e⟩
 have kp:b6 cx w w':=⟨ho,ht,aAL,oM,fun k hk hm=>by
   refine hold k (fun h=>?_)
   subst h
   rcases i.low x bc k c hx hβ with h|h
   ·omega
   ·exact hm h,hdr⟩
 refine⟨⟨i.defers,i.tmps,i.heap.keep kp,i.env,?_,?_,?_,?_,?_,?_,i.ref⟩,kp⟩
 ·intro k o u e
  rw[World.cell?_of_block (w:=w) (w':=w') (a:=⟨k,o,none⟩) (hold k (aAP k o u e))]
  exact i.mem k o u e
 ·intro y p e
  obtain⟨z,hz⟩:=i.keys y p e
  by_cases hy:x=y
  ·exact⟨_,by rw[aL,if_pos hy]⟩
  ·exact⟨z,by rw[aL,if_neg hy];exact hz⟩
 ·intro y bx e
  rcases cI y bx e with⟨rfl,rfl⟩|⟨hy,e⟩
  ·exact hb
  ·have hr:=i.box y bx e
   have hV:∀b' c',β y=some (b',c')→b'≠b:=fun b' c' e' h=>by subst h;exact hy (i.inj y x bx bc b' c' c e hx e' hβ)
   exact cH.mono (Mem.le_refl M) (Nm.le_refl β) rfl (fun b' c' e'=>hold b' (hV b' c' e')) hr
 ·intro y z bx bz b1 c1 c2 ey ez hy hz
  obtain⟨_,ey⟩:=hl y bx ey
  obtain⟨_,ez⟩:=hl z bz ez
  exact i.inj y z _ _ b1 c1 c2 ey ez hy hz
 ·intro y bx b1 c1 ey hy
  obtain⟨_,ey⟩:=hl y bx ey
  exact i.apart y _ b1 c1 ey hy
 ·intro y bx b1 c1 ey hy
  obtain⟨_,ey⟩:=hl y bx ey
  exact i.low y _ b1 c1 ey hy
end world
def nb:Nm:=fun _=>none
def full(w:World):Mem:=fun b o=>w.cell? ⟨b,o,none⟩
def kF(M:Mem)(w:World):Prop:=∀b o u,M b o=some u→w.cell? ⟨b,o,none⟩=some u
def dS:Nat→St→SV→DV
 |_,_,.d x=>x
 |n+1,σ,.ptr x off=>match aH σ.box x with
  |some (some (.cells cs))=>.rp (cs.length - off) fun j=>match cs[off+j]? with
   |some c=>dS n σ c
   |none=>.bC
  |_=>.bC
 |_,σ,.own x=>match aH σ.box x with
  |some (some (.row _ n s f))=>.fJ n s f
  |_=>.bC
 |_,σ,.mo z x=>match aH σ.box x with
  |some (some (.bW _ n s f))=>.fJ (bif z then 0 else n) s f
  |_=>.bC
 |0,σ,.jQ x s lo n=>match aH σ.box x with
  |some (some (.row _ _ s' f))=>bif Nat.beq s s' then .fJ n s (fun i=>f (lo+i))else .bC
  |_=>.bC
 |m+1,σ,.jQ x s lo n=>match aH σ.box x with
  |some (some (.row _ _ s' f))=>bif Nat.beq s s' then .fJ n s (fun i=>f (lo+i))else .bC
  |some (some (.cells cs))=>bif Nat.ble ((lo+n)*s) cs.length then .fJ n s (fun i j=>match cs[(lo+i)*s+j]? with
   |some c=>dS m σ c
   |none=>.bC)else .bC
  |_=>.bC
 |n+1,σ,.dQ f cs=>.dQ f cs.length fun i=>match cs[i]? with
  |some (.d x)=>x
  |some (.ptr x off)=>dS n σ (.ptr x off)
  |none=>.bC
 |_,_,_=>.bC
theorem tR.get:∀{M β} {cs:List CV} {vs:List Value} {j:Nat} {v:Value},tR M β cs vs→vs[j]? =some v→∃c,cs[j]? =some c∧c.a7 M β v
 |_,_,[],[],j,c,_,h=>by simp at h
 |_,_,c::_,_::_,0,v,⟨hv,_⟩,h=>⟨c,rfl,by simp at h;exact h▸hv⟩
 |_,_,_::_,_::_,j+1,c,⟨_,r⟩,h=>by
  have:=tR.get (j:=j) r (by simpa using h)
  simpa using this
 |_,_,[],_::_,_,_,h,_=>h.elim
 |_,_,_::_,[],_,_,h,_=>h.elim
theorem tR.length:∀{M β} {cs:List CV} {vs:List Value},tR M β cs vs→vs.length=cs.length
 |_,_,[],[],_=>rfl
 |_,_,_::_,_::_,⟨_,r⟩=>by simp[tR.length r]
 |_,_,[],_::_,h=>h.elim
 |_,_,_::_,[],h=>h.elim
theorem dS.rep{cx:Cx}{N:Nat}{M F:Mem}{β:Nm}{σ:St}{a:Act}{w:World}(i:Inv cx N M β σ a w)(hM:Mem.le M F)
  (hF:∀x bc b c,aH σ.box x=some (some bc)→β x=some (b,c)→∀o u,w.cell? ⟨b,o,none⟩=some u→F b o=some u):∀(n:Nat) (x:SV) (v:Value),x.a7 M β v→(dS n σ x).a7 F v:=by
 have row:∀(x:Nat) (v:Value),(SV.own x).a7 M β v→∀e n s f,aH σ.box x=some (some (.row e n s f))→(DV.fJ n s f).a7 F v:=by
  intro x v r e n s f hb
  obtain⟨b,c,e1,rfl,hc⟩:=r
  obtain⟨b',c',cur,e2,hh,hl,lT,hn,_,cN⟩:=i.box x _ hb
  rw[e1]at e2;cases e2
  refine⟨some ⟨b,0,none⟩,c.1,by rw[hl],hn,.inr ⟨b,0,rfl,fun k j hk hj=>?_⟩⟩
  obtain⟨u,hu,hr⟩:=cN k j hk hj
  exact⟨u,hF x _ b c hb e1 _ u (by simp[World.cell?,hh,hu]),DV.a7.mono hM hr⟩
 have bW:∀(z:Bool) (x:Nat) (v:Value),(SV.mo z x).a7 M β v→∀e n s f,aH σ.box x=some (some (.bW e n s f))→(DV.fJ (bif z then 0 else n) s f).a7 F v:=by
  intro z x v r e n s f hb
  cases z with
  |true=>exact⟨none,0,r.1 rfl,Nat.le_refl _,.inl rfl⟩
  |false=>
   obtain⟨b,c,e1,rfl,hc⟩:=r.2 rfl
   obtain⟨cur,hh,hl,lT,hn,_,cN⟩:=i.box x _ hb b c e1
   refine⟨some ⟨b,0,none⟩,c.1,by rw[hl];rfl,hn,.inr ⟨b,0,rfl,fun k j hk hj=>?_⟩⟩
   obtain⟨u,hu,hr⟩:=cN k j hk hj
   exact⟨u,hF x _ b c hb e1 _ u (by simp[World.cell?,hh,hu]),DV.a7.mono hM hr⟩
 have view:∀(x s lo n:Nat) (v:Value),(SV.jQ x s lo n).a7 M β v→∀e m f,aH σ.box x=some (some (.row e m s f))→(DV.fJ n s fun i=>f (lo+i)).a7 F v:=by
  intro x s lo n v r e m f hb
  obtain⟨b,c,o,e1,rfl,ho,hc1,H7⟩:=r
  obtain⟨b',c',cur,e2,hh,hl,lT,hn,_,cN⟩:=i.box x _ hb
  rw[e1]at e2;cases e2
  refine⟨some ⟨b,o,none⟩,c.1 - lo,rfl,oM,?_⟩
  by_cases h0:n=0
  ·exact .inl h0
  ·refine .inr ⟨b,o,rfl,fun k j hk hj=>?_⟩
   obtain⟨u,hu,hr⟩:=cN (lo+k) j oM hj
   refine⟨u,hF x _ b c hb e1 _ u ?_,DV.a7.mono hM hr⟩
   rw[ho oM,show lo*s+k*s+j=(lo+k)*s+j by rw[Nat.add_mul]]
   simp[World.cell?,hh,hu]
 intro n
 induction n with
 |zero=>
  intro x v r
  cases x with
  |d x=>exact DV.a7.mono hM r
  |jQ x s lo n=>
   simp only [dS]
   split
   ·rename_i e m s' f hb
    cases hs:Nat.beq s s' with
    |false=>exact trivial
    |true=>
     have:=Nat.eq_of_beq_eq_true hs
     subst this
     exact view x s lo n v r e m f hb
   ·trivial
  |own x=>
   simp only [dS]
   split
   ·rename_i e n s f hb
    exact row x v r e n s f hb
   ·trivial
  |mo z x=>
   simp only [dS]
   split
   ·rename_i e n s f hb
    exact bW z x v r e n s f hb
   ·trivial
  |_=>exact trivial
 |succ n ih=>
  intro x v r
  cases x with
  |d x=>exact DV.a7.mono hM r
  |ptr x off=>
   simp only [dS]
   split
   ·rename_i cs hb
    obtain⟨b,c,e1,rfl⟩:=r
    obtain⟨b',c',vs,T,us,e2,hh,hr⟩:=i.box x _ hb
    rw[e1]at e2;cases e2
    refine⟨b,off,rfl,fun j hj=>?_⟩
    have fR:off+j<cs.length:=oM
    obtain⟨u,hu,EI⟩:=hr.get (List.getElem?_eq_getElem fR)
    refine⟨u,hF x _ b c hb e1 _ u (by have:=BN (us:=us) hu;simpa [World.cell?,hh]using this),?_⟩
    simp only [List.getElem?_eq_getElem fR]
    exact ih _ _ EI
   ·trivial
  |own x=>
   simp only [dS]
   split
   ·rename_i e n s f hb
    exact row x v r e n s f hb
   ·trivial
  |mo z x=>
   simp only [dS]
   split
   ·rename_i e n s f hb
    exact bW z x v r e n s f hb
   ·trivial
  |rw x i s o=>exact trivial
  |mp x=>exact trivial
  |jQ x s lo n=>
   simp only [dS]
   split
   ·rename_i e m s' f hb
    cases hs:Nat.beq s s' with
    |false=>exact trivial
    |true=>
     have:=Nat.eq_of_beq_eq_true hs
     subst this
     exact view x s lo n v r e m f hb
   ·rename_i cs hb
    cases hle:Nat.ble ((lo+n)*s) cs.length with
    |false=>exact trivial
    |true=>
     have hle:=Nat.le_of_ble_eq_true hle
     obtain⟨b,c,o,e1,rfl,ho,hc1,H7⟩:=r
     obtain⟨b',c',vs,T,us,e2,hh,hr⟩:=i.box x _ hb
     rw[e1]at e2;cases e2
     refine⟨some ⟨b,o,none⟩,c.1 - lo,rfl,oM,?_⟩
     by_cases h0:n=0
     ·exact .inl h0
     ·have ho:=ho oM
      refine .inr ⟨b,o,rfl,fun k j hk hj=>?_⟩
      have fR:(lo+k)*s+j<cs.length:=by
       have:(lo+k+1)*s≤(lo+n)*s:=Nat.mul_le_mul_right _ oM
       rw[Nat.add_mul _ 1]at this
       omega
      obtain⟨u,hu,EI⟩:=hr.get (List.getElem?_eq_getElem fR)
      have he:o+k*s+j=(lo+k)*s+j:=by rw[ho,Nat.add_mul]
      refine⟨u,hF x _ b c hb e1 _ u (by have:=BN (us:=us) hu;rw[he];simpa [World.cell?,hh]using this),?_⟩
      simp only [List.getElem?_eq_getElem fR]
      exact ih _ _ EI
   ·trivial
  |dQ f cs=>
   obtain⟨vs,rfl,hv⟩:=r
   refine⟨vs,rfl,hv.length,fun k u hu=>?_⟩
   obtain⟨c,hc,hr⟩:=hv.get hu
   simp only [hc]
   cases c with
   |d x=>exact DV.a7.mono hM hr
   |ptr x off=>exact ih (.ptr x off) u hr
def uC(σ:St)(x:SV):SV:=.d (dS 3 σ x)
def j9(σ:St):List SV→List SV
 |[]=>[]
 |x::r=>uC σ x::j9 σ r
def o0(σ:St):AV→AV
 |.s x=>.s (uC σ x)
 |.g cs=>.g (j9 σ cs)
 |_=>.s (.d .bC)
def iW(σ:St):List AV→List AV
 |[]=>[]
 |x::r=>o0 σ x::iW σ r
def aIL:SV→Bool
 |.d _=>false
 |_=>true
def FU:List SV→Bool
 |[]=>false
 |x::r=>aIL x||FU r
def aLG:AV→Bool
 |.s x=>aIL x
 |.g cs=>FU cs
 |_=>true
def rL:List AV→Bool
 |[]=>false
 |x::r=>aLG x||rL r
def gU(M:Mem)(β:Nm):List AV→List Value→Prop
 |[],[]=>True
 |c::cs,v::vs=>c.a7 M β v∧gU M β cs vs
 |_,_=>False
section
variable{cx:Cx}{N:Nat}{M F:Mem}{β:Nm}{σ:St}{a:Act}{w:World}(i:Inv cx N M β σ a w)(hM:Mem.le M F)
  (hF:∀x bc b c,aH σ.box x=some (some bc)→β x=some (b,c)→∀o u,w.cell? ⟨b,o,none⟩=some u→F b o=some u)
include i hM hF
theorem j9.rep:∀{cs:List SV} {vs:List Value},cK M β cs vs→cK F nb (j9 σ cs) vs
 |[],[],_=>trivial
 |_::_,_::_,⟨h,r⟩=>⟨dS.rep i hM hF 3 _ _ h,j9.rep r⟩
 |[],_::_,h=>h.elim
 |_::_,[],h=>h.elim
theorem o0.rep{x:AV}{v:Value}(r:x.a7 M β v):(o0 σ x).a7 F nb v:=by
 cases x with
 |s x=>exact dS.rep i hM hF 3 _ _ r
 |g cs=>obtain⟨vs,rfl,hr⟩:=r;exact⟨vs,rfl,j9.rep i hM hF hr⟩
 |_=>exact trivial
theorem iW.rep:∀{cs:List AV} {vs:List Value},gU M β cs vs→gU F nb (iW σ cs) vs
 |[],[],_=>trivial
 |_::_,_::_,⟨h,r⟩=>⟨o0.rep i hM hF h,iW.rep r⟩
 |[],_::_,h=>h.elim
 |_::_,[],h=>h.elim
end
theorem FU.rep{M:Mem}{β:Nm}{σ:St}:∀{cs:List SV} {vs:List Value},FU cs=false→cK M β cs vs→cK M nb (j9 σ cs) vs
 |[],[],_,_=>trivial
 |c::_,_::_,h,⟨hc,r⟩=>by
  simp only [FU,Bool.or_eq_false_iff]at h
  refine⟨?_,FU.rep h.2 r⟩
  cases c <;> first|exact hc|cases h.1
 |[],_::_,_,h=>h.elim
 |_::_,[],_,h=>h.elim
theorem rL.rep{M:Mem}{β:Nm}{σ:St}:∀{cs:List AV} {vs:List Value},rL cs=false→gU M β cs vs→gU M nb (iW σ cs) vs
 |[],[],_,_=>trivial
 |c::_,_::_,h,⟨hc,r⟩=>by
  simp only [rL,Bool.or_eq_false_iff]at h
  refine⟨?_,rL.rep h.2 r⟩
  cases c with
  |s x=>cases x <;> first|exact hc|cases h.1
  |g cs=>obtain⟨vs,rfl,hr⟩:=hc;exact⟨vs,rfl,FU.rep h.1 hr⟩
  |_=>exact trivial
 |[],_::_,_,h=>h.elim
 |_::_,[],_,h=>h.elim
def wJ:SV→Bool
 |.d (.val _)=>true
 |.d (.lit _)=>true
 |.d .bC=>true
 |_=>false
def nN:List SV→Bool
 |[]=>true
 |x::r=>wJ x&&nN r
def UF:TV→Bool
 |.s x=>wJ x
 |.g cs=>nN cs
def pS:List TV→Bool
 |[]=>true
 |x::r=>UF x&&pS r
def A2:AV→Bool
 |.s x=>wJ x
 |.g cs=>nN cs
 |.t ts=>pS ts
 |_=>false
theorem wJ.rep{M M':Mem}{β β':Nm}{x:SV}{v:Value}(h:wJ x=true)(r:x.a7 M β v):x.a7 M' β' v:=by
 unfold wJ at h
 split at h <;> first|exact r|cases h
theorem nN.rep{M M':Mem}{β β':Nm}:∀{cs:List SV} {vs:List Value},nN cs=true→cK M β cs vs→cK M' β' cs vs
 |[],[],_,_=>trivial
 |_::_,_::_,h,⟨a,r⟩=>by
  simp only [nN,Bool.and_eq_true]at h
  exact⟨wJ.rep h.1 a,nN.rep h.2 r⟩
 |[],_::_,_,h=>h.elim
 |_::_,[],_,h=>h.elim
theorem UF.rep{M M':Mem}{β β':Nm}{x:TV}{v:Value}(h:UF x=true)(r:x.a7 M β v):x.a7 M' β' v:=by
 cases x with
 |s x=>exact wJ.rep h r
 |g cs=>obtain⟨vs,e,hr⟩:=r;exact⟨vs,e,nN.rep h hr⟩
theorem pS.rep{M M':Mem}{β β':Nm}:∀{cs:List TV} {vs:List Value},pS cs=true→p9 M β cs vs→p9 M' β' cs vs
 |[],[],_,_=>trivial
 |_::_,_::_,h,⟨a,r⟩=>by
  simp only [pS,Bool.and_eq_true]at h
  exact⟨UF.rep h.1 a,pS.rep h.2 r⟩
 |[],_::_,_,h=>h.elim
 |_::_,[],_,h=>h.elim
theorem A2.rep{M M':Mem}{β β':Nm}{x:AV}{v:Value}(h:A2 x=true)(r:x.a7 M β v):x.a7 M' β' v:=by
 cases x with
 |s x=>exact wJ.rep h r
 |g cs=>obtain⟨vs,e,hr⟩:=r;exact⟨vs,e,nN.rep h hr⟩
 |t ts=>obtain⟨vs,e,hr⟩:=r;exact⟨vs,e,pS.rep h hr⟩
 |_=>cases h
structure Bel(w w':World):Prop where
 below:Below w.heap.size w w'
 drawn:Dr w w'
def aF(P:Program)(f:FuncId)(args:List AV)(r:AV):Prop:=
 (∀vs w,(callFunc f vs).run P w=.ok (.enter f vs) w)∧
 ∀(M:Mem) (w:World) (vs:List Value),aH5 w→gU M nb args vs→kF M w→
  Calls P f vs.toArray w fun e w'=>∃v M',e=.returned v∧r.a7 M' nb v∧Grow w.heap.size M M'∧kF M' w'∧Bel w w'
theorem Inv.after{cx:Cx}{N:Nat}{M M':Mem}{β:Nm}{σ:St}{a:Act}{w w':World}(i:Inv cx N M β σ a w)(R1:Bel w w')(hg:Grow w.heap.size M M')(hm:kF M' w'):
  Inv cx N M' β σ a w'∧Grow cx.B M M'∧b6 cx w w':=by
 have hb:=R1.below
 have hi:=i.heap.le
 have kp:b6 cx w w':=⟨hb.os,hb.tape,hb.output,hb.size,fun k hk _=>hb.block k oM,R1.drawn⟩
 refine⟨⟨i.defers,i.tmps,i.heap.keep kp,fun t=>AV.a7.mono hg.le (Nm.le_refl β) (i.env t),hm,i.keys,?_,i.inj,?_,i.low,i.ref⟩,⟨hg.le,fun b o u e=>(hg.new b o u e).imp id (fun h=>Nat.le_trans hi h)⟩,kp⟩
 ·intro x bc e
  have hr:=i.box x bc e
  exact cH.mono hg.le (Nm.le_refl β) rfl (fun b c e'=>hb.block b (i.tQ e e')) hr
 ·intro x bc b c e e' o
  cases h:M' b o with
  |none=>rfl
  |some u=>
   rcases hg.new b o u h with h1|h1
   ·rw[i.apart x bc b c e e' o]at h1;cases h1
   ·have:=i.tQ e e';omega
section
variable{P:Program}{σ:St}{g:Option Bool}{K:AV→Prop}{o:Oper}
def dO(g:Option Bool)(σ:St):List Operand→(List AV→Prop)→Prop
 |[],K=>K []
 |x::r,K=>fe g (ev σ x) fun va=>dO g σ r fun l=>K (va::l)
theorem dO.spec:∀{l:List Operand} {K:List AV→Prop},dO g σ l K→
  ∃ars,K ars∧(act g→∀cx N M β a w,Inv cx N M β σ a w→gU M β ars (l.map a.eval))
 |[],_,h=>⟨[],h,fun _ _ _ _ _ _ _ _=>trivial⟩
 |x::r,K,h=>by
  replace h:=fe.ev h
  obtain⟨va,h,hr⟩:=h
  obtain⟨ns,hk,hs⟩:=dO.spec h
  exact⟨_,hk,fun ha cx N M β a w i=>⟨hr ha cx N M β a w i,hs ha cx N M β a w i⟩⟩
def uR:List CV→List AV
 |[]=>[]
 |.d x::r=>.s (.d x)::uR r
 |.ptr x off::r=>.s (.ptr x off)::uR r
theorem uR.rep{M:Mem}{β:Nm}:∀{cs:List CV} {vs:List Value},tR M β cs vs→gU M β (uR cs) vs
 |[],[],_=>trivial
 |.d _::_,_::_,⟨h,r⟩=>⟨h,uR.rep r⟩
 |.ptr _ _::_,_::_,⟨h,r⟩=>⟨h,uR.rep r⟩
 |[],_::_,h=>h.elim
 |_::_,[],h=>h.elim
def iX(c:Nat→DV):Nat→Nat→List AV
 |0,_=>[]
 |k+1,j=>.s (.d (c j))::iX c k (j+1)
theorem iX.rep{M:Mem}{β:Nm}{c:Nat→DV}:∀{vs:List Value} {j:Nat},(∀i u,vs[i]? =some u→(c (j+i)).a7 M u)→gU M β (iX c vs.length j) vs
 |[],_,_=>trivial
 |v::r,j,h=>⟨h 0 v rfl,iX.rep (fun i u hu=>by have:=h (i+1) u (by simpa using hu);rwa [show j+(i+1)=j+1+i by omega]at this)⟩
theorem gU.append:∀{M β} {cs ds:List AV} {vs us:List Value},gU M β cs vs→gU M β ds us→gU M β (cs++ds) (vs++us)
 |_,_,[],_,[],_,_,h=>h
 |_,_,_::_,_,_::_,_,⟨h,r⟩,k=>⟨h,gU.append r k⟩
 |_,_,[],_,_::_,_,h,_=>h.elim
 |_,_,_::_,_,[],_,h,_=>h.elim
def gD(c:Nat→DV):Nat→Nat→List SV
 |0,_=>[]
 |k+1,j=>.d (c j)::gD c k (j+1)
theorem gD.rep{M:Mem}{β:Nm}{c:Nat→DV}:∀{vs:List Value} {j:Nat},(∀i u,vs[i]? =some u→(c (j+i)).a7 M u)→cK M β (gD c vs.length j) vs
 |[],_,_=>trivial
 |v::r,j,h=>⟨h 0 v rfl,gD.rep (fun i u hu=>by have:=h (i+1) u (by simpa using hu);rwa [show j+(i+1)=j+1+i by omega]at this)⟩
def lY(P:Program)(σ:St)(g:Option Bool)(f:FuncId)(args:List AV)(K:AV→Prop):Prop:=
 ∃r,imp g (aF P f (iW σ args) r)∧(bif !A2 r&&rL args then False else K r)
theorem call.aI4{fo:Operand}{args:Array Operand}{uX:Array TypeId}(ho:o.op=.call {callee:=.value fo,args:=args,argTypes:=uX}){ars:List AV}
  (has:act g→∀cx N M β a w,Inv cx N M β σ a w→gU M β ars (args.toList.map a.eval)):∀{f:FuncId} {pre extra:List AV},lY P σ g f (pre++(ars++extra)) K→
   (act g→∀cx N M β a w,Inv cx N M β σ a w→∃ps us:List Value,a.eval fo=.func (.func f) ps.toArray us.toArray∧gU M β pre ps∧gU M β extra us)→
   ∃r,K r∧(act g→∀cx N M β a w,Inv cx N M β σ a w→∃f vs,(execOp a.eval o).run P w=.ok (.enter f vs) w∧
   Calls P f vs w fun e w'=>∃v M',e=.returned v∧r.a7 M' β v∧Inv cx N M' β σ a w'∧Grow cx.B M M'∧b6 cx w w'):=by
 intro f pre extra ⟨r,hc,hk⟩ hx
 cases hb:(!A2 r&&rL (pre++(ars++extra)))with
 |true=>rw[hb]at hk;exact hk.elim
 |false=>
  rw[hb]at hk
  refine⟨r,hk,fun ha cx N M β a w i=>?_⟩
  obtain⟨ps,us,eu,hps,QO⟩:=hx ha cx N M β a w i
  have wI:=hps.append ((has ha cx N M β a w i).append QO)
  obtain⟨yO,dV⟩:=hc.get ha
  refine⟨f,(ps++(args.toList.map a.eval++us)).toArray,?_,?_⟩
  ·have:(ps.toArray++(args.map a.eval++us.toArray))=(ps++(args.toList.map a.eval++us)).toArray:=by
    apply Array.ext';simp
   simp[execOp,ho,resolve,eu,Deferred.ofValue,invoke,this,yO]
  ·by_cases hr:rL (pre++(ars++extra))=true
   ·have hfl:A2 r=true:=by
     rw[hr]at hb
     simpa using hb
    refine(dV (full w) w _ i.heap.aDO (iW.rep i i.mem (fun _ _ _ _ _ _ _ _ h=>h) wI) (fun _ _ _ h=>h)).mono ?_
    rintro e w' ⟨v,M',rfl,RO,hg,hm,PE⟩
    have:=i.after PE (Grow.refl _ M) (fun b o u h=>by
     rw[PE.below.cell (p:=⟨b,o,none⟩) (i.GH h)];exact i.mem b o u h)
    exact⟨v,M,rfl,A2.rep hfl RO,this⟩
   ·have hr:rL (pre++(ars++extra))=false:=by simpa using hr
    refine(dV M w _ i.heap.aDO (rL.rep hr wI) i.mem).mono ?_
    rintro e w' ⟨v,M',rfl,RO,hg,hm,PE⟩
    exact⟨v,M',rfl,AV.a7.mono (Mem.le_refl _) (fun _ _ h=>by cases h) RO,i.after PE hg hm⟩
theorem call.key{fo:Operand}{args:Array Operand}{uX:Array TypeId}(ho:o.op=.call {callee:=.value fo,args:=args,argTypes:=uX}){ars:List AV}
  (has:act g→∀cx N M β a w,Inv cx N M β σ a w→gU M β ars (args.toList.map a.eval)):∀{f:FuncId} {extra:List AV},lY P σ g f (ars++extra) K→
   (act g→∀cx N M β a w,Inv cx N M β σ a w→∃us:List Value,a.eval fo=.func (.func f) #[] us.toArray∧gU M β extra us)→
   ∃r,K r∧(act g→∀cx N M β a w,Inv cx N M β σ a w→∃f vs,(execOp a.eval o).run P w=.ok (.enter f vs) w∧
   Calls P f vs w fun e w'=>∃v M',e=.returned v∧r.a7 M' β v∧Inv cx N M' β σ a w'∧Grow cx.B M M'∧b6 cx w w'):=by
 intro f extra hd hx
 exact call.aI4 (pre:=[]) ho has hd fun ha cx N M β a w i=>by
  obtain⟨us,e,h⟩:=hx ha cx N M β a w i
  exact⟨[],us,e,trivial,h⟩
end
abbrev aO:=List (Nat×Option jM)
def I5(P:Program)(o:Oper)(σ:St)(r:AV)(bx:aO):Prop:=
 ∀cx N M β a w,Inv cx N M β σ a w→∃v w' M' β',
  ((execOp a.eval o).run P w=.ok (.value v) w'∨((execOp a.eval o).run P w=.ok .skip w'∧v=undef))∧
  r.a7 M' β' v∧Inv cx N M' β' ⟨σ.env,bx⟩ a w'∧Grow cx.B M M'∧b6 cx w w'
section
variable{P:Program}{σ:St}{K:AV→aO→Prop}{o:Oper}
def wV(T:List (Nat×bJ))(σ:St)(d t:Nat)(K:AV→aO→Prop):Prop:=
 match cV T t with
 |some ti=>match aH σ.box d with
  |none=>K (.s (.ptr d 0)) ((d,some (bif K5.contains t then .fresh t ti.zero else .cells (iE ti.zero)))::σ.box)
  |some _=>False
 |none=>False
theorem alloc.spec{T:List (Nat×bJ)}(hT:b5 P T){d t:Nat}(ho:o.op=.alloc t)(h:wV T σ d t K):∃r bx,K r bx∧I5 P o σ r bx:=by
 unfold wV at h
 split at h
 case h_2=>cases h
 rename_i ti fX
 have fT:=hT.get fX
 split at h
 case h_2=>cases h
 rename_i hd
 refine⟨_,_,h,fun cx N M β a w i=>?_⟩
 obtain⟨z,hz,J5⟩:=fT.vN w
 have aV:(execOp a.eval o).run P w=.ok (.value (.pointer (some ⟨w.heap.size,0,none⟩))) (w.alloc (.cells z.cells t)):=by
  simp[execOp,ho,Instr.alloc,hz,newVar,newRow]
 obtain⟨β',h1,h2,h3,h4⟩:=i.new (w':=(w.alloc (.cells z.cells t))) (c:=(0,0)) hd (ob:=.cells z.cells t) rfl rfl rfl rfl (bc:=bif K5.contains t then .fresh t ti.zero else .cells (iE ti.zero)) (by
  intro β' e _
  have:z.cells=ti.zero.toArray:=by rw[←J5]
  cases K5.contains t with
  |true=>exact⟨_,_,e,by rw[this];exact heap_alloc_new w _⟩
  |false=>
   refine⟨_,_,ti.zero,t,[],e,?_,iE.rep M β' _⟩
   rw[this,List.append_nil];exact heap_alloc_new w _)
 exact⟨_,_,M,β',.inl aV,⟨_,_,h1,rfl⟩,h3,Grow.refl _ _,h4⟩
def I0(σ:St)(d:Nat)(x:Operand)(K:AV→aO→Prop):Prop:=
 fe none (ev σ x) fun va=>match oQ va with
  |some cs=>bif lG cs then match aH σ.box d with
   |none=>K (.s (.ptr d 0)) ((d,some (.cells cs))::σ.box)
   |some _=>False
   else False
  |none=>False
theorem iS:act none:=fun _ h=>by cases h
theorem box.spec{d t:Nat}{x:Operand}(ho:o.op=.box t x)(h:I0 σ d x K):∃r bx,K r bx∧I5 P o σ r bx:=by
 unfold I0 at h
 replace h:=fe.ev h
 obtain⟨va,h,hr⟩:=h
 split at h
 case h_2=>cases h
 rename_i cs mS
 cases nZ:lG cs with
 |false=>rw[nZ]at h;cases h
 |true=>
  rw[nZ]at h
  simp only [cond_true]at h
  split at h
  case h_2=>cases h
  rename_i hd
  refine⟨_,_,h,fun cx N M β a w i=>?_⟩
  obtain⟨vs,hvs,dU⟩:=oQ.rep mS nZ (hr iS cx N M β a w i)
  have aV:(execOp a.eval o).run P w=.ok (.value (.pointer (some ⟨w.heap.size,0,none⟩))) (w.alloc (.cells (a.eval x).cells t)):=by
   simp[execOp,ho,Instr.box,newVar,newRow]
  obtain⟨β',h1,h2,h3,h4⟩:=i.new (w':=(w.alloc (.cells (a.eval x).cells t))) (c:=(0,0)) hd (ob:=.cells (a.eval x).cells t) rfl rfl rfl rfl (bc:=.cells cs) (by
   intro β' e hle
   refine⟨_,_,vs,t,[],e,?_,cK.mono (Mem.le_refl _) hle dU⟩
   have:(a.eval x).cells=vs.toArray:=by rw[←hvs]
   rw[this,List.append_nil];exact heap_alloc_new w _)
  exact⟨_,_,M,β',.inl aV,⟨_,_,h1,rfl⟩,h3,Grow.refl _ _,h4⟩
def M9:SV→DV
 |.d x=>x
 |_=>.bC
def oF:List SV→Bool
 |[]=>true
 |.d _::r=>oF r
 |_::_=>false
theorem oF.M9:∀{cs:List SV} {j:Nat} {c:SV},oF cs=true→cs[j]? =some c→c=.d (M9 c)
 |[],_,_,_,h=>by simp at h
 |.d x::r,0,c,_,h=>by simp at h;subst h;rfl
 |.d x::r,j+1,c,ha,h=>oF.M9 (cs:=r) ha (by simpa using h)
 |.ptr _ _::_,_,_,h,_=>by cases h
 |.own _::_,_,_,h,_=>by cases h
 |.rw _ _ _ _::_,_,_,h,_=>by cases h
 |.jQ _ _ _ _::_,_,_,h,_=>by cases h
 |.mp _::_,_,_,h,_=>by cases h
 |.dQ _ _::_,_,_,h,_=>by cases h
def fK(f:Nat→Nat→DV)(i o:Nat)(cs:List SV):Nat→Nat→DV:=fun i' j=>
 if i'=i then(bif Nat.ble o j&&Nat.blt j (o+cs.length)then match cs[j - o]? with|some c=>M9 c|none=>.bC else f i' j)else f i' j
def oH(T:List (Nat×bJ))(σ:St)(t:Nat)(x y:Operand)(K:AV→aO→Prop):Prop:=
 fe none (ev σ x) fun va=>fe none (ev σ y) fun vv=>match cV T t,oQ vv with
  |some ti,some cs=>bif lG cs&&Nat.beq cs.length ti.size then
    match va with
    |.s (.ptr b off)=>match aH σ.box b with
     |some (some (.cells X5))=>bif Nat.ble (off+ti.size) X5.length then
       K (.s (.d .bC)) ((b,some (.cells (X5.take off++(cs++X5.drop (off+cs.length)))))::σ.box)else False
     |_=>False
    |.s (.rw b i s off)=>match aH σ.box b with
     |some (some (.row e n s' f))=>bif oF cs&&Nat.beq s s'&&Nat.ble (off+ti.size) s then
       i<n∧K (.s (.d .bC)) ((b,some (.row e n s' (fK f i off cs)))::σ.box)else False
     |some (some (.bW e n s' f))=>bif oF cs&&Nat.beq s s'&&Nat.ble (off+ti.size) s then
       i<n∧K (.s (.d .bC)) ((b,some (.bW e n s' (fK f i off cs)))::σ.box)else False
     |_=>False
    |_=>False
   else False
  |_,_=>False
theorem iU(w:World)(g:Nat)(cur:Array Value)(t:TypeId)(o:Nat)(vs:List Value)(hg:w.heap[g]? =some (.cells cur t (0,0)))(hl:o+vs.length≤cur.size)(h1:∀v∈vs,v.oneCell'=true)(P:Program):
  (storeCells ⟨g,o,none⟩ vs).run P w=.ok () (w.setRow g (cur.toList.take o++(vs++cur.toList.drop (o+vs.length))).toArray):=by
 have:=run_storeCells_at P g o t vs 0 cur w hg (by simpa using hl) h1
 simpa using this
theorem store.spec{T:List (Nat×bJ)}(hT:b5 P T){t:Nat}{x y:Operand}(ho:o.op=.store t x y)(h:oH T σ t x y K):∃r bx,K r bx∧I5 P o σ r bx:=by
 unfold oH at h
 replace h:=fe.ev h
 obtain⟨va,h,hr⟩:=h
 replace h:=fe.ev h
 obtain⟨vv,h,RO⟩:=h
 split at h
 case h_2=>cases h
 rename_i ti cs fX mS
 have fT:=hT.get fX
 cases nZ:(lG cs&&Nat.beq cs.length ti.size)with
 |false=>rw[nZ]at h;cases h
 |true=>
  rw[nZ]at h
  simp only [Bool.and_eq_true]at nZ
  have hlen:=Nat.eq_of_beq_eq_true nZ.2
  simp only [cond_true]at h
  split at h
  case h_3=>cases h
  ·rename_i b off
   split at h
   case h_2=>cases h
   rename_i X5 hb
   cases hle:Nat.ble (off+ti.size) X5.length with
   |false=>rw[hle]at h;cases h
   |true=>
    rw[hle]at h
    have hle:=Nat.le_of_ble_eq_true hle
    refine⟨_,_,h,fun cx N M β a w i=>?_⟩
    obtain⟨k,c,e1,ea⟩:=hr iS cx N M β a w i
    obtain⟨k',c',vs,ty,zs,e2,hh,dU⟩:=i.box b _ hb
    rw[e1]at e2;cases e2
    obtain⟨us,QO,EI⟩:=oQ.rep mS nZ.1 (RO iS cx N M β a w i)
    have hlu:=EI.length
    have WM:=dU.length
    have jE:=iU w k (vs++zs).toArray ty off us hh (by simp;omega) (EI.kD nZ.1) P
    have lT:(a.eval y).cells.size=ti.size:=by rw[←Array.length_toList,QO];omega
    have aML:(vs++zs).toArray.toList.take off++(us++(vs++zs).toArray.toList.drop (off+us.length))=(vs.take off++(us++vs.drop (off+us.length)))++zs:=by
     show(vs++zs).take off++(us++(vs++zs).drop (off+us.length))=_
     rw[List.take_append_of_le_length oM,List.drop_append_of_le_length oM]
     simp
    have aV:(execOp a.eval o).run P w=.ok .skip (w.setRow k ((vs.take off++(us++vs.drop (off+us.length)))++zs).toArray):=by
     rw[←aML]
     simp[execOp,ho,Instr.storeAt,Instr.sureAddr,ea,storeVar,fT.gY,lT,QO,jE]
    have hw:=i.write (bc':=.cells (X5.take off++(cs++X5.drop (off+cs.length)))) hb e1 (w':=w.setRow k ((vs.take off++(us++vs.drop (off+us.length)))++zs).toArray) sM (fun j hj=>setRow_other w k j _ hj) rfl rfl rfl
     ⟨k,c,_,ty,zs,e1,setRow_heap w k (vs++zs).toArray _ ty _ hh,(dU.take off).append (EI.append (by rw[←hlu];exact dU.drop _))⟩
    exact⟨undef,_,M,β,.inr ⟨aV,rfl⟩,trivial,hw.1,Grow.refl _ _,hw.2⟩
  ·rename_i b ix s off
   split at h
   case h_3=>cases h
   ·rename_i e n s' f hb
    cases hc:(oF cs&&Nat.beq s s'&&Nat.ble (off+ti.size) s)with
    |false=>rw[hc]at h;cases h
    |true=>
     rw[hc]at h
     simp only [Bool.and_eq_true]at hc
     have hs:=Nat.eq_of_beq_eq_true hc.1.2
     have hle:=Nat.le_of_ble_eq_true hc.2
     subst hs
     obtain⟨hix,h⟩:=h
     refine⟨_,_,h,fun cx N M β a w i=>?_⟩
     obtain⟨k,c,e1,ea⟩:=hr iS cx N M β a w i
     obtain⟨k',c',cur,e2,hh,hl0,lT,hn,H6,cN⟩:=i.box b _ hb
     rw[e1]at e2;cases e2
     obtain⟨us,QO,EI⟩:=oQ.rep mS nZ.1 (RO iS cx N M β a w i)
     have hlu:=EI.length
     have hbound:ix*s+s≤cur.size:=by
      rw[lT,←Nat.succ_mul]
      exact Nat.mul_le_mul_right _ oM
     have jE:=iU w k cur e (ix*s+off) us hh oM (EI.kD nZ.1) P
     have aV:(execOp a.eval o).run P w=.ok .skip (w.setRow k (cur.toList.take (ix*s+off)++(us++cur.toList.drop (ix*s+off+us.length))).toArray):=by
      have lT:(a.eval y).cells.size=ti.size:=by rw[←Array.length_toList,QO];omega
      simp[execOp,ho,Instr.storeAt,Instr.sureAddr,ea,storeVar,fT.gY,lT,QO,jE]
     have hw:=i.write (bc':=.row e n s (fK f ix off cs)) hb e1 (w':=w.setRow k (cur.toList.take (ix*s+off)++(us++cur.toList.drop (ix*s+off+us.length))).toArray) sM (fun j hj=>setRow_other w k j _ hj) rfl rfl rfl
      ⟨k,c,_,e1,setRow_heap w k cur _ e _ hh,hl0,by simp;omega,hn,H6,fun i' j bN hj=>?_⟩
     ·exact⟨undef,_,M,β,.inr ⟨aV,rfl⟩,trivial,hw.1,Grow.refl _ _,hw.2⟩
     ·have RN:(cur.toList.take (ix*s+off)).length=ix*s+off:=by simp;omega
      simp only [List.getElem?_toArray]
      by_cases iT:i'=ix∧off≤j∧j<off+cs.length
      ·obtain⟨rfl,hj1,hj2⟩:=iT
       have rF:j - off<cs.length:=oM
       have hd:=oF.M9 hc.1.1 (List.getElem?_eq_getElem rF)
       obtain⟨u,hu,hrr⟩:=EI.get (List.getElem?_eq_getElem rF)
       refine⟨u,?_,?_⟩
       ·rw[List.getElem?_append_right oM,RN,List.getElem?_append_left oM]
        rw[show i'*s+j - (i'*s+off)=j - off by omega]
        exact hu
       ·have b1:Nat.ble off j=true:=Nat.ble_eq_true_of_le hj1
        have b2:Nat.blt j (off+cs.length)=true:=Nat.ble_eq_true_of_le hj2
        simp only [fK,if_true,b1,b2,Bool.and_true,cond_true,List.getElem?_eq_getElem rF]
        rw[hd]at hrr
        exact hrr
      ·obtain⟨u,hu,hrr⟩:=cN i' j bN hj
       have hV:i'*s+j<ix*s+off∨ix*s+off+us.length≤i'*s+j:=by
        rcases Nat.lt_trichotomy i' ix with h|h|h
        ·have:(i'+1)*s≤ix*s:=Nat.mul_le_mul_right _ h
         rw[Nat.succ_mul]at this;omega
        ·subst h;omega
        ·have:(ix+1)*s≤i'*s:=Nat.mul_le_mul_right _ h
         rw[Nat.succ_mul]at this;omega
       refine⟨u,?_,?_⟩
       ·rcases hV with h|h
        ·rw[List.getElem?_append_left oM,List.getElem?_take_of_lt h]
         simpa using hu
        ·rw[List.getElem?_append_right oM,RN,List.getElem?_append_right oM,List.getElem?_drop]
         rw[show ix*s+off+us.length+(i'*s+j - (ix*s+off) - us.length)=i'*s+j by omega]
         simpa using hu
       ·have:fK f ix off cs i' j=f i' j:=by
         unfold fK
         split
         ·rename_i h
          cases hbb:(Nat.ble off j&&Nat.blt j (off+cs.length))with
          |false=>rfl
          |true=>
           simp only [Bool.and_eq_true]at hbb
           exact absurd ⟨h,Nat.le_of_ble_eq_true hbb.1,Nat.le_of_ble_eq_true hbb.2⟩ iT
         ·rfl
        rw[this]
        exact hrr
   ·rename_i e n s' f hb
    cases hc:(oF cs&&Nat.beq s s'&&Nat.ble (off+ti.size) s)with
    |false=>rw[hc]at h;cases h
    |true=>
     rw[hc]at h
     simp only [Bool.and_eq_true]at hc
     have hs:=Nat.eq_of_beq_eq_true hc.1.2
     have hle:=Nat.le_of_ble_eq_true hc.2
     subst hs
     obtain⟨hix,h⟩:=h
     refine⟨_,_,h,fun cx N M β a w i=>?_⟩
     obtain⟨k,c,e1,ea⟩:=hr iS cx N M β a w i
     obtain⟨cur,hh,hl0,lT,hn,H6,cN⟩:=i.box b _ hb k c e1
     obtain⟨us,QO,EI⟩:=oQ.rep mS nZ.1 (RO iS cx N M β a w i)
     have hlu:=EI.length
     have hbound:ix*s+s≤cur.size:=by
      rw[lT,←Nat.succ_mul]
      exact Nat.mul_le_mul_right _ oM
     have jE:=iU w k cur e (ix*s+off) us hh oM (EI.kD nZ.1) P
     have aV:(execOp a.eval o).run P w=.ok .skip (w.setRow k (cur.toList.take (ix*s+off)++(us++cur.toList.drop (ix*s+off+us.length))).toArray):=by
      have lT:(a.eval y).cells.size=ti.size:=by rw[←Array.length_toList,QO];omega
      simp[execOp,ho,Instr.storeAt,Instr.sureAddr,ea,storeVar,fT.gY,lT,QO,jE]
     have hq:∀i' j,i'<n→j<s→∃u,(cur.toList.take (ix*s+off)++(us++cur.toList.drop (ix*s+off+us.length))).toArray[i'*s+j]? =some u∧(fK f ix off cs i' j).a7 M u:=by
      intro i' j bN hj
      have RN:(cur.toList.take (ix*s+off)).length=ix*s+off:=by simp;omega
      simp only [List.getElem?_toArray]
      by_cases iT:i'=ix∧off≤j∧j<off+cs.length
      ·obtain⟨rfl,hj1,hj2⟩:=iT
       have rF:j - off<cs.length:=oM
       have hd:=oF.M9 hc.1.1 (List.getElem?_eq_getElem rF)
       obtain⟨u,hu,hrr⟩:=EI.get (List.getElem?_eq_getElem rF)
       refine⟨u,?_,?_⟩
       ·rw[List.getElem?_append_right oM,RN,List.getElem?_append_left oM]
        rw[show i'*s+j - (i'*s+off)=j - off by omega]
        exact hu
       ·have b1:Nat.ble off j=true:=Nat.ble_eq_true_of_le hj1
        have b2:Nat.blt j (off+cs.length)=true:=Nat.ble_eq_true_of_le hj2
        simp only [fK,if_true,b1,b2,Bool.and_true,cond_true,List.getElem?_eq_getElem rF]
        rw[hd]at hrr
        exact hrr
      ·obtain⟨u,hu,hrr⟩:=cN i' j bN hj
       have hV:i'*s+j<ix*s+off∨ix*s+off+us.length≤i'*s+j:=by
        rcases Nat.lt_trichotomy i' ix with h|h|h
        ·have:(i'+1)*s≤ix*s:=Nat.mul_le_mul_right _ h
         rw[Nat.succ_mul]at this;omega
        ·subst h;omega
        ·have:(ix+1)*s≤i'*s:=Nat.mul_le_mul_right _ h
         rw[Nat.succ_mul]at this;omega
       refine⟨u,?_,?_⟩
       ·rcases hV with h|h
        ·rw[List.getElem?_append_left oM,List.getElem?_take_of_lt h]
         simpa using hu
        ·rw[List.getElem?_append_right oM,RN,List.getElem?_append_right oM,List.getElem?_drop]
         rw[show ix*s+off+us.length+(i'*s+j - (ix*s+off) - us.length)=i'*s+j by omega]
         simpa using hu
       ·have:fK f ix off cs i' j=f i' j:=by
         unfold fK
         split
         ·rename_i h
          cases hbb:(Nat.ble off j&&Nat.blt j (off+cs.length))with
          |false=>rfl
          |true=>
           simp only [Bool.and_eq_true]at hbb
           exact absurd ⟨h,Nat.le_of_ble_eq_true hbb.1,Nat.le_of_ble_eq_true hbb.2⟩ iT
         ·rfl
        rw[this]
        exact hrr
     have hw:=i.write (bc':=.bW e n s (fK f ix off cs)) hb e1 (w':=w.setRow k (cur.toList.take (ix*s+off)++(us++cur.toList.drop (ix*s+off+us.length))).toArray) sM (fun j hj=>setRow_other w k j _ hj) rfl rfl rfl
      (fun b1 c1 e3=>by
       rw[e1]at e3;cases e3
       exact⟨_,setRow_heap w k cur _ e _ hh,hl0,by simp;omega,hn,H6,fun i' j bN hj=>hq i' j bN hj⟩)
     exact⟨undef,_,M,β,.inr ⟨aV,rfl⟩,trivial,hw.1,Grow.refl _ _,hw.2⟩
def VN(s:Nat)(cs:List SV):Nat→Nat→DV:=fun i j=>match cs[i*s+j]? with
 |some c=>M9 c
 |none=>.bC
def VR(z:List SV):Nat→List SV
 |0=>[]
 |n+1=>z++VR z n
def IZ(T:List (Nat×bJ))(σ:St)(d t len:Nat)(pa:List (Nat×Operand))(K:AV→aO→Prop):Prop:=
 parts none σ pa fun ps=>match cV T t with
  |some ti=>match ti.jS with
   |.slice e=>match cV T e with
    |some te=>match pT (fun i=>some (i*te.size,te.size)) (VR (iE te.zero) len) ps with
     |some cs=>bif oF cs&&Nat.ble (len*te.size) 16777216&&Nat.blt 0 te.size&&Nat.beq te.zero.length te.size then match aH σ.box d with
      |none=>K (.s (.own d)) ((d,some (.row e len te.size (VN te.size cs)))::σ.box)
      |some _=>False
      else False
     |none=>False
    |none=>False
   |_=>False
  |none=>False
theorem VR.rep{M:Mem}{β:Nm}{z:List SV}{zv:List Value}(h:cK M β z zv):∀n,∃vs:List Value,cK M β (VR z n) vs∧vs.length=n*zv.length∧∀j,j<n*zv.length→vs[j]? =zv[j%zv.length]?
 |0=>⟨[],trivial,sM,sM⟩
 |n+1=>by
  obtain⟨vs,hr,hl,hj⟩:=VR.rep h n
  refine⟨zv++vs,h.append hr,by simp[hl,Nat.succ_mul,Nat.add_comm],fun j rF=>?_⟩
  by_cases h1:j<zv.length
  ·rw[List.getElem?_append_left h1,Nat.mod_eq_of_lt h1]
  ·rw[List.getElem?_append_right oM,hj _ (by rw[Nat.succ_mul]at rF;omega)]
   congr 1
   rw[Nat.mod_eq_sub_mod (show j≥zv.length by omega)]
theorem bsl.spec{T:List (Nat×bJ)}(hT:b5 P T){d t len:Nat}{pa:Array (Nat×Operand)}(ho:o.op=.buildSlice t len pa)(h:IZ T σ d t len pa.toList K):∃r bx,K r bx∧I5 P o σ r bx:=by
 unfold IZ at h
 replace h:=parts.spec h
 obtain⟨ps,h,hs⟩:=h
 split at h
 case h_2=>cases h
 rename_i ti fX
 have fT:=hT.get fX
 split at h
 case h_2=>cases h
 rename_i e hu
 have cS:P.underlying t=some (.slice e):=fT.isSlice hu
 split at h
 case h_2=>cases h
 rename_i te mD
 have lW:=hT.get mD
 split at h
 case h_2=>cases h
 rename_i cs mS
 cases hc:(oF cs&&Nat.ble (len*te.size) 16777216&&Nat.blt 0 te.size&&Nat.beq te.zero.length te.size)with
 |false=>rw[hc]at h;cases h
 |true=>
  rw[hc]at h
  simp only [cond_true]at h
  simp only [Bool.and_eq_true]at hc
  have c2:=Nat.le_of_ble_eq_true hc.1.1.2
  have c3:0<te.size:=Nat.le_of_ble_eq_true hc.1.2
  have c4:=Nat.eq_of_beq_eq_true hc.2
  split at h
  case h_2=>cases h
  rename_i hd
  refine⟨_,_,h,fun cx N M β a w i=>?_⟩
  obtain⟨z,hz,J5⟩:=lW.vN w
  obtain⟨zs,hzr,hzl,hzj⟩:=VR.rep (iE.rep M β te.zero) len
  obtain⟨yB,aEV,dU⟩:=pT.spec (pl':=fun i=>some (i*te.size,te.size)) (fun _ _ h=>h) mS (hs iS cx N M β a w i) hzr
  have hzero:(Array.range (len*te.size)).map (z.cells[· %z.cells.size]!)=zs.toArray:=by
   apply Array.ext'
   apply List.ext_getElem?
   intro j
   have hzs:z.cells.size=te.size:=by rw[←Array.length_toList,J5,c4]
   by_cases hj:j<len*te.size
   ·have h1:=hzj j (by rw[c4];exact hj)
    have h2:j%te.size<z.cells.size:=by rw[hzs];exact Nat.mod_lt _ c3
    simp only [Array.toList_map,Array.toList_range,List.getElem?_map,List.getElem?_range hj,Option.map_some,h1]
    rw[c4,←J5,hzs,getElem!_pos z.cells _ h2]
    simp[h2]
   ·rw[List.getElem?_eq_none (by simp;omega),List.getElem?_eq_none (by simp[hzl,c4];omega)]
  have yN:¬len*te.size>2^24:=oM
  have aND:=dU.length
  have hlc:cs.length=len*te.size:=by
   have:∀{ps:List (Nat×List SV)} {cells cs:List SV},pT (fun i=>some (i*te.size,te.size)) cells ps=some cs→cs.length=cells.length:=by
    intro ps
    induction ps with
    |nil=>intro cells cs h;simp[pT]at h;rw[h]
    |cons p r ih=>
     intro cells cs h
     obtain⟨i,c⟩:=p
     simp only [pT]at h
     cases o7:(Nat.beq c.length te.size&&Nat.ble (i*te.size+te.size) cells.length)with
     |false=>rw[o7]at h;cases h
     |true=>
      rw[o7]at h
      simp only [Bool.and_eq_true]at o7
      have k1:=Nat.eq_of_beq_eq_true o7.1
      have k2:=Nat.le_of_ble_eq_true o7.2
      rw[ih h]
      simp
      omega
   rw[this mS]
   have:=hzr.length
   rw[←this,hzl,c4]
  have aJD:(Instr.buildSlice t len (pa.map fun (i,x)=>(i,a.eval x))).run P w=.ok (.slice (some ⟨w.heap.size,0,none⟩) len len) (w.alloc (.cells yB.toArray e)):=by
   by_cases h0:len*te.size=0
   ·obtain rfl:len=0:=by
     rcases Nat.eq_zero_or_pos len with h|h
     ·exact h
     ·exact absurd h0 (Nat.ne_of_gt (Nat.mul_pos h c3))
    have:zs=[]:=List.eq_nil_of_length_eq_zero (by rw[hzl];simp)
    subst this
    simp[Instr.buildSlice,run_underlying cS,lW.gY,newRow]
    have e0:∀f:Nat→Value,Array.map f (Array.range 0)= #[]:=fun f=>by apply Array.ext';simp[Array.toList_range]
    simp[e0,aEV]
   ·obtain⟨ie,DW,xT,_,z',hz',_⟩:=lW.info
    have hzz:z'=z:=by
     simp[zeroValue,typeInfo,DW,hz']at hz
     exact hz
    subst hzz
    have aDM:¬len*ie.size>2^24:=by rw[xT];exact yN
    refine run_buildSlice w t e len _ yB.toArray ie z' cS DW hz' aDM (by rw[xT];exact h0) ?_
    rw[xT,hzero,Array.toList_map]
    exact aEV
  have aV:(execOp a.eval o).run P w=.ok (.value (.slice (some ⟨w.heap.size,0,none⟩) len len)) (w.alloc (.cells yB.toArray e)):=by
   simp[execOp,ho,aJD]
  obtain⟨β',h1,h2,h3,h4⟩:=i.new (w':=w.alloc (.cells yB.toArray e)) (c:=(len,len)) hd (ob:=.cells yB.toArray e) rfl rfl rfl rfl (bc:=.row e len te.size (VN te.size cs)) (by
   intro β' iR hle
   refine⟨_,_,yB.toArray,iR,heap_alloc_new w _,rfl,by simp;omega,Nat.le_refl _,?_,fun k j hk hj=>?_⟩
   ·have:len≤len*te.size:=Nat.le_mul_of_pos_right _ c3
    unfold maxLen;omega
   ·have fR:k*te.size+j<cs.length:=by
     rw[hlc]
     have:(k+1)*te.size≤len*te.size:=Nat.mul_le_mul_right _ hk
     rw[Nat.succ_mul]at this;omega
    obtain⟨u,hu,hr⟩:=dU.get (List.getElem?_eq_getElem fR)
    refine⟨u,by simpa using hu,?_⟩
    simp only [VN,List.getElem?_eq_getElem fR]
    have:=oF.M9 hc.1.1.1 (List.getElem?_eq_getElem fR)
    rw[this]at hr
    exact hr)
  exact⟨_,_,M,β',.inl aV,⟨_,_,h1,rfl,Nat.le_refl _⟩,h3,Grow.refl _ _,h4⟩
end
section world
variable{w:World}{cx:Cx}{N:Nat}{M:Mem}{β:Nm}{σ:St}{a:Act}
theorem Inv.kill{x:Nat}{y:Option jM}(i:Inv cx N M β σ a w)(_hx:aH σ.box x=some y):Inv cx N M β ⟨σ.env,(x,none)::σ.box⟩ a w:=by
 have hl:∀z bc,aH ((x,none)::σ.box) z=some (some bc)→aH σ.box z=some (some bc):=fun z bc e=>by
  rw[aL]at e
  split at e
  ·cases e
  ·exact e
 refine⟨i.defers,i.tmps,i.heap,i.env,i.mem,fun z p e=>?_,fun z bc e=>i.box z bc (hl z bc e),fun z u bz bu b c c' ez eu=>i.inj z u bz bu b c c' (hl _ _ ez) (hl _ _ eu),fun z bc b c e=>i.apart z bc b c (hl _ _ e),fun z bc b c e=>i.low z bc b c (hl _ _ e),i.ref⟩
 obtain⟨q,hq⟩:=i.keys z p e
 by_cases hz:x=z
 ·exact⟨_,by rw[aL,if_pos hz]⟩
 ·exact⟨q,by rw[aL,if_neg hz];exact hq⟩
theorem Inv.move{x d:Nat}{bc bc':jM}{b:Nat}{c c':Nat×Nat}(i:Inv cx N M β σ a w)(hx:aH σ.box x=some (some bc))(hβ:β x=some (b,c))(hd:aH σ.box d=none){w':World}
  (lT:w'.heap.size=w.heap.size) (hold:∀k,k≠b→w'.heap[k]? =w.heap[k]?) (ho:w'.os=w.os) (ht:w'.tape=w.tape) (aAL:w'.output=w.output)
  (hb:∀β':Nm,β' d=some (b,c')→Nm.le β β'→cH M β' w' d bc') (hdr:Dr w w':=by exact trivial):
  ∃β',β' d=some (b,c')∧Nm.le β β'∧Inv cx N M β' ⟨σ.env,(d,some bc')::(x,none)::σ.box⟩ a w'∧b6 cx w w':=by
 have G1:β d=none:=by
  cases h:β d with
  |none=>rfl
  |some p=>obtain⟨y,hy⟩:=i.keys d p h;rw[hd]at hy;cases hy
 have CO:x≠d:=fun h=>by subst h;rw[hd]at hx;cases hx
 let β':Nm:=fun y=>if y=d then some (b,c')else β y
 have iR:β' d=some (b,c'):=by simp[β']
 have GX:Nm.le β β':=fun y p e=>by
  by_cases hy:y=d
  ·subst hy;rw[G1]at e;cases e
  ·simp[β',hy,e]
 have nJ:∀y,y≠d→β' y=β y:=fun y hy=>by simp[β',hy]
 have B0:=i.apart x bc b c hx hβ
 have aAP:∀k o u,M k o=some u→k≠b:=fun k o u e h=>by subst h;rw[B0 o]at e;cases e
 have cI:∀y bx,aH ((d,some bc')::(x,none)::σ.box) y=some (some bx)→(y=d∧bx=bc')∨(y≠d∧y≠x∧aH σ.box y=some (some bx)):=fun y bx e=>by
  rw[aL]at e
  split at e
  ·rename_i h;subst h;simp at e;exact .inl ⟨rfl,e.symm⟩
  ·rename_i h
   rw[aL]at e
   split at e
   ·cases e
   ·rename_i h2;exact .inr ⟨fun k=>h k.symm,fun k=>h2 k.symm,e⟩
 have RP:∀y bx b' c1,y≠x→aH σ.box y=some (some bx)→β y=some (b',c1)→b'≠b:=fun y bx b' c1 hy e e' h=>by
  subst h;exact hy (i.inj y x bx bc b' c1 c e hx e' hβ)
 have kp:b6 cx w w':=⟨ho,ht,aAL,oM,fun k hk hm=>by
   refine hold k (fun h=>?_)
   subst h
   rcases i.low x bc k c hx hβ with h|h
   ·omega
   ·exact hm h,hdr⟩
 refine⟨β',iR,GX,⟨i.defers,i.tmps,i.heap.keep kp,fun t=>AV.a7.mono (Mem.le_refl M) GX (i.env t),?_,?_,?_,?_,?_,?_,?_⟩,kp⟩
 ·intro k o u e
  rw[World.cell?_of_block (w:=w) (w':=w') (a:=⟨k,o,none⟩) (hold k (aAP k o u e))]
  exact i.mem k o u e
 ·intro y p e
  by_cases hy:y=d
  ·subst hy;exact⟨_,by rw[aL,if_pos rfl]⟩
  ·rw[nJ y hy]at e
   obtain⟨z,hz⟩:=i.keys y p e
   by_cases hyx:x=y
   ·exact⟨_,by rw[aL,if_neg (fun h=>hy h.symm),aL,if_pos hyx]⟩
   ·exact⟨z,by rw[aL,if_neg (fun h=>hy h.symm),aL,if_neg hyx];exact hz⟩
 ·intro y bx e
  rcases cI y bx e with⟨rfl,rfl⟩|⟨hy,hyx,e⟩
  ·exact hb β' iR GX
  ·have hr:=i.box y bx e
   exact cH.mono (Mem.le_refl M) GX (nJ y hy) (fun b' c1 e'=>hold b' (RP y bx b' c1 hyx e e')) hr
 ·intro y z bx bz k c1 c2 ey ez hy hz
  by_cases DP:y=d
  ·by_cases hzd:z=d
   ·rw[DP,hzd]
   ·rcases cI z bz ez with⟨h,_⟩|⟨_,hzx,ez'⟩
    ·exact absurd h hzd
    rw[DP,iR]at hy;cases hy
    rw[nJ z hzd]at hz
    exact absurd rfl (RP z bz _ _ hzx ez' hz)
  ·rcases cI y bx ey with⟨h,_⟩|⟨_,hyx,YD⟩
   ·exact absurd h DP
   rw[nJ y DP]at hy
   by_cases hzd:z=d
   ·rw[hzd,iR]at hz;cases hz
    exact absurd rfl (RP y bx _ _ hyx YD hy)
   ·rcases cI z bz ez with⟨h,_⟩|⟨_,hzx,ez'⟩
    ·exact absurd h hzd
    rw[nJ z hzd]at hz
    exact i.inj y z bx bz k c1 c2 YD ez' hy hz
 ·intro y bx k c1 ey hy o
  by_cases DP:y=d
  ·rw[DP,iR]at hy;cases hy;exact B0 o
  ·rcases cI y bx ey with⟨h,_⟩|⟨_,_,YD⟩
   ·exact absurd h DP
   rw[nJ y DP]at hy
   exact i.apart y bx k c1 YD hy o
 ·intro y bx k c1 ey hy
  by_cases DP:y=d
  ·rw[DP,iR]at hy;cases hy
   exact i.low x bc b c hx hβ
  ·rcases cI y bx ey with⟨h,_⟩|⟨_,_,YD⟩
   ·exact absurd h DP
   rw[nJ y DP]at hy
   exact i.low y bx k c1 YD hy
 ·intro y hy
  obtain⟨h1,p,h2⟩:=i.ref y hy
  by_cases DP:y=d
  ·subst DP;rw[G1]at h2;cases h2
  ·rw[nJ y DP];exact⟨h1,p,h2⟩
end world
def qS(σ:St):AV→Option (Nat×Nat×(Nat→Nat→DV))
 |.s (.own y)=>match aH σ.box y with
  |some (some (.row _ m s f))=>some (m,s,f)
  |_=>none
 |.s (.d (.fJ m s f))=>some (m,s,f)
 |.s (.jQ y s lo n)=>match aH σ.box y with
  |some (some (.row _ _ s' f))=>bif Nat.beq s s' then some (n,s,fun i=>f (lo+i))else none
  |_=>none
 |_=>none
theorem qS.rep{cx:Cx}{N:Nat}{M:Mem}{β:Nm}{σ:St}{a:Act}{w:World}(i:Inv cx N M β σ a w){va:AV}{m s:Nat}{f:Nat→Nat→DV}{v:Value}(h:qS σ va=some (m,s,f))(r:va.a7 M β v):
  ∃ad cap,v=.slice ad m cap∧(m=0∨∃b o,ad=some ⟨b,o,none⟩∧∀k j,k<m→j<s→∃u,w.cell? ⟨b,o+k*s+j,none⟩=some u∧(f k j).a7 M u):=by
 unfold qS at h
 split at h
 ·split at h
  ·rename_i hb
   cases h
   obtain⟨b,c,e1,rfl,hc⟩:=r
   obtain⟨b',c',cur,e2,hh,hl,lT,hn,_,cN⟩:=i.box _ _ hb
   rw[e1]at e2;cases e2
   refine⟨some ⟨b,0,none⟩,c.1,by rw[hl],.inr ⟨b,0,rfl,fun k j hk hj=>?_⟩⟩
   obtain⟨u,hu,hr⟩:=cN k j hk hj
   exact⟨u,by simp[World.cell?,hh,hu],hr⟩
  ·cases h
 ·cases h
  obtain⟨ad,cap,rfl,_,hc⟩:=r
  refine⟨ad,cap,rfl,hc.imp id ?_⟩
  rintro⟨b,o,e,hc⟩
  exact⟨b,o,e,fun k j hk hj=>let⟨u,hu,hr⟩:=hc k j hk hj;⟨u,i.mem _ _ _ hu,hr⟩⟩
 ·rename_i y s lo n
  split at h
  ·rename_i s' f' hb
   cases hs:Nat.beq s s' with
   |false=>rw[hs]at h;cases h
   |true=>
    rw[hs]at h
    have hs:=Nat.eq_of_beq_eq_true hs
    subst hs
    cases h
    obtain⟨b,c,o,e1,rfl,ho,h1,h2⟩:=r
    obtain⟨b',c',cur,e2,hh,hl,lT,hn,_,cN⟩:=i.box _ _ hb
    rw[e1]at e2;cases e2
    refine⟨_,_,rfl,?_⟩
    by_cases h0:m=0
    ·exact .inl h0
    ·refine .inr ⟨b,o,rfl,fun k j hk hj=>?_⟩
     obtain⟨u,hu,hr⟩:=cN (lo+k) j oM hj
     refine⟨u,?_,hr⟩
     rw[ho oM,←Nat.add_mul]
     simp[World.cell?,hh,hu]
  ·cases h
 ·cases h
def DV.fit:DV→Bool
 |.val v=>v.oneCell'
 |.bC=>false
 |_=>true
def kM(n:Nat)(f g:Nat→Nat→DV):Nat→Nat→DV:=fun i j=>if i<n then f i j else g (i - n) j
theorem Y2{M:Mem}{C:Nat→Nat→Value→Prop}{f:Nat→Nat→DV}(s:Nat):∀(m:Nat),(∀k j,k<m→j<s→∃u,C k j u∧(f k j).a7 M u)→
  ∃vs:List Value,vs.length=m*s∧∀k j,k<m→j<s→∃u,vs[k*s+j]? =some u∧C k j u∧(f k j).a7 M u:=by
 intro m
 induction m with
 |zero=>intro _;exact⟨[],sM,fun k j hk=>by omega⟩
 |succ m ih=>
  intro h
  obtain⟨vs,hl,hc⟩:=ih (fun k j hk hj=>h k j oM hj)
  have last:∀t,t≤s→∃us:List Value,us.length=t∧∀j,j<t→∃u,us[j]? =some u∧C m j u∧(f m j).a7 M u:=by
   intro t
   induction t with
   |zero=>intro _;exact⟨[],rfl,fun j hj=>by omega⟩
   |succ t iht=>
    intro ht
    obtain⟨us,hul,huc⟩:=iht oM
    obtain⟨u,hu,hr⟩:=h m t oM oM
    refine⟨us++ [u],by simp[hul],fun j hj=>?_⟩
    by_cases hjt:j<t
    ·obtain⟨v,h1,h2⟩:=huc j hjt
     exact⟨v,by rw[List.getElem?_append_left oM];exact h1,h2⟩
    ·have:j=t:=oM
     subst this
     exact⟨u,by rw[List.getElem?_append_right oM,hul];simp,hu,hr⟩
  obtain⟨us,hul,huc⟩:=last s (Nat.le_refl _)
  refine⟨vs++us,by simp[hl,hul,Nat.succ_mul],fun k j hk hj=>?_⟩
  by_cases hkm:k<m
  ·obtain⟨u,h1,h2⟩:=hc k j hkm hj
   have fR:k*s+j<m*s:=by
    have:(k+1)*s≤m*s:=Nat.mul_le_mul_right _ hkm
    rw[Nat.succ_mul]at this;omega
   exact⟨u,by rw[List.getElem?_append_left oM];exact h1,h2⟩
  ·have:k=m:=oM
   subst this
   obtain⟨u,h1,h2⟩:=huc j hj
   exact⟨u,by rw[List.getElem?_append_right oM,hl];rw[show k*s+j - k*s=j by omega];exact h1,h2⟩
theorem CJ{w:World}{M:Mem}{g:Nat→Nat→DV}{m s:Nat}{ad:Option Addr}(hs:0<s)(hm:0<m)
  (h:m=0∨∃b o,ad=some ⟨b,o,none⟩∧∀k j,k<m→j<s→∃u,w.cell? ⟨b,o+k*s+j,none⟩=some u∧(g k j).a7 M u):
  ∃(b:Addr) (news:List Value),ad=some b∧news.length=m*s∧(∀j u,news[j]? =some u→w.cell? (b.add j)=some u)∧∀k j,k<m→j<s→∃u,news[k*s+j]? =some u∧(g k j).a7 M u:=by
 rcases h with h|⟨b,o,rfl,hc⟩
 ·omega
 obtain⟨news,hl,hn⟩:=Y2 (M:=M) (C:=fun k j u=>w.cell? ⟨b,o+k*s+j,none⟩=some u) (f:=g) s m hc
 refine⟨⟨b,o,none⟩,news,rfl,hl,fun j u hu=>?_,fun k j hk hj=>let⟨u,h1,_,h3⟩:=hn k j hk hj;⟨u,h1,h3⟩⟩
 have hj:j<m*s:=by
  have:=(List.getElem?_eq_some_iff.1 hu).1
  omega
 have h1:j / s<m:=Nat.div_lt_of_lt_mul (by rw[Nat.mul_comm];exact hj)
 have h2:j%s<s:=Nat.mod_lt _ hs
 obtain⟨v,hv,cN,_⟩:=hn (j / s) (j%s) h1 h2
 have e:j / s*s+j%s=j:=by rw[Nat.mul_comm];exact Nat.div_add_mod j s
 rw[e,hu]at hv
 cases hv
 rw[jK]
 rw[show o+j=o+j / s*s+j%s by omega]
 exact cN
section
variable{P:Program}{σ:St}{K:AV→aO→Prop}{o:Oper}
def fitAll(m s:Nat)(g:Nat→Nat→DV):Prop:=∀k j,k<m→j<s→(g k j).fit=true
def wU(T:List (Nat×bJ))(σ:St)(_ref:List Nat)(d t:Nat)(x y:Operand)(K:AV→aO→Prop):Prop:=
 fe none (ev σ x) fun vx=>fe none (ev σ y) fun vy=>match cV T t with
  |some ti=>match ti.jS with
   |.slice e=>match cV T e with
    |some te=>match aH σ.box d with
     |none=>match qS σ vy with
      |some (m,s',g)=>bif Nat.beq s' te.size&&Nat.blt 0 te.size&&Nat.blt 0 te.bytes&&Nat.beq te.zero.length te.size then
       match vx with
       |.s (.own b)=>match aH σ.box b with
        |some (some (.row e' n s f))=>bif Nat.beq e' e&&Nat.beq s te.size then
          (n+m)*te.bytes≤140737488355328∧fitAll m s' g∧K (.s (.own d)) ((d,some (.row e (n+m) te.size (kM n f g)))::(b,none)::σ.box)
          else False
        |_=>False
       |.s (.mo z b)=>match aH σ.box b with
        |some (some (.bW e' n s f))=>bif Nat.beq e' e&&Nat.beq s te.size then
          0<m∧((bif z then 0 else n)+m)*te.bytes≤140737488355328∧fitAll m s' g∧K (.s (.own d)) ((d,some (.row e ((bif z then 0 else n)+m) te.size (kM (bif z then 0 else n) f g)))::(b,none)::σ.box)
          else False
        |_=>False
       |.s (.d (.val (.slice none 0 0)))=>0<m∧m*te.bytes≤140737488355328∧K (.s (.own d)) ((d,some (.row e m te.size g))::σ.box)
       |_=>False
       else False
      |none=>False
     |some _=>False
    |none=>False
   |_=>False
  |none=>False
theorem bL.J0{P:Program}{t:Nat}{i:bJ}(h:bL P t i):∃ti z,P.info? t=some ti∧ti.size=i.size∧ti.bytes=i.bytes∧ti.zero=some z∧z.cells.toList=i.zero:=by
 obtain⟨ti,h1,h2,h3,z,h4,h5⟩:=h.info
 exact⟨ti,z,h1,h2,h3,h4,h5⟩
def MZ(P:Program)(o:Oper)(σ:St)(cx:Cx)(N:Nat)(M:Mem)(a:Act)(w:World)(r:AV)(bx:aO):Prop:=∃v w' M' β',
  ((execOp a.eval o).run P w=.ok (.value v) w'∨((execOp a.eval o).run P w=.ok .skip w'∧v=undef))∧
  r.a7 M' β' v∧Inv cx N M' β' ⟨σ.env,bx⟩ a w'∧Grow cx.B M M'∧b6 cx w w'
theorem UY{d t e':Nat}{x y:Operand}{te:bJ}{ie:TypeInfo}{z:Value}{n m b k:Nat}{f g:Nat→Nat→DV}{bc:jM}{cx:Cx}{N:Nat}{M:Mem}{β:Nm}{a:Act}{w:World}{c:Nat×Nat}{cur:Array Value}{ad:Option Addr}{cap:Nat}
  (cS:P.underlying t=some (.slice e')) (c2:0<te.size) (c3:0<te.bytes) (DW:P.info? e'=some ie) (xT:ie.size=te.size) (PB:ie.bytes=te.bytes) (QS:ie.zero=some z) (IM:z.cells.size=te.size)
  (run:∀(a:Act) (w w':World) (r:Value),(Builtin.append_ #[t,t] o.type #[a.eval x,a.eval y]).run P w=.ok r w'→(execOp a.eval o).run P w=.ok (.value r) w')
  (hd:aH σ.box d=none) (hb:aH σ.box b=some (some bc)) (lX:(n+m)*te.bytes≤140737488355328) (nK:fitAll m te.size g) (i:Inv cx N M β σ a w) (e1:β b=some (k,c)) (ex:a.eval x=.slice (some ⟨k,0,none⟩) n c.1)
  (hh:w.heap[k]? =some (.cells cur e' (0,0))) (lT:cur.size=c.1*te.size) (hn:n≤c.1) (H6:c.1≤maxLen) (cN:∀i j,i<n→j<te.size→∃u,cur[i*te.size+j]? =some u∧(f i j).a7 M u)
  (ey:a.eval y=.slice ad m cap) (hy:m=0∨∃b o,ad=some ⟨b,o,none⟩∧∀k j,k<m→j<te.size→∃u,w.cell? ⟨b,o+k*te.size+j,none⟩=some u∧(g k j).a7 M u):
  MZ P o σ cx N M a w (.s (.own d)) ((d,some (.row e' (n+m) te.size (kM n f g)))::(b,none)::σ.box):=by
 have hnm:n+m≤140737488355328:=Nat.le_trans (Nat.le_mul_of_pos_right _ c3) lX
 have aNB:n*te.size≤cur.size:=by rw[lT];exact Nat.mul_le_mul_right _ hn
 by_cases qL:n+m≤c.1
 ·
  have DT:∃news:List Value,(Builtin.append_ #[t,t] o.type #[a.eval x,a.eval y]).run P w=.ok (.slice (some ⟨k,0,none⟩) (n+m) c.1) (w.setRow k (cur.toList.take (n*te.size)++news++cur.toList.drop (n*te.size+news.length)).toArray)∧
    news.length=m*te.size∧∀p j,p<m→j<te.size→∃u,news[p*te.size+j]? =some u∧(g p j).a7 M u:=by
   by_cases hm:m=0
   ·subst hm
    refine⟨[],?_,sM,fun p j hp=>by omega⟩
    have aJC:w.setRow k (cur.toList.take (n*te.size)++ []++cur.toList.drop (n*te.size+([]:List Value).length)).toArray=w:=by
     simp[setRow_self w k cur e' (0,0) hh]
    rw[aJC,ex,ey]
    have hf:(Builtin.firstCells te.size 0 (.slice ad 0 cap)).run P w=.ok #[] w:=by
     cases ad <;> simp[Builtin.firstCells,loadCells,loadCellsFrom]
    simp[Builtin.append_,run_underlying cS,sizeOf,typeInfo,DW,xT,Builtin.lenOf,hn,hf,storeCells]
   ·obtain⟨bad,news,rfl,hl,jV,oX⟩:=CJ c2 oM hy
    refine⟨news,?_,hl,oX⟩
    have h1:∀u∈news,u.oneCell'=true:=by
     intro u hu
     obtain⟨j,hj⟩:=List.getElem?_of_mem hu
     have rF:j<m*te.size:=by have:=(List.getElem?_eq_some_iff.1 hj).1;omega
     have h1:j / te.size<m:=Nat.div_lt_of_lt_mul (by rw[Nat.mul_comm];exact rF)
     obtain⟨v,hv,hr⟩:=oX (j / te.size) (j%te.size) h1 (Nat.mod_lt _ c2)
     have e:j / te.size*te.size+j%te.size=j:=by rw[Nat.mul_comm];exact Nat.div_add_mod j te.size
     rw[e,hj]at hv;cases hv
     have wH:=nK (j / te.size) (j%te.size) h1 (Nat.mod_lt _ c2)
     exact DV.a7.kD hr (by cases hx:g (j / te.size) (j%te.size) <;> rw[hx]at wH <;> first|exact wH|rfl|cases wH)
    rw[ex,ey]
    have:=run_append_room (P:=P) w t o.type e' ie cS DW k n c.1 cur hh bad m cap news (by rw[xT];exact hl) jV h1 qL (by rw[xT,hl,lT,←Nat.add_mul];exact Nat.mul_le_mul_right _ qL)
    rw[xT]at this
    exact this
  obtain⟨news,aAJ,hnl,hnr⟩:=DT
  have RN:(cur.toList.take (n*te.size)).length=n*te.size:=by simp;omega
  have aI9:n*te.size+m*te.size≤cur.size:=by rw[lT,←Nat.add_mul];exact Nat.mul_le_mul_right _ qL
  obtain⟨β',iR,GX,hinv,pP⟩:=i.move (c':=(c.1,n+m)) (bc':=.row e' (n+m) te.size (kM n f g)) hb e1 hd
   (w':=w.setRow k (cur.toList.take (n*te.size)++news++cur.toList.drop (n*te.size+news.length)).toArray) sM (fun j hj=>setRow_other w k j _ hj) rfl rfl rfl (by
    intro β' iR _
    refine⟨k,_,_,iR,setRow_heap w k cur _ e' _ hh,rfl,by simp;omega,qL,H6,fun p j hp hj=>?_⟩
    simp only [List.getElem?_toArray,kM]
    by_cases O6:p<n
    ·obtain⟨u,hu,hr⟩:=cN p j O6 hj
     have fR:p*te.size+j<n*te.size:=by
      have:(p+1)*te.size≤n*te.size:=Nat.mul_le_mul_right _ O6
      rw[Nat.succ_mul]at this;omega
     refine⟨u,?_,by rw[if_pos O6];exact hr⟩
     rw[List.append_assoc,List.getElem?_append_left oM,List.getElem?_take_of_lt fR]
     simpa using hu
    ·obtain⟨u,hu,hr⟩:=hnr (p - n) j oM hj
     refine⟨u,?_,by rw[if_neg O6];exact hr⟩
     have hpe:p*te.size+j=n*te.size+((p - n)*te.size+j):=by
      have:p=n+(p - n):=oM
      rw[←Nat.add_assoc,←Nat.add_mul,←this]
     have fR:(p - n)*te.size+j<m*te.size:=by
      have:(p - n+1)*te.size≤m*te.size:=Nat.mul_le_mul_right _ oM
      rw[Nat.succ_mul]at this;omega
     rw[hpe,List.append_assoc,List.getElem?_append_right oM,RN,Nat.add_sub_cancel_left,List.getElem?_append_left oM]
     exact hu)
  exact⟨_,_,M,β',.inl (run a w _ _ aAJ),⟨_,_,iR,rfl,qL⟩,hinv,Grow.refl _ _,pP⟩
 ·
  obtain⟨bad,news,rfl,hl,jV,oX⟩:=CJ c2 oM hy
  have QT:=run_append_grow (P:=P) w t o.type e' ie z cS DW QS ⟨k,0,none⟩ n c.1 (cur.toList.take (n*te.size)) (by simp[xT];omega) (by
   intro j v hv
   rw[List.getElem?_take]at hv
   split at hv
   ·rw[jK];simp[World.cell?,hh];simpa using hv
   ·cases hv) bad m cap news (by rw[xT];exact hl) jV oM oM (by
    rw[PB];exact growslice_fits oM lX)
  rw[←ex,←ey]at QT
  have EL:=grownCap_ge w (n+m) c.1 e'
  have RZ:=grownCap_le_maxLen w (n+m) c.1 e' (by unfold maxLen;omega)
  have ik:=i.kill hb
  have hd':aH ((b,none)::σ.box) d=none:=by
   rw[aL,if_neg (fun h=>by subst h;rw[hd]at hb;cases hb)]
   exact hd
  obtain⟨β',h1,h2,h3,h4⟩:=ik.new (σ:=⟨σ.env,(b,none)::σ.box⟩) (c:=(grownCap w (n+m) c.1 e',n+m)) (w':=w.drew.alloc (.cells ((cur.toList.take (n*te.size)).toArray++news.toArray++Builtin.zeroCells z.cells (grownCap w (n+m) c.1 e' - (n+m))) e')) hd' rfl rfl rfl rfl (bc:=.row e' (n+m) te.size (kM n f g)) (by
   intro β' iR _
   have RN:(cur.toList.take (n*te.size)).length=n*te.size:=by simp;omega
   refine⟨_,_,_,iR,heap_alloc_new w.drew _,rfl,?_,EL,RZ,fun p j hp hj=>?_⟩
   ·simp only [Array.size_append,List.size_toArray,size_zeroCells,IM,hl,RN,←Nat.add_mul]
    congr 1;omega
   ·have mI:((cur.toList.take (n*te.size)).toArray++news.toArray++Builtin.zeroCells z.cells (grownCap w (n+m) c.1 e' - (n+m)))[p*te.size+j]? =(cur.toList.take (n*te.size)++(news++(Builtin.zeroCells z.cells (grownCap w (n+m) c.1 e' - (n+m))).toList))[p*te.size+j]? :=by
     rw[←Array.getElem?_toList]
     simp
    rw[mI]
    simp only [kM]
    by_cases O6:p<n
    ·obtain⟨u,hu,hr⟩:=cN p j O6 hj
     have fR:p*te.size+j<n*te.size:=by
      have:(p+1)*te.size≤n*te.size:=Nat.mul_le_mul_right _ O6
      rw[Nat.succ_mul]at this;omega
     refine⟨u,?_,by rw[if_pos O6];exact hr⟩
     rw[List.getElem?_append_left oM,List.getElem?_take_of_lt fR]
     simpa using hu
    ·obtain⟨u,hu,hr⟩:=oX (p - n) j oM hj
     refine⟨u,?_,by rw[if_neg O6];exact hr⟩
     have hpe:p*te.size+j=n*te.size+((p - n)*te.size+j):=by
      have:p=n+(p - n):=oM
      rw[←Nat.add_assoc,←Nat.add_mul,←this]
     have fR:(p - n)*te.size+j<m*te.size:=by
      have:(p - n+1)*te.size≤m*te.size:=Nat.mul_le_mul_right _ oM
      rw[Nat.succ_mul]at this;omega
     rw[hpe,List.getElem?_append_right oM,RN,Nat.add_sub_cancel_left,List.getElem?_append_left oM]
     exact hu)
  exact⟨_,_,M,β',.inl (run a w _ _ QT),⟨_,_,h1,rfl,EL⟩,h3,Grow.refl _ _,h4⟩
theorem UZ{d t e:Nat}{x y:Operand}{te:bJ}{ie:TypeInfo}{z:Value}{m:Nat}{g:Nat→Nat→DV}{cx:Cx}{N:Nat}{M:Mem}{β:Nm}{a:Act}{w:World}{ad:Option Addr}{cap:Nat}
  (cS:P.underlying t=some (.slice e)) (c2:0<te.size) (c3:0<te.bytes) (DW:P.info? e=some ie) (xT:ie.size=te.size) (PB:ie.bytes=te.bytes) (QS:ie.zero=some z) (IM:z.cells.size=te.size)
  (run:∀(a:Act) (w w':World) (r:Value),(Builtin.append_ #[t,t] o.type #[a.eval x,a.eval y]).run P w=.ok r w'→(execOp a.eval o).run P w=.ok (.value r) w')
  (hd:aH σ.box d=none) (hm:0<m) (lX:m*te.bytes≤140737488355328) (i:Inv cx N M β σ a w) (ex:a.eval x=.slice none 0 0)
  (ey:a.eval y=.slice ad m cap) (hy:m=0∨∃b o,ad=some ⟨b,o,none⟩∧∀k j,k<m→j<te.size→∃u,w.cell? ⟨b,o+k*te.size+j,none⟩=some u∧(g k j).a7 M u):
  MZ P o σ cx N M a w (.s (.own d)) ((d,some (.row e m te.size g))::σ.box):=by
 obtain⟨bad,news,rfl,hl,jV,oX⟩:=CJ c2 hm hy
 have hmb:m≤140737488355328:=Nat.le_trans (Nat.le_mul_of_pos_right _ c3) lX
 have QT:=run_append_nil (P:=P) w t o.type e ie z cS DW QS bad m cap news (by rw[xT];exact hl) jV hm oM (by rw[PB];omega)
 rw[←ex,←ey]at QT
 have EL:=grownCap_ge w m 0 e
 have RZ:=grownCap_le_maxLen w m 0 e (by unfold maxLen;omega)
 obtain⟨β',h1,h2,h3,h4⟩:=i.new (c:=(grownCap w m 0 e,m)) (w':=w.drew.alloc (.cells (news.toArray++Builtin.zeroCells z.cells (grownCap w m 0 e - m)) e)) hd rfl rfl rfl rfl (bc:=.row e m te.size g) (by
  intro β' iR _
  refine⟨_,_,_,iR,heap_alloc_new w.drew _,rfl,?_,EL,RZ,fun p j hp hj=>?_⟩
  ·simp only [Array.size_append,List.size_toArray,size_zeroCells,IM,hl,←Nat.add_mul]
   congr 1;omega
  ·obtain⟨u,hu,hr⟩:=oX p j hp hj
   have fR:p*te.size+j<m*te.size:=by
    have:(p+1)*te.size≤m*te.size:=Nat.mul_le_mul_right _ hp
    rw[Nat.succ_mul]at this;omega
   refine⟨u,?_,hr⟩
   rw[←Array.getElem?_toList]
   simp only [Array.toList_append]
   rw[List.getElem?_append_left oM]
   exact hu)
 exact⟨_,_,M,β',.inl (run a w _ _ QT),⟨_,_,h1,rfl,EL⟩,h3,Grow.refl _ _,h4⟩
theorem app.spec{T:List (Nat×bJ)}(hT:b5 P T){ref:List Nat}{d t:Nat}{x y:Operand}(ho:o.op=.call {callee:=.builtin .append,args:= #[x,y],argTypes:= #[t,t]})
  (h:wU T σ ref d t x y K):∃r bx,K r bx∧∀cx N M β a w,cx.ref=ref→Inv cx N M β σ a w→∃v w' M' β',
  ((execOp a.eval o).run P w=.ok (.value v) w'∨((execOp a.eval o).run P w=.ok .skip w'∧v=undef))∧
  r.a7 M' β' v∧Inv cx N M' β' ⟨σ.env,bx⟩ a w'∧Grow cx.B M M'∧b6 cx w w':=by
 unfold wU at h
 replace h:=fe.ev h
 obtain⟨vx,h,rE⟩:=h
 replace h:=fe.ev h
 obtain⟨vy,h,IN⟩:=h
 split at h
 case h_2=>cases h
 rename_i ti fX
 have fT:=hT.get fX
 split at h
 case h_2=>cases h
 rename_i e hu
 have cS:P.underlying t=some (.slice e):=fT.isSlice hu
 split at h
 case h_2=>cases h
 rename_i te mD
 have lW:=hT.get mD
 split at h
 case h_2=>cases h
 rename_i hd
 split at h
 case h_2=>cases h
 rename_i m s' g wF
 cases hc:(Nat.beq s' te.size&&Nat.blt 0 te.size&&Nat.blt 0 te.bytes&&Nat.beq te.zero.length te.size)with
 |false=>rw[hc]at h;cases h
 |true=>
  rw[hc]at h
  simp only [cond_true]at h
  simp only [Bool.and_eq_true]at hc
  have c1:=Nat.eq_of_beq_eq_true hc.1.1.1
  have c2:0<te.size:=Nat.le_of_ble_eq_true hc.1.1.2
  have c3:0<te.bytes:=Nat.le_of_ble_eq_true hc.1.2
  have c4:=Nat.eq_of_beq_eq_true hc.2
  subst c1
  obtain⟨ie,z,DW,xT,PB,QS,J5⟩:=lW.J0
  have IM:z.cells.size=te.size:=by rw[←Array.length_toList,J5,c4]
  have run:∀(a:Act) (w w':World) (r:Value),(Builtin.append_ #[t,t] o.type #[a.eval x,a.eval y]).run P w=.ok r w'→(execOp a.eval o).run P w=.ok (.value r) w':=by
   intro a w w' r h
   simp[execOp,ho,resolve,invoke,builtin,h]
  split at h
  case h_4=>cases h
  ·
   rename_i b
   split at h
   case h_2=>cases h
   rename_i e' n s f hb
   cases o7:(Nat.beq e' e&&Nat.beq s te.size)with
   |false=>rw[o7]at h;cases h
   |true=>
    rw[o7]at h
    simp only [Bool.and_eq_true]at o7
    have k1:=Nat.eq_of_beq_eq_true o7.1
    have k2:=Nat.eq_of_beq_eq_true o7.2
    subst k1;subst k2
    obtain⟨lX,nK,h⟩:=h
    refine⟨_,_,h,fun cx N M β a w _ i=>?_⟩
    obtain⟨k,c,e1,ex,uN⟩:=rE iS cx N M β a w i
    obtain⟨k',c',cur,e2,hh,hlen,lT,hn,H6,cN⟩:=i.box b _ hb
    rw[e1]at e2;cases e2
    rw[hlen]at ex
    obtain⟨ad,cap,ey,hy⟩:=qS.rep i wF (IN iS cx N M β a w i)
    exact UY cS c2 c3 DW xT PB QS IM run hd hb lX nK i e1 ex hh lT hn H6 cN ey hy
  ·
   rename_i zz b
   split at h
   case h_2=>cases h
   rename_i e' n s f hb
   cases o7:(Nat.beq e' e&&Nat.beq s te.size)with
   |false=>rw[o7]at h;cases h
   |true=>
    rw[o7]at h
    simp only [Bool.and_eq_true]at o7
    have k1:=Nat.eq_of_beq_eq_true o7.1
    have k2:=Nat.eq_of_beq_eq_true o7.2
    subst k1;subst k2
    obtain⟨hm,lX,nK,h⟩:=h
    refine⟨_,_,h,fun cx N M β a w _ i=>?_⟩
    obtain⟨ad,cap,ey,hy⟩:=qS.rep i wF (IN iS cx N M β a w i)
    have rE:=rE iS cx N M β a w i
    cases zz with
    |false=>
     obtain⟨k,c,e1,ex,uN⟩:=rE.2 rfl
     obtain⟨cur,hh,hlen,lT,hn,H6,cN⟩:=i.box b _ hb k c e1
     rw[hlen]at ex
     exact UY cS c2 c3 DW xT PB QS IM run hd hb lX nK i e1 ex hh lT hn H6 cN ey hy
    |true=>
     have ik:=i.kill hb
     have hd':aH ((b,none)::σ.box) d=none:=by
      rw[aL,if_neg (fun h=>by subst h;rw[hd]at hb;cases hb)]
      exact hd
     simp only [cond_true,Nat.zero_add]at lX ⊢
     exact UZ (σ:=⟨σ.env,(b,none)::σ.box⟩) cS c2 c3 DW xT PB QS IM run hd' hm lX ik (rE.1 rfl) ey hy
  ·
   obtain⟨hm,lX,h⟩:=h
   refine⟨_,_,h,fun cx N M β a w _ i=>?_⟩
   have ex:a.eval x=.slice none 0 0:=rE iS cx N M β a w i
   obtain⟨ad,cap,ey,hy⟩:=qS.rep i wF (IN iS cx N M β a w i)
   exact UZ cS c2 c3 DW xT PB QS IM run hd hm lX i ex ey hy
end
section
variable{P:Program}{σ:St}{g:Option Bool}{K:AV→Prop}{o:Oper}
def gB(g:Option Bool)(σ:St)(x:Option Operand)(K:Option Int→Prop):Prop:=
 match x with
 |none=>K none
 |some x=>fe g (ev σ x) fun va=>match va with
  |.s (.d (.val (.int _ n)))=>K (some n)
  |_=>False
theorem gB.spec{x:Option Operand}{K:Option Int→Prop}(h:gB g σ x K):
  ∃r,K r∧(act g→∀cx N M β a w,Inv cx N M β σ a w→(r=none∧x.map a.eval=none)∨∃k n,r=some n∧x.map a.eval=some (.int k n)):=by
 cases x with
 |none=>exact⟨none,h,fun _ _ _ _ _ _ _ _=>.inl ⟨rfl,rfl⟩⟩
 |some x=>
  simp only [gB]at h
  replace h:=fe.ev h
  obtain⟨va,h,hr⟩:=h
  split at h
  case h_2=>cases h
  rename_i k n
  refine⟨_,h,fun ha cx N M β a w i=>.inr ⟨k,n,rfl,?_⟩⟩
  have:a.eval x=.int k n:=hr ha cx N M β a w i
  simp[this]
def kI(T:List (Nat×bJ))(σ:St)(t:Nat)(g:Option Bool)(vx:AV)(lo hi:Option Operand)(K:AV→Prop):Prop:=
 match cV T t with
 |some ti=>match ti.jS with
  |.slice e=>match cV T e with
   |some te=>match vx with
    |.s (.d (.fJ n s f))=>bif Nat.beq s te.size then gB g σ lo fun l=>gB g σ hi fun h=>
      imp g (0≤l.getD 0∧l.getD 0≤h.getD n∧h.getD n≤n)∧
      (match l with
      |none=>K (.s (.d (.fJ (h.getD n).toNat s f)))
      |some l=>K (.s (.d (.fJ (h.getD n - l).toNat s fun i=>f (l.toNat+i)))))
      else False
    |.s (.own x)=>match aH σ.box x with
     |some (some (.row _ n s _))=>bif Nat.beq s te.size then gB g σ lo fun l=>gB g σ hi fun h=>
       imp g (0≤l.getD 0∧l.getD 0≤h.getD n∧h.getD n≤n)∧K (.s (.jQ x s (l.getD 0).toNat ((h.getD n).toNat - (l.getD 0).toNat)))else False
     |_=>False
    |.s (.jQ x s BY n)=>bif Nat.beq s te.size then gB g σ lo fun l=>gB g σ hi fun h=>
       imp g (0≤l.getD 0∧l.getD 0≤h.getD n∧h.getD n≤n)∧K (.s (.jQ x s (BY+(l.getD 0).toNat) ((h.getD n).toNat - (l.getD 0).toNat)))else False
    |.s (.d (.val (.slice none 0 0)))=>gB g σ lo fun l=>gB g σ hi fun h=>
       imp g (l.getD 0=0∧h.getD 0=0)∧K (.s (.d (.val (.slice none 0 0))))
    |_=>False
   |none=>False
  |.string=>match vx with
   |.s (.d (.val (.string s)))=>gB g σ lo fun l=>gB g σ hi fun h=>
      imp g (0≤l.getD 0∧l.getD 0≤h.getD s.size∧h.getD s.size≤s.size)∧
      K (.s (.d (.val (.string (s.extract (l.getD 0).toNat (h.getD s.size).toNat)))))
   |_=>False
  |_=>False
 |none=>False
theorem kI.spec{T:List (Nat×bJ)}(hT:b5 P T){t:Nat}{x:Operand}{lo hi:Option Operand}(ho:o.op=.slice t x lo hi none)
  (h:fe g (ev σ x) fun va=>kI T σ t g va lo hi K):∃r,K r∧jL P o σ g r:=by
 replace h:=fe.ev h
 obtain⟨va,h,hr⟩:=h
 unfold kI at h
 split at h
 case h_2=>cases h
 rename_i ti fX
 have fT:=hT.get fX
 have bounds:∀(isS:Bool) (n cap:Nat) (l h:Option Int) (lv hv:Option Value) (w:World),n≤cap→0≤l.getD 0→l.getD 0≤h.getD n→h.getD n≤n→
   ((l=none∧lv=none)∨∃k q,l=some q∧lv=some (.int k q))→((h=none∧hv=none)∨∃k q,h=some q∧hv=some (.int k q))→
   (Instr.sliceBounds isS n cap lv hv none).run P w=.ok ((l.getD 0).toNat,(h.getD n).toNat,cap) w:=by
  intro isS n cap l h lv hv w hn h0 h1 h2 hl hh
  have hB:∀(code:Instr.sliceBound=Instr.sliceBound) (k:IntKind) (q:Int) (y:Nat) (c:BoundsCode),0≤q→q≤y→(Instr.sliceBound (.int k q) y c).run P w=.ok q.toNat w:=by
   intro _ k q y c q0 q1
   simp[Instr.sliceBound,asIntOf,q0,q1]
  rcases hl with⟨rfl,rfl⟩|⟨kl,ql,rfl,rfl⟩ <;> rcases hh with⟨rfl,rfl⟩|⟨kh,qh,rfl,rfl⟩
  ·simp[Instr.sliceBounds]
  ·simp only [Option.getD_some,Option.getD_none]at h0 h1 h2 ⊢
   simp[Instr.sliceBounds,hB rfl kh qh cap _ h1 oM]
  ·simp only [Option.getD_some,Option.getD_none]at h0 h1 h2 ⊢
   simp[Instr.sliceBounds,hB rfl kl ql n _ h0 h1]
  ·simp only [Option.getD_some]at h0 h1 h2 ⊢
   simp[Instr.sliceBounds,hB rfl kh qh cap _ oM oM,hB rfl kl ql qh.toNat _ h0 oM]
 split at h
 case h_3=>cases h
 ·rename_i e hu
  have cS:P.underlying t=some (.slice e):=fT.isSlice hu
  split at h
  case h_2=>cases h
  rename_i te mD
  have lW:=hT.get mD
  split at h
  case h_5=>cases h
  case h_4=>
   replace h:=gB.spec h
   obtain⟨l,h,hl⟩:=h
   replace h:=gB.spec h
   obtain⟨hh,h,hhh⟩:=h
   obtain⟨hb,h⟩:=h
   refine⟨_,h,fun ha cx N M β a w i=>⟨.slice none 0 0,?_,rfl⟩⟩
   obtain⟨h0,h1⟩:=hb.get ha
   have ex:a.eval x=.slice none 0 0:=hr ha cx N M β a w i
   have R1:=bounds true 0 0 l hh (lo.map a.eval) (hi.map a.eval) w (Nat.le_refl _) oM (by simp only [Int.natCast_zero]at*;omega) (by simp only [Int.natCast_zero]at*;omega) (hl ha cx N M β a w i) (hhh ha cx N M β a w i)
   rw[h0,show hh.getD ((0:Nat):Int)=0 from h1]at R1
   simp[execOp,ho,ex,Instr.sliceAt,Instr.slice,run_underlying cS,R1,lW.gY]
  rotate_left
  ·rename_i x'
   split at h
   case h_2=>cases h
   rename_i e' n s f qE
   cases hs:Nat.beq s te.size with
   |false=>rw[hs]at h;cases h
   |true=>
    rw[hs]at h
    have hs:=Nat.eq_of_beq_eq_true hs
    simp only [cond_true]at h
    replace h:=gB.spec h
    obtain⟨l,h,hl⟩:=h
    replace h:=gB.spec h
    obtain⟨hh,h,hhh⟩:=h
    obtain⟨hb,h⟩:=h
    refine⟨_,h,fun ha cx N M β a w i=>?_⟩
    obtain⟨h0,h1,h2⟩:=hb.get ha
    obtain⟨b,c,e1,ex,o7⟩:=hr ha cx N M β a w i
    obtain⟨b2,c2,cur,e2,_,hlen,_⟩:=i.box x' _ qE
    rw[e1]at e2;cases e2
    rw[hlen]at ex o7
    have R1:=bounds true n c.1 l hh (lo.map a.eval) (hi.map a.eval) w o7 h0 h1 h2 (hl ha cx N M β a w i) (hhh ha cx N M β a w i)
    refine⟨.slice (some ⟨b,(if c.1=(l.getD 0).toNat then 0 else(l.getD 0).toNat*te.size),none⟩) ((hh.getD n).toNat - (l.getD 0).toNat) (c.1 - (l.getD 0).toNat),?_,b,c,_,e1,rfl,fun fR=>?_,by rw[hlen];omega,by rw[hlen];exact o7⟩
    ·have aV:(execOp a.eval o).run P w=.ok (.value (.slice (if c.1=(l.getD 0).toNat then some ⟨b,0,none⟩else(some (⟨b,0,none⟩:Addr)).map (·.add ((l.getD 0).toNat*te.size))) ((hh.getD n).toNat - (l.getD 0).toNat) (c.1 - (l.getD 0).toNat))) w:=by
      simp[execOp,ho,ex,Instr.sliceAt,Instr.slice,run_underlying cS,R1,lW.gY]
     rw[aV]
     by_cases hq:c.1=(l.getD 0).toNat
     ·rw[if_pos hq,if_pos hq]
     ·rw[if_neg hq,if_neg hq];simp[jK]
    ·rw[if_neg oM,hs]
  ·rename_i x' s BY n
   cases hs:Nat.beq s te.size with
   |false=>rw[hs]at h;cases h
   |true=>
    rw[hs]at h
    have hs:=Nat.eq_of_beq_eq_true hs
    simp only [cond_true]at h
    replace h:=gB.spec h
    obtain⟨l,h,hl⟩:=h
    replace h:=gB.spec h
    obtain⟨hh,h,hhh⟩:=h
    obtain⟨hb,h⟩:=h
    refine⟨_,h,fun ha cx N M β a w i=>?_⟩
    obtain⟨h0,h1,h2⟩:=hb.get ha
    obtain⟨b,c,o',e1,ex,hoo,hc1,H7⟩:=hr ha cx N M β a w i
    have R1:=bounds true n (c.1 - BY) l hh (lo.map a.eval) (hi.map a.eval) w oM h0 h1 h2 (hl ha cx N M β a w i) (hhh ha cx N M β a w i)
    refine⟨.slice (some ⟨b,(if c.1 - BY=(l.getD 0).toNat then o' else o'+(l.getD 0).toNat*te.size),none⟩) ((hh.getD n).toNat - (l.getD 0).toNat) (c.1 - BY - (l.getD 0).toNat),?_,b,c,_,e1,by rw[Nat.sub_sub],fun fR=>?_,oM,H7⟩
    ·have aV:(execOp a.eval o).run P w=.ok (.value (.slice (if c.1 - BY=(l.getD 0).toNat then some ⟨b,o',none⟩else(some (⟨b,o',none⟩:Addr)).map (·.add ((l.getD 0).toNat*te.size))) ((hh.getD n).toNat - (l.getD 0).toNat) (c.1 - BY - (l.getD 0).toNat))) w:=by
      simp[execOp,ho,ex,Instr.sliceAt,Instr.slice,run_underlying cS,R1,lW.gY]
     rw[aV]
     by_cases hq:c.1 - BY=(l.getD 0).toNat
     ·rw[if_pos hq,if_pos hq]
     ·rw[if_neg hq,if_neg hq];simp[jK]
    ·rw[if_neg oM,hoo oM,hs,Nat.add_mul]
  rename_i n s f
  cases hs:Nat.beq s te.size with
  |false=>rw[hs]at h;cases h
  |true=>
   rw[hs]at h
   have hs:=Nat.eq_of_beq_eq_true hs
   simp only [cond_true]at h
   replace h:=gB.spec h
   obtain⟨l,h,hl⟩:=h
   replace h:=gB.spec h
   obtain⟨hh,h,hhh⟩:=h
   obtain⟨hb,h⟩:=h
   have run:∀(ha:act g) cx N M β a w,Inv cx N M β σ a w→∃ad cap,n≤cap∧(n=0∨∃b o,ad=some ⟨b,o,none⟩∧∀i j,i<n→j<s→∃u,M b (o+i*s+j)=some u∧(f i j).a7 M u)∧
     (execOp a.eval o).run P w=.ok (.value (.slice (if cap=(l.getD 0).toNat then ad else ad.map (·.add ((l.getD 0).toNat*te.size))) ((hh.getD n).toNat - (l.getD 0).toNat) (cap - (l.getD 0).toNat))) w:=by
    intro ha cx N M β a w i
    obtain⟨h0,h1,h2⟩:=hb.get ha
    obtain⟨ad,cap,ex,uN,hc⟩:=hr ha cx N M β a w i
    refine⟨ad,cap,uN,hc,?_⟩
    have R1:=bounds true n cap l hh (lo.map a.eval) (hi.map a.eval) w uN h0 h1 h2 (hl ha cx N M β a w i) (hhh ha cx N M β a w i)
    simp[execOp,ho,ex,Instr.sliceAt,Instr.slice,run_underlying cS,R1,lW.gY]
   cases l with
   |none=>
    refine⟨_,h,fun ha cx N M β a w i=>?_⟩
    obtain⟨ad,cap,uN,hc,aV⟩:=run ha cx N M β a w i
    obtain⟨h0,h1,h2⟩:=hb.get ha
    have e1:(if cap=((none:Option Int).getD 0).toNat then ad else ad.map (·.add (((none:Option Int).getD 0).toNat*te.size)))=ad:=by
     cases ad with
     |none=>simp
     |some q=>simp[Addr.add]
    rw[e1]at aV
    refine⟨_,aV,ad,cap,sM,oM,?_⟩
    by_cases hz:(hh.getD n).toNat=0
    ·exact .inl hz
    ·rcases hc with hc|⟨b,o',rfl,hc⟩
     ·omega
     ·exact .inr ⟨b,o',rfl,fun i j hi hj=>hc i j oM hj⟩
   |some l=>
    refine⟨_,h,fun ha cx N M β a w i=>?_⟩
    obtain⟨ad,cap,uN,hc,aV⟩:=run ha cx N M β a w i
    obtain⟨h0,h1,h2⟩:=hb.get ha
    simp only [Option.getD_some]at h0 h1 h2 aV
    have hq:(hh.getD n).toNat - l.toNat=(hh.getD n - l).toNat:=oM
    rw[hq]at aV
    refine⟨_,aV,(if cap=l.toNat then ad else ad.map (·.add (l.toNat*te.size))),cap - l.toNat,rfl,oM,?_⟩
    ·by_cases hz:(hh.getD n - l).toNat=0
     ·exact .inl hz
     ·rcases hc with hc|⟨b,o',rfl,hc⟩
      ·omega
      ·refine .inr ⟨b,o'+l.toNat*te.size,?_,fun i j hi hj=>?_⟩
       ·rw[if_neg oM];simp[jK]
       ·obtain⟨u,hu,EI⟩:=hc (l.toNat+i) j oM hj
        refine⟨u,?_,EI⟩
        rw[←hs,Nat.add_assoc o',←Nat.add_mul]
        exact hu
 ·rename_i hu
  have cS:P.underlying t=some .string:=fT.isString hu
  split at h
  case h_2=>cases h
  rename_i s
  replace h:=gB.spec h
  obtain⟨l,h,hl⟩:=h
  replace h:=gB.spec h
  obtain⟨hh,h,hhh⟩:=h
  obtain⟨hb,h⟩:=h
  refine⟨_,h,fun ha cx N M β a w i=>⟨_,?_,rfl⟩⟩
  obtain⟨h0,h1,h2⟩:=hb.get ha
  have ex:a.eval x=.string s:=hr ha cx N M β a w i
  have R1:=bounds false s.size s.size l hh (lo.map a.eval) (hi.map a.eval) w (Nat.le_refl _) h0 h1 h2 (hl ha cx N M β a w i) (hhh ha cx N M β a w i)
  simp[execOp,ho,ex,Instr.sliceAt,Instr.slice,run_underlying cS,R1]
end
section
variable{P:Program}{σ:St}{K:AV→aO→Prop}{o:Oper}
def mkX(T:List (Nat×bJ))(σ:St)(d t:Nat)(x y:Operand)(K:AV→aO→Prop):Prop:=
 fe none (ev σ x) fun vx=>fe none (ev σ y) fun vy=>match vx,vy with
  |.s (.d (.val (.int .i64 n))),.s (.d (.val (.int .i64 c)))=>match cV T t with
   |some ti=>match ti.jS with
    |.slice e=>match cV T e with
     |some te=>bif Nat.blt 0 te.size&&Nat.blt 0 te.bytes&&Nat.beq te.zero.length te.size then match aH σ.box d with
      |none=>0≤n∧n≤c∧te.bytes*c≤281474976710656∧
        K (.s (.own d)) ((d,some (.row e n.toNat te.size fun _ j=>match (iE te.zero)[j]? with|some c=>M9 c|none=>.bC))::σ.box)
      |some _=>False
      else False
     |none=>False
    |_=>False
   |none=>False
  |_,_=>False
theorem mk.spec{T:List (Nat×bJ)}(hT:b5 P T){d t:Nat}{x y:Operand}(ho:o.op=.makeSlice t x y)(h:mkX T σ d t x y K):∃r bx,K r bx∧I5 P o σ r bx:=by
 unfold mkX at h
 replace h:=fe.ev h
 obtain⟨vx,h,rE⟩:=h
 replace h:=fe.ev h
 obtain⟨vy,h,IN⟩:=h
 split at h
 case h_2=>cases h
 rename_i n c
 split at h
 case h_2=>cases h
 rename_i ti fX
 have fT:=hT.get fX
 split at h
 case h_2=>cases h
 rename_i e hu
 have cS:P.underlying t=some (.slice e):=fT.isSlice hu
 split at h
 case h_2=>cases h
 rename_i te mD
 have lW:=hT.get mD
 cases hc:(Nat.blt 0 te.size&&Nat.blt 0 te.bytes&&Nat.beq te.zero.length te.size)with
 |false=>rw[hc]at h;cases h
 |true=>
  rw[hc]at h
  simp only [cond_true]at h
  simp only [Bool.and_eq_true]at hc
  have c2:0<te.size:=Nat.le_of_ble_eq_true hc.1.1
  have c3:0<te.bytes:=Nat.le_of_ble_eq_true hc.1.2
  have c4:=Nat.eq_of_beq_eq_true hc.2
  split at h
  case h_2=>cases h
  rename_i hd
  obtain⟨h0,h1,h2,h⟩:=h
  refine⟨_,_,h,fun cx N M β a w i=>?_⟩
  have ex:a.eval x=.int .i64 n:=rE iS cx N M β a w i
  have ey:a.eval y=.int .i64 c:=IN iS cx N M β a w i
  obtain⟨ie,z,DW,xT,PB,QS,J5⟩:=lW.J0
  have hzs:z.cells.size=te.size:=by rw[←Array.length_toList,J5,c4]
  have hcb:c≤(te.bytes:Int)*c:=by
   have:(1:Int)*c≤(te.bytes:Int)*c:=Int.mul_le_mul_of_nonneg_right oM oM
   omega
  have T5:IntKind.i64.wrap n=n:=IntWalk.i64_in n ⟨oM,oM⟩
  have T4:IntKind.i64.wrap c=c:=IntWalk.i64_in c ⟨oM,oM⟩
  have DT:(Instr.makeSlice t (.int .i64 n) (.int .i64 c)).run P w=.ok (.slice (some ⟨w.heap.size,0,none⟩) n.toNat c.toNat) (w.alloc (.cells ((Array.range (c.toNat*te.size)).map (z.cells[· %z.cells.size]!)) e)):=by
   have t1:¬(c<0):=oM
   have t2:¬(n<0):=oM
   have t3:¬(n>c):=oM
   by_cases hz:c.toNat*te.size=0
   ·have e0:∀f:Nat→Value,Array.map f (Array.range 0)= #[]:=fun f=>by apply Array.ext';simp[Array.toList_range]
    simp[Instr.makeSlice,run_underlying cS,asInt,asIntOf,typeInfo,DW,PB,T5,T4,t1,t2,t3,sizeOf,xT,hz,e0,newRow]
    omega
   ·simp[Instr.makeSlice,run_underlying cS,asInt,asIntOf,typeInfo,DW,PB,T5,T4,t1,t2,t3,sizeOf,xT,hz,zeroValue,QS,newRow]
    omega
  have aV:(execOp a.eval o).run P w=.ok (.value (.slice (some ⟨w.heap.size,0,none⟩) n.toNat c.toNat)) (w.alloc (.cells ((Array.range (c.toNat*te.size)).map (z.cells[· %z.cells.size]!)) e)):=by
   simp[execOp,ho,ex,ey,DT]
  obtain⟨β',b1,b2,b3,b4⟩:=i.new (w':=w.alloc (.cells ((Array.range (c.toNat*te.size)).map (z.cells[· %z.cells.size]!)) e)) (c:=(c.toNat,n.toNat)) hd (ob:=.cells ((Array.range (c.toNat*te.size)).map (z.cells[· %z.cells.size]!)) e) rfl rfl rfl rfl
   (bc:=.row e n.toNat te.size fun _ j=>match (iE te.zero)[j]? with|some c=>M9 c|none=>.bC) (by
   intro β' iR _
   refine⟨_,_,_,iR,heap_alloc_new w _,rfl,sM,by show n.toNat≤c.toNat;omega,by show c.toNat≤maxLen;unfold maxLen;omega,fun k j hk hj=>?_⟩
   have fR:k*te.size+j<c.toNat*te.size:=by
    have:(k+1)*te.size≤c.toNat*te.size:=Nat.mul_le_mul_right _ oM
    rw[Nat.succ_mul]at this;omega
   have aGL:(k*te.size+j)%te.size=j:=by rw[Nat.mul_comm,Nat.mul_add_mod,Nat.mod_eq_of_lt hj]
   have hjz:j<z.cells.size:=by rw[hzs];exact hj
   refine⟨z.cells[j],?_,?_⟩
   ·simp only [Array.getElem?_map,Array.getElem?_range,fR,if_true,Option.map_some,hzs,aGL,getElem!_pos z.cells j hjz]
   ·have rF:j<te.zero.length:=by rw[c4];exact hj
    have hzj:z.cells[j]=te.zero[j]:=by
     have:z.cells.toList[j]? =te.zero[j]? :=by rw[J5]
     simpa [hjz,rF]using this
    have hlen:(iE te.zero).length=te.zero.length:=by
     have:=(iE.rep M β te.zero).length
     omega
    obtain⟨u,hu,hr⟩:=(iE.rep M β te.zero).get (List.getElem?_eq_getElem (by rw[hlen];exact rF:j<(iE te.zero).length))
    rw[List.getElem?_eq_getElem rF]at hu
    cases hu
    simp only [List.getElem?_eq_getElem (by rw[hlen];exact rF:j<(iE te.zero).length)]
    rw[hzj]
    have had:∀l:List Value,oF (iE l)=true:=by
     intro l
     induction l with
     |nil=>rfl
     |cons v r ih=>cases v <;> exact ih
    have:=oF.M9 (had te.zero) (List.getElem?_eq_getElem (by rw[hlen];exact rF:j<(iE te.zero).length))
    rw[this]at hr
    exact hr)
  exact⟨_,_,M,β',.inl aV,⟨_,_,b1,rfl,by show n.toNat≤c.toNat;omega⟩,b3,Grow.refl _ _,b4⟩
end
def aBM(s:ByteArray):Nat→Nat→DV:=fun i _=>.val (.int .u8 (s[i]!).toNat)
section
variable{P:Program}{σ:St}{K:AV→aO→Prop}{o:Oper}
def aBN(T:List (Nat×bJ))(σ:St)(src dst:Nat)(x:Operand)(K:AV→aO→Prop):Prop:=
 fe none (ev σ x) fun va=>match cV T src,cV T dst,va with
  |some ts,some td,.s (.d (.val (.string s)))=>match ts.jS,td.jS with
   |.string,.slice e=>match cV T e with
    |some te=>match te.jS with
     |.int .u8=>K (.s (.d (.fJ s.size 1 (aBM s)))) σ.box
     |_=>False
    |none=>False
   |_,_=>False
  |_,_,_=>False
theorem byte.spec{T:List (Nat×bJ)}(hT:b5 P T){src dst:Nat}{x:Operand}(ho:o.op=.convert src dst x)(h:aBN T σ src dst x K):∃r bx,K r bx∧I5 P o σ r bx:=by
 unfold aBN at h
 replace h:=fe.ev h
 obtain⟨va,h,hr⟩:=h
 split at h
 case h_2=>cases h
 rename_i ts td s qV htd
 have k1:=hT.get qV
 have k2:=hT.get htd
 split at h
 case h_2=>cases h
 rename_i e e1 e2
 split at h
 case h_2=>cases h
 rename_i te mD
 split at h
 case h_2=>cases h
 rename_i e3
 have h1:=k1.isString e1
 have h2:=k2.isSlice e2
 have h3:=(hT.get mD).isInt e3
 refine⟨_,_,h,fun cx N M β a w i=>?_⟩
 have ex:a.eval x=.string s:=hr iS cx N M β a w i
 have aV:(execOp a.eval o).run P w=.ok (.value (.slice (some ⟨w.heap.size,0,none⟩) s.size (grownCap w s.size 0 e))) (Lib.bytesWorld w e s):=by
  simp[execOp,ho,ex,Lib.run_convert_string_bytes w src dst e s h1 h2 h3]
 let M':Mem:=fun b o=>if b=w.heap.size∧o<s.size then some (.int .u8 (s[o]!).toNat)else M b o
 have hM:∀b o u,M b o=some u→b<w.heap.size:=fun b o u e=>i.GH e
 have hm:kF M' (Lib.bytesWorld w e s):=by
  intro b o u hu
  simp only [M']at hu
  split at hu
  ·rename_i hc
   cases hu
   obtain⟨rfl,fR⟩:=hc
   rw[Lib.bytesWorld_cell w e s o fR]
   have hd:s.data.size=s.size:=rfl
   rw[getElem!_pos s o fR,List.getD,List.getElem?_eq_getElem (by simpa [hd]using fR)]
   rfl
  ·rw[Lib.bytesWorld_old w e s ⟨b,o,none⟩ (hM b o u hu)]
   exact i.mem b o u hu
 have hg:Grow w.heap.size M M':=by
  refine⟨fun b o u hu=>?_,fun b o u hu=>?_⟩
  ·have:=hM b o u hu
   simp only [M']
   rw[if_neg oM];exact hu
  ·simp only [M']at hu
   split at hu
   ·rename_i hc;exact .inr oM
   ·exact .inl hu
 have pR:Bel w (Lib.bytesWorld w e s):=by
  refine⟨⟨?_,?_,?_,?_,fun k hk=>Lib.bytesWorld_at_old w e s k hk⟩,?_⟩
  ·simp[Lib.bytesWorld,World.freeze,World.alloc,World.drew, -World.alloc_eq, -World.drew_eq]
  ·simp[Lib.bytesWorld,World.freeze,World.alloc,World.drew, -World.alloc_eq, -World.drew_eq]
  ·simp[Lib.bytesWorld,World.freeze,World.alloc,World.drew, -World.alloc_eq, -World.drew_eq]
  ·rw[Lib.bytesWorld_size];omega
  ·exact trivial
 obtain⟨i',g',kp⟩:=i.after pR hg hm
 refine⟨_,_,M',β,.inl aV,⟨_,_,rfl,grownCap_ge _ _ _ _,.inr ⟨_,0,rfl,fun k j hk hj=>⟨_,?_,rfl⟩⟩⟩,i',g',kp⟩
 have:j=0:=oM
 subst this
 rw[show 0+k*1+0=k by omega]
 exact if_pos ⟨rfl,hk⟩
def aHW(f:FuncId)(cs:List SV):DV:=.bnd f cs.length fun i=>match cs[i]? with|some c=>M9 c|none=>.bC
theorem cK.get'{M:Mem}{β:Nm}:∀{cs:List SV} {vs:List Value},cK M β cs vs→∀{i:Nat} {u:Value},vs[i]? =some u→∃c,cs[i]? =some c∧c.a7 M β u
 |[],[],_,i,u,h=>by simp at h
 |c::cs,v::vs,⟨h,r⟩,0,u,e=>by simp at e;subst e;exact⟨c,rfl,h⟩
 |c::cs,v::vs,⟨h,r⟩,i+1,u,e=>cK.get' r (by simpa using e)
 |[],_::_,h,_,_,_=>h.elim
 |_::_,[],h,_,_,_=>h.elim
theorem mkb.spec{g:Option Bool}{K:AV→Prop}{f:FuncId}{y:Operand}(ho:o.op=.makeFunc (.func f) #[y] #[])
  (h:fe g (ev σ y) fun va=>match va with|.g cs=>bif oF cs then K (.s (.d (aHW f cs)))else False|_=>False):∃r,K r∧jL P o σ g r:=by
 replace h:=fe.ev h
 obtain⟨va,h,hr⟩:=h
 split at h
 case h_2=>cases h
 rename_i cs
 cases hc:oF cs with
 |false=>rw[hc]at h;cases h
 |true=>
  rw[hc]at h
  refine⟨_,h,fun ha cx N M β a w i=>?_⟩
  obtain⟨vs,e,hv⟩:=hr ha cx N M β a w i
  refine⟨.func (.func f) #[.agg vs.toArray] #[],?_,vs,rfl,hv.length,fun i u hu=>?_⟩
  ·simp[execOp,ho,Instr.makeFunc,e]
  ·obtain⟨c,h1,h2⟩:=cK.get' hv hu
   rw[oF.M9 hc h1]at h2
   simp only [h1]
   exact h2
end
def aKG:AV→Option (Nat×Nat×Option Nat)
 |.s (.own y)=>some (y,0,none)
 |.s (.jQ y 1 lo n)=>some (y,lo,some n)
 |_=>none
def MN(lo q:Nat)(f g:Nat→Nat→DV):Nat→Nat→DV:=fun i j=>if lo≤i∧i<lo+q then g (i - lo) j else f i j
section
variable{P:Program}{σ:St}{K:AV→aO→Prop}{o:Oper}
def x7(T:List (Nat×bJ))(σ:St)(t:Nat)(x y:Operand)(K:AV→aO→Prop):Prop:=
 fe none (ev σ x) fun vx=>fe none (ev σ y) fun vy=>match cV T t with
 |some ti=>match ti.jS with
  |.slice e=>match cV T e with
   |some te=>match qS σ vy with
    |some (k,s',g)=>match aKG vx with
     |some (b,lo,m)=>match aH σ.box b with
      |some (some (.row e' n s f))=>bif Nat.beq te.size 1&&Nat.beq s 1&&Nat.beq s' 1 then
        fitAll k 1 g∧K (qB .i64 ((Nat.min k (m.getD n):Nat):Int)) ((b,some (.row e' n s (MN lo (Nat.min k (m.getD n)) f g)))::σ.box)else False
      |_=>False
     |none=>False
    |none=>False
   |none=>False
  |_=>False
 |none=>False
theorem copy.spec{T:List (Nat×bJ)}(hT:b5 P T){t t':Nat}{x y:Operand}(ho:o.op=.call {callee:=.builtin .copy,args:= #[x,y],argTypes:= #[t,t']})
  (h:x7 T σ t x y K):∃r bx,K r bx∧I5 P o σ r bx:=by
 unfold x7 at h
 replace h:=fe.ev h
 obtain⟨vx,h,rE⟩:=h
 replace h:=fe.ev h
 obtain⟨vy,h,IN⟩:=h
 split at h
 case h_2=>cases h
 rename_i ti fX
 have fT:=hT.get fX
 split at h
 case h_2=>cases h
 rename_i e hu
 have cS:P.underlying t=some (.slice e):=fT.isSlice hu
 split at h
 case h_2=>cases h
 rename_i te mD
 have lW:=hT.get mD
 split at h
 case h_2=>cases h
 rename_i k s' g wF
 split at h
 case h_2=>cases h
 rename_i b lo m RY
 split at h
 case h_2=>cases h
 rename_i e' n s f hb
 cases hc:(Nat.beq te.size 1&&Nat.beq s 1&&Nat.beq s' 1)with
 |false=>rw[hc]at h;cases h
 |true=>
  rw[hc]at h
  simp only [cond_true]at h
  simp only [Bool.and_eq_true]at hc
  have c1:=Nat.eq_of_beq_eq_true hc.1.1
  have c2:=Nat.eq_of_beq_eq_true hc.1.2
  have c3:=Nat.eq_of_beq_eq_true hc.2
  subst c2;subst c3
  obtain⟨nK,h⟩:=h
  refine⟨_,_,h,fun cx N M β a w i=>?_⟩
  obtain⟨ie,z,DW,xT,PB,QS,J5⟩:=lW.J0
  have J6:(P.info? e).map (·.size)=some 1:=by simp[DW,xT,c1]
  obtain⟨ad,cap,ey,hy⟩:=qS.rep i wF (IN iS cx N M β a w i)
  obtain⟨k0,c,cur,e1,hh,hlen,lT,hn,H6,cN⟩:=i.box b _ hb
  obtain⟨o',dc,ex,hoo,iT⟩:∃o' dc,a.eval x=.slice (some ⟨k0,o',none⟩) (m.getD n) dc∧(0<m.getD n→o'=lo)∧lo+m.getD n≤n:=by
   have hr:=rE iS cx N M β a w i
   unfold aKG at RY
   split at RY
   ·cases RY
    obtain⟨b2,c2,e2,ex,_⟩:=hr
    rw[e1]at e2;cases e2
    exact⟨0,c.1,by rw[ex,hlen];rfl,fun _=>rfl,sM⟩
   ·cases RY
    obtain⟨b2,c2,o2,e2,ex,h1,h2,h3⟩:=hr
    rw[e1]at e2;cases e2
    rename_i n'
    refine⟨o2,_,ex,fun hp=>?_,by rw[←hlen];exact h2⟩
    have:=h1 (by simp at hp;omega)
    omega
   ·cases RY
  have run:∀(w':World) (r:Value),(Builtin.copy_ #[t,t'] o.type #[a.eval x,a.eval y]).run P w=.ok r w'→(execOp a.eval o).run P w=.ok (.value r) w':=by
   intro w' r h
   simp[execOp,ho,resolve,invoke,builtin,h]
  generalize hq:Nat.min k (m.getD n)=q
  have hqk:q≤k:=hq▸Nat.min_le_left _ _
  have hqm:q≤m.getD n:=hq▸Nat.min_le_right _ _
  by_cases h0:q=0
  ·have aV:=run_copy_none (P:=P) w t t' o.type e (some ⟨k0,o',none⟩) ad (m.getD n) dc k cap cS J6 (by rw[←h0];exact hq)
   rw[←ex,←ey]at aV
   have hw:=i.write (bc':=.row e' n 1 (MN lo q f g)) hb e1 (w':=w) rfl (fun _ _=>rfl) rfl rfl rfl
    ⟨k0,c,cur,e1,hh,hlen,lT,hn,H6,fun i' j bN hj=>by
     have:MN lo q f g i' j=f i' j:=by unfold MN;rw[if_neg oM]
     rw[this];exact cN i' j bN hj⟩
   refine⟨_,w,M,β,.inl (run _ _ aV),?_,hw.1,Grow.refl _ _,hw.2⟩
   rw[h0];rfl
  ·have wG:0<q:=oM
   rcases hy with hy|⟨sb,so,rfl,hy⟩
   ·omega
   obtain⟨bad,news,L4,hl,jV,oX⟩:=CJ (w:=w) (M:=M) (g:=g) (m:=q) (s:=1) (ad:=some ⟨sb,so,none⟩) oM wG (.inr ⟨sb,so,rfl,fun k1 j hk hj=>hy k1 j oM hj⟩)
   cases L4
   have h1:∀u∈news,u.oneCell'=true:=by
    intro u hu
    obtain⟨j,hj⟩:=List.getElem?_of_mem hu
    have rF:j<q:=by have:=(List.getElem?_eq_some_iff.1 hj).1;omega
    obtain⟨v,hv,hr⟩:=oX j 0 rF oM
    rw[show j*1+0=j by omega,hj]at hv;cases hv
    have wH:=nK j 0 oM oM
    exact DV.a7.kD hr (by cases hx:g j 0 <;> rw[hx]at wH <;> first|exact wH|rfl|cases wH)
   have qW:=hoo oM
   subst qW
   have aV:=run_copy_row (P:=P) w t t' o.type e k0 o' (m.getD n) dc ⟨sb,so,none⟩ k cap cur e' news cS J6 hh (by rw[hl,Nat.mul_one];exact hq.symm) jV (by rw[hl,lT];omega) h1
   rw[←ex,←ey]at aV
   have hw:=i.write (bc':=.row e' n 1 (MN o' q f g)) hb e1 (w':=w.setRow k0 (cur.toList.take o'++news++cur.toList.drop (o'+news.length)).toArray) sM (fun j hj=>setRow_other w k0 j _ hj) rfl rfl rfl
    ⟨k0,c,_,e1,setRow_heap w k0 cur _ e' _ hh,hlen,by simp;omega,hn,H6,fun i' j bN hj=>by
     have RN:(cur.toList.take o').length=o':=by simp;omega
     have hj0:j=0:=oM
     subst hj0
     simp only [List.getElem?_toArray]
     by_cases lD:o'≤i'∧i'<o'+q
     ·obtain⟨u,hu,hr⟩:=oX (i' - o') 0 oM oM
      refine⟨u,?_,by unfold MN;rw[if_pos lD];exact hr⟩
      rw[List.append_assoc,List.getElem?_append_right oM,RN,List.getElem?_append_left oM]
      rw[show i'*1+0 - o'=(i' - o')*1+0 by omega]
      exact hu
     ·obtain⟨u,hu,hr⟩:=cN i' 0 bN oM
      refine⟨u,?_,by unfold MN;rw[if_neg lD];exact hr⟩
      by_cases fR:i'<o'
      ·rw[List.append_assoc,List.getElem?_append_left oM,List.getElem?_take_of_lt oM]
       simpa using hu
      ·rw[List.append_assoc,List.getElem?_append_right oM,RN,List.getElem?_append_right oM,List.getElem?_drop]
       rw[show o'+news.length+(i'*1+0 - o' - news.length)=i'*1+0 by omega]
       simpa using hu⟩
   refine⟨_,_,M,β,.inl (run _ _ aV),?_,hw.1,Grow.refl _ _,hw.2⟩
   rw[hl,Nat.mul_one];rfl
theorem ID(w:World)(dT sT ty elem:TypeId)(g aBG aG9:Nat)(a:Addr)(CB Q3:Nat)(cur:Array Value)(t:TypeId)(cs:List Value)(n sz:Nat)
  (hu:P.underlying dT=some (.slice elem)) (hs:(P.info? elem).map (·.size)=some sz)
  (hg:w.heap[g]? =some (.cells cur t (0,0))) (hm:n=Nat.min CB aBG) (hn:cs.length=n*sz)
  (wF:∀j v,cs[j]? =some v→w.cell? (a.add j)=some v) (nK:cs.length≤cur.size) (h1:∀v∈cs,v.oneCell'=true):
  (Builtin.copy_ #[dT,sT] ty #[.slice (some ⟨g,0,none⟩) aBG aG9,.slice (some a) CB Q3]).run P w=
   .ok (goInt n) (w.setRow g (cs++cur.toList.drop cs.length).toArray):=by
 have hl:=run_loadCells_list (P:=P) w a cs wF
 have jE:=run_storeCells_at P g 0 t cs 0 cur w hg (by simpa using nK) h1
 simp only [Nat.zero_add,Nat.add_zero,List.take_zero,List.nil_append]at jE
 cases hq:P.info? elem with
 |none=>simp[hq]at hs
 |some i=>
  have hi:i.size=sz:=by simpa [hq]using hs
  simp[Builtin.copy_,run_underlying hu,Builtin.lenOf,Builtin.firstCells,sizeOf,typeInfo,hq,hi,←hm,←hn,hl,jE]
theorem FP(w:World)(dT sT ty elem:TypeId)(d a:Option Addr)(aBG aG9 CB Q3 sz:Nat)(hu:P.underlying dT=some (.slice elem))(hs:(P.info? elem).map (·.size)=some sz)(hn:Nat.min CB aBG=0):
  (Builtin.copy_ #[dT,sT] ty #[.slice d aBG aG9,.slice a CB Q3]).run P w=.ok (goInt 0) w:=by
 cases hq:P.info? elem with
 |none=>simp[hq]at hs
 |some i=>
  have hl:∀(x:Addr),(loadCells x 0).run P w=.ok #[] w:=fun x=>by simpa using run_loadCells_list (P:=P) w x [] sM
  cases d <;> cases a <;> simp[Builtin.copy_,run_underlying hu,Builtin.lenOf,Builtin.firstCells,sizeOf,typeInfo,hq,hn,storeCells,hl]
def SH(T:List (Nat×bJ))(σ:St)(t:Nat)(x y:Operand)(K:AV→aO→Prop):Prop:=
 fe none (ev σ x) fun vx=>fe none (ev σ y) fun vy=>match cV T t with
 |some ti=>match ti.jS with
  |.slice e=>match cV T e with
   |some te=>match qS σ vy,vx with
    |some (k,s',g),.s (.own b)=>match aH σ.box b with
     |some (some (.row e' n s f))=>bif Nat.blt 0 te.size&&Nat.beq s te.size&&Nat.beq s' te.size then
       fitAll k s g∧K (qB .i64 ((Nat.min k n:Nat):Int)) ((b,some (.row e' n s (MN 0 (Nat.min k n) f g)))::σ.box)else False
     |_=>False
    |_,_=>False
   |none=>False
  |_=>False
 |none=>False
theorem aKK.spec{T:List (Nat×bJ)}(hT:b5 P T){t t':Nat}{x y:Operand}(ho:o.op=.call {callee:=.builtin .copy,args:= #[x,y],argTypes:= #[t,t']})
  (h:SH T σ t x y K):∃r bx,K r bx∧I5 P o σ r bx:=by
 unfold SH at h
 replace h:=fe.ev h
 obtain⟨vx,h,rE⟩:=h
 replace h:=fe.ev h
 obtain⟨vy,h,IN⟩:=h
 split at h
 case h_2=>cases h
 rename_i ti fX
 have fT:=hT.get fX
 split at h
 case h_2=>cases h
 rename_i e hu
 have cS:P.underlying t=some (.slice e):=fT.isSlice hu
 split at h
 case h_2=>cases h
 rename_i te mD
 have lW:=hT.get mD
 split at h
 case h_2=>cases h
 rename_i k s' g b wF
 split at h
 case h_2=>cases h
 rename_i e' n s f hb
 cases hc:(Nat.blt 0 te.size&&Nat.beq s te.size&&Nat.beq s' te.size)with
 |false=>rw[hc]at h;cases h
 |true=>
  rw[hc]at h
  simp only [cond_true]at h
  simp only [Bool.and_eq_true]at hc
  have c0:0<te.size:=Nat.le_of_ble_eq_true hc.1.1
  have c2:=Nat.eq_of_beq_eq_true hc.1.2
  have c3:=Nat.eq_of_beq_eq_true hc.2
  subst c2;subst c3
  obtain⟨nK,h⟩:=h
  refine⟨_,_,h,fun cx N M β a w i=>?_⟩
  obtain⟨ie,z,DW,xT,PB,QS,J5⟩:=lW.J0
  have J6:(P.info? e).map (·.size)=some te.size:=by simp[DW,xT]
  obtain⟨ad,cap,ey,hy⟩:=qS.rep i wF (IN iS cx N M β a w i)
  obtain⟨k0,c,cur,e1,hh,hlen,lT,hn,H6,cN⟩:=i.box b _ hb
  obtain⟨b2,c2,e2,ex,_⟩:=rE iS cx N M β a w i
  rw[e1]at e2;cases e2
  rw[hlen]at ex
  have run:∀(w':World) (r:Value),(Builtin.copy_ #[t,t'] o.type #[a.eval x,a.eval y]).run P w=.ok r w'→(execOp a.eval o).run P w=.ok (.value r) w':=by
   intro w' r h
   simp[execOp,ho,resolve,invoke,builtin,h]
  generalize hq:Nat.min k n=q
  have hqk:q≤k:=hq▸Nat.min_le_left _ _
  have hqm:q≤n:=hq▸Nat.min_le_right _ _
  by_cases h0:q=0
  ·have aV:=FP (P:=P) w t t' o.type e (some ⟨k0,0,none⟩) ad n c.1 k cap te.size cS J6 (by rw[←h0];exact hq)
   rw[←ex,←ey]at aV
   have hw:=i.write (bc':=.row e' n te.size (MN 0 q f g)) hb e1 (w':=w) rfl (fun _ _=>rfl) rfl rfl rfl
    ⟨k0,c,cur,e1,hh,hlen,lT,hn,H6,fun i' j bN hj=>by
     have:MN 0 q f g i' j=f i' j:=by unfold MN;rw[if_neg oM]
     rw[this];exact cN i' j bN hj⟩
   refine⟨_,w,M,β,.inl (run _ _ aV),?_,hw.1,Grow.refl _ _,hw.2⟩
   rw[h0];rfl
  ·have wG:0<q:=oM
   rcases hy with hy|⟨sb,so,rfl,hy⟩
   ·omega
   obtain⟨bad,news,L4,hl,jV,oX⟩:=CJ (w:=w) (M:=M) (g:=g) (m:=q) (s:=te.size) (ad:=some ⟨sb,so,none⟩) c0 wG (.inr ⟨sb,so,rfl,fun k1 j hk hj=>hy k1 j oM hj⟩)
   cases L4
   have h1:∀u∈news,u.oneCell'=true:=by
    intro u hu
    obtain⟨j,hj⟩:=List.getElem?_of_mem hu
    have rF:j<q*te.size:=by have:=(List.getElem?_eq_some_iff.1 hj).1;omega
    have hd:=Nat.div_add_mod j te.size
    have fR:j / te.size<q:=(Nat.div_lt_iff_lt_mul c0).2 rF
    obtain⟨v,hv,hr⟩:=oX (j / te.size) (j%te.size) fR (Nat.mod_lt _ c0)
    rw[show j / te.size*te.size+j%te.size=j by rw[Nat.mul_comm];exact hd,hj]at hv;cases hv
    have wH:=nK (j / te.size) (j%te.size) oM (Nat.mod_lt _ c0)
    exact DV.a7.kD hr (by cases hx:g (j / te.size) (j%te.size) <;> rw[hx]at wH <;> first|exact wH|rfl|cases wH)
   have hnq:n*te.size≤cur.size:=by rw[lT];exact Nat.mul_le_mul_right _ hn
   have hqn:q*te.size≤n*te.size:=Nat.mul_le_mul_right _ hqm
   have aV:=ID (P:=P) w t t' o.type e k0 n c.1 ⟨sb,so,none⟩ k cap cur e' news q te.size cS J6 hh hq.symm hl jV oM h1
   rw[←ex,←ey]at aV
   have hw:=i.write (bc':=.row e' n te.size (MN 0 q f g)) hb e1 (w':=w.setRow k0 (news++cur.toList.drop news.length).toArray) sM (fun j hj=>setRow_other w k0 j _ hj) rfl rfl rfl
    ⟨k0,c,_,e1,setRow_heap w k0 cur _ e' _ hh,hlen,by simp;omega,hn,H6,fun i' j bN hj=>by
     simp only [List.getElem?_toArray]
     by_cases lD:i'<q
     ·obtain⟨u,hu,hr⟩:=oX i' j lD hj
      refine⟨u,?_,by unfold MN;rw[if_pos ⟨Nat.zero_le _,oM⟩];exact hr⟩
      have fR:i'*te.size+j<news.length:=(List.getElem?_eq_some_iff.1 hu).1
      rw[List.getElem?_append_left fR]
      exact hu
     ·obtain⟨u,hu,hr⟩:=cN i' j bN hj
      refine⟨u,?_,by unfold MN;rw[if_neg oM];exact hr⟩
      have EL:q*te.size≤i'*te.size:=Nat.mul_le_mul_right _ oM
      rw[List.getElem?_append_right oM,List.getElem?_drop,show news.length+(i'*te.size+j - news.length)=i'*te.size+j by omega]
      simpa using hu⟩
   exact⟨_,_,M,β,.inl (run _ _ aV),rfl,hw.1,Grow.refl _ _,hw.2⟩
def szE(T:List (Nat×bJ))(t:Nat):Nat:=match cV T t with
 |some ti=>match ti.jS with
  |.slice e=>match cV T e with
   |some te=>te.size
   |none=>0
  |_=>0
 |none=>0
def KS(T:List (Nat×bJ))(σ:St)(t:Nat)(x y:Operand)(K:AV→aO→Prop):Prop:=
 match Nat.beq (szE T t) 1 with
 |true=>x7 T σ t x y K
 |false=>SH T σ t x y K
theorem KS.spec{T:List (Nat×bJ)}(hT:b5 P T){t t':Nat}{x y:Operand}(ho:o.op=.call {callee:=.builtin .copy,args:= #[x,y],argTypes:= #[t,t']})
  (h:KS T σ t x y K):∃r bx,K r bx∧I5 P o σ r bx:=by
 unfold KS at h
 split at h
 ·exact copy.spec hT ho h
 ·exact aKK.spec hT ho h
end
end Go.Ax
namespace Go.Ax
open Go.RowKit
open Go.ChangeMaps (setBlock)
def oA:List (Int×Int)→Int→Option Int
 |[],_=>none
 |(a,v)::r,k=>bif k==a then some v else oA r k
def L5(l:List (Int×Int))(k:Int):Bool:=(oA l k).isSome
def getM(l:List (Int×Int))(k:Int):Int:=(oA l k).getD 0
def o5:List (Int×Int)→Int→Int→List (Int×Int)
 |[],k,v=>[(k,v)]
 |(a,u)::r,k,v=>bif k==a then(a,v)::r else(a,u)::o5 r k v
def aH8(T:List (Nat×bJ))(e:Nat):Option VK:=match cV T e with
 |some te=>match te.jS with
  |.int .i64=>some .int
  |.bool=>some .bool
  |_=>none
 |none=>none
def RH(T:List (Nat×bJ))(k:Nat):Bool:=match cV T k with
 |some tk=>match tk.jS with
  |.int .i64=>true
  |_=>false
 |none=>false
theorem RH.spec{P:Program}{T:List (Nat×bJ)}(hT:b5 P T){k:Nat}(h:RH T k=true):P.underlying k=some (.int .i64):=by
 unfold RH at h
 split at h
 ·rename_i tk hk
  split at h
  ·rename_i hu;exact(hT.get hk).isInt hu
  ·cases h
 ·cases h
def SB(vk:VK):AV→Option Int
 |.s (.d (.val (.int .i64 n)))=>match vk with|.int=>some n|.bool=>none
 |.s (.d (.val (.bool b)))=>match vk with|.bool=>some (bif b then 1 else 0)|.int=>none
 |.s (.d (.lit b))=>match vk with|.bool=>some (bif b then 1 else 0)|.int=>none
 |_=>none
theorem SB.spec{vk:VK}{v:AV}{n:Int}{M:Mem}{β:Nm}{u:Value}(h:SB vk v=some n)(r:v.a7 M β u):u=vk.val n:=by
 have hb:∀b:Bool,Value.bool b=VK.val .bool (bif b then 1 else 0):=fun b=>by cases b <;> rfl
 unfold SB at h
 split at h
 ·cases vk with
  |int=>cases h;exact r
  |bool=>cases h
 ·cases vk with
  |int=>cases h
  |bool=>cases h;exact(show u=_ from r).trans (hb _)
 ·cases vk with
  |int=>cases h
  |bool=>cases h;exact(show u=_ from r).trans (hb _)
 ·cases h
def findAt(vk:VK):List (Int×Int)→Int→Nat→Option (Nat×Value)
 |[],_,_=>none
 |(a,v)::r,k,i=>bif k==a then some (i,vk.val v)else findAt vk r k (i+1)
theorem A3(vk:VK)(k:Int):∀(l:List (Int×Int)) (i:Nat),Instr.findNow (.int .i64) (.int .i64 k) (iD vk l i) i=some (findAt vk l k i)
 |[],_=>rfl
 |(a,v)::r,i=>by
  simp only [iD,Instr.findNow,Instr.sameNow,if_true,findAt]
  cases h:k==a with
  |true=>rfl
  |false=>simp only [cond_false];exact A3 vk k r (i+1)
theorem run_findKey{P:Program}(w:World){kt:TypeId}(hk:P.underlying kt=some (.int .i64))(vk:VK)(k:Int)(l:List (Int×Int)):
  (Instr.findKey kt (.int .i64 k) (iD vk l 0)).run P w=.ok (findAt vk l k 0) w:=by
 simp[Instr.findKey,run_underlying hk,A3]
theorem run_checkKey{P:Program}(w:World){kt:TypeId}(hk:P.underlying kt=some (.int .i64))(b:Bool)(k:Int)(n:Nat):(Instr.checkKey b (n+1) kt (.int .i64 k)).run P w=.ok () w:=by
 simp[Instr.checkKey,run_underlying hk]
theorem D3(vk:VK)(k:Int):∀(l:List (Int×Int)) (i:Nat),(findAt vk l k i).map (·.2)=(oA l k).map vk.val
 |[],_=>rfl
 |(a,v)::r,i=>by
  simp only [findAt,oA]
  cases h:k==a with
  |true=>rfl
  |false=>simp only [cond_false];exact D3 vk k r (i+1)
theorem wK(vk:VK):∀(l:List (Int×Int)) (i:Nat),(iD vk l i).length=l.length
 |[],_=>rfl
 |(_,_)::r,i=>by simp[iD,wK vk r (i+1)]
theorem KJ(vk:VK):∀(l:List (Int×Int)) (i:Nat),(iD vk l i).map (·.born)=List.range' i l.length
 |[],_=>rfl
 |(_,_)::r,i=>by simp[iD,KJ vk r (i+1),List.range'_succ]
theorem wL(vk:VK):∀(l:List (Int×Int)) (i j:Nat) (e:MapEntry),(iD vk l i)[j]? =some e→j<l.length∧e= {key:=.int .i64 (l.getD j (0,0)).1,val:=vk.val (l.getD j (0,0)).2,born:=i+j}
 |[],_,_,_,h=>by simp[iD]at h
 |(a,v)::r,i,0,e,h=>by
  simp[iD]at h
  exact⟨sM,by rw[←h];rfl⟩
 |(a,v)::r,i,j+1,e,h=>by
  have h:(iD vk r (i+1))[j]? =some e:=by simpa [iD]using h
  obtain⟨h1,h2⟩:=wL vk r (i+1) j e h
  refine⟨by simp;omega,?_⟩
  rw[h2]
  simp
  omega
theorem NT(vk:VK)(k v:Int):∀(l:List (Int×Int)) (i j:Nat) (u:Value),findAt vk l k i=some (i+j,u)→(∃e,(iD vk l i)[j]? =some e∧e.key=.int .i64 k)∧
   (iD vk l i).modify j (fun e=>{e with key:=.int .i64 k,val:=vk.val v})=iD vk (o5 l k v) i∧(o5 l k v).length=l.length
 |[],_,_,_,h=>by cases h
 |(a,b)::r,i,j,u,h=>by
  simp only [findAt]at h
  cases hk:k==a with
  |true=>
   rw[hk]at h
   simp only [cond_true,Option.some.injEq,Prod.mk.injEq]at h
   obtain rfl:j=0:=oM
   have:k=a:=by simpa using hk
   subst this
   simp[iD,o5]
  |false=>
   rw[hk]at h
   simp only [cond_false]at h
   have hj:∃q,j=q+1:=by
    cases j with
    |zero=>
     exfalso
     have:∀(l:List (Int×Int)) (i p:Nat) (u:Value),findAt vk l k i=some (p,u)→i≤p:=by
      intro l
      induction l with
      |nil=>intro i p u h;cases h
      |cons x r ih=>
       intro i p u h
       obtain⟨a,b⟩:=x
       simp only [findAt]at h
       cases hk:k==a with
       |true=>rw[hk]at h;simp only [cond_true,Option.some.injEq,Prod.mk.injEq]at h;omega
       |false=>rw[hk]at h;have:=ih (i+1) p u h;omega
     have:=this r (i+1) _ u h
     omega
    |succ q=>exact⟨q,rfl⟩
   obtain⟨q,rfl⟩:=hj
   obtain⟨⟨e,h1,IS⟩,h2,h3⟩:=NT vk k v r (i+1) q u (by rw[show i+1+q=i+(q+1) by omega];exact h)
   refine⟨⟨e,by simpa [iD]using h1,IS⟩,?_,by simp[o5,hk,h3]⟩
   simp[iD,o5,hk,h2]
theorem NU(vk:VK)(k v:Int):∀(l:List (Int×Int)) (i:Nat),findAt vk l k i=none→iD vk l i++ [{key:=.int .i64 k,val:=vk.val v,born:=i+l.length}]=iD vk (o5 l k v) i∧(o5 l k v).length=l.length+1
 |[],i,_=>by simp[iD,o5]
 |(a,b)::r,i,h=>by
  simp only [findAt]at h
  cases hk:k==a with
  |true=>rw[hk]at h;cases h
  |false=>
   rw[hk]at h
   obtain⟨h1,h2⟩:=NU vk k v r (i+1) h
   have e:i+(r.length+1)=i+1+r.length:=oM
   simp[iD,o5,hk,h2,←h1,e]
section
variable{P:Program}{σ:St}{K:AV→aO→Prop}{o:Oper}
def RC(T:List (Nat×bJ))(σ:St)(d t:Nat)(K:AV→aO→Prop):Prop:=
 match cV T t with
 |some ti=>match ti.jS with
  |.map k e=>match aH8 T e with
   |some vk=>bif RH T k then match aH σ.box d with
    |none=>K (.s (.mp d)) ((d,some (.map vk []))::σ.box)
    |some _=>False
    else False
   |none=>False
  |_=>False
 |none=>False
theorem mkMap.spec{T:List (Nat×bJ)}{d t:Nat}(ho:o.op=.makeMap t none)(h:RC T σ d t K):∃r bx,K r bx∧I5 P o σ r bx:=by
 unfold RC at h
 split at h
 case h_2=>cases h
 split at h
 case h_2=>cases h
 split at h
 case h_2=>cases h
 rename_i vk hvk
 cases hk:RH T _ with
 |false=>rw[hk]at h;cases h
 |true=>
  rw[hk]at h
  simp only [cond_true]at h
  split at h
  case h_2=>cases h
  rename_i hd
  refine⟨_,_,h,fun cx N M β a w i=>?_⟩
  have aV:(execOp a.eval o).run P w=.ok (.value (.map (some w.heap.size))) (w.alloc (.map #[] 0)):=by
   simp[execOp,ho,run_makeMap]
  obtain⟨β',h1,h2,h3,h4⟩:=i.new (w':=w.alloc (.map #[] 0)) (c:=(0,0)) hd (ob:=.map #[] 0) rfl rfl rfl rfl (bc:=.map vk []) (by
   intro β' e _
   exact⟨_,_,e,heap_alloc_new w _⟩)
  exact⟨_,_,M,β',.inl aV,⟨_,_,h1,rfl⟩,h3,Grow.refl _ _,h4⟩
theorem fQ{w:World}{r:Nat}{es es':Array MapEntry}{c c':Nat}(hr:w.heap[r]? =some (.map es c)):(setObj r (.map es' c')).run P w=.ok () (setBlock w r (.map es' c')):=by
 simp[setObj,Sem.run,hr,setBlock]
theorem fO(w:World)(r:Nat)(ob:Obj):(setBlock w r ob).heap.size=w.heap.size:=by simp[setBlock]
theorem eT(w:World)(r:Nat)(ob:Obj){k:Nat}(h:k≠r):(setBlock w r ob).heap[k]? =w.heap[k]? :=by simp[setBlock,Array.getElem?_setIfInBounds_ne (Ne.symm h)]
theorem iN{w:World}{r:Nat}{ob ob':Obj}(h:w.heap[r]? =some ob):(setBlock w r ob').heap[r]? =some ob':=by
 have:=nA h
 simp[setBlock,this]
def aFI(T:List (Nat×bJ))(σ:St)(t:Nat)(x y z:Operand)(K:AV→aO→Prop):Prop:=
 fe none (ev σ x) fun vx=>fe none (ev σ y) fun vy=>fe none (ev σ z) fun vz=>match vx,vy with
  |.s (.mp b),.s (.d (.val (.int .i64 k)))=>match aH σ.box b with
   |some (some (.map vk l))=>match cV T t with
    |some ti=>match ti.jS with
     |.map kt _=>bif RH T kt then match SB vk vz with
      |some n=>K (.s (.d .bC)) ((b,some (.map vk (o5 l k n)))::σ.box)
      |none=>False
      else False
     |_=>False
    |none=>False
   |_=>False
  |_,_=>False
theorem YK.spec{T:List (Nat×bJ)}(hT:b5 P T){t:Nat}{x y z:Operand}(ho:o.op=.mapUpdate t x y z)(h:aFI T σ t x y z K):∃r bx,K r bx∧I5 P o σ r bx:=by
 unfold aFI at h
 replace h:=fe.ev h
 obtain⟨vx,h,rE⟩:=h
 replace h:=fe.ev h
 obtain⟨vy,h,IN⟩:=h
 replace h:=fe.ev h
 obtain⟨vz,h,hrz⟩:=h
 split at h
 case h_2=>cases h
 rename_i b k
 split at h
 case h_2=>cases h
 rename_i vk l hb
 split at h
 case h_2=>cases h
 rename_i ti fX
 split at h
 case h_2=>cases h
 rename_i kt et hu
 cases hk:RH T kt with
 |false=>rw[hk]at h;cases h
 |true=>
  rw[hk]at h
  simp only [cond_true]at h
  split at h
  case h_2=>cases h
  rename_i n hn
  have QR:=RH.spec hT hk
  have cS:=(hT.get fX).DN hu
  refine⟨_,_,h,fun cx N M β a w i=>?_⟩
  obtain⟨bb,c,e1,ex⟩:=rE iS cx N M β a w i
  obtain⟨b',c',e2,hh⟩:=i.box b _ hb
  rw[e1]at e2;cases e2
  have ey:a.eval y=.int .i64 k:=IN iS cx N M β a w i
  have ez:a.eval z=vk.val n:=SB.spec hn (hrz iS cx N M β a w i)
  have jC:(Instr.checkKey false 10000 kt (.int .i64 k)).run P w=.ok () w:=run_checkKey w QR false k 9999
  have nS:=run_findKey (P:=P) w QR vk k l
  have WL:(Instr.mapUpdate t (.map (some bb)) (.int .i64 k) (vk.val n)).run P w=.ok () (setBlock w bb (.map (iD vk (o5 l k n) 0).toArray (o5 l k n).length)):=by
   cases hf:findAt vk l k 0 with
   |none=>
    rw[hf]at nS
    obtain⟨q1,q2⟩:=NU vk k n l 0 hf
    have e3:((iD vk l 0).toArray.push {key:=.int .i64 k,val:=vk.val n,born:=l.length})=(iD vk (o5 l k n) 0).toArray:=by
     rw[←q1];simp
    simp[Instr.mapUpdate,run_underlying cS,MapKept.run_getObj_map hh,jC,nS,e3,fQ hh,q2]
   |some pr=>
    obtain⟨p,u⟩:=pr
    rw[hf]at nS
    obtain⟨⟨e,q0,q0'⟩,q1,q2⟩:=NT vk k n l 0 p u (by rw[Nat.zero_add];exact hf)
    have GY:(Instr.keyThatStays (.int .i64 k) (.int .i64 k)).run P w=.ok (.int .i64 k) w:=by simp[Instr.keyThatStays,Instr.sameBits]
    have e3:(iD vk l 0).modify p (fun e=>{key:=.int .i64 k,val:=vk.val n,born:=e.born})=iD vk (o5 l k n) 0:=q1
    have e4:(((iD vk l 0).toArray[p]?).map (·.key)).getD (.int .i64 k)=.int .i64 k:=by simp[q0,q0']
    simp only [List.getElem?_toArray]at e4
    simp[Instr.mapUpdate,run_underlying cS,MapKept.run_getObj_map hh,jC,nS,e4,GY,e3,fQ hh,q2]
  have aV:(execOp a.eval o).run P w=.ok .skip (setBlock w bb (.map (iD vk (o5 l k n) 0).toArray (o5 l k n).length)):=by
   simp[execOp,ho,ex,ey,ez,WL]
  have hw:=i.write (bc':=.map vk (o5 l k n)) hb e1 (w':=setBlock w bb (.map (iD vk (o5 l k n) 0).toArray (o5 l k n).length)) (fO _ _ _) (fun j hj=>eT _ _ _ hj) rfl rfl rfl
   ⟨bb,c,e1,iN hh⟩
  exact⟨undef,_,M,β,.inr ⟨aV,rfl⟩,trivial,hw.1,Grow.refl _ _,hw.2⟩
def Q7(T:List (Nat×bJ))(σ:St)(d t:Nat)(x:Operand)(K:AV→aO→Prop):Prop:=
 fe none (ev σ x) fun vx=>match vx with
  |.s (.mp b)=>match aH σ.box b with
   |some (some (.map _ l))=>match cV T t with
    |some ti=>match ti.jS with
     |.map _ _=>match aH σ.box d with
      |none=>K (.s (.ptr d 0)) ((d,some (.iter b l.length []))::σ.box)
      |some _=>False
     |_=>False
    |none=>False
   |_=>False
  |_=>False
theorem range.spec{T:List (Nat×bJ)}(hT:b5 P T){d t:Nat}{x:Operand}(ho:o.op=.range t x)(h:Q7 T σ d t x K):∃r bx,K r bx∧I5 P o σ r bx:=by
 unfold Q7 at h
 replace h:=fe.ev h
 obtain⟨vx,h,rE⟩:=h
 split at h
 case h_2=>cases h
 rename_i b
 split at h
 case h_2=>cases h
 rename_i vk l hb
 split at h
 case h_2=>cases h
 rename_i ti fX
 split at h
 case h_2=>cases h
 rename_i kt et hu
 have cS:=(hT.get fX).DN hu
 split at h
 case h_2=>cases h
 rename_i hd
 refine⟨_,_,h,fun cx N M β a w i=>?_⟩
 obtain⟨bb,c,e1,ex⟩:=rE iS cx N M β a w i
 obtain⟨b',c',e2,hh⟩:=i.box b _ hb
 rw[e1]at e2;cases e2
 have aV:(execOp a.eval o).run P w=.ok (.value (.pointer (some ⟨w.heap.size,0,none⟩))) (w.alloc (.mapIter (some bb) l.length #[] l.length)):=by
  simp[execOp,ho,ex,run_range_map w t kt et bb _ _ cS hh]
 obtain⟨β',h1,h2,h3,h4⟩:=i.new (w':=w.alloc (.mapIter (some bb) l.length #[] l.length)) (c:=(0,0)) hd (ob:=.mapIter (some bb) l.length #[] l.length) rfl rfl rfl rfl (bc:=.iter b l.length []) (by
  intro β' e hle
  exact⟨_,_,_,_,e,hle _ _ e1,heap_alloc_new w _⟩)
 exact⟨_,_,M,β',.inl aV,⟨_,_,h1,rfl⟩,h3,Grow.refl _ _,h4⟩
def ZP(σ:St)(x:Operand)(K:AV→aO→Prop):Prop:=
 fe none (ev σ x) fun vx=>match vx with
  |.s (.ptr b 0)=>match aH σ.box b with
   |some (some (.iter m n seen))=>match aH σ.box m with
    |some (some (.map vk l))=>l.length=n∧((∀i,i<n→i∈seen)→K (.t [.s (.d (.lit false))]) σ.box)∧
      (∀i,i<n→i∉seen→K (.t [.s (.d (.lit true)),.s (.d (.val (.int .i64 (l.getD i (0,0)).1))),.s (.d (vk.dv (l.getD i (0,0)).2))]) ((b,some (.iter m n (i::seen)))::σ.box))
    |_=>False
   |_=>False
  |_=>False
theorem VK.tL(vk:VK)(n:Int)(M:Mem):(vk.dv n).a7 M (vk.val n):=by cases vk <;> rfl
theorem tM{w w1:World}(h:w1=w∨w1=w.drew):w1.heap=w.heap∧w1.os=w.os∧w1.tape=w.tape∧w1.output=w.output:=by
 rcases h with rfl|rfl <;> exact⟨rfl,rfl,rfl,rfl⟩
theorem next.spec{x:Operand}(ho:o.op=.next x false)(h:ZP σ x K){cx:Cx}{N:Nat}{M:Mem}{β:Nm}{a:Act}{w:World}(i:Inv cx N M β σ a w):
  ∃r bx,K r bx∧∃v w',(execOp a.eval o).run P w=.ok (.value v) w'∧r.a7 M β v∧Inv cx N M β ⟨σ.env,bx⟩ a w'∧b6 cx w w':=by
 unfold ZP at h
 replace h:=fe.ev h
 obtain⟨vx,h,rE⟩:=h
 split at h
 case h_2=>cases h
 rename_i b
 split at h
 case h_2=>cases h
 rename_i m n seen hb
 split at h
 case h_2=>cases h
 rename_i vk l hm
 obtain⟨hl,h1,h2⟩:=h
 subst hl
 obtain⟨bb,c,e1,ex⟩:=rE iS cx N M β a w i
 obtain⟨b',c',bm,cm,e2,em,hh⟩:=i.box b _ hb
 rw[e1]at e2;cases e2
 obtain⟨bm',cm',PT,hhm⟩:=i.box m _ hm
 rw[em]at PT;cases PT
 have hold:∀x∈(iD vk l 0).toArray.toList,x.born<l.length:=by
  intro x hx
  obtain⟨j,hj⟩:=List.getElem?_of_mem hx
  obtain⟨k1,k2⟩:=wL vk l 0 j x (by simpa using hj)
  rw[k2];simpa using k1
 have j0:∀e,e∈(leftOf (iD vk l 0).toArray seen.reverse.toArray).toList↔∃j,j<l.length∧j∉seen∧e= {key:=.int .i64 (l.getD j (0,0)).1,val:=vk.val (l.getD j (0,0)).2,born:=j}:=by
  intro e
  unfold leftOf
  simp only [Array.toList_filter,List.mem_filter]
  constructor
  ·rintro⟨hx,hs⟩
   obtain⟨j,hj⟩:=List.getElem?_of_mem hx
   obtain⟨k1,k2⟩:=wL vk l 0 j e (by simpa using hj)
   rw[Nat.zero_add]at k2
   refine⟨j,k1,?_,k2⟩
   rw[k2]at hs
   simpa using hs
  ·rintro⟨j,hj,hs,rfl⟩
   refine⟨?_,by simpa using hs⟩
   have fR:j<(iD vk l 0).length:=by rw[wK];exact hj
   have hg:=List.getElem?_eq_getElem fR
   obtain⟨_,k2⟩:=wL vk l 0 j _ hg
   rw[Nat.zero_add]at k2
   rw[←k2]
   exact List.getElem_mem fR
 rcases run_next_at (P:=P) w o.type bb bm l.length l.length seen.reverse.toArray (iD vk l 0).toArray l.length hh hhm hold (Nat.le_refl _)with⟨hz,aV⟩|⟨e,he,w1,T5,aV⟩
 ·refine⟨_,_,h1 (fun j hj=>?_),_,w,by simp[execOp,ho,ex,aV],⟨[.bool false],rfl,rfl,trivial⟩,i,b6.refl _ _⟩
  refine Classical.byContradiction fun hs=>?_
  have:=(j0 _).2 ⟨j,hj,hs,rfl⟩
  have RR:(leftOf (iD vk l 0).toArray seen.reverse.toArray).toList=[]:=List.eq_nil_of_length_eq_zero (by rw[Array.length_toList];exact hz)
  rw[RR]at this
  cases this
 ·obtain⟨j,hj,hs,rfl⟩:=(j0 e).1 he
  obtain⟨q1,q2,q3,q4⟩:=tM T5
  have hh1:w1.heap[bb]? =some (.mapIter (some bm) l.length seen.reverse.toArray l.length):=by rw[q1];exact hh
  have pO:seen.reverse.toArray.push j=(j::seen).reverse.toArray:=sM
  have O4:(execOp a.eval o).run P w=.ok (.value (.tuple #[.bool true,.int .i64 (l.getD j (0,0)).1,vk.val (l.getD j (0,0)).2])) (setBlock w1 bb (.mapIter (some bm) l.length (j::seen).reverse.toArray l.length)):=by
   rw[←pO];simp[execOp,ho,ex,aV]
  have hw:=i.write (bc':=.iter m l.length (j::seen)) hb e1 (w':=setBlock w1 bb (.mapIter (some bm) l.length (j::seen).reverse.toArray l.length)) (by rw[fO,q1]) (fun k hk=>by rw[eT _ _ _ hk,q1]) q2 q3 q4
   ⟨bb,c,bm,cm,e1,em,iN hh1⟩ trivial
  exact⟨_,_,h2 j hj hs,_,_,O4,⟨_,rfl,rfl,rfl,VK.tL _ _ _,trivial⟩,hw.1,hw.2⟩
end
section
variable{P:Program}{σ:St}{g:Option Bool}{K:AV→Prop}{o:Oper}
def SA(σ:St)(va:AV)(K:AV→Prop):Prop:=match va with
 |.s (.ptr b 0)=>match aH σ.box b with
  |some (some (.iter m n (i::_)))=>match aH σ.box m with
   |some (some (.map vk l))=>l.length=n∧i<l.length∧K (.t [.s (.d (.val (.int .i64 (l.getD i (0,0)).1))),.s (.d (vk.dv (l.getD i (0,0)).2))])
   |_=>False
  |_=>False
 |_=>False
def zOK(T:List (Nat×bJ))(e:Nat)(vk:VK):Bool:=match cV T e with
 |some te=>match te.zero,vk with
  |[.int .i64 n],.int=>n==0&& !te.agg
  |[.bool b],.bool=> !b&& !te.agg
  |_,_=>false
 |none=>false
theorem zOK.spec{T:List (Nat×bJ)}(hT:b5 P T){e:Nat}{vk:VK}(h:zOK T e vk=true)(w:World):(zeroValue e).run P w=.ok (vk.val 0) w:=by
 unfold zOK at h
 split at h
 case h_2=>cases h
 rename_i te mD
 split at h
 case h_3=>cases h
 ·rename_i n hn
  simp only [Bool.and_eq_true,beq_iff_eq,Bool.not_eq_true']at h
  obtain⟨rfl,hag⟩:=h
  obtain⟨ti,z,h1,h2,h3⟩:=(hT.get mD).one hag
  rw[hn]at h3
  cases h3
  simp[zeroValue,typeInfo,h1,h2,VK.val]
 ·rename_i b hn
  simp only [Bool.and_eq_true,Bool.not_eq_true']at h
  obtain⟨rfl,hag⟩:=h
  obtain⟨ti,z,h1,h2,h3⟩:=(hT.get mD).one hag
  rw[hn]at h3
  cases h3
  simp[zeroValue,typeInfo,h1,h2,VK.val]
def vV(T:List (Nat×bJ))(σ:St)(t:Nat)(ok:Bool)(g:Option Bool)(vx vy:AV)(K:AV→Prop):Prop:=match vx,vy with
 |.s (.mp b),.s (.d (.val (.int .i64 k)))=>match aH σ.box b with
  |some (some (.map vk l))=>match cV T t with
   |some ti=>match ti.jS with
    |.map kt et=>bif RH T kt&&(cV T et).isSome then match ok with
     |true=>K (.t [.s (.d (bif L5 l k then vk.dv (getM l k)else .bC)),.s (.d (.val (.bool (L5 l k))))])
     |false=>imp g (L5 l k=true∨zOK T et vk=true)∧K (.s (.d (vk.dv (getM l k))))
     else False
    |_=>False
   |none=>False
  |_=>False
 |_,_=>False
theorem look.spec{T:List (Nat×bJ)}(hT:b5 P T){t:Nat}{x y:Operand}{ok:Bool}(ho:o.op=.lookup t x y ok)(h:fe g (ev σ x) fun va=>fe g (ev σ y) fun vb=>vV T σ t ok g va vb K):
  ∃r,K r∧jL P o σ g r:=by
 replace h:=fe.ev h
 obtain⟨vx,h,rE⟩:=h
 replace h:=fe.ev h
 obtain⟨vy,h,IN⟩:=h
 unfold vV at h
 split at h
 case h_2=>cases h
 rename_i b k
 split at h
 case h_2=>cases h
 rename_i vk l hb
 split at h
 case h_2=>cases h
 rename_i ti fX
 split at h
 case h_2=>cases h
 rename_i kt et hu
 cases hk:(RH T kt&&(cV T et).isSome)with
 |false=>rw[hk]at h;cases h
 |true=>
  rw[hk]at h
  simp only [cond_true]at h
  simp only [Bool.and_eq_true]at hk
  have QR:=RH.spec hT hk.1
  have cS:=(hT.get fX).DN hu
  obtain⟨te,mD⟩:=Option.isSome_iff_exists.1 hk.2
  have lW:=hT.get mD
  have key:∀(ha:act g) cx N M β a w,Inv cx N M β σ a w→∃(v:Value) (z:Value),(zeroValue et).run P w=.ok z w∧(execOp a.eval o).run P w=.ok (.value v) w∧v=(if ok=true then .tuple #[((oA l k).map vk.val).getD z,.bool (L5 l k)]else((oA l k).map vk.val).getD z):=by
   intro ha cx N M β a w i
   obtain⟨bb,c,e1,ex⟩:=rE ha cx N M β a w i
   obtain⟨b',c',e2,hh⟩:=i.box b _ hb
   rw[e1]at e2;cases e2
   have ey:a.eval y=.int .i64 k:=IN ha cx N M β a w i
   obtain⟨z,hz,_⟩:=lW.vN w
   have jC:(Instr.checkKey (iD vk l 0).toArray.isEmpty 10000 kt (.int .i64 k)).run P w=.ok () w:=run_checkKey w QR _ k 9999
   have nS:=run_findKey (P:=P) w QR vk k l
   have hf:=D3 vk k l 0
   cases hfa:findAt vk l k 0 with
   |none=>
    rw[hfa]at nS hf
    have hf:(oA l k).map vk.val=none:=hf.symm
    have hn:oA l k=none:=by simpa using hf
    refine⟨_,z,hz,?_,rfl⟩
    simp only [List.isEmpty_toArray]at jC
    simp only [execOp,ho,ex,ey]
    simp[Instr.lookup,run_underlying cS,MapKept.run_getObj_map hh,jC,nS,hz,hn,L5]
   |some pr=>
    obtain⟨p,u⟩:=pr
    rw[hfa]at nS hf
    have hf:(oA l k).map vk.val=some u:=hf.symm
    obtain⟨n,hn,T8⟩:=Option.map_eq_some_iff.1 hf
    refine⟨_,z,hz,?_,rfl⟩
    simp only [List.isEmpty_toArray]at jC
    simp only [execOp,ho,ex,ey]
    simp[Instr.lookup,run_underlying cS,MapKept.run_getObj_map hh,jC,nS,hn,T8,L5]
  cases ok with
  |true=>
   refine⟨_,h,fun ha cx N M β a w i=>?_⟩
   obtain⟨v,z,_,aV,hv⟩:=key ha cx N M β a w i
   refine⟨v,aV,_,hv,?_,rfl,trivial⟩
   show(bif L5 l k then vk.dv (getM l k)else .bC).a7 M (((oA l k).map vk.val).getD z)
   unfold L5 getM
   cases oA l k with
   |none=>trivial
   |some n=>exact VK.tL vk n M
  |false=>
   refine⟨_,h.2,fun ha cx N M β a w i=>?_⟩
   obtain⟨v,z,hz,aV,hv⟩:=key ha cx N M β a w i
   refine⟨v,aV,?_⟩
   rw[hv]
   cases hn:oA l k with
   |some n=>
    simp only [hn,getM,Option.getD_some,Option.map_some]
    exact VK.tL vk n M
   |none=>
    have hh:=(h.1.get ha).resolve_left (by unfold L5;rw[hn];simp)
    have:=hz.symm.trans (zOK.spec hT hh w)
    cases this
    simp only [hn,getM,Option.getD_none,Option.map_none]
    exact VK.tL vk 0 M
theorem entry.spec{x:Operand}(ho:o.op=.entry x)(h:fe g (ev σ x) fun va=>SA σ va K):∃r,K r∧jL P o σ g r:=by
 replace h:=fe.ev h
 obtain⟨vx,h,rE⟩:=h
 unfold SA at h
 split at h
 case h_2=>cases h
 rename_i b
 split at h
 case h_2=>cases h
 rename_i m n j seen hb
 split at h
 case h_2=>cases h
 rename_i vk l hm
 obtain⟨hl,hj,h⟩:=h
 subst hl
 refine⟨_,h,fun ha cx N M β a w i=>?_⟩
 obtain⟨bb,c,e1,ex⟩:=rE ha cx N M β a w i
 obtain⟨b',c',bm,cm,e2,em,hh⟩:=i.box b _ hb
 rw[e1]at e2;cases e2
 obtain⟨bm',cm',PT,hhm⟩:=i.box m _ hm
 rw[em]at PT;cases PT
 have fR:j<(iD vk l 0).length:=by rw[wK];exact hj
 have hg:=List.getElem?_eq_getElem fR
 obtain⟨_,k2⟩:=wL vk l 0 j _ hg
 rw[Nat.zero_add]at k2
 have j0:=List.getElem_mem fR
 generalize (iD vk l 0)[j]=e at*
 subst k2
 have pO:(j::seen).reverse.toArray=seen.reverse.toArray.push j:=sM
 rw[pO]at hh
 have aV:=run_entry_at (P:=P) w bb bm l.length seen.reverse.toArray (iD vk l 0).toArray l.length {key:=.int .i64 (l.getD j (0,0)).1,val:=vk.val (l.getD j (0,0)).2,born:=j} hh hhm (by simpa using j0) (by
  rw[show(iD vk l 0).toArray.toList=iD vk l 0 from rfl,KJ]
  exact List.nodup_range')
 exact⟨.tuple #[.int .i64 (l.getD j (0,0)).1,vk.val (l.getD j (0,0)).2],by simp[execOp,ho,ex,aV],[.int .i64 (l.getD j (0,0)).1,vk.val (l.getD j (0,0)).2],rfl,rfl,VK.tL _ _ _,trivial⟩
end
theorem bytes_beq(a b:ByteArray):(a==b)=decide (a=b):=by
 cases a with|mk a=>cases b with|mk b=>
 show(a==b)=_
 rw[Bool.eq_iff_iff]
 simp
instance:LawfulBEq ByteArray where
 eq_of_beq:=fun {a b} h=>by rw[bytes_beq]at h;simpa using h
 rfl:=fun {a}=>by rw[bytes_beq];simp
def mU:List (ByteArray×Int)→ByteArray→Option Int
 |[],_=>none
 |(a,v)::r,k=>bif k==a then some v else mU r k
def UC(l:List (ByteArray×Int))(k:ByteArray):Bool:=(mU l k).isSome
def jB(l:List (ByteArray×Int))(k:ByteArray):Int:=(mU l k).getD 0
def jG:List (ByteArray×Int)→ByteArray→Int→List (ByteArray×Int)
 |[],k,v=>[(k,v)]
 |(a,u)::r,k,v=>bif k==a then(a,v)::r else(a,u)::jG r k v
def xR(T:List (Nat×bJ))(k:Nat):Bool:=match cV T k with
 |some tk=>match tk.jS with
  |.string=>true
  |_=>false
 |none=>false
theorem xR.spec{P:Program}{T:List (Nat×bJ)}(hT:b5 P T){k:Nat}(h:xR T k=true):P.underlying k=some .string:=by
 unfold xR at h
 split at h
 ·rename_i tk hk
  split at h
  ·rename_i hu;exact(hT.get hk).isString hu
  ·cases h
 ·cases h
def kE(vk:VK):List (ByteArray×Int)→ByteArray→Nat→Option (Nat×Value)
 |[],_,_=>none
 |(a,v)::r,k,i=>bif k==a then some (i,vk.val v)else kE vk r k (i+1)
theorem x6(vk:VK)(k:ByteArray):∀(l:List (ByteArray×Int)) (i:Nat),Instr.findNow .string (.string k) (eF vk l i) i=some (kE vk l k i)
 |[],_=>rfl
 |(a,v)::r,i=>by
  simp only [eF,Instr.findNow,Instr.sameNow,kE]
  cases h:k==a with
  |true=>rfl
  |false=>simp only [cond_false];exact x6 vk k r (i+1)
theorem zW{P:Program}(w:World){kt:TypeId}(hk:P.underlying kt=some .string)(vk:VK)(k:ByteArray)(l:List (ByteArray×Int)):
  (Instr.findKey kt (.string k) (eF vk l 0)).run P w=.ok (kE vk l k 0) w:=by
 simp[Instr.findKey,run_underlying hk,x6]
theorem iV{P:Program}(w:World){kt:TypeId}(hk:P.underlying kt=some .string)(b:Bool)(k:ByteArray)(n:Nat):(Instr.checkKey b (n+1) kt (.string k)).run P w=.ok () w:=by
 simp[Instr.checkKey,run_underlying hk]
theorem A4(vk:VK)(k:ByteArray):∀(l:List (ByteArray×Int)) (i:Nat),(kE vk l k i).map (·.2)=(mU l k).map vk.val
 |[],_=>rfl
 |(a,v)::r,i=>by
  simp only [kE,mU]
  cases h:k==a with
  |true=>rfl
  |false=>simp only [cond_false];exact A4 vk k r (i+1)
theorem tI(vk:VK):∀(l:List (ByteArray×Int)) (i:Nat),(eF vk l i).length=l.length
 |[],_=>rfl
 |(_,_)::r,i=>by simp[eF,tI vk r (i+1)]
theorem HE(vk:VK):∀(l:List (ByteArray×Int)) (i:Nat),(eF vk l i).map (·.born)=List.range' i l.length
 |[],_=>rfl
 |(_,_)::r,i=>by simp[eF,HE vk r (i+1),List.range'_succ]
theorem rZ(vk:VK):∀(l:List (ByteArray×Int)) (i j:Nat) (e:MapEntry),(eF vk l i)[j]? =some e→j<l.length∧e= {key:=.string (l.getD j (⟨#[]⟩,0)).1,val:=vk.val (l.getD j (⟨#[]⟩,0)).2,born:=i+j}
 |[],_,_,_,h=>by simp[eF]at h
 |(a,v)::r,i,0,e,h=>by
  simp[eF]at h
  exact⟨sM,by rw[←h];rfl⟩
 |(a,v)::r,i,j+1,e,h=>by
  have h:(eF vk r (i+1))[j]? =some e:=by simpa [eF]using h
  obtain⟨h1,h2⟩:=rZ vk r (i+1) j e h
  refine⟨by simp;omega,?_⟩
  rw[h2]
  simp
  omega
theorem JE(vk:VK)(k:ByteArray)(v:Int):∀(l:List (ByteArray×Int)) (i j:Nat) (u:Value),kE vk l k i=some (i+j,u)→(∃e,(eF vk l i)[j]? =some e∧e.key=.string k)∧
   (eF vk l i).modify j (fun e=>{e with key:=.string k,val:=vk.val v})=eF vk (jG l k v) i∧(jG l k v).length=l.length
 |[],_,_,_,h=>by cases h
 |(a,b)::r,i,j,u,h=>by
  simp only [kE]at h
  cases hk:k==a with
  |true=>
   rw[hk]at h
   simp only [cond_true,Option.some.injEq,Prod.mk.injEq]at h
   obtain rfl:j=0:=oM
   have:k=a:=by simpa using hk
   subst this
   simp[eF,jG]
  |false=>
   rw[hk]at h
   simp only [cond_false]at h
   have hj:∃q,j=q+1:=by
    cases j with
    |zero=>
     exfalso
     have:∀(l:List (ByteArray×Int)) (i p:Nat) (u:Value),kE vk l k i=some (p,u)→i≤p:=by
      intro l
      induction l with
      |nil=>intro i p u h;cases h
      |cons x r ih=>
       intro i p u h
       obtain⟨a,b⟩:=x
       simp only [kE]at h
       cases hk:k==a with
       |true=>rw[hk]at h;simp only [cond_true,Option.some.injEq,Prod.mk.injEq]at h;omega
       |false=>rw[hk]at h;have:=ih (i+1) p u h;omega
     have:=this r (i+1) _ u h
     omega
    |succ q=>exact⟨q,rfl⟩
   obtain⟨q,rfl⟩:=hj
   obtain⟨⟨e,h1,IS⟩,h2,h3⟩:=JE vk k v r (i+1) q u (by rw[show i+1+q=i+(q+1) by omega];exact h)
   refine⟨⟨e,by simpa [eF]using h1,IS⟩,?_,by simp[jG,hk,h3]⟩
   simp[eF,jG,hk,h2]
theorem JF(vk:VK)(k:ByteArray)(v:Int):∀(l:List (ByteArray×Int)) (i:Nat),kE vk l k i=none→eF vk l i++ [{key:=.string k,val:=vk.val v,born:=i+l.length}]=eF vk (jG l k v) i∧(jG l k v).length=l.length+1
 |[],i,_=>by simp[eF,jG]
 |(a,b)::r,i,h=>by
  simp only [kE]at h
  cases hk:k==a with
  |true=>rw[hk]at h;cases h
  |false=>
   rw[hk]at h
   obtain⟨h1,h2⟩:=JF vk k v r (i+1) h
   have e:i+(r.length+1)=i+1+r.length:=oM
   simp[eF,jG,hk,h2,←h1,e]
section
variable{P:Program}{σ:St}{K:AV→aO→Prop}{o:Oper}
def LO(T:List (Nat×bJ))(σ:St)(d t:Nat)(K:AV→aO→Prop):Prop:=
 match cV T t with
 |some ti=>match ti.jS with
  |.map k e=>match aH8 T e with
   |some vk=>bif xR T k then match aH σ.box d with
    |none=>K (.s (.mp d)) ((d,some (.smap vk []))::σ.box)
    |some _=>False
    else False
   |none=>False
  |_=>False
 |none=>False
theorem aGC.spec{T:List (Nat×bJ)}{d t:Nat}(ho:o.op=.makeMap t none)(h:LO T σ d t K):∃r bx,K r bx∧I5 P o σ r bx:=by
 unfold LO at h
 split at h
 case h_2=>cases h
 split at h
 case h_2=>cases h
 split at h
 case h_2=>cases h
 rename_i vk hvk
 cases hk:xR T _ with
 |false=>rw[hk]at h;cases h
 |true=>
  rw[hk]at h
  simp only [cond_true]at h
  split at h
  case h_2=>cases h
  rename_i hd
  refine⟨_,_,h,fun cx N M β a w i=>?_⟩
  have aV:(execOp a.eval o).run P w=.ok (.value (.map (some w.heap.size))) (w.alloc (.map #[] 0)):=by
   simp[execOp,ho,run_makeMap]
  obtain⟨β',h1,h2,h3,h4⟩:=i.new (w':=w.alloc (.map #[] 0)) (c:=(0,0)) hd (ob:=.map #[] 0) rfl rfl rfl rfl (bc:=.smap vk []) (by
   intro β' e _
   exact⟨_,_,e,heap_alloc_new w _⟩)
  exact⟨_,_,M,β',.inl aV,⟨_,_,h1,rfl⟩,h3,Grow.refl _ _,h4⟩
def YI(T:List (Nat×bJ))(σ:St)(t:Nat)(x y z:Operand)(K:AV→aO→Prop):Prop:=
 fe none (ev σ x) fun vx=>fe none (ev σ y) fun vy=>fe none (ev σ z) fun vz=>match vx,vy with
  |.s (.mp b),.s (.d (.val (.string k)))=>match aH σ.box b with
   |some (some (.smap vk l))=>match cV T t with
    |some ti=>match ti.jS with
     |.map kt _=>bif xR T kt then match SB vk vz with
      |some n=>K (.s (.d .bC)) ((b,some (.smap vk (jG l k n)))::σ.box)
      |none=>False
      else False
     |_=>False
    |none=>False
   |_=>False
  |_,_=>False
theorem aK8.spec{T:List (Nat×bJ)}(hT:b5 P T){t:Nat}{x y z:Operand}(ho:o.op=.mapUpdate t x y z)(h:YI T σ t x y z K):∃r bx,K r bx∧I5 P o σ r bx:=by
 unfold YI at h
 replace h:=fe.ev h
 obtain⟨vx,h,rE⟩:=h
 replace h:=fe.ev h
 obtain⟨vy,h,IN⟩:=h
 replace h:=fe.ev h
 obtain⟨vz,h,hrz⟩:=h
 split at h
 case h_2=>cases h
 rename_i b k
 split at h
 case h_2=>cases h
 rename_i vk l hb
 split at h
 case h_2=>cases h
 rename_i ti fX
 split at h
 case h_2=>cases h
 rename_i kt et hu
 cases hk:xR T kt with
 |false=>rw[hk]at h;cases h
 |true=>
  rw[hk]at h
  simp only [cond_true]at h
  split at h
  case h_2=>cases h
  rename_i n hn
  have QR:=xR.spec hT hk
  have cS:=(hT.get fX).DN hu
  refine⟨_,_,h,fun cx N M β a w i=>?_⟩
  obtain⟨bb,c,e1,ex⟩:=rE iS cx N M β a w i
  obtain⟨b',c',e2,hh⟩:=i.box b _ hb
  rw[e1]at e2;cases e2
  have ey:a.eval y=.string k:=IN iS cx N M β a w i
  have ez:a.eval z=vk.val n:=SB.spec hn (hrz iS cx N M β a w i)
  have jC:(Instr.checkKey false 10000 kt (.string k)).run P w=.ok () w:=iV w QR false k 9999
  have nS:=zW (P:=P) w QR vk k l
  have WL:(Instr.mapUpdate t (.map (some bb)) (.string k) (vk.val n)).run P w=.ok () (setBlock w bb (.map (eF vk (jG l k n) 0).toArray (jG l k n).length)):=by
   cases hf:kE vk l k 0 with
   |none=>
    rw[hf]at nS
    obtain⟨q1,q2⟩:=JF vk k n l 0 hf
    have e3:((eF vk l 0).toArray.push {key:=.string k,val:=vk.val n,born:=l.length})=(eF vk (jG l k n) 0).toArray:=by
     rw[←q1];simp
    simp[Instr.mapUpdate,run_underlying cS,MapKept.run_getObj_map hh,jC,nS,e3,fQ hh,q2]
   |some pr=>
    obtain⟨p,u⟩:=pr
    rw[hf]at nS
    obtain⟨⟨e,q0,q0'⟩,q1,q2⟩:=JE vk k n l 0 p u (by rw[Nat.zero_add];exact hf)
    have GY:(Instr.keyThatStays (.string k) (.string k)).run P w=.ok (.string k) w:=by simp[Instr.keyThatStays,Instr.sameBits]
    have e3:(eF vk l 0).modify p (fun e=>{key:=.string k,val:=vk.val n,born:=e.born})=eF vk (jG l k n) 0:=q1
    have e4:(((eF vk l 0).toArray[p]?).map (·.key)).getD (.string k)=.string k:=by simp[q0,q0']
    simp only [List.getElem?_toArray]at e4
    simp[Instr.mapUpdate,run_underlying cS,MapKept.run_getObj_map hh,jC,nS,e4,GY,e3,fQ hh,q2]
  have aV:(execOp a.eval o).run P w=.ok .skip (setBlock w bb (.map (eF vk (jG l k n) 0).toArray (jG l k n).length)):=by
   simp[execOp,ho,ex,ey,ez,WL]
  have hw:=i.write (bc':=.smap vk (jG l k n)) hb e1 (w':=setBlock w bb (.map (eF vk (jG l k n) 0).toArray (jG l k n).length)) (fO _ _ _) (fun j hj=>eT _ _ _ hj) rfl rfl rfl
   ⟨bb,c,e1,iN hh⟩
  exact⟨undef,_,M,β,.inr ⟨aV,rfl⟩,trivial,hw.1,Grow.refl _ _,hw.2⟩
def LD(T:List (Nat×bJ))(σ:St)(d t:Nat)(x:Operand)(K:AV→aO→Prop):Prop:=
 fe none (ev σ x) fun vx=>match vx with
  |.s (.mp b)=>match aH σ.box b with
   |some (some (.smap _ l))=>match cV T t with
    |some ti=>match ti.jS with
     |.map _ _=>match aH σ.box d with
      |none=>K (.s (.ptr d 0)) ((d,some (.iter b l.length []))::σ.box)
      |some _=>False
     |_=>False
    |none=>False
   |_=>False
  |_=>False
theorem aFY.spec{T:List (Nat×bJ)}(hT:b5 P T){d t:Nat}{x:Operand}(ho:o.op=.range t x)(h:LD T σ d t x K):∃r bx,K r bx∧I5 P o σ r bx:=by
 unfold LD at h
 replace h:=fe.ev h
 obtain⟨vx,h,rE⟩:=h
 split at h
 case h_2=>cases h
 rename_i b
 split at h
 case h_2=>cases h
 rename_i vk l hb
 split at h
 case h_2=>cases h
 rename_i ti fX
 split at h
 case h_2=>cases h
 rename_i kt et hu
 have cS:=(hT.get fX).DN hu
 split at h
 case h_2=>cases h
 rename_i hd
 refine⟨_,_,h,fun cx N M β a w i=>?_⟩
 obtain⟨bb,c,e1,ex⟩:=rE iS cx N M β a w i
 obtain⟨b',c',e2,hh⟩:=i.box b _ hb
 rw[e1]at e2;cases e2
 have aV:(execOp a.eval o).run P w=.ok (.value (.pointer (some ⟨w.heap.size,0,none⟩))) (w.alloc (.mapIter (some bb) l.length #[] l.length)):=by
  simp[execOp,ho,ex,run_range_map w t kt et bb _ _ cS hh]
 obtain⟨β',h1,h2,h3,h4⟩:=i.new (w':=w.alloc (.mapIter (some bb) l.length #[] l.length)) (c:=(0,0)) hd (ob:=.mapIter (some bb) l.length #[] l.length) rfl rfl rfl rfl (bc:=.iter b l.length []) (by
  intro β' e hle
  exact⟨_,_,_,_,e,hle _ _ e1,heap_alloc_new w _⟩)
 exact⟨_,_,M,β',.inl aV,⟨_,_,h1,rfl⟩,h3,Grow.refl _ _,h4⟩
def RA(σ:St)(x:Operand)(K:AV→aO→Prop):Prop:=
 fe none (ev σ x) fun vx=>match vx with
  |.s (.ptr b 0)=>match aH σ.box b with
   |some (some (.iter m n seen))=>match aH σ.box m with
    |some (some (.smap vk l))=>l.length=n∧((∀i,i<n→i∈seen)→K (.t [.s (.d (.lit false))]) σ.box)∧
      (∀i,i<n→i∉seen→K (.t [.s (.d (.lit true)),.s (.d (.val (.string (l.getD i (⟨#[]⟩,0)).1))),.s (.d (vk.dv (l.getD i (⟨#[]⟩,0)).2))]) ((b,some (.iter m n (i::seen)))::σ.box))
    |_=>False
   |_=>False
  |_=>False
theorem aIS.spec{x:Operand}(ho:o.op=.next x false)(h:RA σ x K){cx:Cx}{N:Nat}{M:Mem}{β:Nm}{a:Act}{w:World}(i:Inv cx N M β σ a w):
  ∃r bx,K r bx∧∃v w',(execOp a.eval o).run P w=.ok (.value v) w'∧r.a7 M β v∧Inv cx N M β ⟨σ.env,bx⟩ a w'∧b6 cx w w':=by
 unfold RA at h
 replace h:=fe.ev h
 obtain⟨vx,h,rE⟩:=h
 split at h
 case h_2=>cases h
 rename_i b
 split at h
 case h_2=>cases h
 rename_i m n seen hb
 split at h
 case h_2=>cases h
 rename_i vk l hm
 obtain⟨hl,h1,h2⟩:=h
 subst hl
 obtain⟨bb,c,e1,ex⟩:=rE iS cx N M β a w i
 obtain⟨b',c',bm,cm,e2,em,hh⟩:=i.box b _ hb
 rw[e1]at e2;cases e2
 obtain⟨bm',cm',PT,hhm⟩:=i.box m _ hm
 rw[em]at PT;cases PT
 have hold:∀x∈(eF vk l 0).toArray.toList,x.born<l.length:=by
  intro x hx
  obtain⟨j,hj⟩:=List.getElem?_of_mem hx
  obtain⟨k1,k2⟩:=rZ vk l 0 j x (by simpa using hj)
  rw[k2];simpa using k1
 have j0:∀e,e∈(leftOf (eF vk l 0).toArray seen.reverse.toArray).toList↔∃j,j<l.length∧j∉seen∧e= {key:=.string (l.getD j (⟨#[]⟩,0)).1,val:=vk.val (l.getD j (⟨#[]⟩,0)).2,born:=j}:=by
  intro e
  unfold leftOf
  simp only [Array.toList_filter,List.mem_filter]
  constructor
  ·rintro⟨hx,hs⟩
   obtain⟨j,hj⟩:=List.getElem?_of_mem hx
   obtain⟨k1,k2⟩:=rZ vk l 0 j e (by simpa using hj)
   rw[Nat.zero_add]at k2
   refine⟨j,k1,?_,k2⟩
   rw[k2]at hs
   simpa using hs
  ·rintro⟨j,hj,hs,rfl⟩
   refine⟨?_,by simpa using hs⟩
   have fR:j<(eF vk l 0).length:=by rw[tI];exact hj
   have hg:=List.getElem?_eq_getElem fR
   obtain⟨_,k2⟩:=rZ vk l 0 j _ hg
   rw[Nat.zero_add]at k2
   rw[←k2]
   exact List.getElem_mem fR
 rcases run_next_at (P:=P) w o.type bb bm l.length l.length seen.reverse.toArray (eF vk l 0).toArray l.length hh hhm hold (Nat.le_refl _)with⟨hz,aV⟩|⟨e,he,w1,T5,aV⟩
 ·refine⟨_,_,h1 (fun j hj=>?_),_,w,by simp[execOp,ho,ex,aV],⟨[.bool false],rfl,rfl,trivial⟩,i,b6.refl _ _⟩
  refine Classical.byContradiction fun hs=>?_
  have:=(j0 _).2 ⟨j,hj,hs,rfl⟩
  have RR:(leftOf (eF vk l 0).toArray seen.reverse.toArray).toList=[]:=List.eq_nil_of_length_eq_zero (by rw[Array.length_toList];exact hz)
  rw[RR]at this
  cases this
 ·obtain⟨j,hj,hs,rfl⟩:=(j0 e).1 he
  obtain⟨q1,q2,q3,q4⟩:=tM T5
  have hh1:w1.heap[bb]? =some (.mapIter (some bm) l.length seen.reverse.toArray l.length):=by rw[q1];exact hh
  have pO:seen.reverse.toArray.push j=(j::seen).reverse.toArray:=sM
  have O4:(execOp a.eval o).run P w=.ok (.value (.tuple #[.bool true,.string (l.getD j (⟨#[]⟩,0)).1,vk.val (l.getD j (⟨#[]⟩,0)).2])) (setBlock w1 bb (.mapIter (some bm) l.length (j::seen).reverse.toArray l.length)):=by
   rw[←pO];simp[execOp,ho,ex,aV]
  have hw:=i.write (bc':=.iter m l.length (j::seen)) hb e1 (w':=setBlock w1 bb (.mapIter (some bm) l.length (j::seen).reverse.toArray l.length)) (by rw[fO,q1]) (fun k hk=>by rw[eT _ _ _ hk,q1]) q2 q3 q4
   ⟨bb,c,bm,cm,e1,em,iN hh1⟩ trivial
  exact⟨_,_,h2 j hj hs,_,_,O4,⟨_,rfl,rfl,rfl,VK.tL _ _ _,trivial⟩,hw.1,hw.2⟩
end
section
variable{P:Program}{σ:St}{g:Option Bool}{K:AV→Prop}{o:Oper}
def MC(σ:St)(va:AV)(K:AV→Prop):Prop:=match va with
 |.s (.ptr b 0)=>match aH σ.box b with
  |some (some (.iter m n (i::_)))=>match aH σ.box m with
   |some (some (.smap vk l))=>l.length=n∧i<l.length∧K (.t [.s (.d (.val (.string (l.getD i (⟨#[]⟩,0)).1))),.s (.d (vk.dv (l.getD i (⟨#[]⟩,0)).2))])
   |_=>False
  |_=>False
 |_=>False
def pK(T:List (Nat×bJ))(σ:St)(t:Nat)(ok:Bool)(_g:Option Bool)(vx vy:AV)(K:AV→Prop):Prop:=match vx,vy with
 |.s (.mp b),.s (.d (.val (.string k)))=>match aH σ.box b with
  |some (some (.smap vk l))=>match cV T t with
   |some ti=>match ti.jS with
    |.map kt et=>bif xR T kt&&zOK T et vk then match ok with
     |true=>K (.t [.s (.d (vk.dv (jB l k))),.s (.d (.val (.bool (UC l k))))])
     |false=>K (.s (.d (vk.dv (jB l k))))
     else False
    |_=>False
   |none=>False
  |_=>False
 |_,_=>False
theorem aIW.spec{T:List (Nat×bJ)}(hT:b5 P T){t:Nat}{x y:Operand}{ok:Bool}(ho:o.op=.lookup t x y ok)(h:fe g (ev σ x) fun va=>fe g (ev σ y) fun vb=>pK T σ t ok g va vb K):
  ∃r,K r∧jL P o σ g r:=by
 replace h:=fe.ev h
 obtain⟨vx,h,rE⟩:=h
 replace h:=fe.ev h
 obtain⟨vy,h,IN⟩:=h
 unfold pK at h
 split at h
 case h_2=>cases h
 rename_i b k
 split at h
 case h_2=>cases h
 rename_i vk l hb
 split at h
 case h_2=>cases h
 rename_i ti fX
 split at h
 case h_2=>cases h
 rename_i kt et hu
 cases hk:(xR T kt&&zOK T et vk)with
 |false=>rw[hk]at h;cases h
 |true=>
  rw[hk]at h
  simp only [cond_true]at h
  simp only [Bool.and_eq_true]at hk
  have QR:=xR.spec hT hk.1
  have cS:=(hT.get fX).DN hu
  have key:∀(ha:act g) cx N M β a w,Inv cx N M β σ a w→(execOp a.eval o).run P w=.ok (.value (if ok=true then .tuple #[vk.val (jB l k),.bool (UC l k)]else vk.val (jB l k))) w:=by
   intro ha cx N M β a w i
   obtain⟨bb,c,e1,ex⟩:=rE ha cx N M β a w i
   obtain⟨b',c',e2,hh⟩:=i.box b _ hb
   rw[e1]at e2;cases e2
   have ey:a.eval y=.string k:=IN ha cx N M β a w i
   have hz:=zOK.spec hT hk.2 w
   have jC:(Instr.checkKey (eF vk l 0).toArray.isEmpty 10000 kt (.string k)).run P w=.ok () w:=iV w QR _ k 9999
   have nS:=zW (P:=P) w QR vk k l
   have hf:=A4 vk k l 0
   cases hfa:kE vk l k 0 with
   |none=>
    rw[hfa]at nS hf
    have hf:(mU l k).map vk.val=none:=hf.symm
    have hn:mU l k=none:=by simpa using hf
    simp only [List.isEmpty_toArray]at jC
    simp only [execOp,ho,ex,ey]
    cases ok <;> simp[Instr.lookup,run_underlying cS,MapKept.run_getObj_map hh,jC,nS,hz,hn,UC,jB]
   |some pr=>
    obtain⟨p,u⟩:=pr
    rw[hfa]at nS hf
    have hf:(mU l k).map vk.val=some u:=hf.symm
    obtain⟨n,hn,T8⟩:=Option.map_eq_some_iff.1 hf
    simp only [List.isEmpty_toArray]at jC
    simp only [execOp,ho,ex,ey]
    cases ok <;> simp[Instr.lookup,run_underlying cS,MapKept.run_getObj_map hh,jC,nS,hn,T8,UC,jB]
  cases ok with
  |true=>exact⟨_,h,fun ha cx N M β a w i=>⟨_,key ha cx N M β a w i,_,rfl,VK.tL vk _ M,rfl,trivial⟩⟩
  |false=>exact⟨_,h,fun ha cx N M β a w i=>⟨_,key ha cx N M β a w i,VK.tL vk _ M⟩⟩
theorem aG3.spec{x:Operand}(ho:o.op=.entry x)(h:fe g (ev σ x) fun va=>MC σ va K):∃r,K r∧jL P o σ g r:=by
 replace h:=fe.ev h
 obtain⟨vx,h,rE⟩:=h
 unfold MC at h
 split at h
 case h_2=>cases h
 rename_i b
 split at h
 case h_2=>cases h
 rename_i m n j seen hb
 split at h
 case h_2=>cases h
 rename_i vk l hm
 obtain⟨hl,hj,h⟩:=h
 subst hl
 refine⟨_,h,fun ha cx N M β a w i=>?_⟩
 obtain⟨bb,c,e1,ex⟩:=rE ha cx N M β a w i
 obtain⟨b',c',bm,cm,e2,em,hh⟩:=i.box b _ hb
 rw[e1]at e2;cases e2
 obtain⟨bm',cm',PT,hhm⟩:=i.box m _ hm
 rw[em]at PT;cases PT
 have fR:j<(eF vk l 0).length:=by rw[tI];exact hj
 have hg:=List.getElem?_eq_getElem fR
 obtain⟨_,k2⟩:=rZ vk l 0 j _ hg
 rw[Nat.zero_add]at k2
 have j0:=List.getElem_mem fR
 generalize (eF vk l 0)[j]=e at*
 subst k2
 have pO:(j::seen).reverse.toArray=seen.reverse.toArray.push j:=sM
 rw[pO]at hh
 have aV:=run_entry_at (P:=P) w bb bm l.length seen.reverse.toArray (eF vk l 0).toArray l.length {key:=.string (l.getD j (⟨#[]⟩,0)).1,val:=vk.val (l.getD j (⟨#[]⟩,0)).2,born:=j} hh hhm (by simpa using j0) (by
  rw[show(eF vk l 0).toArray.toList=eF vk l 0 from rfl,HE]
  exact List.nodup_range')
 exact⟨.tuple #[.string (l.getD j (⟨#[]⟩,0)).1,vk.val (l.getD j (⟨#[]⟩,0)).2],by simp[execOp,ho,ex,aV],[.string (l.getD j (⟨#[]⟩,0)).1,vk.val (l.getD j (⟨#[]⟩,0)).2],rfl,rfl,VK.tL _ _ _,trivial⟩
end
theorem uU.len{M:Mem}:∀{l:List (ByteArray×Nat×DV)} {vs:List Value},uU M l vs→l.length=vs.length
 |[],[],_=>rfl
 |(_,_,_)::_,_::_,h=>congrArg (· +1) (uU.len h.2)
 |[],_::_,h=>h.elim
 |(_,_,_)::_,[],h=>h.elim
theorem CS{M:Mem}:∀{l:List (ByteArray×Nat×DV)} {vs:List Value},uU M l vs→∀e,e∈k8 l vs↔∃(j:Nat) (q:ByteArray×Nat×DV) (v:Value),l[j]? =some q∧vs[j]? =some v∧e= {key:=.string q.1,val:=v,born:=q.2.1}
 |[],[],_,e=>by simp[k8]
 |(k,b,x)::r,v::vs,h,e=>by
  simp only [k8,List.mem_cons,CS h.2 e]
  constructor
  ·rintro(rfl|⟨j,q,u,h1,h2,h3⟩)
   ·exact⟨0,(k,b,x),v,rfl,rfl,rfl⟩
   ·exact⟨j+1,q,u,h1,h2,h3⟩
  ·rintro⟨j,q,u,h1,h2,h3⟩
   cases j with
   |zero=>cases h1;cases h2;exact .inl h3
   |succ j=>exact .inr ⟨j,q,u,h1,h2,h3⟩
 |[],_::_,h,_=>h.elim
 |(_,_,_)::_,[],h,_=>h.elim
theorem uU.get{M:Mem}:∀{l:List (ByteArray×Nat×DV)} {vs:List Value} {j:Nat} {q:ByteArray×Nat×DV} {v:Value},uU M l vs→l[j]? =some q→vs[j]? =some v→q.2.2.a7 M v
 |(k,b,x)::r,v::vs,0,q,u,h,h1,h2=>by cases h1;cases h2;exact h.1
 |(k,b,x)::r,v::vs,j+1,q,u,h,h1,h2=>uU.get (l:=r) (vs:=vs) (j:=j) h.2 h1 h2
 |[],[],_,_,_,_,h1,_=>by simp at h1
 |[],_::_,_,_,_,h,_,_=>h.elim
 |(_,_,_)::_,[],_,_,_,h,_,_=>h.elim
theorem HG{M:Mem}:∀{l:List (ByteArray×Nat×DV)} {vs:List Value},uU M l vs→(k8 l vs).map (·.born)=l.map (·.2.1)
 |[],[],_=>rfl
 |(k,b,x)::r,v::vs,h=>by simp only [k8,List.map_cons,HG h.2]
 |[],_::_,h=>h.elim
 |(_,_,_)::_,[],h=>h.elim
def findD:List (ByteArray×Nat×DV)→ByteArray→Option DV
 |[],_=>none
 |(a,_,v)::r,k=>bif k==a then some v else findD r k
theorem KE{M:Mem}(k:ByteArray):∀(l:List (ByteArray×Nat×DV)) (vs:List Value) (i:Nat),uU M l vs→∃r,Instr.findNow .string (.string k) (k8 l vs) i=some r∧match findD l k with
  |none=>r=none
  |some x=>∃j v,r=some (j,v)∧x.a7 M v
 |[],[],_,_=>⟨none,rfl,rfl⟩
 |(a,b,x)::r,v::vs,i,h=>by
  simp only [k8,Instr.findNow,Instr.sameNow,findD]
  cases hk:k==a with
  |true=>exact⟨_,rfl,_,_,rfl,h.1⟩
  |false=>exact KE k r vs (i+1) h.2
 |[],_::_,_,h=>h.elim
 |(_,_,_)::_,[],_,h=>h.elim
section
variable{P:Program}{σ:St}{K:AV→aO→Prop}{o:Oper}
def LF(T:List (Nat×bJ))(σ:St)(d t:Nat)(x:Operand)(K:AV→aO→Prop):Prop:=
 fe none (ev σ x) fun vx=>match vx with
  |.s (.mp b)=>match aH σ.box b with
   |some (some (.dm _ n))=>match cV T t with
    |some ti=>match ti.jS with
     |.map _ _=>match aH σ.box d with
      |none=>K (.s (.ptr d 0)) ((d,some (.iter b n []))::σ.box)
      |some _=>False
     |_=>False
    |none=>False
   |_=>False
  |_=>False
theorem aFZ.spec{T:List (Nat×bJ)}(hT:b5 P T){d t:Nat}{x:Operand}(ho:o.op=.range t x)(h:LF T σ d t x K):∃r bx,K r bx∧I5 P o σ r bx:=by
 unfold LF at h
 replace h:=fe.ev h
 obtain⟨vx,h,rE⟩:=h
 split at h
 case h_2=>cases h
 rename_i b
 split at h
 case h_2=>cases h
 rename_i l n hb
 split at h
 case h_2=>cases h
 rename_i ti fX
 split at h
 case h_2=>cases h
 rename_i kt et hu
 have cS:=(hT.get fX).DN hu
 split at h
 case h_2=>cases h
 rename_i hd
 refine⟨_,_,h,fun cx N M β a w i=>?_⟩
 obtain⟨bb,c,e1,ex⟩:=rE iS cx N M β a w i
 obtain⟨b',c',vs,e2,hh,hr⟩:=i.box b _ hb
 rw[e1]at e2;cases e2
 have aV:(execOp a.eval o).run P w=.ok (.value (.pointer (some ⟨w.heap.size,0,none⟩))) (w.alloc (.mapIter (some bb) n #[] n)):=by
  simp[execOp,ho,ex,run_range_map w t kt et bb _ _ cS hh]
 obtain⟨β',h1,h2,h3,h4⟩:=i.new (w':=w.alloc (.mapIter (some bb) n #[] n)) (c:=(0,0)) hd (ob:=.mapIter (some bb) n #[] n) rfl rfl rfl rfl (bc:=.iter b n []) (by
  intro β' e hle
  exact⟨_,_,_,_,e,hle _ _ e1,heap_alloc_new w _⟩)
 exact⟨_,_,M,β',.inl aV,⟨_,_,h1,rfl⟩,h3,Grow.refl _ _,h4⟩
def RB(σ:St)(x:Operand)(K:AV→aO→Prop):Prop:=
 fe none (ev σ x) fun vx=>match vx with
  |.s (.ptr b 0)=>match aH σ.box b with
   |some (some (.iter m n seen))=>match aH σ.box m with
    |some (some (.dm l c))=>c=n∧(∀q∈l,q.2.1<n)∧((∀q∈l,q.2.1∈seen)→K (.t [.s (.d (.lit false))]) σ.box)∧
      (∀q∈l,q.2.1∉seen→K (.t [.s (.d (.lit true)),.s (.d (.val (.string q.1))),.s (.d q.2.2)]) ((b,some (.iter m n (q.2.1::seen)))::σ.box))
    |_=>False
   |_=>False
  |_=>False
theorem aIT.spec{x:Operand}(ho:o.op=.next x false)(h:RB σ x K){cx:Cx}{N:Nat}{M:Mem}{β:Nm}{a:Act}{w:World}(i:Inv cx N M β σ a w):
  ∃r bx,K r bx∧∃v w',(execOp a.eval o).run P w=.ok (.value v) w'∧r.a7 M β v∧Inv cx N M β ⟨σ.env,bx⟩ a w'∧b6 cx w w':=by
 unfold RB at h
 replace h:=fe.ev h
 obtain⟨vx,h,rE⟩:=h
 split at h
 case h_2=>cases h
 rename_i b
 split at h
 case h_2=>cases h
 rename_i m n seen hb
 split at h
 case h_2=>cases h
 rename_i l c0 hm
 obtain⟨rfl,fR,h1,h2⟩:=h
 obtain⟨bb,c,e1,ex⟩:=rE iS cx N M β a w i
 obtain⟨b',c',bm,cm,e2,em,hh⟩:=i.box b _ hb
 rw[e1]at e2;cases e2
 obtain⟨bm',cm',vs,PT,hhm,T9⟩:=i.box m _ hm
 rw[em]at PT;cases PT
 have hmm:=CS T9
 have hold:∀x∈(k8 l vs).toArray.toList,x.born<c0:=by
  intro x hx
  obtain⟨j,q,v,k1,_,k2⟩:=(hmm x).1 hx
  rw[k2];exact fR q (List.mem_of_getElem? k1)
 have j0:∀e,e∈(leftOf (k8 l vs).toArray seen.reverse.toArray).toList↔∃(j:Nat) (q:ByteArray×Nat×DV) (v:Value),l[j]? =some q∧vs[j]? =some v∧q.2.1∉seen∧e= {key:=.string q.1,val:=v,born:=q.2.1}:=by
  intro e
  unfold leftOf
  simp only [Array.toList_filter,List.mem_filter]
  constructor
  ·rintro⟨hx,hs⟩
   obtain⟨j,q,v,k1,k2,k3⟩:=(hmm e).1 hx
   refine⟨j,q,v,k1,k2,?_,k3⟩
   rw[k3]at hs
   simpa using hs
  ·rintro⟨j,q,v,k1,k2,k3,rfl⟩
   exact⟨(hmm _).2 ⟨j,q,v,k1,k2,rfl⟩,by simpa using k3⟩
 rcases run_next_at (P:=P) w o.type bb bm c0 c0 seen.reverse.toArray (k8 l vs).toArray c0 hh hhm hold (Nat.le_refl _)with⟨hz,aV⟩|⟨e,he,w1,T5,aV⟩
 ·refine⟨_,_,h1 (fun q hq=>?_),_,w,by simp[execOp,ho,ex,aV],⟨[.bool false],rfl,rfl,trivial⟩,i,b6.refl _ _⟩
  refine Classical.byContradiction fun hs=>?_
  obtain⟨j,hj⟩:=List.getElem?_of_mem hq
  have rF:j<vs.length:=by rw[←T9.len];exact(List.getElem?_eq_some_iff.1 hj).1
  have:=(j0 _).2 ⟨j,q,vs[j],hj,List.getElem?_eq_getElem rF,hs,rfl⟩
  have RR:(leftOf (k8 l vs).toArray seen.reverse.toArray).toList=[]:=List.eq_nil_of_length_eq_zero (by rw[Array.length_toList];exact hz)
  rw[RR]at this
  cases this
 ·obtain⟨j,q,v,k1,k2,k3,rfl⟩:=(j0 e).1 he
  obtain⟨q1,q2,q3,q4⟩:=tM T5
  have hh1:w1.heap[bb]? =some (.mapIter (some bm) c0 seen.reverse.toArray c0):=by rw[q1];exact hh
  have pO:seen.reverse.toArray.push q.2.1=(q.2.1::seen).reverse.toArray:=sM
  have O4:(execOp a.eval o).run P w=.ok (.value (.tuple #[.bool true,.string q.1,v])) (setBlock w1 bb (.mapIter (some bm) c0 (q.2.1::seen).reverse.toArray c0)):=by
   rw[←pO];simp[execOp,ho,ex,aV]
  have hw:=i.write (bc':=.iter m c0 (q.2.1::seen)) hb e1 (w':=setBlock w1 bb (.mapIter (some bm) c0 (q.2.1::seen).reverse.toArray c0)) (by rw[fO,q1]) (fun k hk=>by rw[eT _ _ _ hk,q1]) q2 q3 q4
   ⟨bb,c,bm,cm,e1,em,iN hh1⟩ trivial
  exact⟨_,_,h2 q (List.mem_of_getElem? k1) k3,_,_,O4,⟨_,rfl,rfl,rfl,T9.get k1 k2,trivial⟩,hw.1,hw.2⟩
end
section
variable{P:Program}{σ:St}{g:Option Bool}{K:AV→Prop}{o:Oper}
def MD(σ:St)(va:AV)(K:AV→Prop):Prop:=match va with
 |.s (.ptr b 0)=>match aH σ.box b with
  |some (some (.iter m n (i::_)))=>match aH σ.box m with
   |some (some (.dm l c))=>c=n∧(l.map (·.2.1)).Nodup∧∃q,q∈l∧q.2.1=i∧K (.t [.s (.d (.val (.string q.1))),.s (.d q.2.2)])
   |_=>False
  |_=>False
 |_=>False
theorem aG4.spec{x:Operand}(ho:o.op=.entry x)(h:fe g (ev σ x) fun va=>MD σ va K):∃r,K r∧jL P o σ g r:=by
 replace h:=fe.ev h
 obtain⟨vx,h,rE⟩:=h
 unfold MD at h
 split at h
 case h_2=>cases h
 rename_i b
 split at h
 case h_2=>cases h
 rename_i m n j seen hb
 split at h
 case h_2=>cases h
 rename_i l c0 hm
 obtain⟨rfl,hnd,q,hq,rfl,h⟩:=h
 refine⟨_,h,fun ha cx N M β a w i=>?_⟩
 obtain⟨bb,c,e1,ex⟩:=rE ha cx N M β a w i
 obtain⟨b',c',bm,cm,e2,em,hh⟩:=i.box b _ hb
 rw[e1]at e2;cases e2
 obtain⟨bm',cm',vs,PT,hhm,T9⟩:=i.box m _ hm
 rw[em]at PT;cases PT
 obtain⟨j,hj⟩:=List.getElem?_of_mem hq
 have rF:j<vs.length:=by rw[←T9.len];exact(List.getElem?_eq_some_iff.1 hj).1
 have hv:=List.getElem?_eq_getElem rF
 have j0:=(CS T9 {key:=.string q.1,val:=vs[j],born:=q.2.1}).2 ⟨j,q,vs[j],hj,hv,rfl⟩
 have pO:(q.2.1::seen).reverse.toArray=seen.reverse.toArray.push q.2.1:=sM
 rw[pO]at hh
 have aV:=run_entry_at (P:=P) w bb bm c0 seen.reverse.toArray (k8 l vs).toArray c0 {key:=.string q.1,val:=vs[j],born:=q.2.1} hh hhm (by simpa using j0) (by
  rw[show(k8 l vs).toArray.toList=k8 l vs from rfl,HG T9]
  exact hnd)
 exact⟨.tuple #[.string q.1,vs[j]],by simp[execOp,ho,ex,aV],[.string q.1,vs[j]],rfl,rfl,T9.get hj hv,trivial⟩
def AO(T:List (Nat×bJ))(σ:St)(op:Op):Option (List (ByteArray×Nat×DV)×ByteArray):=match op with
 |.lookup t x y false=>match ev σ x,ev σ y with
  |.s (.mp b),.s (.d (.val (.string k)))=>match aH σ.box b with
   |some (some (.dm l _))=>match cV T t with
    |some ti=>match ti.jS with
     |.map kt et=>bif xR T kt&&(match cV T et with|some te=>(match te.zero with|[.slice none 0 0]=> !te.agg|_=>false)|none=>false)then some (l,k)else none
     |_=>none
    |none=>none
   |_=>none
  |_,_=>none
 |_=>none
def aIA:Option DV→DV
 |some x=>x
 |none=>.val (.slice none 0 0)
theorem AO.spec{T:List (Nat×bJ)}(hT:b5 P T){l:List (ByteArray×Nat×DV)}{k:ByteArray}(h:AO T σ o.op=some (l,k)){cx:Cx}{N:Nat}{M:Mem}{β:Nm}{a:Act}{w:World}(i:Inv cx N M β σ a w):
  ∃v,(execOp a.eval o).run P w=.ok (.value v) w∧(aIA (findD l k)).a7 M v:=by
 unfold AO at h
 split at h
 case h_2=>cases h
 rename_i t x y nY
 split at h
 case h_2=>cases h
 rename_i b k' hx hy
 split at h
 case h_2=>cases h
 rename_i l' n hb
 split at h
 case h_2=>cases h
 rename_i ti fX
 split at h
 case h_2=>cases h
 rename_i kt et hu
 cases hc:(xR T kt&&(match cV T et with|some te=>(match te.zero with|[.slice none 0 0]=> !te.agg|_=>false)|none=>false))with
 |false=>rw[hc]at h;cases h
 |true=>
  rw[hc]at h
  simp only [cond_true,Option.some.injEq,Prod.mk.injEq]at h
  obtain⟨rfl,rfl⟩:=h
  simp only [Bool.and_eq_true]at hc
  have QR:=xR.spec hT hc.1
  have cS:=(hT.get fX).DN hu
  have hz:(zeroValue et).run P w=.ok (.slice none 0 0) w:=by
   have h2:=hc.2
   split at h2
   case h_2=>cases h2
   rename_i te mD
   split at h2
   case h_2=>cases h2
   rename_i hzz
   obtain⟨ti,z,q1,q2,q3⟩:=(hT.get mD).one (by simpa using h2)
   rw[hzz]at q3
   cases q3
   simp[zeroValue,typeInfo,q1,q2]
  have rx:=ev.rep i x
  have ry:=ev.rep i y
  rw[hx]at rx;rw[hy]at ry
  obtain⟨bb,c,e1,ex⟩:=rx
  have ey:a.eval y=.string k':=ry
  obtain⟨b',c',vs,e2,hh,T9⟩:=i.box b _ hb
  rw[e1]at e2;cases e2
  have jC:∀b,(Instr.checkKey b 10000 kt (.string k')).run P w=.ok () w:=fun b=>iV w QR b k' 9999
  obtain⟨r,hr1,WH⟩:=KE k' l' vs 0 T9
  have nS:(Instr.findKey kt (.string k') (k8 l' vs)).run P w=.ok r w:=by simp[Instr.findKey,run_underlying QR,hr1]
  cases hf:findD l' k' with
  |none=>
   rw[hf]at WH
   subst WH
   refine⟨.slice none 0 0,?_,rfl⟩
   simp only [execOp,nY,ex,ey]
   simp[Instr.lookup,run_underlying cS,MapKept.run_getObj_map hh,jC,nS,hz]
  |some xv=>
   rw[hf]at WH
   obtain⟨j,v,rfl,hv⟩:=WH
   refine⟨v,?_,hv⟩
   simp only [execOp,nY,ex,ey]
   simp[Instr.lookup,run_underlying cS,MapKept.run_getObj_map hh,jC,nS]
end
def V7(T:List (Nat×bJ))(t:Nat):Bool:=match cV T t with
 |some ti=>match ti.jS with
  |.map k _=>xR T k
  |_=>false
 |none=>false
def aI6(σ:St)(x:Operand):Bool:=match ev σ x with
 |.s (.ptr b 0)=>match aH σ.box b with
  |some (some (.iter m _ _))=>match aH σ.box m with
   |some (some (.smap _ _))=>true
   |_=>false
  |_=>false
 |_=>false
def aLY(σ:St)(x:Operand):Bool:=match ev σ x with
 |.s (.mp b)=>match aH σ.box b with
  |some (some (.dm _ _))=>true
  |_=>false
 |_=>false
def aI7(σ:St)(x:Operand):Bool:=match ev σ x with
 |.s (.ptr b 0)=>match aH σ.box b with
  |some (some (.iter m _ _))=>match aH σ.box m with
   |some (some (.dm _ _))=>true
   |_=>false
  |_=>false
 |_=>false
def GG(T:List (Nat×bJ))(σ:St)(d t:Nat)(K:AV→aO→Prop):Prop:=match V7 T t with
 |true=>LO T σ d t K
 |false=>RC T σ d t K
def YJ(T:List (Nat×bJ))(σ:St)(t:Nat)(x y z:Operand)(K:AV→aO→Prop):Prop:=match V7 T t with
 |true=>YI T σ t x y z K
 |false=>aFI T σ t x y z K
def FX(T:List (Nat×bJ))(σ:St)(d t:Nat)(x:Operand)(K:AV→aO→Prop):Prop:=match aLY σ x with
 |true=>LF T σ d t x K
 |false=>match V7 T t with
  |true=>LD T σ d t x K
  |false=>Q7 T σ d t x K
def OA(σ:St)(x:Operand)(K:AV→aO→Prop):Prop:=match aI7 σ x with
 |true=>RB σ x K
 |false=>match aI6 σ x with
  |true=>RA σ x K
  |false=>ZP σ x K
def HH(σ:St)(x:Operand)(K:AV→Prop):Prop:=match aI7 σ x with
 |true=>fe none (ev σ x) fun va=>MD σ va K
 |false=>match aI6 σ x with
  |true=>fe none (ev σ x) fun va=>MC σ va K
  |false=>fe none (ev σ x) fun va=>SA σ va K
def qK(T:List (Nat×bJ))(σ:St)(t:Nat)(ok:Bool)(g:Option Bool)(va vb:AV)(K:AV→Prop):Prop:=match V7 T t with
 |true=>pK T σ t ok g va vb K
 |false=>vV T σ t ok g va vb K
section
variable{P:Program}{T:List (Nat×bJ)}{σ:St}{o:Oper}
theorem GG.spec{K:AV→aO→Prop}{d t:Nat}(ho:o.op=.makeMap t none)(h:GG T σ d t K):∃r bx,K r bx∧I5 P o σ r bx:=by
 unfold GG at h
 split at h
 ·exact aGC.spec ho h
 ·exact mkMap.spec ho h
theorem YJ.spec{K:AV→aO→Prop}(hT:b5 P T){t:Nat}{x y z:Operand}(ho:o.op=.mapUpdate t x y z)(h:YJ T σ t x y z K):∃r bx,K r bx∧I5 P o σ r bx:=by
 unfold YJ at h
 split at h
 ·exact aK8.spec hT ho h
 ·exact YK.spec hT ho h
theorem FX.spec{K:AV→aO→Prop}(hT:b5 P T){d t:Nat}{x:Operand}(ho:o.op=.range t x)(h:FX T σ d t x K):∃r bx,K r bx∧I5 P o σ r bx:=by
 unfold FX at h
 split at h
 ·exact aFZ.spec hT ho h
 split at h
 ·exact aFY.spec hT ho h
 ·exact range.spec hT ho h
theorem OA.spec{K:AV→aO→Prop}{x:Operand}(ho:o.op=.next x false)(h:OA σ x K){cx:Cx}{N:Nat}{M:Mem}{β:Nm}{a:Act}{w:World}(i:Inv cx N M β σ a w):
  ∃r bx,K r bx∧∃v w',(execOp a.eval o).run P w=.ok (.value v) w'∧r.a7 M β v∧Inv cx N M β ⟨σ.env,bx⟩ a w'∧b6 cx w w':=by
 unfold OA at h
 split at h
 ·exact aIT.spec ho h i
 split at h
 ·exact aIS.spec ho h i
 ·exact next.spec ho h i
theorem HH.spec{K:AV→Prop}{x:Operand}(ho:o.op=.entry x)(h:HH σ x K):∃r,K r∧jL P o σ none r:=by
 unfold HH at h
 split at h
 ·exact aG4.spec ho h
 split at h
 ·exact aG3.spec ho h
 ·exact entry.spec ho h
theorem qK.spec{g:Option Bool}{K:AV→Prop}(hT:b5 P T){t:Nat}{x y:Operand}{ok:Bool}(ho:o.op=.lookup t x y ok)(h:fe g (ev σ x) fun va=>fe g (ev σ y) fun vb=>qK T σ t ok g va vb K):
  ∃r,K r∧jL P o σ g r:=by
 unfold qK at h
 split at h
 ·exact aIW.spec hT ho h
 ·exact look.spec hT ho h
end
end Go.Ax
namespace Go.Ax
open Go.RowKit
theorem yG(P:Program)(w:World)(t ty e:TypeId)(i:TypeInfo)(ht:P.underlying t=some (.slice e))(hi:P.info? e=some i)
  (g o CB Q3:Nat) (cur:Array Value) (hg:w.heap[g]? =some (.cells cur e (0,0)))
  (a:Addr) (m c:Nat) (news:List Value) (hl:news.length=m*i.size) (aJF:∀j u,news[j]? =some u→w.cell? (a.add j)=some u) (h1:∀u∈news,u.oneCell'=true)
  (qL:CB+m≤Q3) (nK:o+CB*i.size+news.length≤cur.size):
  (Builtin.append_ #[t,t] ty #[.slice (some ⟨g,o,none⟩) CB Q3,.slice (some a) m c]).run P w=
   .ok (.slice (some ⟨g,o,none⟩) (CB+m) Q3) (w.setRow g (cur.toList.take (o+CB*i.size)++news++cur.toList.drop (o+CB*i.size+news.length)).toArray):=by
 have hf:=run_firstCells_some (P:=P) w i.size m a m c news hl aJF
 have jE:=run_storeCells_at P g (o+CB*i.size) e news 0 cur w hg (by simpa using nK) h1
 simp only [Nat.add_zero]at jE
 simp[Builtin.append_,run_underlying ht,sizeOf,typeInfo,hi,Builtin.lenOf,qL,hf,jK,jE]
section
variable{P:Program}{σ:St}{K:AV→aO→Prop}{o:Oper}
def aBY(T:List (Nat×bJ))(σ:St)(d t:Nat)(x y:Operand)(K:AV→aO→Prop):Prop:=
 fe none (ev σ x) fun vx=>fe none (ev σ y) fun vy=>match cV T t with
  |some ti=>match ti.jS with
   |.slice e=>match cV T e with
    |some te=>match aH σ.box d with
     |none=>match qS σ vy with
      |some (m,s',g)=>bif Nat.beq s' te.size&&Nat.blt 0 te.size&&Nat.blt 0 te.bytes&&Nat.beq te.zero.length te.size then
       match vx with
       |.s (.jQ b s2 lo n)=>match aH σ.box b with
        |some (some (.row e' _ s f))=>bif Nat.beq e' e&&Nat.beq s te.size&&Nat.beq s2 te.size then
          0≤m∧(lo+n+m)*te.bytes≤140737488355328∧fitAll m s' g∧
          K (.s (.jQ d te.size lo (n+m))) ((d,some (.row e (lo+n+m) te.size (kM (lo+n) f g)))::(b,none)::σ.box)∧
          K (.s (.jQ d te.size 0 (n+m))) ((d,some (.row e (n+m) te.size (kM n (fun i=>f (lo+i)) g)))::(b,none)::σ.box)
          else False
        |_=>False
       |_=>False
       else False
      |none=>False
     |some _=>False
    |none=>False
   |_=>False
  |none=>False
theorem aM4.spec{T:List (Nat×bJ)}(hT:b5 P T){d t:Nat}{x y:Operand}(ho:o.op=.call {callee:=.builtin .append,args:= #[x,y],argTypes:= #[t,t]})
  (h:aBY T σ d t x y K) {cx:Cx} {N:Nat} {M:Mem} {β:Nm} {a:Act} {w:World} (i:Inv cx N M β σ a w):∃r bx,K r bx∧MZ P o σ cx N M a w r bx:=by
 unfold aBY at h
 replace h:=fe.ev h
 obtain⟨vx,h,rE⟩:=h
 replace h:=fe.ev h
 obtain⟨vy,h,IN⟩:=h
 split at h
 case h_2=>cases h
 rename_i ti fX
 have fT:=hT.get fX
 split at h
 case h_2=>cases h
 rename_i e hu
 have cS:P.underlying t=some (.slice e):=fT.isSlice hu
 split at h
 case h_2=>cases h
 rename_i te mD
 have lW:=hT.get mD
 split at h
 case h_2=>cases h
 rename_i hd
 split at h
 case h_2=>cases h
 rename_i m s' g wF
 cases hc:(Nat.beq s' te.size&&Nat.blt 0 te.size&&Nat.blt 0 te.bytes&&Nat.beq te.zero.length te.size)with
 |false=>rw[hc]at h;cases h
 |true=>
  rw[hc]at h
  simp only [cond_true]at h
  simp only [Bool.and_eq_true]at hc
  have c1:=Nat.eq_of_beq_eq_true hc.1.1.1
  have c2:0<te.size:=Nat.le_of_ble_eq_true hc.1.1.2
  have c3:0<te.bytes:=Nat.le_of_ble_eq_true hc.1.2
  have c4:=Nat.eq_of_beq_eq_true hc.2
  subst c1
  obtain⟨ie,z,DW,xT,PB,QS,J5⟩:=lW.J0
  have IM:z.cells.size=te.size:=by rw[←Array.length_toList,J5,c4]
  have run:∀(w':World) (r:Value),(Builtin.append_ #[t,t] o.type #[a.eval x,a.eval y]).run P w=.ok r w'→(execOp a.eval o).run P w=.ok (.value r) w':=by
   intro w' r h
   simp[execOp,ho,resolve,invoke,builtin,h]
  split at h
  case h_2=>cases h
  rename_i b s2 lo n
  split at h
  case h_2=>cases h
  rename_i e' n0 s f hb
  cases o7:(Nat.beq e' e&&Nat.beq s te.size&&Nat.beq s2 te.size)with
  |false=>rw[o7]at h;cases h
  |true=>
   rw[o7]at h
   simp only [cond_true]at h
   simp only [Bool.and_eq_true]at o7
   have k1:=(Nat.eq_of_beq_eq_true o7.1.1).symm
   have k2:=Nat.eq_of_beq_eq_true o7.1.2
   have k3:=Nat.eq_of_beq_eq_true o7.2
   subst k1;subst k2;subst k3
   obtain⟨_,lX,nK,hK1,hK2⟩:=h
   obtain⟨k,c,o',e1,ex,hoo,hln,uN⟩:=rE iS cx N M β a w i
   obtain⟨k',c',cur,e2,hh,hlen,lT,hn0,H6,cN⟩:=i.box b _ hb
   rw[e1]at e2;cases e2
   obtain⟨ad,cap,ey,hy⟩:=qS.rep i wF (IN iS cx N M β a w i)
   by_cases hm0:m=0
   ·subst hm0
    have DT:(Builtin.append_ #[t,t] o.type #[a.eval x,a.eval y]).run P w=.ok (.slice (some ⟨k,o',none⟩) (n+0) (c.1 - lo)) w:=by
     have hf:(Builtin.firstCells te.size 0 (.slice ad 0 cap)).run P w=.ok #[] w:=by
      cases ad <;> simp[Builtin.firstCells,loadCells,loadCellsFrom]
     have hn:n≤c.1 - lo:=oM
     rw[ex,ey]
     simp[Builtin.append_,run_underlying cS,sizeOf,typeInfo,DW,xT,Builtin.lenOf,hn,hf,storeCells]
    obtain⟨β',iR,GX,hinv,pP⟩:=i.move (c':=(c.1,lo+n+0)) (bc':=.row e (lo+n+0) te.size (kM (lo+n) f g)) hb e1 hd
     (w':=w) rfl (fun j hj=>rfl) rfl rfl rfl (by
      intro β' iR _
      refine⟨k,_,_,iR,hh,rfl,lT,by show lo+n+0≤c.1;omega,H6,fun p j hp hj=>?_⟩
      obtain⟨u,hu,hr⟩:=cN p j oM hj
      exact⟨u,hu,by unfold kM;rw[if_pos oM];exact hr⟩)
    exact⟨_,_,hK1,_,_,M,β',.inl (run _ _ DT),⟨k,_,o',iR,rfl,hoo,by show lo+(n+0)≤lo+n+0;omega,by show lo+n+0≤c.1;omega⟩,hinv,Grow.refl _ _,pP⟩
   have hm:0<m:=oM
   obtain⟨bad,news,rfl,hl,jV,oX⟩:=CJ c2 hm hy
   have hnm:lo+n+m≤140737488355328:=Nat.le_trans (Nat.le_mul_of_pos_right _ c3) lX
   have h1:∀u∈news,u.oneCell'=true:=by
    intro u hu
    obtain⟨j,hj⟩:=List.getElem?_of_mem hu
    have rF:j<m*te.size:=by have:=(List.getElem?_eq_some_iff.1 hj).1;omega
    have h1:j / te.size<m:=Nat.div_lt_of_lt_mul (by rw[Nat.mul_comm];exact rF)
    obtain⟨v,hv,hr⟩:=oX (j / te.size) (j%te.size) h1 (Nat.mod_lt _ c2)
    have e:j / te.size*te.size+j%te.size=j:=by rw[Nat.mul_comm];exact Nat.div_add_mod j te.size
    rw[e,hj]at hv;cases hv
    have wH:=nK (j / te.size) (j%te.size) h1 (Nat.mod_lt _ c2)
    exact DV.a7.kD hr (by cases hx:g (j / te.size) (j%te.size) <;> rw[hx]at wH <;> first|exact wH|rfl|cases wH)
   by_cases qL:lo+n+m≤c.1
   ·
    have CP:lo<c.1:=oM
    have qW:=hoo CP
    subst qW
    have aI9:(lo+n)*te.size+m*te.size≤cur.size:=by rw[lT,←Nat.add_mul];exact Nat.mul_le_mul_right _ qL
    have hmul:lo*te.size+n*te.size=(lo+n)*te.size:=(Nat.add_mul _ _ _).symm
    have DT:=yG P w t o.type e ie cS DW k (lo*te.size) n (c.1 - lo) cur hh bad m cap news (by rw[xT];exact hl) jV h1 oM (by rw[xT,hl,hmul];exact aI9)
    rw[xT,hmul,←ex,←ey]at DT
    have RN:(cur.toList.take ((lo+n)*te.size)).length=(lo+n)*te.size:=by simp;omega
    obtain⟨β',iR,GX,hinv,pP⟩:=i.move (c':=(c.1,lo+n+m)) (bc':=.row e (lo+n+m) te.size (kM (lo+n) f g)) hb e1 hd
     (w':=w.setRow k (cur.toList.take ((lo+n)*te.size)++news++cur.toList.drop ((lo+n)*te.size+news.length)).toArray) sM (fun j hj=>setRow_other w k j _ hj) rfl rfl rfl (by
      intro β' iR _
      refine⟨k,_,_,iR,setRow_heap w k cur _ e _ hh,rfl,by simp;omega,qL,H6,fun p j hp hj=>?_⟩
      simp only [List.getElem?_toArray,kM]
      by_cases O6:p<lo+n
      ·obtain⟨u,hu,hr⟩:=cN p j oM hj
       have fR:p*te.size+j<(lo+n)*te.size:=by
        have:(p+1)*te.size≤(lo+n)*te.size:=Nat.mul_le_mul_right _ O6
        rw[Nat.succ_mul]at this;omega
       refine⟨u,?_,by rw[if_pos O6];exact hr⟩
       rw[List.append_assoc,List.getElem?_append_left oM,List.getElem?_take_of_lt fR]
       simpa using hu
      ·obtain⟨u,hu,hr⟩:=oX (p - (lo+n)) j oM hj
       refine⟨u,?_,by rw[if_neg O6];exact hr⟩
       have hpe:p*te.size+j=(lo+n)*te.size+((p - (lo+n))*te.size+j):=by
        have:p=lo+n+(p - (lo+n)):=oM
        rw[←Nat.add_assoc,←Nat.add_mul,←this]
       have fR:(p - (lo+n))*te.size+j<m*te.size:=by
        have:(p - (lo+n)+1)*te.size≤m*te.size:=Nat.mul_le_mul_right _ oM
        rw[Nat.succ_mul]at this;omega
       rw[hpe,List.append_assoc,List.getElem?_append_right oM,RN,Nat.add_sub_cancel_left,List.getElem?_append_left oM]
       exact hu)
    exact⟨_,_,hK1,_,_,M,β',.inl (run _ _ DT),⟨k,_,_,iR,rfl,fun _=>rfl,by show lo+(n+m)≤lo+n+m;omega,qL⟩,hinv,Grow.refl _ _,pP⟩
   ·
    have aAN:((cur.toList.drop (lo*te.size)).take (n*te.size)).length=n*te.size:=by
     have:(lo+n)*te.size≤c.1*te.size:=Nat.mul_le_mul_right _ oM
     rw[Nat.add_mul]at this
     simp;omega
    have QT:=run_append_grow (P:=P) w t o.type e ie z cS DW QS ⟨k,o',none⟩ n (c.1 - lo) ((cur.toList.drop (lo*te.size)).take (n*te.size)) (by rw[xT];exact aAN) (by
     intro j v hv
     rw[List.getElem?_take]at hv
     split at hv
     ·rename_i hj
      have aNA:0<n:=by
       rcases Nat.eq_zero_or_pos n with h0|h0
       ·rw[h0]at hj;simp at hj
       ·exact h0
      rw[hoo oM,jK]
      rw[List.getElem?_drop]at hv
      simp[World.cell?,hh];simpa using hv
     ·cases hv) bad m cap news (by rw[xT];exact hl) jV oM oM (by
     rw[PB];exact growslice_fits oM (Nat.le_trans (Nat.mul_le_mul_right _ oM) lX))
    rw[←ex,←ey]at QT
    have EL:=grownCap_ge w (n+m) (c.1 - lo) e
    have RZ:=grownCap_le_maxLen w (n+m) (c.1 - lo) e (by unfold maxLen;omega)
    have ik:=i.kill hb
    have hd':aH ((b,none)::σ.box) d=none:=by
     rw[aL,if_neg (fun h=>by subst h;rw[hd]at hb;cases hb)]
     exact hd
    obtain⟨β',q1,q2,q3,q4⟩:=ik.new (σ:=⟨σ.env,(b,none)::σ.box⟩) (c:=(grownCap w (n+m) (c.1 - lo) e,n+m)) (w':=w.drew.alloc (.cells (((cur.toList.drop (lo*te.size)).take (n*te.size)).toArray++news.toArray++Builtin.zeroCells z.cells (grownCap w (n+m) (c.1 - lo) e - (n+m))) e)) hd' rfl rfl rfl rfl (bc:=.row e (n+m) te.size (kM n (fun i=>f (lo+i)) g)) (by
     intro β' iR _
     refine⟨_,_,_,iR,heap_alloc_new w.drew _,rfl,?_,EL,RZ,fun p j hp hj=>?_⟩
     ·simp only [Array.size_append,List.size_toArray,size_zeroCells,IM,hl,aAN,←Nat.add_mul]
      congr 1;omega
     ·have mI:(((cur.toList.drop (lo*te.size)).take (n*te.size)).toArray++news.toArray++Builtin.zeroCells z.cells (grownCap w (n+m) (c.1 - lo) e - (n+m)))[p*te.size+j]? =((cur.toList.drop (lo*te.size)).take (n*te.size)++(news++(Builtin.zeroCells z.cells (grownCap w (n+m) (c.1 - lo) e - (n+m))).toList))[p*te.size+j]? :=by
       rw[←Array.getElem?_toList]
       simp
      rw[mI]
      simp only [kM]
      by_cases O6:p<n
      ·obtain⟨u,hu,hr⟩:=cN (lo+p) j oM hj
       have fR:p*te.size+j<n*te.size:=by
        have:(p+1)*te.size≤n*te.size:=Nat.mul_le_mul_right _ O6
        rw[Nat.succ_mul]at this;omega
       refine⟨u,?_,by rw[if_pos O6];exact hr⟩
       rw[List.getElem?_append_left oM,List.getElem?_take_of_lt fR,List.getElem?_drop]
       rw[show lo*te.size+(p*te.size+j)=(lo+p)*te.size+j by rw[Nat.add_mul];omega]
       simpa using hu
      ·obtain⟨u,hu,hr⟩:=oX (p - n) j oM hj
       refine⟨u,?_,by rw[if_neg O6];exact hr⟩
       have hpe:p*te.size+j=n*te.size+((p - n)*te.size+j):=by
        have:p=n+(p - n):=oM
        rw[←Nat.add_assoc,←Nat.add_mul,←this]
       have fR:(p - n)*te.size+j<m*te.size:=by
        have:(p - n+1)*te.size≤m*te.size:=Nat.mul_le_mul_right _ oM
        rw[Nat.succ_mul]at this;omega
       rw[hpe,List.getElem?_append_right oM,aAN,Nat.add_sub_cancel_left,List.getElem?_append_left oM]
       exact hu)
    exact⟨_,_,hK2,_,_,M,β',.inl (run _ _ QT),⟨_,_,0,q1,rfl,fun _=>by simp,by show 0+(n+m)≤n+m;omega,EL⟩,q3,Grow.refl _ _,q4⟩
def aBZ(T:List (Nat×bJ))(σ:St)(d t t':Nat)(x y:Operand)(K:AV→aO→Prop):Prop:=
 fe none (ev σ x) fun vx=>fe none (ev σ y) fun vy=>match vx,vy with
  |.s (.d (.val (.slice none 0 0))),.s (.d (.val (.int .i64 n)))=>match cV T t with
   |some ti=>match ti.jS with
    |.slice e=>match cV T e with
     |some te=>bif RH T t'&&Nat.beq te.size 1&&Nat.blt 0 te.bytes&&Nat.beq te.zero.length 1 then match aH σ.box d with
      |none=>0<n∧n*te.bytes≤140737488355328∧K (.s (.own d)) ((d,some (.row e n.toNat 1 fun _ j=>match (iE te.zero)[j]? with|some c=>M9 c|none=>.bC))::σ.box)
      |some _=>False
      else False
     |none=>False
    |_=>False
   |none=>False
  |_,_=>False
theorem aM5.spec{T:List (Nat×bJ)}(hT:b5 P T){d t t':Nat}{x y:Operand}(ho:o.op=.call {callee:=.builtin .append,args:= #[x,y],argTypes:= #[t,t']})
  (h:aBZ T σ d t t' x y K):∃r bx,K r bx∧I5 P o σ r bx:=by
 unfold aBZ at h
 replace h:=fe.ev h
 obtain⟨vx,h,rE⟩:=h
 replace h:=fe.ev h
 obtain⟨vy,h,IN⟩:=h
 split at h
 case h_2=>cases h
 rename_i n
 split at h
 case h_2=>cases h
 rename_i ti fX
 split at h
 case h_2=>cases h
 rename_i e hu
 have cS:=(hT.get fX).isSlice hu
 split at h
 case h_2=>cases h
 rename_i te mD
 have lW:=hT.get mD
 cases hc:(RH T t'&&Nat.beq te.size 1&&Nat.blt 0 te.bytes&&Nat.beq te.zero.length 1)with
 |false=>rw[hc]at h;cases h
 |true=>
  rw[hc]at h
  simp only [cond_true]at h
  simp only [Bool.and_eq_true]at hc
  have ht':=RH.spec hT hc.1.1.1
  have c2:=Nat.eq_of_beq_eq_true hc.1.1.2
  have c3:0<te.bytes:=Nat.le_of_ble_eq_true hc.1.2
  have c4:=Nat.eq_of_beq_eq_true hc.2
  split at h
  case h_2=>cases h
  rename_i hd
  obtain⟨h0,hb,h⟩:=h
  refine⟨_,_,h,fun cx N M β a w i=>?_⟩
  obtain⟨m,rfl⟩:=Int.eq_ofNat_of_zero_le (Int.le_of_lt h0)
  have hm:0<m:=oM
  have ex:a.eval x=.slice none 0 0:=rE iS cx N M β a w i
  have ey:a.eval y=.int .i64 m:=IN iS cx N M β a w i
  obtain⟨ie,z,DW,xT,PB,QS,J5⟩:=lW.J0
  have hzs:z.cells.size=1:=by rw[←Array.length_toList,J5,c4]
  have hmb:m*te.bytes≤140737488355328:=Int.ofNat_le.1 (by rw[Int.natCast_mul];exact hb)
  have hml:m≤140737488355328:=Nat.le_trans (Nat.le_mul_of_pos_right _ c3) hmb
  have hw:IntKind.i64.wrap (m:Int)=m:=IntWalk.i64_in m ⟨oM,oM⟩
  have aAJ:(Builtin.append_ #[t,t'] o.type #[.slice none 0 0,.int .i64 m]).run P w=.ok (.slice (some ⟨w.heap.size,0,none⟩) m (grownCap w m 0 e)) (w.drew.alloc (.cells (Builtin.zeroCells z.cells m++Builtin.zeroCells z.cells (grownCap w m 0 e - m)) e)):=by
   have t1:¬((m:Int)<0):=oM
   have t2:¬((281474976710656:Int)<(m:Int)*te.bytes):=Int.not_lt.2 (Int.le_trans hb dC)
   have t3:¬m=0:=oM
   have t4:¬((9223372036854775807:Int)<(m:Int)):=oM
   have t5:¬(281474976710656<Builtin.nextslicecap m 0*te.bytes):=by rw[nextslicecap_zero hm];omega
   simp[Builtin.append_,run_underlying cS,run_underlying ht',asInt,asIntOf,sizeOf,typeInfo,zeroValue,DW,PB,xT,c2,QS,hw,t1,t2,t3,t4,t5,Question.forced,run_firstCells_none,newRow,grownCap]
  have aV:(execOp a.eval o).run P w=.ok (.value (.slice (some ⟨w.heap.size,0,none⟩) m (grownCap w m 0 e))) (w.drew.alloc (.cells (Builtin.zeroCells z.cells m++Builtin.zeroCells z.cells (grownCap w m 0 e - m)) e)):=by
   simp[execOp,ho,resolve,invoke,builtin,ex,ey,aAJ]
  have EL:=grownCap_ge w m 0 e
  have RZ:=grownCap_le_maxLen w m 0 e (by unfold maxLen;omega)
  have jV:∀q,q<m→(Builtin.zeroCells z.cells m++Builtin.zeroCells z.cells (grownCap w m 0 e - m))[q]? =some z.cells[0]:=by
   intro q hq
   have lT:(Builtin.zeroCells z.cells m).size=m:=by rw[size_zeroCells,hzs,Nat.mul_one]
   rw[Array.getElem?_append_left (by rw[lT];exact hq)]
   unfold Builtin.zeroCells
   simp only [Array.getElem?_map,Array.getElem?_range,hzs,Nat.mul_one,hq,if_true,Option.map_some,Nat.mod_one,getElem!_pos z.cells 0 oM]
  obtain⟨β',b1,b2,b3,b4⟩:=i.new (w':=w.drew.alloc (.cells (Builtin.zeroCells z.cells m++Builtin.zeroCells z.cells (grownCap w m 0 e - m)) e)) (c:=(grownCap w m 0 e,m)) hd (ob:=.cells (Builtin.zeroCells z.cells m++Builtin.zeroCells z.cells (grownCap w m 0 e - m)) e) rfl rfl rfl rfl
   (bc:=.row e m 1 fun _ j=>match (iE te.zero)[j]? with|some c=>M9 c|none=>.bC) (by
   intro β' iR _
   refine⟨_,_,_,iR,heap_alloc_new w.drew _,rfl,?_,EL,RZ,fun k j hk hj=>?_⟩
   ·simp only [Array.size_append,size_zeroCells,hzs];omega
   obtain rfl:j=0:=oM
   refine⟨z.cells[0],by rw[Nat.mul_one,Nat.add_zero];exact jV k hk,?_⟩
   have rF:0<te.zero.length:=by rw[c4];omega
   have hzj:z.cells[0]=te.zero[0]:=by
    have:z.cells.toList[0]? =te.zero[0]? :=by rw[J5]
    have hz0:0<z.cells.size:=oM
    simpa [hz0,rF]using this
   have hlen:(iE te.zero).length=te.zero.length:=by
    have:=(iE.rep M β te.zero).length
    omega
   obtain⟨u,hu,hr⟩:=(iE.rep M β te.zero).get (List.getElem?_eq_getElem (by rw[hlen];exact rF:0<(iE te.zero).length))
   rw[List.getElem?_eq_getElem rF]at hu
   cases hu
   simp only [List.getElem?_eq_getElem (by rw[hlen];exact rF:0<(iE te.zero).length)]
   rw[hzj]
   have had:∀l:List Value,oF (iE l)=true:=by
    intro l
    induction l with
    |nil=>rfl
    |cons v r ih=>cases v <;> exact ih
   have:=oF.M9 (had te.zero) (List.getElem?_eq_getElem (by rw[hlen];exact rF:0<(iE te.zero).length))
   rw[this]at hr
   exact hr)
  exact⟨_,_,M,β',.inl aV,⟨_,_,b1,rfl,EL⟩,b3,Grow.refl _ _,b4⟩
end
end Go.Ax
