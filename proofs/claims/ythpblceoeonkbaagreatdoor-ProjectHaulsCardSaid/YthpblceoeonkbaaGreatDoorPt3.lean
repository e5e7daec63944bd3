/- Part 3: lemmas that the proofs of this seat share; by itself it claims nothing. -/
import Derived.Test.YthpblceoeonkbaaGreatDoorPt2
namespace Go.Ax
open Go.RowKit
def aOA(bx':eV):Exit→St→Prop
 |.ret,σ=>jI σ.box bx'
 |.normal,σ=>jI σ.box bx'
 |_,_=>False
section
variable{P:Program}{T:List (Nat×bV)}
theorem r9{rc:List Nat}{f N:Nat}{fn:Func}{c:Code}{args:List AV}{bx:eV}{bx':eV}(hf:P.funcs[f]? =some fn)(hb:fn.body=some c)(hN:fn.ntmps=N)(eF:∀vs w,(callFunc f vs).run P w=.ok (.enter f vs) w)
  (hT:cD P T) (hm:P.follows .mixedOrders=true) (hl:Nat.ble args.length N=true) (kJ:(bx'.all fun p=>p.2.real)=true) (NA:fn.results.toList=[])
  (h:∀cx:Cx,cx.ref=names bx→ex P T N (names bx) rc cx c (qM args bx) (aOA bx')):bW P f args bx (.t []) bx':=by
 classical
 refine⟨eF,fun M β w vs hG hr hM rJ hβ=>?_⟩
 refine calls_of_wp hf hb ?_
 let cx:Cx:={B:=w.heap.size,ref:=names bx,β0:=β}
 have hlen:=hr.length
 have hl:=Nat.le_of_ble_eq_true hl
 have hex:∀x,x∈names bx→∃p,β x=some p:=fun x hx=>by exact za5
 have i0:Inv cx N M β (qM args bx) {tmps:=vs.toArray++Array.replicate (fn.ntmps - vs.toArray.size) undef,defers:=[]} w:=by exact zb
 refine wp_mono (wpIn_wide.1 (ex.sound hT hm (cx:=cx) rfl c (h cx rfl) M β _ w i0)) ?_
 rintro e a' w' ⟨σ',M',β',hk,i',hg,lB⟩
 have fin:jI σ'.box bx'→a'.defers=[]∧∃v,(results fn a'.tmps).run P w'=.ok v w'∧∃v' M' β',Ending.returned v=.returned v'∧Nm.le β β'∧(AV.t []).bI M' β' v'∧Grow w.heap.size M M'∧lA M' w'∧sE M' β' w' bx'∧
   (∀x b c,x∈names bx'→β' x=some (b,c)→w.heap.size≤b∨∃y c',β y=some (b,c'))∧
   w'.os=w.os∧w'.tape=w.tape∧w'.output=w.output∧w.heap.size≤w'.heap.size∧(∀k,k<w.heap.size→(∀y c,β y≠some (k,c))→w'.heap[k]? =w.heap[k]?)∧Dr w w':=by
  intro qS
  have cQ:∀x,x∈names bx'→∃b,aH σ'.box x=some (some b):=fun x hx=>by exact zaG
  refine⟨i'.defers,.tuple #[],?_,_,M',β',rfl,?_,⟨[],rfl,trivial⟩,hg,i'.mem,?_,?_,lB.os,lB.tape,lB.output,lB.size,?_,lB.drawn⟩
  ·have e0:fn.results= #[]:=by rw[←Array.toArray_toList (xs:=fn.results),NA]
   have:(fn.results.mapM (l6 a'.tmps)).run P w'=.ok #[] w':=by rw[e0];simp only [Array.mapM_empty,Sem.run_pure]
   have e:results fn a'.tmps=(do let vs←fn.results.mapM (l6 a'.tmps);pure (if h:vs.size=1 then vs[0]else .tuple vs)):=by unfold results;congr 1
   rw[e];simp only [Sem.run_bind,this,Result.andThen,Sem.run_pure];rfl
  ·exact zaO
  ·exact vm
  ·exact vg
  ·exact jy
 cases e with
 |ret=>exact fin hk
 |normal=>exact fin hk
 |_=>exact hk.elim
end
def Cx.part(w:World)(ks:List Nat)(β:Nm)(rd:Option Nat)(df:List Deferred):Cx:={B:=w.heap.size,ref:=ks,β0:=β,rd:=rd,df:=df}
section
variable{P:Program}{cx:Cx}{N:Nat}{M:Mem}{β:Nm}{σ:St}{a:Act}{w:World}{ks:List Nat}{rd:Option Nat}{df:List Deferred}
theorem Inv.aFP(i:Inv cx N M β σ a w)(jA:∀x,x∈ks→∃bc,aH σ.box x=some (some bc))(lC:∀x bc,aH σ.box x=some (some bc)→x∈ks)(fJ:∀x,x∈ks→∃p,β x=some p)
  (hdf:a.defers=df):Inv (Cx.part w ks β rd df) N M β σ a w:=by
 refine⟨hdf,i.tmps,⟨Nat.le_refl _,?_⟩,i.env,i.mem,i.keys,i.box,i.inj,i.apart,fun x bc b c hb e=>.inr ⟨x,c,lC x bc hb,e⟩,fun x hx=>⟨rfl,fJ x hx⟩⟩
 obtain⟨bs,h1,h2⟩:=i.heap.tab
 refine⟨bs,h1,fun g t m=>⟨h1.lt m,?_⟩⟩
 rintro⟨x,c,hx,e⟩
 obtain⟨bc,hbc⟩:=jA x hx
 rcases i.low x bc g c hbc e with h|h
 ·have:=(h2 g t m).1;omega
 ·exact(h2 g t m).2 h
theorem cE.back(i:Inv cx N M β σ a w)(jA:∀x,x∈ks→∃bc,aH σ.box x=some (some bc)){w1 w':World}(k:cE (Cx.part w ks β rd df) w1 w'):cE cx w1 w':=by
 refine⟨k.os,k.tape,k.output,k.size,fun b hb hm=>k.block b (Nat.lt_of_lt_of_le hb i.heap.le) ?_,k.drawn⟩;rintro⟨x,c,hx,e⟩;obtain⟨bc,hbc⟩:=jA x hx;rcases i.low x bc b c hbc e with h|h
 ·omega
 exact hm h
theorem Grow.back(i:Inv cx N M β σ a w){M':Mem}(g:Grow w.heap.size M M'):Grow cx.B M M':=
 ⟨g.le,fun b o u e=>(g.new b o u e).imp id (fun h=>Nat.le_trans i.heap.le h)⟩
theorem Inv.back(i:Inv cx N M β σ a w)(jA:∀x,x∈ks→∃bc,aH σ.box x=some (some bc))(aA:∀x,x∈cx.ref→x∈ks)
  {N' N2:Nat} {M':Mem} {β':Nm} {σ':St} {a' a2:Act} {w':World} {aM8:List (Nat×AV)} {rd2:Option Nat} {df2:List Deferred}
  (i':Inv (Cx.part w ks β rd df) N' M' β' σ' a' w') (kb:cE cx w w')
  (hd:a2.defers=df2) (ht:a2.tmps.size=N2) (he:∀t,(fL aM8 t).bI M' β' (a2.tmps.getD t undef)):
  Inv {cx with rd:=rd2,df:=df2} N2 M' β' ⟨aM8,σ'.box⟩ a2 w':=by
 have h:=i.heap.keep kb
 refine⟨hd,ht,⟨h.le,h.tab⟩,he,i'.mem,i'.keys,i'.box,i'.inj,i'.apart,fun x bc b c hb e=>?_,fun x hx=>?_⟩
 ·rcases i'.low x bc b c hb e with h|⟨y,c',hy,ey⟩
  ·exact .inl (Nat.le_trans i.heap.le h)
  obtain⟨by',hby⟩:=jA y hy;exact i.low y by' b c' hby ey
 ·obtain⟨e1,p,e2⟩:=i'.ref x (aA x hx);exact⟨e1.trans (i.ref x hx).1,p,e2⟩
structure aQD(B:Nat→Prop)(w w':World):Prop where
 size:w.heap.size≤w'.heap.size
 same:∀(k:Nat) (o:Obj),¬B k→w.heap[k]? =some o→w'.heap[k]? =some o
theorem Inv.side{B:Nat→Prop}{w':World}(i:Inv cx N M β σ a w)(h:aQD B w w')(hb:∀x bc b c,aH σ.box x=some (some bc)→β x=some (b,c)→¬B b)
  (hM:∀b o u,M b o=some u→¬B b) (hT:∀bs,CU bs w→(∀g t,(g,t)∈tE bs→g<cx.B∧¬cx.xC g)→∀g t,(g,t)∈tE bs→¬B g):Inv cx N M β σ a w':=by
 refine⟨i.defers,i.tmps,⟨Nat.le_trans i.heap.le h.size,?_⟩,i.env,fun b o u e=>?_,i.keys,fun x bc e=>?_,i.inj,i.apart,i.low,i.ref⟩
 ·obtain⟨bs,h1,h2⟩:=i.heap.tab;refine⟨bs,fun g t m=>?_,h2⟩;obtain⟨e,fr,c⟩:=h1 g t m;exact⟨e,fr,h.same g _ (hT bs h1 h2 g t m) c⟩
 ·have hc:=i.mem b o u e;have:w'.heap[b]? =w.heap[b]? :=by
   cases ho:w.heap[b]? with
   |none=>simp[World.cell?,ho]at hc
   |some x=>exact h.same b x (hM b o u e) ho
  simpa [World.cell?,this]using hc
 ·have hh:∀b c,β x=some (b,c)→∀o,w.heap[b]? =some o→w'.heap[b]? =some o:=fun b c eb o ho=>h.same b o (hb x bc b c e eb) ho
  have hr:=i.box x bc e
  cases bc with
  |cells cs=>obtain⟨b,c,vs,T,ex,h1,h2,h3⟩:=hr;exact⟨b,c,vs,T,ex,h1,hh b c h1 _ h2,h3⟩
  |row e' n s f=>obtain⟨b,c,cur,h1,h2,h3⟩:=hr;exact⟨b,c,cur,h1,hh b c h1 _ h2,h3⟩
  |b8 e' n s f=>intro b c h1;obtain⟨cur,h2,h3⟩:=hr b c h1;exact⟨cur,hh b c h1 _ h2,h3⟩
  |map vk l=>obtain⟨b,c,h1,h2⟩:=hr;exact⟨b,c,h1,hh b c h1 _ h2⟩
  |smap vk l=>obtain⟨b,c,h1,h2⟩:=hr;exact⟨b,c,h1,hh b c h1 _ h2⟩
  |dm l n=>obtain⟨b,c,vs,h1,h2,h3⟩:=hr;exact⟨b,c,vs,h1,hh b c h1 _ h2,h3⟩
  |fresh T vs=>obtain⟨b,c,h1,h2⟩:=hr;exact⟨b,c,h1,hh b c h1 _ h2⟩
  |iter m n seen=>obtain⟨b,c,bm,cm,h1,h2,h3⟩:=hr;exact⟨b,c,bm,cm,h1,h2,hh b c h1 _ h3⟩
def UR:Obj→Bool
 |.cells .. =>true
 |.map .. =>true
 |.mapIter .. =>true
 |_=>false
theorem cN.UR{M:Mem}{β:Nm}{w:World}{x b:Nat}{c:Nat×Nat}{bc:jK}(h:cN M β w x bc)(e:β x=some (b,c)):∃o,w.heap[b]? =some o∧Go.Ax.UR o=true:=by
 cases bc with
 |cells cs=>obtain⟨b',c',vs,T,ex,h1,h2,_⟩:=h;rw[h1]at e;cases e;exact⟨_,h2,rfl⟩
 |row e' n s f=>obtain⟨b',c',cur,h1,h2,_⟩:=h;rw[h1]at e;cases e;exact⟨_,h2,rfl⟩
 |b8 e' n s f=>obtain⟨cur,h2,_⟩:=h b c e;exact⟨_,h2,rfl⟩
 |map vk l=>obtain⟨b',c',h1,h2⟩:=h;rw[h1]at e;cases e;exact⟨_,h2,rfl⟩
 |smap vk l=>obtain⟨b',c',h1,h2⟩:=h;rw[h1]at e;cases e;exact⟨_,h2,rfl⟩
 |dm l n=>obtain⟨b',c',vs,h1,h2,_⟩:=h;rw[h1]at e;cases e;exact⟨_,h2,rfl⟩
 |fresh T vs=>obtain⟨b',c',h1,h2⟩:=h;rw[h1]at e;cases e;exact⟨_,h2,rfl⟩
 |iter m n seen=>obtain⟨b',c',bm,cm,h1,_,h3⟩:=h;rw[h1]at e;cases e;exact⟨_,h3,rfl⟩
theorem Inv.off{w':World}(i:Inv cx N M β σ a w)(hs:w.heap.size≤w'.heap.size)(h:∀(k:Nat) (o:Obj),UR o=true→w.heap[k]? =some o→w'.heap[k]? =some o):Inv cx N M β σ a w':=by
 refine i.side (B:=fun k=>∀o:Obj,w.heap[k]? =some o→UR o=false) ⟨hs,fun k o hk ho=>?_⟩ ?_ ?_ ?_
 ·cases hb:UR o with
  |true=>exact h k o hb ho
  |false=>exact absurd (fun o' sO=>by rw[ho]at sO;cases sO;exact hb) hk
 ·intro x bc b c e eb hk;obtain⟨o,ho,hy⟩:=(i.box x bc e).UR eb;rw[hk o ho]at hy;cases hy
 ·intro b o u e hk;have hc:=i.mem b o u e
  cases ho:w.heap[b]? with
  |none=>simp[World.cell?,ho]at hc
  |some x=>
   have:=hk x ho;simp only [World.cell?,ho]at hc
   cases x <;> simp_all [UR]
 intro bs h1 _ g t m hk;obtain⟨e,fr,c⟩:=h1 g t m;have:=hk _ c
 cases this
end
theorem aM.aLE{cx:Cx}{N:Nat}{σ:St}{e n s:Nat}{f:Nat→Nat→DV}{z:Bool}{cs:List SV}(y0 j x:Nat)(hy0:aH σ.box y0=some (some (.cells cs)))(hj:cs[j]? =some (.mo z x))(hz:z=false)(hb:aH σ.box x=some (some (.b8 e n s f))):
  aM cx N σ ⟨σ.env,(x,some (.row e n s f))::σ.box⟩:=by
 intro M β a w i
 obtain⟨_,_,vs,_,_,_,_,hr⟩:=i.box y0 _ hy0
 obtain⟨v,_,r⟩:=hr.get hj
 obtain⟨b,c,hx,hv,hc⟩:=r.2 hz
 obtain⟨cur,h1,h2,h3,h4,h5,h6⟩:=i.box x _ hb b c hx
 have live:∀y bc,aH ((x,some (.row e n s f))::σ.box) y=some (some bc)→∃bc,aH σ.box y=some (some bc):=by exact zbx
 refine⟨β,i.defers,i.tmps,i.heap,?_,i.mem,?_,?_,?_,?_,?_,i.ref⟩
 ·exact i.env
 ·exact xj
 ·exact js
 ·exact zaq
 ·exact zcg
 ·exact zco
section
variable{P:Program}{T:List (Nat×bV)}
end
structure Hid where
 S:Nat→Prop
 F:Mem→World→Prop
 lt:∀M w,F M w→∀k,S k→k<w.heap.size
 loc:∀M M' w w',F M w→Mem.le M M'→(∀k,S k→w'.heap[k]? =w.heap[k]?)→F M' w'
structure mH(cx:Cx)(M:Mem)(β:Nm)(σ:St)(w:World)(H:Hid):Prop where
 holds:H.F M w
 low:∀k,H.S k→cx.B≤k
 apart:∀k,H.S k→∀o,M k o=none
 names:∀x bc b c,aH σ.box x=some (some bc)→β x=some (b,c)→¬H.S b
def yB(cx:Cx)(N:Nat)(M:Mem)(w:World)(K:St→Hid→Prop)(a':Act)(w':World):Prop:=
 ∃σ' M' β' H',K σ' H'∧Inv cx N M' β' σ' a' w'∧mH cx M' β' σ' w' H'∧Grow cx.B M M'∧cE cx w w'
def bS(P:Program)(cx:Cx)(N:Nat)(c:Code)(σ:St)(H:Hid)(K:Exit→St→Hid→Prop):Prop:=
 ∀M β a w,Inv cx N M β σ a w→mH cx M β σ w H→c.wpIn (FW cx.rd) 0 P (fun e a' w'=>yB cx N M w (K e) a' w') a w
theorem yB.trans{cx:Cx}{N:Nat}{M M1:Mem}{w w1:World}{K:St→Hid→Prop}{a':Act}{w':World}(g:Grow cx.B M M1)(k:cE cx w w1)(h:yB cx N M1 w1 K a' w'):yB cx N M w K a' w':=
 let⟨s,M',β',H',h1,h2,h3,h4,h5⟩:=h
 ⟨s,M',β',H',h1,h2,h3,g.trans h4,k.trans h5⟩
def rO(next:St→Hid→Prop)(K:Exit→St→Hid→Prop):Exit→St→Hid→Prop
 |.normal,s,H=>next s H
 |e,s,H=>K e s H
def AN(id:Nat)(K:Exit→St→Hid→Prop):Exit→St→Hid→Prop
 |.exit id',s,H=>bif Nat.beq id' id then K .normal s H else K (.exit id') s H
 |e,s,H=>K e s H
section
variable{P:Program}{cx:Cx}{N:Nat}{σ:St}{H:Hid}{K:Exit→St→Hid→Prop}
theorem bS.mono{c:Code}{K':Exit→St→Hid→Prop}(h:bS P cx N c σ H K)(k:∀e s H,K e s H→K' e s H):bS P cx N c σ H K':=fun M β a w i hi=>
 wpIn_mono (h M β a w i hi) fun _ _ _ ⟨s,M',β',H',h1,h2⟩=>⟨s,M',β',H',k _ _ _ h1,h2⟩
theorem bS.seq{x y:Code}(h:bS P cx N x σ H (rO (fun s H=>bS P cx N y s H K) K)):bS P cx N (.seq x y) σ H K:=by
 intro M β a w i hi;refine wpIn_seq (wpIn_mono (h M β a w i hi) ?_);rintro e a' w' ⟨s,M',β',H',k,i',bC,hM,hk⟩
 cases e with
 |normal=>exact wpIn_mono (k M' β' a' w' i' bC) fun _ _ _ h=>h.trans hM hk
 |exit id=>exact⟨s,M',β',H',k,i',bC,hM,hk⟩
 |goto l=>exact⟨s,M',β',H',k,i',bC,hM,hk⟩
 |ret=>exact⟨s,M',β',H',k,i',bC,hM,hk⟩
 |panic ch=>exact⟨s,M',β',H',k,i',bC,hM,hk⟩
 |outgrown=>exact⟨s,M',β',H',k,i',bC,hM,hk⟩
theorem bS.block{id:Nat}{c:Code}(h:bS P cx N c σ H (AN id K)):bS P cx N (.block id c) σ H K:=by
 intro M β a w i hi;refine wpIn_block (wpIn_mono (h M β a w i hi) ?_);rintro e a' w' ⟨s,M',β',H',k,r⟩
 cases e with
 |exit id'=>
  by_cases hid:id'=id
  ·subst hid;simp only [AN,Nat.beq_refl,cond_true]at k;simp only [Exit.inBlock,if_true];exact⟨s,M',β',H',k,r⟩
  simp only [AN,UU hid,cond_false]at k;simp only [Exit.inBlock,hid,if_false];exact⟨s,M',β',H',k,r⟩
 |_=>exact⟨s,M',β',H',k,r⟩
theorem bS.skip(h:K .normal σ H):bS P cx N .skip σ H K:=fun M β _ _ i hi=>wpIn_skip ⟨σ,M,β,H,h,i,hi,Grow.refl _ _,cE.refl _ _⟩
theorem bS.ret(h:K .ret σ H):bS P cx N .ret σ H K:=fun M β _ _ i hi=>wpIn_ret ⟨σ,M,β,H,h,i,hi,Grow.refl _ _,cE.refl _ _⟩
theorem bS.exit{id:Nat}(h:K (.exit id) σ H):bS P cx N (.exit id) σ H K:=fun M β _ _ i hi=>wpIn_exit ⟨σ,M,β,H,h,i,hi,Grow.refl _ _,cE.refl _ _⟩
theorem bS.cond{c:Operand}{x y:Code}(h:AI σ c (bS P cx N x σ H K) (bS P cx N y σ H K)):bS P cx N (.cond c x y) σ H K:=by
 unfold AI at h;intro M β a w i hi;split at h
 ·rename_i b hv;have hb:a.eval c=.bool b:=by have:=ev.rep i c;rw[hv]at this;exact this
  cases b with
  |true=>exact wpIn_cond_true hb (h M β a w i hi)
  |false=>exact wpIn_cond_false hb (h M β a w i hi)
 ·rename_i b hv;have hb:a.eval c=.bool b:=by have:=ev.rep i c;rw[hv]at this;exact this
  exact wpIn_cond_split hb (fun hb=>h.1 hb M β a w i hi) (fun hb=>h.2 hb M β a w i hi)
 cases h
def HSub(cx:Cx)(N:Nat)(σ:St)(H:Hid)(σ':St)(H':Hid):Prop:=
 ∀M β a w,Inv cx N M β σ a w→mH cx M β σ w H→∃M' β',Inv cx N M' β' σ' a w∧mH cx M' β' σ' w H'∧Grow cx.B M M'
theorem bS.sub{c:Code}{σ':St}{H':Hid}(h:HSub cx N σ H σ' H')(k:bS P cx N c σ' H' K):bS P cx N c σ H K:=by intro M β a w i hi;obtain⟨M',β',i',bC,g⟩:=h M β a w i hi;exact wpIn_mono (k M' β' a w i' bC) fun _ _ _ h=>h.trans g (cE.refl _ _)
theorem bS.loop{S:Type}{c:Code}(UZ:S→St)(H0:S→Hid)(J:S→Prop)(μ:S→Nat)(s0:S)(hJ:J s0)(hs:HSub cx N σ H (UZ s0) (H0 s0))
  (body:∀s,J s→bS P cx N c (UZ s) (H0 s) (rO (fun σ' H'=>∃s',J s'∧μ s'<μ s∧HSub cx N σ' H' (UZ s') (H0 s')) K)):bS P cx N (.loop c) σ H K:=by
 intro M β a w i hi
 obtain⟨M1,β1,i1,OO,g1⟩:=hs M β a w i hi
 intro b k cs hro hb hr
 have key:∀n s,μ s=n→J s→∀M β a w,Inv cx N M β (UZ s) a w→mH cx M β (UZ s) w (H0 s)→
   ∃e a' w',yB cx N M w (K e) a' w'∧ArrivesIn (Machine.fenced P (FW cx.rd)) P (lone (b.atR a (.code c::.inLoop c::k)) cs w) b k cs e a' w':=by
  intro n
  induction n using Nat.strongRecOn with
  |_ n ih=>
   intro s hn hJ M β a w i hi;obtain⟨e,a₁,w₁,⟨σ',M1,β1,H1,hq,i1,OO,hM,hk⟩,nI⟩:=body s hJ M β a w i hi b (.inLoop c::k) cs hro hb hr
   cases e with
   |normal=>obtain⟨s',hJ',fZ,fQ⟩:=hq;obtain⟨M2,β2,i2,hi2,g2⟩:=fQ M1 β1 a₁ w₁ i1 OO;obtain⟨e₂,a₂,w₂,hp,BZ⟩:=ih (μ s') (hn▸fZ) s' rfl hJ' M2 β2 a₁ w₁ i2 hi2;exact⟨e₂,a₂,w₂,hp.trans (hM.trans g2) hk,.of_steps (StepsIn.trans nI (.one (fenced_calm hb hr rfl) stepR_inLoop)) BZ⟩
   |exit id=>exact⟨_,a₁,w₁,⟨σ',M1,β1,H1,hq,i1,OO,hM,hk⟩,.pass (x:=.inLoop c) rfl (fun _ _=>.inl sM) nI⟩
   |goto l=>exact⟨_,a₁,w₁,⟨σ',M1,β1,H1,hq,i1,OO,hM,hk⟩,.pass (x:=.inLoop c) rfl (fun _ _=>.inl sM) nI⟩
   |ret=>exact⟨_,a₁,w₁,⟨σ',M1,β1,H1,hq,i1,OO,hM,hk⟩,.pass (x:=.inLoop c) rfl (fun _ _=>.inl sM) nI⟩
   |panic ch=>exact⟨_,a₁,w₁,⟨σ',M1,β1,H1,hq,i1,OO,hM,hk⟩,.pass (x:=.inLoop c) rfl (fun _ _=>.inl sM) nI⟩
   |outgrown=>exact⟨_,a₁,w₁,⟨σ',M1,β1,H1,hq,i1,OO,hM,hk⟩,.pass (x:=.inLoop c) rfl (fun _ _=>.inl sM) nI⟩
 obtain⟨e,a',w',hq,nI⟩:=key _ s0 rfl hJ M1 β1 a w i1 OO
 exact⟨e,a',w',hq.trans g1 (cE.refl _ _),.of_steps (.one (fenced_calm hb hr rfl) stepR_loop) nI⟩
theorem mH.after{M:Mem}{β:Nm}{w:World}{ks:List Nat}{rd:Option Nat}{df:List Deferred}{N':Nat}{M':Mem}{β':Nm}{σ':St}{a':Act}{w':World}
  (hi:mH cx M β σ w H) (jA:∀x,x∈ks→∃bc,aH σ.box x=some (some bc)) (i':Inv (Cx.part w ks β rd df) N' M' β' σ' a' w') (g:Grow w.heap.size M M') (kp:cE (Cx.part w ks β rd df) w w'):mH cx M' β' σ' w' H:=by
 have fZ:=H.lt M w hi.holds
 have nw:∀k,H.S k→¬(Cx.part w ks β rd df).xC k:=by rintro k hk ⟨x,c,hx,e⟩;obtain⟨bc,hbc⟩:=jA x hx;exact hi.names x bc k c hbc e hk
 refine⟨H.loc M M' w w' hi.holds g.le fun k hk=>kp.block k (fZ k hk) (nw k hk),hi.low,fun k hk o=>?_,fun x bc b c hb e hs=>?_⟩
 ·cases hm:M' k o with
  |none=>rfl
  |some u=>
   rcases g.new k o u hm with h|h
   ·rw[hi.apart k hk o]at h;cases h
   have:=fZ k hk;omega
 ·rcases i'.low x bc b c hb e with h|h
  ·have:=fZ b hs;have h:w.heap.size≤b:=h;omega
  exact nw b hs h
theorem bS.part{c:Code}{ks:List Nat}(jA:∀x,x∈ks→∃bc,aH σ.box x=some (some bc)∧bc.real=true)(lC:∀x bc,aH σ.box x=some (some bc)→x∈ks)(aA:∀x,x∈cx.ref→x∈ks)
  (h:∀NY:Cx,NY.ref=ks→AW P NY N c σ (fun e σ'=>K e σ' H)):bS P cx N c σ H K:=by
 intro M β a w i hi
 have l7:∀x,x∈ks→∃bc,aH σ.box x=some (some bc):=fun x hx=>let⟨bc,h1,_⟩:=jA x hx;⟨bc,h1⟩
 have fJ:∀x,x∈ks→∃p,β x=some p:=fun x hx=>by exact xw
 have ii:=i.aFP (rd:=cx.rd) l7 lC fJ i.defers
 refine wpIn_mono (h (Cx.part w ks β cx.rd cx.df) rfl M β a w ii) ?_
 rintro e a' w' ⟨σ',M',β',k,i',g,kp⟩
 exact⟨σ',M',β',H,k,Inv.back i l7 aA i' (cE.back i l7 kp) i'.defers i'.tmps i'.env,hi.after l7 i' g kp,Grow.back i g,cE.back i l7 kp⟩
end
def fC(cx:Cx)(N:Nat)(σ σ':St):Prop:=∀M β a w,Inv cx N M β σ a w→∃β',Inv cx N M β' σ' a w∧∀x bx b c,aH σ'.box x=some (some bx)→β' x=some (b,c)→∃y b0,aH σ.box y=some (some b0)∧β y=some (b,c)
theorem fC.of{cx:Cx}{N:Nat}{σ σ':St}(ren:List (Nat×Nat))(hr:(cx.ref.all fun x=>(cR σ'.box).contains x&&Nat.beq (look ren x) x)=true)(hi:HO ren (cR σ'.box)=true)
  (hb:D3 ren σ.box (cR σ'.box) σ'.box) (he:NS ren σ.env (cR σ'.box) σ'.env):fC cx N σ σ':=by
 classical
 intro M β a w i
 let ks:=cR σ'.box
 let β':Nm:=fun x=>if x∈ks then β (look ren x)else none
 have jA:∀x,x∈ks→β' x=β (look ren x):=fun x hx=>by simp[β',hx]
 have hβ:∀x p,β' x=some p→x∈ks∧β (look ren x)=some p:=fun x p h=>by exact zaH
 have EP:∀x,x∈ks→∀p,β (look ren x)=some p→β' x=some p:=fun x hx p e=>by rw[jA x hx];exact e
 have QY:∀x y,x∈ks→y∈ks→look ren x=look ren y→x=y:=by exact vt
 have live:∀x b k c,aH σ'.box x=some (some b)→β' x=some (k,c)→x∈ks∧∃b0,aH σ.box (look ren x)=some (some b0)∧β (look ren x)=some (k,c):=by exact kg
 refine⟨β',⟨i.defers,i.tmps,i.heap,fun t=>NS.get EP he t _ (i.env t),i.mem,?_,?_,?_,?_,?_,?_⟩,fun x b k c h e=>let⟨_,b0,h1,h2⟩:=live x b k c h e;⟨_,b0,h1,h2⟩⟩
 ·exact zcW
 ·exact zu
 ·exact vu
 ·exact zbL
 ·exact xf
 ·exact ko
theorem HSub.of{cx:Cx}{N:Nat}{σ σ':St}{H:Hid}(h:fC cx N σ σ'):HSub cx N σ H σ' H:=fun M β a w i hi=>
 let⟨β',i',hn⟩:=h M β a w i
 ⟨M,β',i',⟨hi.holds,hi.low,hi.apart,fun x bc b c h1 h2 hs=>let⟨y,b0,g1,g2⟩:=hn x bc b c h1 h2;hi.names y b0 b c g1 g2 hs⟩,Grow.refl _ _⟩
end Go.Ax
namespace Go.Ax
open Go.RowKit
open Go.ChangeMaps (setBlock)
structure mX where
 g:Nat
 n:Nat
 cap:Nat
 lo:Nat
 f:Nat→Nat→DV
structure bO where
 key:ByteArray
 born:Nat
 val:Value
 row:Option mX
def bO.nK(x:bO):MapEntry:={key:=.string x.key,val:=x.val,born:=x.born}
def mX.ok(e s:Nat)(M:Mem)(w:World)(r:mX)(v:Value):Prop:=
 ∃o cur,v=.slice (some ⟨r.g,o,none⟩) (r.n - r.lo) (r.cap - r.lo)∧(r.lo<r.cap→o=r.lo*s)∧r.lo≤r.n∧w.heap[r.g]? =some (.cells cur e (0,0))∧cur.size=r.cap*s∧r.n≤r.cap∧r.cap≤maxLen∧0<r.cap∧
  ∀i j,i<r.n→j<s→∃u,cur[i*s+j]? =some u∧(r.f i j).bI M u
def CX(l:List bO):Prop:=∀(i j:Nat) (x y:bO) (r q:mX),l[i]? =some x→l[j]? =some y→x.row=some r→y.row=some q→r.g=q.g→i=j
structure HM where
 bm:Nat
 l:List bO
 clock:Nat
 it:Option (Nat×List Nat)
def HM.S(h:HM)(k:Nat):Prop:=k=h.bm∨(∃x∈h.l,∃r,x.row=some r∧r.g=k)∨∃sn,h.it=some (k,sn)
structure HM.F(e s:Nat)(h:HM)(M:Mem)(w:World):Prop where
 map:w.heap[h.bm]? =some (.map (h.l.map bO.nK).toArray h.clock)
 rows:∀x∈h.l,∀r,x.row=some r→r.ok e s M w x.val
 iter:∀b sn,h.it=some (b,sn)→w.heap[b]? =some (.mapIter (some h.bm) h.clock sn.reverse.toArray h.clock)
 II:CX h.l
theorem TU{w:World}{k:Nat}{o:Obj}(h:w.heap[k]? =some o):k<w.heap.size:=(Array.getElem?_eq_some_iff.1 h).1
def hid(e s:Nat)(h:HM):Hid where
 S:=h.S
 F:=h.F e s
 lt:=fun M w hF k hk=>by
  rcases hk with rfl|⟨x,hx,r,hr,rfl⟩|⟨sn,hs⟩
  ·exact TU hF.map
  ·obtain⟨o,cur,_,_,_,hg,_⟩:=hF.rows x hx r hr;exact TU hg
  exact TU (hF.iter k sn hs)
 loc:=fun M M' w w' hF hM hk=>by refine⟨(hk _ (.inl rfl)).trans hF.map,fun x hx r hr=>?_,fun b sn hs=>(hk b (.inr (.inr ⟨sn,hs⟩))).trans (hF.iter b sn hs),hF.II⟩;obtain⟨o,cur,h1,h2,h3,h4,h5,h6,h7,h9,h8⟩:=hF.rows x hx r hr;exact⟨o,cur,h1,h2,h3,(hk _ (.inr (.inl ⟨x,hx,r,hr,rfl⟩))).trans h4,h5,h6,h7,h9,fun i j hi hj=>let⟨u,q1,q2⟩:=h8 i j hi hj;⟨u,q1,DV.bI.mono hM q2⟩⟩
section
variable{P:Program}{cx:Cx}{N:Nat}{σ:St}{M:Mem}{β:Nm}{a:Act}{w:World}
theorem Inv.named(i:Inv cx N M β σ a w){d g:Nat}{c:Nat×Nat}{bc:jK}(hd:aH σ.box d=none)(hg:∀x bx b c',aH σ.box x=some (some bx)→β x=some (b,c')→b≠g)(ha:∀o,M g o=none)(hB:cx.B≤g)
  (hb:∀β':Nm,β' d=some (g,c)→Nm.le β β'→cN M β' w d bc):
  ∃β',β' d=some (g,c)∧Nm.le β β'∧(∀x,x≠d→β' x=β x)∧Inv cx N M β' ⟨σ.env,(d,some bc)::σ.box⟩ a w:=by
 have HX:β d=none:=by exact xk
 let β':Nm:=fun x=>if x=d then some (g,c)else β x
 have iX:β' d=some (g,c):=by simp[β']
 have hβ:Nm.le β β':=fun x p e=>by exact zdd
 have oE:∀x,x≠d→β' x=β x:=fun x hx=>by simp[β',hx]
 have cQ:∀x bx,aH ((d,some bc)::σ.box) x=some (some bx)→(x=d∧bx=bc)∨(x≠d∧aH σ.box x=some (some bx)):=fun x bx e=>by exact jm
 refine⟨β',iX,hβ,oE,⟨i.defers,i.tmps,i.heap,fun t=>AV.bI.mono (Mem.le_refl M) hβ (i.env t),i.mem,?_,?_,?_,?_,?_,?_⟩⟩
 ·exact kv
 ·intro x bx e;rcases cQ x bx e with⟨rfl,rfl⟩|⟨hx,e⟩
  ·exact hb β' iX hβ
  exact cN.mono (Mem.le_refl M) hβ (oE x hx) (fun b c' e'=>rfl) (i.box x bx e)
 ·intro x y bx zB b c1 c2 ex ey hx hy;rcases cQ x bx ex with⟨rfl,_⟩|⟨DQ,ex2⟩ <;> rcases cQ y zB ey with⟨rfl,_⟩|⟨EO,ey2⟩
  ·rfl
  ·rw[iX]at hx;cases hx;rw[oE y EO]at hy;exact absurd rfl (hg y zB _ c2 ey2 hy)
  ·rw[iX]at hy;cases hy;rw[oE x DQ]at hx;exact absurd rfl (hg x bx _ c1 ex2 hx)
  rw[oE x DQ]at hx;rw[oE y EO]at hy;exact i.inj x y bx zB b c1 c2 ex2 ey2 hx hy
 ·intro x bx b c1 ex hx o;rcases cQ x bx ex with⟨rfl,_⟩|⟨DQ,ex⟩
  ·rw[iX]at hx;cases hx;exact ha o
  rw[oE x DQ]at hx;exact i.apart x bx b c1 ex hx o
 ·intro x bx b c1 ex hx;rcases cQ x bx ex with⟨rfl,_⟩|⟨DQ,ex⟩
  ·rw[iX]at hx;cases hx;exact .inl hB
  rw[oE x DQ]at hx;exact i.low x bx b c1 ex hx
 ·intro x hx;obtain⟨h1,p,h2⟩:=i.ref x hx;exact⟨(hβ x p h2).trans (h2.symm.trans h1),p,hβ x p h2⟩
def n9(P:Program)(cx:Cx)(N:Nat)(o:Oper)(σ:St)(H:Hid)(K:St→Hid→Prop):Prop:=
 (∀c,o.op≠.defer c)∧∀M β a w,Inv cx N M β σ a w→mH cx M β σ w H→∀Q,o.wp P a w (yB cx N M w K) Q
def dD:List bO→ByteArray→Nat→Option (Nat×bO)
 |[],_,_=>none
 |x::r,k,i=>bif k==x.key then some (i,x)else dD r k (i+1)
theorem LJ(k:ByteArray):∀(l:List bO) (i:Nat),Instr.findNow .string (.string k) (l.map bO.nK) i=some ((dD l k i).map fun p=>(p.1,p.2.val))
 |[],_=>rfl
 |x::r,i=>by
  simp only [List.map_cons,Instr.findNow,Instr.sameNow,dD,bO.nK]
  cases h:k==x.key with
  |true=>rfl
  |false=>simp only [cond_false];exact LJ k r (i+1)
theorem yH{kt:TypeId}(hk:P.underlying kt=some .string)(k:ByteArray)(l:List bO):
  (Instr.findKey kt (.string k) (l.map bO.nK)).run P w=.ok ((dD l k 0).map fun p=>(p.1,p.2.val)) w:=by
 simp[Instr.findKey,run_underlying hk,LJ]
theorem vD{k:ByteArray}:∀{l:List bO} {i:Nat} {p:Nat×bO},dD l k i=some p→i≤p.1∧l[p.1 - i]? =some p.2∧p.2.key=k
 |[],_,_,h=>by cases h
 |x::r,i,p,h=>by
  simp only [dD]at h
  cases hk:k==x.key with
  |true=>
   rw[hk]at h
   cases h
   exact⟨Nat.le_refl _,sM,by simpa using(beq_iff_eq.1 hk).symm⟩
  |false=>rw[hk]at h;obtain⟨h1,h2,h3⟩:=vD (l:=r) (i:=i+1) (p:=p) h;refine⟨oM,?_,h3⟩;rw[show p.1 - i=(p.1 - (i+1))+1 by omega];simpa using h2
def cW(l:List bO)(i:Nat):List bO:=l.modify i fun x=>{x with row:=none}
theorem KL(l:List bO)(i:Nat):(cW l i).map bO.nK=l.map bO.nK:=by
 unfold cW;apply List.ext_getElem?;intro j;rw[List.getElem?_map,List.getElem?_map,List.getElem?_modify];split
 ·cases l[j]? <;> rfl
 simp
theorem p6{l:List bO}{i j:Nat}{x:bO}{r:mX}(h:(cW l i)[j]? =some x)(hr:x.row=some r):j≠i∧l[j]? =some x:=by
 unfold cW at h;rw[List.getElem?_modify]at h
 cases hl:l[j]? with
 |none=>rw[hl]at h;cases h
 |some y=>
  rw[hl]at h;have h:(if i=j then {key:=y.key,born:=y.born,val:=y.val,row:=none}else y)=x:=by simpa using h
  by_cases e:i=j
  ·rw[if_pos e]at h;subst h;cases hr
  rw[if_neg e]at h;subst h;exact⟨fun e'=>e e'.symm,rfl⟩
theorem CX.take{l:List bO}(h:CX l)(i:Nat):CX (cW l i):=fun a b x y r q hx hy hr hq e=>
 h a b x y r q (p6 hx hr).2 (p6 hy hq).2 hr hq e
def zR(d s:Nat)(r:mX):AV:=match r.lo with
 |0=>.s (.own d)
 |_+1=>.s (.j0 d s r.lo (r.n - r.lo))
theorem zR.rep{d s e:Nat}{r:mX}{v:Value}(h:r.ok e s M w v)(hβ:β d=some (r.g,(r.cap,r.n))):(zR d s r).bI M β v:=by
 obtain⟨o,cur,h1,h2,h3,h4,h5,h6,h7,h9,h8⟩:=h;unfold zR;split
 ·rename_i h0;rw[h0]at h1 h2;refine⟨r.g,_,hβ,?_,h6⟩;rw[h1,h2 h9];simp
 rename_i m h0;exact⟨r.g,_,o,hβ,h1,h2,by simp only;omega,h6⟩
theorem mX.box{d s e:Nat}{r:mX}{v:Value}(h:r.ok e s M w v)(hβ:β d=some (r.g,(r.cap,r.n))):cN M β w d (.row e r.n s r.f):=by obtain⟨o,cur,h1,h2,h3,h4,h5,h6,h7,h9,h8⟩:=h;exact⟨r.g,_,cur,hβ,h4,rfl,h5,h6,h7,h8⟩
theorem n9.look{e s d t kt et:Nat}{x y:Operand}{k:ByteArray}{o:Oper}{h:HM}{K:St→Hid→Prop}(ho:o.op=.lookup t x y false)(hd:o.dst=some d)(hN:d<N)(hn:aH σ.box d=none)
  (hx:ev σ x=.s (.d (.val (.map (some h.bm))))) (hy:ev σ y=.s (.d (.val (.string k)))) (ht:P.underlying t=some (.map kt et)) (hk:P.underlying kt=some .string) (hz:∀w,(zeroValue et).run P w=.ok (.slice none 0 0) w)
  (hK:match dD h.l k 0 with
   |none=>K ⟨(d,.s (.d (.val (.slice none 0 0))))::σ.env,σ.box⟩ (hid e s h)
   |some (i,q)=>match q.row with
    |some r=>K ⟨(d,zR d s r)::σ.env,(d,some (.row e r.n s r.f))::σ.box⟩ (hid e s {h with l:=cW h.l i})
    |none=>q.val=.slice none 0 0∧K ⟨(d,.s (.d (.val (.slice none 0 0))))::σ.env,σ.box⟩ (hid e s h)):n9 P cx N o σ (hid e s h) K:=by
 refine⟨fun c hc=>zeF,fun M β a w i hi Q=>?_⟩
 have ex:a.eval x=.map (some h.bm):=by have:=ev.rep i x;rw[hx]at this;exact this
 have ey:a.eval y=.string k:=by have:=ev.rep i y;rw[hy]at this;exact this
 have hF:h.F e s M w:=hi.holds
 have jL:∀b,(Instr.checkKey b 10000 kt (.string k)).run P w=.ok () w:=fun b=>jC w hk b k 9999
 have oL:=yH (P:=P) (w:=w) hk k h.l
 have a7:(execOp a.eval o).run P w=.ok (.value (match dD h.l k 0 with|some p=>p.2.val|none=>.slice none 0 0)) w:=by
  simp only [execOp,ho,ex,ey]
  cases hq:dD h.l k 0 with
  |none=>rw[hq]at oL;simp[Instr.lookup,run_underlying ht,MapKept.run_getObj_map hF.map,jL,oL,hz]
  |some p=>rw[hq]at oL;simp[Instr.lookup,run_underlying ht,MapKept.run_getObj_map hF.map,jL,oL]
 unfold Oper.wp
 rw[a7,Oper.upon_value,hd]
 cases hq:dD h.l k 0 with
 |none=>rw[hq]at hK;exact⟨_,M,β,_,hK,i.put hN rfl,⟨hi.holds,hi.low,hi.apart,hi.names⟩,Grow.refl _ _,cE.refl _ _⟩
 |some p=>
  obtain⟨j,q⟩:=p;rw[hq]at hK;simp only at hK ⊢;obtain⟨_,BX,_⟩:=vD hq;simp only [Nat.sub_zero]at BX;have kK:=List.mem_of_getElem? BX
  cases hr:q.row with
  |none=>rw[hr]at hK;exact⟨_,M,β,_,hK.2,i.put hN hK.1,⟨hi.holds,hi.low,hi.apart,hi.names⟩,Grow.refl _ _,cE.refl _ _⟩
  |some r=>
   rw[hr]at hK;simp only at hK;have gF:=hF.rows q kK r hr;have hS:h.S r.g:=.inr (.inl ⟨q,kK,r,hr,rfl⟩);obtain⟨β',h1,h2,h3,i2⟩:=i.named (c:=(r.cap,r.n)) (bc:=.row e r.n s r.f) hn (fun x bx b c' e1 e2 e3=>hi.names x bx b c' e1 e2 (e3▸hS)) (hi.apart _ hS) (hi.low _ hS) (fun β' e1 _=>mX.box gF e1);refine⟨_,M,β',_,hK,i2.put (σ:=⟨σ.env,(d,some (.row e r.n s r.f))::σ.box⟩) hN (zR.rep gF h1),?_,Grow.refl _ _,cE.refl _ _⟩;have fQ:∀k,HM.S {h with l:=cW h.l j} k→h.S k∧k≠r.g:=by
    rintro k (rfl|⟨x,hx,r',C1,rfl⟩|⟨sn,hs⟩)
    ·exact zbO
    ·obtain⟨j',qR⟩:=List.getElem?_of_mem hx;obtain⟨q1,q2⟩:=p6 qR C1;exact⟨.inr (.inl ⟨x,List.mem_of_getElem? q2,r',C1,rfl⟩),fun e1=>q1 (hF.II j' j x q r' r q2 BX C1 hr e1)⟩
    exact za0
   refine⟨⟨?_,fun x hx r' C1=>?_,hF.iter,hF.II.take j⟩,fun k hk=>hi.low k (fQ k hk).1,fun k hk=>hi.apart k (fQ k hk).1,fun x bx b c e1 e2 hs=>?_⟩
   ·exact zbX
   ·exact zbz
   exact qr
theorem Inv.dead(i:Inv cx N M β σ a w)(b:Nat):Inv cx N M β ⟨σ.env,(b,none)::σ.box⟩ a w:=by
 have live:∀x bx,aH ((b,none)::σ.box) x=some (some bx)→aH σ.box x=some (some bx):=fun x bx e=>by
  rw[aL]at e;split at e
  ·cases e
  exact e
 refine⟨i.defers,i.tmps,i.heap,i.env,i.mem,fun x p e=>?_,fun x bx e=>i.box x bx (live x bx e),fun x y bx zB b c c' ex ey=>i.inj x y bx zB b c c' (live x bx ex) (live y zB ey),fun x bx b c e=>i.apart x bx b c (live x bx e),fun x bx b c e=>i.low x bx b c (live x bx e),i.ref⟩;by_cases hx:x=b
 ·exact⟨_,by rw[aL,if_pos hx.symm]⟩
 obtain⟨y,hy⟩:=i.keys x p e;exact⟨y,by rw[aL,if_neg (fun h=>hx h.symm)];exact hy⟩
theorem Inv.A1(i:Inv cx N M β σ a w){H:Hid}(hi:mH cx M β σ w H){g:Nat}(hg:H.S g){w':World}(hs:w'.heap.size=w.heap.size)(ho:∀k,k≠g→w'.heap[k]? =w.heap[k]?):Inv cx N M β σ a w':=
 i.side (B:=(· =g)) ⟨oM,fun k o hk h=>(ho k hk).trans h⟩ (fun x bx b c e1 e2 e3=>hi.names x bx b c e1 e2 (e3▸hg)) (fun b o u e e3=>by subst e3;rw[hi.apart _ hg o]at e;cases e)
  (fun bs h1 h2 k t m e=>by subst e;have:=(h2 _ t m).1;have:=hi.low _ hg;omega)
theorem cE.A1{H:Hid}(hi:mH cx M β σ w H){g:Nat}(hg:H.S g){w':World}(hs:w'.heap.size=w.heap.size)(ho:∀k,k≠g→w'.heap[k]? =w.heap[k]?)(h1:w'.os=w.os)(h2:w'.tape=w.tape)(h3:w'.output=w.output)(h4:Dr w w'):cE cx w w':=
 ⟨h1,h2,h3,oM,fun k hk _=>ho k (fun e=>by subst e;have:=hi.low _ hg;omega),h4⟩
theorem G8{l:List bO}{i:Nat}{q:bO}{k:ByteArray}(v:Value)(r:Option mX)(h:l[i]? =some q)(hk:q.key=k):
  (l.map bO.nK).modify i (fun e=>{e with key:=.string k,val:=v})=(l.modify i fun x=>{x with val:=v,row:=r}).map bO.nK:=by
 apply List.ext_getElem?
 intro j
 rw[List.getElem?_modify,List.getElem?_map,List.getElem?_map,List.getElem?_modify]
 by_cases e:i=j
 ·subst e;rw[h];simp[bO.nK,hk]
 ·cases l[j]? <;> simp[e]
def eR(h:HM)(k:ByteArray)(v:Value)(r:Option mX):HM:=match dD h.l k 0 with
 |some (i,_)=>{h with l:=h.l.modify i fun x=>{x with val:=v,row:=r}}
 |none=>{h with l:=h.l++ [⟨k,h.clock,v,r⟩],clock:=h.clock+1}
theorem A8{h:HM}{k:ByteArray}{v:Value}{r:Option mX}{x:bO}(hx:x∈(eR h k v r).l):x∈h.l∨(x.val=v∧x.row=r):=by
 unfold eR at hx;split at hx
 ·rename_i i q hq;obtain⟨j,hj⟩:=List.getElem?_of_mem hx;simp only at hj;rw[List.getElem?_modify]at hj
  cases hl:h.l[j]? with
  |none=>rw[hl]at hj;cases hj
  |some y=>
   rw[hl]at hj;have hj:(if i=j then {key:=y.key,born:=y.born,val:=v,row:=r}else y)=x:=by simpa using hj
   by_cases e:i=j
   ·rw[if_pos e]at hj;subst hj;exact .inr ⟨rfl,rfl⟩
   rw[if_neg e]at hj;subst hj;exact .inl (List.mem_of_getElem? hl)
 simp only [List.mem_append,List.mem_cons,List.not_mem_nil,or_false]at hx;exact hx.imp id (fun e=>by subst e;exact⟨rfl,rfl⟩)
theorem A9{h:HM}{k:ByteArray}{v:Value}{r:Option mX}{j:Nat}{x:bO}(hx:(eR h k v r).l[j]? =some x):h.l[j]? =some x∨(x.row=r∧∀j' x',(eR h k v r).l[j']? =some x'→j'≠j→h.l[j']? =some x'):=by
 unfold eR at hx ⊢;split at hx
 ·rename_i i q hq;simp only at hx ⊢;rw[List.getElem?_modify]at hx
  cases hl:h.l[j]? with
  |none=>rw[hl]at hx;cases hx
  |some y=>
   rw[hl]at hx;have hx:(if i=j then {key:=y.key,born:=y.born,val:=v,row:=r}else y)=x:=by simpa using hx
   by_cases e:i=j
   ·rw[if_pos e]at hx;subst hx;refine .inr ⟨rfl,fun j' x' h' fJ=>?_⟩;rw[List.getElem?_modify]at h';have Z5:¬i=j':=fun e'=>fJ (e'.symm.trans e)
    cases hl':h.l[j']? with
    |none=>rw[hl']at h';cases h'
    |some y'=>rw[hl']at h';simpa [Z5]using h'
   rw[if_neg e]at hx;subst hx;exact .inl rfl
 simp only at hx ⊢;by_cases hj:j<h.l.length
 ·rw[List.getElem?_append_left hj]at hx;exact .inl hx
 rw[List.getElem?_append_right oM]at hx
 cases hjj:j - h.l.length with
 |succ m=>rw[hjj]at hx;simp at hx
 |zero=>
  rw[hjj]at hx;simp at hx;subst hx;refine .inr ⟨rfl,fun j' x' h' fJ=>?_⟩;by_cases qR:j'<h.l.length
  ·rw[List.getElem?_append_left qR]at h';exact h'
  rw[List.getElem?_append_right oM]at h'
  cases aPM:j' - h.l.length with
  |zero=>omega
  |succ m=>rw[aPM]at h';simp at h'
theorem n9.upd{e s t kt et b n lo n':Nat}{f:Nat→Nat→DV}{x y z:Operand}{k:ByteArray}{o:Oper}{h:HM}{K:St→Hid→Prop}(aA:cx.ref=[])(ho:o.op=.mapUpdate t x y z)(hd:o.dst=none)
  (hx:ev σ x=.s (.d (.val (.map (some h.bm))))) (hy:ev σ y=.s (.d (.val (.string k)))) (hz:(ev σ z=.s (.own b)∧lo=0∧n'=n)∨ev σ z=.s (.j0 b s lo n')) (hb:aH σ.box b=some (some (.row e n s f))) (hn0:0<n)
  (ht:P.underlying t=some (.map kt et)) (hk:P.underlying kt=some .string) (hit:dD h.l k 0=none→h.it=none)
  (hK:∀g cap v,K ⟨σ.env,(b,none)::σ.box⟩ (hid e s (eR h k v (some ⟨g,lo+n',cap,lo,f⟩)))):n9 P cx N o σ (hid e s h) K:=by
 refine⟨fun c hc=>zeF,fun M β a w i hi Q=>?_⟩
 have ex:a.eval x=.map (some h.bm):=by have:=ev.rep i x;rw[hx]at this;exact this
 have ey:a.eval y=.string k:=by have:=ev.rep i y;rw[hy]at this;exact this
 have hF:h.F e s M w:=hi.holds
 have hS0:h.S h.bm:=.inl rfl
 obtain⟨g,c,cur,hβ,hg,JA,mL,hn,I9,cY⟩:=i.box b _ hb
 obtain⟨ov,ez,hov,hle⟩:∃ov,a.eval z=.slice (some ⟨g,ov,none⟩) n' (c.1 - lo)∧(lo<c.1→ov=lo*s)∧lo+n'≤n:=by
  have hr:=ev.rep i z;rcases hz with⟨hz,rfl,rfl⟩|hz
  ·rw[hz]at hr;obtain⟨b',c',e1,e2,_⟩:=hr;rw[hβ]at e1;cases e1;exact⟨0,by rw[e2,JA];simp,fun _=>by simp,oM⟩
  rw[hz]at hr;obtain⟨b',c',o',e1,e2,e3,e4,_⟩:=hr;rw[hβ]at e1;cases e1;exact⟨o',e2,e3,oM⟩
 have jL:∀b,(Instr.checkKey b 10000 kt (.string k)).run P w=.ok () w:=fun b=>jC w hk b k 9999
 have oL:=yH (P:=P) (w:=w) hk k h.l
 have hnS:¬h.S g:=hi.names b _ g c hb hβ
 have hBg:cx.B≤g:=by
  rcases i.low b _ g c hb hβ with h|⟨y,c',hy,_⟩
  ·exact h
  rw[aA]at hy;cases hy
 generalize hv:a.eval z=v at*
 obtain⟨h',BW⟩:∃h',eR h k v (some ⟨g,lo+n',c.1,lo,f⟩)=h':=⟨_,rfl⟩
 have FX:h'.bm=h.bm:=by rw[←BW];unfold eR;split <;> rfl
 have a7:(execOp a.eval o).run P w=.ok .skip (setBlock w h.bm (.map (h'.l.map bO.nK).toArray h'.clock)):=by
  cases hq:dD h.l k 0 with
  |none=>
   rw[hq]at oL;have e1:h'= {h with l:=h.l++ [⟨k,h.clock,v,some ⟨g,lo+n',c.1,lo,f⟩⟩],clock:=h.clock+1}:=by rw[←BW];unfold eR;rw[hq]
   have e3:(h.l.map bO.nK).toArray.push {key:=.string k,val:=v,born:=h.clock}=(h'.l.map bO.nK).toArray:=by rw[e1];simp[bO.nK]
   have e4:h'.clock=h.clock+1:=by rw[e1]
   have hm:(Instr.mapUpdate t (.map (some h.bm)) (.string k) v).run P w=.ok () (setBlock w h.bm (.map (h'.l.map bO.nK).toArray h'.clock)):=by exact zbE
   exact zc8
  |some p=>
   obtain⟨j,q⟩:=p;rw[hq]at oL;obtain⟨_,BX,tR⟩:=vD hq;simp only [Nat.sub_zero]at BX;have tR:q.key=k:=tR;have e1:h'= {h with l:=h.l.modify j fun x=>{x with val:=v,row:=some ⟨g,lo+n',c.1,lo,f⟩}}:=by rw[←BW];unfold eR;rw[hq]
   have e3:=G8 v (some ⟨g,lo+n',c.1,lo,f⟩) BX tR;have e4:h'.clock=h.clock:=by rw[e1]
   have HU:(Instr.keyThatStays (.string k) (.string k)).run P w=.ok (.string k) w:=by simp[Instr.keyThatStays,Instr.sameBits]
   have hm:(Instr.mapUpdate t (.map (some h.bm)) (.string k) v).run P w=.ok () (setBlock w h.bm (.map (h'.l.map bO.nK).toArray h'.clock)):=by
    have e5:h'.l.map bO.nK=(h.l.map bO.nK).modify j (fun e=>{e with key:=.string k,val:=v}):=by rw[e1];exact e3.symm
    exact jw
   exact zc8
 unfold Oper.wp
 rw[a7,Oper.upon_skip,hd]
 have SI:=gC w h.bm (.map (h'.l.map bO.nK).toArray h'.clock)
 have sO:∀k',k'≠h.bm→(setBlock w h.bm (.map (h'.l.map bO.nK).toArray h'.clock)).heap[k']? =w.heap[k']? :=fun k' y5=>fD _ _ _ y5
 have hat:=iS (ob':=.map (h'.l.map bO.nK).toArray h'.clock) hF.map
 generalize hw:setBlock w h.bm (.map (h'.l.map bO.nK).toArray h'.clock)=w' at*
 have i1:=i.A1 hi hS0 SI sO
 have kp:=cE.A1 hi hS0 SI sO zeN zeN zeN zfe
 have hgb:g≠h.bm:=fun e=>hnS (e▸hS0)
 have pE:(mX.mk g (lo+n') c.1 lo f).ok e s M w' v:=
  ⟨ov,cur,by rw[ez];simp,hov,Nat.le_add_right _ _,(sO g hgb).trans hg,mL,by simp only;omega,I9,by simp only;omega,fun i j hi hj=>cY i j (by simp only at hi;omega) hj⟩
 refine⟨_,M,β,_,BW▸hK g c.1 v,i1.dead b,?_,Grow.refl _ _,kp⟩
 have fQ:∀k',h'.S k'→h.S k'∨k'=g:=by
  rintro k' (rfl|⟨x,hx,r,hr,rfl⟩|⟨sn,hs⟩)
  ·exact .inl (FX▸.inl rfl)
  ·rw[←BW]at hx;rcases A8 hx with h1|⟨_,h2⟩
   ·exact .inl (.inr (.inl ⟨x,h1,r,hr,rfl⟩))
   rw[hr]at h2;cases h2;exact .inr rfl
  refine .inl (.inr (.inr ⟨sn,?_⟩));exact zdz
 refine⟨⟨by rw[FX];exact hat,fun x hx r hr=>?_,fun bi sn hs=>?_,?_⟩,fun k' y5=>?_,fun k' y5=>?_,fun x bx b' c' e1 e2 hs=>?_⟩
 ·have QO:=hx;rw[←BW]at hx;rcases A8 hx with h1|⟨h1,h2⟩
  ·exact zau
  rw[hr]at h2;cases h2;rw[h1];exact pE
 ·exact jb
 ·intro j1 j2 x1 x2 r1 r2 g1 g2 hr1 YL eg;rw[←BW]at g1 g2;have Z2:∀{j:Nat} {x:bO} {r:mX},h.l[j]? =some x→x.row=some r→r.g≠g:=fun h1 h2 e=>hnS (.inr (.inl ⟨_,List.mem_of_getElem? h1,_,h2,e⟩))
  rcases A9 g1 with q1|⟨q1,p1⟩
  ·rcases A9 g2 with q2|⟨q2,p2⟩
   ·exact zei
   rw[YL]at q2;cases q2;exact absurd eg (Z2 q1 hr1)
  rw[hr1]at q1;cases q1;by_cases fJ:j2=j1
  ·exact fJ.symm
  exact absurd eg.symm (Z2 (p1 j2 x2 g2 fJ) YL)
 ·rcases fQ k' y5 with h1|rfl
  ·exact hi.low k' h1
  exact hBg
 ·rcases fQ k' y5 with h1|rfl
  ·exact hi.apart k' h1
  exact i.apart b _ _ c hb hβ
 ·have e1':aH ((b,none)::σ.box) x=some (some bx):=e1;rw[aL]at e1';split at e1'
  ·cases e1'
  rename_i hxb;rcases fQ b' hs with h1|rfl
  ·exact hi.names x bx b' c' e1' e2 h1
  exact hxb (i.inj b x _ bx _ c c' hb e1' hβ e2)
theorem LO{α β:Type}(f:α→β):∀(l:List α) (i:Nat),(l.map f).eraseIdx i=(l.eraseIdx i).map f
 |[],_=>rfl
 |_::_,0=>rfl
 |_::r,i+1=>congrArg _ (LO f r i)
theorem IB{l:List bO}{i j:Nat}{x:bO}(h:(l.eraseIdx i)[j]? =some x):∃j',l[j']? =some x∧(j'=if j<i then j else j+1):=by
 rw[List.getElem?_eraseIdx]at h;by_cases e:j<i
 ·rw[if_pos e]at h;exact⟨j,h,by rw[if_pos e]⟩
 rw[if_neg e]at h;exact⟨j+1,h,by rw[if_neg e]⟩
theorem CX.erase{l:List bO}(h:CX l)(i:Nat):CX (l.eraseIdx i):=fun a b x y r q hx hy hr hq e=>by obtain⟨a',ha,ea⟩:=IB hx;obtain⟨b',hb,eb⟩:=IB hy;have:=h a' b' x y r q ha hb hr hq e;split at ea <;> split at eb <;> omega
def y9(h:HM)(k:ByteArray):HM:=match dD h.l k 0 with
 |some (i,_)=>{h with l:=h.l.eraseIdx i}
 |none=>h
theorem mH.less{e s:Nat}{h h':HM}{w':World}(hi:mH cx M β σ w (hid e s h))(FX:h'.bm=h.bm)(vA:h'.clock=h.clock)(hl:∀x,x∈h'.l→x∈h.l)(hd:CX h'.l)(hit:h'.it=h.it)
  (ho:∀k,k≠h.bm→w'.heap[k]? =w.heap[k]?) (hat:w'.heap[h.bm]? =some (.map (h'.l.map bO.nK).toArray h'.clock)):mH cx M β σ w' (hid e s h'):=by
 have hF:h.F e s M w:=hi.holds
 have fQ:∀k,h'.S k→h.S k:=by
  rintro k (rfl|⟨x,hx,r,hr,rfl⟩|⟨sn,hs⟩)
  ·exact .inl FX
  ·exact .inr (.inl ⟨x,hl x hx,r,hr,rfl⟩)
  exact .inr (.inr ⟨sn,hit▸hs⟩)
 refine⟨⟨by rw[FX];exact hat,fun x hx r hr=>?_,fun bi sn hs=>?_,hd⟩,fun k hk=>hi.low k (fQ k hk),fun k hk=>hi.apart k (fQ k hk),fun x bx b c e1 e2 hs=>hi.names x bx b c e1 e2 (fQ b hs)⟩
 ·obtain⟨o,cur,q1,q2,q3,q4,q5⟩:=hF.rows x (hl x hx) r hr;exact⟨o,cur,q1,q2,q3,(ho r.g (fun e=>by rw[e,hF.map]at q4;cases q4)).trans q4,q5⟩
 ·have:=hF.iter bi sn (hit▸hs);rw[vA,FX];exact(ho bi (fun e=>by rw[e,hF.map]at this;cases this)).trans this
theorem n9.del{e s t kt et kt':Nat}{x y:Operand}{k:ByteArray}{o:Oper}{h:HM}{K:St→Hid→Prop}(ho:o.op=.call {callee:=.builtin .delete,args:= #[x,y],argTypes:= #[t,kt']})(hd:o.dst=none)
  (hx:ev σ x=.s (.d (.val (.map (some h.bm))))) (hy:ev σ y=.s (.d (.val (.string k)))) (ht:P.underlying t=some (.map kt et)) (hk:P.underlying kt=some .string)
  (hK:K σ (hid e s (y9 h k))):n9 P cx N o σ (hid e s h) K:=by
 refine⟨fun c hc=>zeF,fun M β a w i hi Q=>?_⟩
 have ex:a.eval x=.map (some h.bm):=by have:=ev.rep i x;rw[hx]at this;exact this
 have ey:a.eval y=.string k:=by have:=ev.rep i y;rw[hy]at this;exact this
 have hF:h.F e s M w:=hi.holds
 have hS0:h.S h.bm:=.inl rfl
 have jL:∀b,(Instr.checkKey b 10000 kt (.string k)).run P w=.ok () w:=fun b=>jC w hk b k 9999
 have oL:=yH (P:=P) (w:=w) hk k h.l
 obtain⟨h',BW⟩:∃h',y9 h k=h':=⟨_,rfl⟩
 have FX:h'.bm=h.bm:=by rw[←BW];unfold y9;split <;> rfl
 have vA:h'.clock=h.clock:=by rw[←BW];unfold y9;split <;> rfl
 have hit:h'.it=h.it:=by rw[←BW];unfold y9;split <;> rfl
 have hl:∀x,x∈h'.l→x∈h.l:=fun x hx=>by
  rw[←BW]at hx;unfold y9 at hx;split at hx
  ·exact List.mem_of_mem_eraseIdx hx
  exact hx
 have hdd:CX h'.l:=by
  rw[←BW];unfold y9;split
  ·exact hF.II.erase _
  exact hF.II
 have a7:(execOp a.eval o).run P w=.ok (.value (.tuple #[])) (setBlock w h.bm (.map (h'.l.map bO.nK).toArray h'.clock)):=by
  rw[vA]
  cases hq:dD h.l k 0 with
  |none=>
   rw[hq]at oL;have e1:h'=h:=by rw[←BW];unfold y9;rw[hq]
   rw[e1];exact zaV
  |some p=>
   obtain⟨j,q⟩:=p;rw[hq]at oL;have e1:h'.l=h.l.eraseIdx j:=by rw[←BW];unfold y9;rw[hq]
   have e3:(h.l.map bO.nK).toArray.eraseIdxIfInBounds j=(h'.l.map bO.nK).toArray:=by rw[e1,←LO];simp
   rw[←e3];exact zaV
 unfold Oper.wp
 rw[a7,Oper.upon_value,hd]
 have SI:=gC w h.bm (.map (h'.l.map bO.nK).toArray h'.clock)
 have sO:∀k',k'≠h.bm→(setBlock w h.bm (.map (h'.l.map bO.nK).toArray h'.clock)).heap[k']? =w.heap[k']? :=fun k' y5=>fD _ _ _ y5
 have hat:=iS (ob':=.map (h'.l.map bO.nK).toArray h'.clock) hF.map
 generalize hw:setBlock w h.bm (.map (h'.l.map bO.nK).toArray h'.clock)=w' at*
 exact⟨_,M,β,_,BW▸hK,i.A1 hi hS0 SI sO,hi.less FX vA hl hdd hit sO hat,Grow.refl _ _,cE.A1 hi hS0 SI sO zeN zeN zeN zfe⟩
theorem mH.alloc{H:Hid}{ob:Obj}(hi:mH cx M β σ w H):mH cx M β σ (w.alloc ob) H:=
 ⟨H.loc M M w _ hi.holds (Mem.le_refl M) fun k hk=>Below.heap_alloc _ _ _ (H.lt M w hi.holds k hk),hi.low,hi.apart,hi.names⟩
theorem Inv.aDX(i:Inv cx N M β σ a w)(ob:Obj):Inv cx N M β σ a (w.alloc ob)∧cE cx w (w.alloc ob):=
 ⟨i.off sM (fun k o _ h=>(Below.heap_alloc _ _ _ (Array.getElem?_eq_some_iff.1 h).1).trans h),⟨rfl,rfl,rfl,sM,fun k hk _=>Below.heap_alloc _ _ _ (Nat.lt_of_lt_of_le hk i.heap.le),trivial⟩⟩
theorem Inv.top(i:Inv cx N M β σ a w):(∀o,M w.heap.size o=none)∧∀x bx b c,aH σ.box x=some (some bx)→β x=some (b,c)→b≠w.heap.size:=
 ⟨fun o=>by
  cases h:M w.heap.size o with
  |none=>rfl
  |some u=>have:=i.HC h;omega,fun x bx b c e1 e2 e3=>by have:=i.vM e1 e2;omega⟩
theorem n9.mk{e s d t:Nat}{o:Oper}{K:St→Hid→Prop}{H:Hid}(ho:o.op=.makeMap t none)(hd:o.dst=some d)(hN:d<N)
  (hK:∀bm,K ⟨(d,.s (.d (.val (.map (some bm)))))::σ.env,σ.box⟩ (hid e s ⟨bm,[],0,none⟩)):n9 P cx N o σ H K:=by
 refine⟨fun c hc=>zeF,fun M β a w i hi Q=>?_⟩
 have a7:(execOp a.eval o).run P w=.ok (.value (.map (some w.heap.size))) (w.alloc (.map #[] 0)):=by exact zej
 unfold Oper.wp
 rw[a7,Oper.upon_value,hd]
 obtain⟨i1,kp⟩:=i.aDX (.map #[] 0)
 obtain⟨t1,t2⟩:=i.top
 have only:∀k,HM.S ⟨w.heap.size,[],0,none⟩ k→k=w.heap.size:=by
  rintro k (h|⟨x,hx,_⟩|⟨sn,hs⟩)
  ·exact h
  ·cases hx
  cases hs
 refine⟨_,M,β,_,hK w.heap.size,i1.put hN rfl,⟨⟨heap_alloc_new w _,fun x hx=>(by cases hx),fun b sn hs=>(by cases hs),fun i j x y r q hx=>(by simp at hx)⟩,fun k hk=>?_,fun k hk o=>?_,fun x bx b c e1 e2 hs=>?_⟩,Grow.refl _ _,kp⟩
 ·rw[only k hk];exact i.heap.le
 ·rw[only k hk];exact t1 o
 ·exact t2 x bx b c e1 e2 (only b hs)
theorem n9.range{e s d t kt et:Nat}{x:Operand}{o:Oper}{h:HM}{K:St→Hid→Prop}(ho:o.op=.range t x)(hd:o.dst=some d)(hN:d<N)
  (hx:ev σ x=.s (.d (.val (.map (some h.bm))))) (ht:P.underlying t=some (.map kt et))
  (hK:∀bi,K ⟨(d,.s (.d (.val (.pointer (some ⟨bi,0,none⟩)))))::σ.env,σ.box⟩ (hid e s {h with it:=some (bi,[])})):n9 P cx N o σ (hid e s h) K:=by
 refine⟨fun c hc=>zeF,fun M β a w i hi Q=>?_⟩
 have ex:a.eval x=.map (some h.bm):=by have:=ev.rep i x;rw[hx]at this;exact this
 have hF:h.F e s M w:=hi.holds
 have a7:(execOp a.eval o).run P w=.ok (.value (.pointer (some ⟨w.heap.size,0,none⟩))) (w.alloc (.mapIter (some h.bm) h.clock #[] h.clock)):=by simp[execOp,ho,ex,run_range_map w t kt et h.bm _ _ ht hF.map]
 unfold Oper.wp
 rw[a7,Oper.upon_value,hd]
 obtain⟨i1,kp⟩:=i.aDX (.mapIter (some h.bm) h.clock #[] h.clock)
 obtain⟨t1,t2⟩:=i.top
 have OO:=hi.alloc (ob:=.mapIter (some h.bm) h.clock #[] h.clock)
 have hF1:h.F e s M (w.alloc (.mapIter (some h.bm) h.clock #[] h.clock)):=OO.holds
 have fQ:∀k,HM.S {h with it:=some (w.heap.size,[])} k→h.S k∨k=w.heap.size:=by
  rintro k (h|h|⟨sn,hs⟩)
  ·exact .inl (.inl h)
  ·exact .inl (.inr (.inl h))
  cases hs;exact .inr rfl
 refine⟨_,M,β,_,hK w.heap.size,i1.put hN rfl,⟨⟨hF1.map,hF1.rows,fun b sn hs=>?_,hF1.II⟩,fun k hk=>?_,fun k hk o=>?_,fun x bx b c e1 e2 hs=>?_⟩,Grow.refl _ _,kp⟩
 ·cases hs;exact heap_alloc_new w _
 ·rcases fQ k hk with h|rfl
  ·exact hi.low k h
  exact i.heap.le
 ·rcases fQ k hk with h|rfl
  ·exact hi.apart k h o
  exact t1 o
 ·rcases fQ b hs with h|rfl
  ·exact hi.names x bx b c e1 e2 h
  exact t2 x bx _ c e1 e2 rfl
theorem n9.next{e s d bi:Nat}{sn:List Nat}{x:Operand}{o:Oper}{h:HM}{K:St→Hid→Prop}(ho:o.op=.next x false)(hd:o.dst=some d)(hN:d<N)
  (hx:ev σ x=.s (.d (.val (.pointer (some ⟨bi,0,none⟩))))) (hit:h.it=some (bi,sn)) (hb:∀q∈h.l,q.born<h.clock)
  (hK0:(∀q∈h.l,q.born∈sn)→K ⟨(d,.t [.s (.d (.lit false))])::σ.env,σ.box⟩ (hid e s h))
  (hK1:∀q∈h.l,q.born∉sn→K ⟨(d,.t [.s (.d (.lit true)),.s (.d (.val (.string q.key))),.s (.d .bL)])::σ.env,σ.box⟩ (hid e s {h with it:=some (bi,q.born::sn)})):n9 P cx N o σ (hid e s h) K:=by
 refine⟨fun c hc=>zeF,fun M β a w i hi Q=>?_⟩
 have ex:a.eval x=.pointer (some ⟨bi,0,none⟩):=by have:=ev.rep i x;rw[hx]at this;exact this
 have hF:h.F e s M w:=hi.holds
 have hh:=hF.iter bi sn hit
 have hSb:h.S bi:=.inr (.inr ⟨sn,hit⟩)
 have hold:∀x∈(h.l.map bO.nK).toArray.toList,x.born<h.clock:=by intro x hx;simp only [List.mem_map]at hx;obtain⟨q,hq,rfl⟩:=hx;exact hb q hq
 have kK:∀e',e'∈(leftOf (h.l.map bO.nK).toArray sn.reverse.toArray).toList↔∃q∈h.l,q.born∉sn∧e'=q.nK:=by
  intro e';unfold leftOf;simp only [Array.toList_filter,List.mem_filter,List.mem_map];constructor
  ·rintro⟨⟨q,hq,rfl⟩,hs⟩;exact⟨q,hq,by simpa [bO.nK]using hs,rfl⟩
  rintro⟨q,hq,hs,rfl⟩;exact⟨⟨q,hq,rfl⟩,by simpa [bO.nK]using hs⟩
 unfold Oper.wp
 rcases run_next_at (P:=P) w o.type bi h.bm h.clock h.clock sn.reverse.toArray (h.l.map bO.nK).toArray h.clock hh hF.map hold (Nat.le_refl _)with⟨hz,a7⟩|⟨e',he,w1,V7,a7⟩
 ·have hr:(execOp a.eval o).run P w=.ok (.value (.tuple #[.bool false])) w:=by simp[execOp,ho,ex,a7]
  rw[hr,Oper.upon_value,hd];refine⟨_,M,β,_,hK0 (fun q hq=>?_),i.put hN ⟨[.bool false],rfl,rfl,trivial⟩,⟨hi.holds,hi.low,hi.apart,hi.names⟩,Grow.refl _ _,cE.refl _ _⟩;refine Classical.byContradiction fun hs=>?_
  have:=(kK _).2 ⟨q,hq,hs,rfl⟩;have TT:(leftOf (h.l.map bO.nK).toArray sn.reverse.toArray).toList=[]:=List.eq_nil_of_length_eq_zero zeM;exact zdD
 ·obtain⟨q,hq,hs,rfl⟩:=(kK e').1 he;obtain⟨q1,q2,q3,q4⟩:=vK V7;have qO:sn.reverse.toArray.push q.born=(q.born::sn).reverse.toArray:=sM;have hr:(execOp a.eval o).run P w=.ok (.value (.tuple #[.bool true,.string q.key,q.val])) (setBlock w1 bi (.mapIter (some h.bm) h.clock (q.born::sn).reverse.toArray h.clock)):=by rw[←qO];simp[execOp,ho,ex,a7,bO.nK]
  rw[hr,Oper.upon_value,hd];have SI:(setBlock w1 bi (.mapIter (some h.bm) h.clock (q.born::sn).reverse.toArray h.clock)).heap.size=w.heap.size:=by rw[gC,q1]
  have sO:∀k',k'≠bi→(setBlock w1 bi (.mapIter (some h.bm) h.clock (q.born::sn).reverse.toArray h.clock)).heap[k']? =w.heap[k']? :=fun k' y5=>by rw[fD _ _ _ y5,q1]
  have hat:=iS (w:=w1) (ob':=.mapIter (some h.bm) h.clock (q.born::sn).reverse.toArray h.clock) (by rw[q1];exact hh);have e1:(setBlock w1 bi (.mapIter (some h.bm) h.clock (q.born::sn).reverse.toArray h.clock)).os=w.os:=q2;have e2:(setBlock w1 bi (.mapIter (some h.bm) h.clock (q.born::sn).reverse.toArray h.clock)).tape=w.tape:=q3;have e3:(setBlock w1 bi (.mapIter (some h.bm) h.clock (q.born::sn).reverse.toArray h.clock)).output=w.output:=q4;generalize setBlock w1 bi (.mapIter (some h.bm) h.clock (q.born::sn).reverse.toArray h.clock)=w' at*;have hbb:h.bm≠bi:=fun e=>by rw[←e,hF.map]at hh;cases hh
  have fQ:∀k,HM.S {h with it:=some (bi,q.born::sn)} k→h.S k:=by
   rintro k (h1|h1|⟨sn',h1⟩)
   ·exact .inl h1
   ·exact .inr (.inl h1)
   cases h1;exact hSb
  refine⟨_,M,β,_,hK1 q hq hs,(i.A1 hi hSb SI sO).put hN ⟨_,rfl,rfl,rfl,trivial,trivial⟩,⟨⟨(sO _ hbb).trans hF.map,fun y hy r hr=>?_,fun b sn' h1=>?_,hF.II⟩,fun k hk=>hi.low k (fQ k hk),fun k hk=>hi.apart k (fQ k hk),fun y bx b c f1 f2 f3=>hi.names y bx b c f1 f2 (fQ b f3)⟩,Grow.refl _ _,cE.A1 hi hSb SI sO e1 e2 e3 trivial⟩
  ·obtain⟨o',cur,p1,p2,p3,p4,p5⟩:=hF.rows y hy r hr;exact⟨o',cur,p1,p2,p3,(sO r.g (fun e=>by rw[e,hh]at p4;cases p4)).trans p4,p5⟩
  cases h1;exact hat
theorem n9.entry{e s d bi j:Nat}{sn:List Nat}{x:Operand}{o:Oper}{h:HM}{q:bO}{r:mX}{K:St→Hid→Prop}(ho:o.op=.entry x)(hd:o.dst=some d)(hN:d<N)(hn:aH σ.box d=none)
  (hx:ev σ x=.s (.d (.val (.pointer (some ⟨bi,0,none⟩))))) (hj:h.l[j]? =some q) (hit:h.it=some (bi,q.born::sn)) (hb:(h.l.map (·.born)).Nodup) (hr:q.row=some r) (DR:r.lo=0)
  (hK:K ⟨(d,.t [.s (.d (.val (.string q.key))),.s (.own d)])::σ.env,(d,some (.row e r.n s r.f))::σ.box⟩ (hid e s {h with l:=cW h.l j})):n9 P cx N o σ (hid e s h) K:=by
 refine⟨fun c hc=>zeF,fun M β a w i hi Q=>?_⟩
 have ex:a.eval x=.pointer (some ⟨bi,0,none⟩):=by have:=ev.rep i x;rw[hx]at this;exact this
 have hF:h.F e s M w:=hi.holds
 have hh:=hF.iter bi _ hit
 have kK:=List.mem_of_getElem? hj
 have qO:(q.born::sn).reverse.toArray=sn.reverse.toArray.push q.born:=sM
 rw[qO]at hh
 have a7:=run_entry_at (P:=P) w bi h.bm h.clock sn.reverse.toArray (h.l.map bO.nK).toArray h.clock q.nK hh hF.map (by simpa using⟨q,kK,rfl⟩) (by
  have:((h.l.map bO.nK).toArray.toList.map (·.born))=h.l.map (·.born):=by simp[bO.nK]
  rw[this];exact hb)
 have hrn:(execOp a.eval o).run P w=.ok (.value (.tuple #[.string q.key,q.val])) w:=by simp[execOp,ho,ex,a7,bO.nK]
 unfold Oper.wp
 rw[hrn,Oper.upon_value,hd]
 have gF:=hF.rows q kK r hr
 have hS:h.S r.g:=.inr (.inl ⟨q,kK,r,hr,rfl⟩)
 obtain⟨β',h1,h2,h3,i2⟩:=i.named (c:=(r.cap,r.n)) (bc:=.row e r.n s r.f) hn (fun x bx b c' e1 e2 e3=>hi.names x bx b c' e1 e2 (e3▸hS)) (hi.apart _ hS) (hi.low _ hS) (fun β' e1 _=>mX.box gF e1)
 have hv:(AV.s (.own d)).bI M β' q.val:=by have:=zR.rep (d:=d) gF h1;unfold zR at this;rw[DR]at this;exact this
 refine⟨_,M,β',_,hK,i2.put (σ:=⟨σ.env,(d,some (.row e r.n s r.f))::σ.box⟩) hN ⟨_,rfl,rfl,hv,trivial⟩,?_,Grow.refl _ _,cE.refl _ _⟩
 have fQ:∀k,HM.S {h with l:=cW h.l j} k→h.S k∧k≠r.g:=by
  rintro k (rfl|⟨x,hx,r',C1,rfl⟩|⟨sn,hs⟩)
  ·exact zbO
  ·obtain⟨j',qR⟩:=List.getElem?_of_mem hx;obtain⟨q1,q2⟩:=p6 qR C1;exact⟨.inr (.inl ⟨x,List.mem_of_getElem? q2,r',C1,rfl⟩),fun e1=>q1 (hF.II j' j x q r' r q2 hj C1 hr e1)⟩
  exact za0
 refine⟨⟨?_,fun x hx r' C1=>?_,hF.iter,hF.II.take j⟩,fun k hk=>hi.low k (fQ k hk).1,fun k hk=>hi.apart k (fQ k hk).1,fun x bx b c e1 e2 hs=>?_⟩
 ·exact zbX
 ·exact zbz
 ·exact qr
end
end Go.Ax
namespace Go.Ax
open Go.RowKit
section
variable{P:Program}{T:List (Nat×bV)}{N:Nat}{rc:List Nat}{all:List Oper}{md:Region.Mode}{ft:List fY}
def wQ(P:Program)(T:List (Nat×bV))(N:Nat)(rc:List Nat)(all:List Oper)(md:Region.Mode)(ft:List fY)(σf:St)(last:Nat):Nat→Array Bool→St→Prop
 |0,_,_=>False
 |fuel+1,listed,σ=>
  Region.ready md all.toArray listed≠[]∧
  ∀i∈Region.ready md all.toArray listed,(i=last∧Region.ready md all.toArray (listed.setIfInBounds i true)=[]∧FP σf σ)∨
   (i≠last∧∃o e f,all[i]? =some o∧ft[i]? =some f∧FD P T N rc all o σ e f∧wQ P T N rc all md ft σf last fuel (listed.setIfInBounds i true) (eU o e σ))
theorem wQ.eqv{σf:St}{last:Nat}:∀(fuel:Nat) {listed:Array Bool} {σ σ':St},FP σ σ'→wQ P T N rc all md ft σf last fuel listed σ→wQ P T N rc all md ft σf last fuel listed σ'
 |0,_,_,_,_,h=>h
 |fuel+1,_,_,_,k,h=>⟨h.1,fun i hi=>by
  rcases h.2 i hi with⟨h1,h2,h3⟩|⟨h0,o,e,f,h1,h2,h3,h4⟩
  ·exact .inl ⟨h1,h2,h3.trans k⟩
  exact .inr ⟨h0,o,e,f,h1,h2,h3.eqv k,wQ.eqv fuel (eU.eqv k) h4⟩⟩
theorem wQ.first{σf:St}{last:Nat}{i:Nat}{oi:Oper}{ei:Ef}{fi:fY}(hi:all[i]? =some oi)(hfi:ft[i]? =some fi)(hil:i≠last){d:Nat}(aCN:dep md all.toArray i d last=true):
  ∀(fuel:Nat) (listed:Array Bool) (σ:St),
   (∀j oj fj,all[j]? =some oj→ft[j]? =some fj→j≠i→listed.getD j true=false→(∀n,dep md all.toArray i n j=false)→oi.apart all.toArray oj=true∧iP fi fj=true)→sZ md all listed→
   i∈Region.ready md all.toArray listed→FD P T N rc all oi σ ei fi→
   wQ P T N rc all md ft σf last fuel (listed.setIfInBounds i true) (eU oi ei σ)→wQ P T N rc all md ft σf last (fuel+1) listed σ:=by
 intro fuel
 induction fuel with
 |zero=>intro listed σ _ _ hr hy H;exact H.elim
 |succ fuel ih=>
  intro listed σ EV vA hr hy H;refine⟨fun h=>ze2,fun j hj=>?_⟩;by_cases y7:j=i
  ·exact zdT
  obtain⟨QX,oj',aCI,lC⟩:=mem_ready.1 hj;have ET:all[j]? =some oj':=by simpa using aCI
  have NB:∀n,dep md all.toArray i n j=false:=fun n=>NW vA (NL (mem_ready.1 hr).1) n j oj' ET lC
  have tC:j≠last:=fun e=>by rw[e]at NB;rw[NB d]at aCN;cases aCN
  rcases H.2 j (ready_mono hj y7)with⟨h1,_,_⟩|⟨_,oj,ej,fj,TS,hfj,hyj,Hj⟩
  ·exact absurd h1 tC
  obtain rfl:oj=oj':=Option.some.inj (TS.symm.trans ET);obtain⟨C2,xO⟩:=EV j oj fj TS hfj y7 QX NB;have aB8:FD P T N rc all oj σ ej fj:=FD.past hy.wr C2 xO hyj;have aB9:FD P T N rc all oi (eU oj ej σ) ei fi:=FD.over hyj.wr C2 xO hy;have HY:∀k ok fk,all[k]? =some ok→ft[k]? =some fk→k≠i→(listed.setIfInBounds j true).getD k true=false→
    (∀n,dep md all.toArray i n k=false)→oi.apart all.toArray ok=true∧iP fi fk=true:=fun k ok fk hk oL ON V9 YN=>by
   refine EV k ok fk hk oL ON ?_ YN
   by_cases SL:j=k
   ·subst SL;exact QX
   ·exact zc6
  refine .inr ⟨tC,oj,ej,fj,TS,hfj,aB8,ih (listed.setIfInBounds j true) (eU oj ej σ) HY (vA.set TS lC) (ready_mono hr (Ne.symm y7)) aB9 ?_⟩;rw[Array.setIfInBounds_comm _ _ y7];refine wQ.eqv fuel ?_ Hj;exact xp
def aBU(md:Region.Mode)(ops:Array Oper)(ft:List fY)(last:Nat):Nat→Nat→Array Bool→Bool
 |0,_,listed=>(match Region.ready md ops listed with|[i]=>Nat.beq i last|_=>false)&&(Region.ready md ops (listed.setIfInBounds last true)).isEmpty
 |fuel+1,k,listed=>(Region.ready md ops listed).contains k&&B3 md ops ft listed k&&(!Nat.beq k last&&dep md ops k 8 last)&&aBU md ops ft last fuel (k+1) (listed.setIfInBounds k true)
theorem wQ.lex{last:Nat}:∀(l:List Oper) (k:Nat) (listed:Array Bool) (σ:St) (es:List Ef) (fs:List fY),(∀j o,l[j]? =some o→all[k+j]? =some o)→(∀j,fs[j]? =ft[k+j]?)→
  sZ md all listed→aBU md all.toArray ft last l.length k listed=true→W4 P T N rc all l σ es fs→wQ P T N rc all md ft (rD l σ es) last (l.length+1) listed σ
 |[],_,listed,_,[],[],_,_,_,hB,_=>by
  simp only [List.length_nil,aBU,Bool.and_eq_true]at hB;obtain⟨h1,h2⟩:=hB
  cases hr:Region.ready md all.toArray listed with
  |nil=>rw[hr]at h1;cases h1
  |cons i t=>
   rw[hr]at h1
   cases t with
   |cons _ _=>cases h1
   |nil=>
    have hi:=Nat.eq_of_beq_eq_true h1;subst hi;show wQ P T N rc all md ft _ i 1 listed _;refine⟨by rw[hr];simp,fun j hj=>?_⟩;rw[hr]at hj;obtain rfl:j=i:=by simpa using hj
    exact .inl ⟨rfl,by simpa using h2,FP.refl _⟩
 |o::l,k,listed,σ,e::es,f::fs,hl,hf,vA,hB,⟨h1,h2⟩=>by
  have h0:all[k]? =some o:=hl 0 o rfl;have SO:ft[k]? =some f:=by simpa using(hf 0).symm
  simp only [List.length_cons,aBU,Bool.and_eq_true,Bool.not_eq_true']at hB;obtain⟨⟨⟨hr,hfr⟩,fJ,hdp⟩,hB'⟩:=hB;have C1:k∈Region.ready md all.toArray listed:=by simpa using hr
  have ND:k≠last:=fun e=>by subst e;simp at fJ
  have lC:∀e∈o.after,Region.binds md e=true→listed.getD e.on false=true:=by exact jx
  exact wQ.first h0 SO ND hdp (l.length+1) listed σ (B3.spec h0 SO hfr) vA C1 h1
   (wQ.lex l (k+1) _ _ es fs (fun j o' h=>by have:=hl (j+1) o' h;simpa [Nat.add_assoc,Nat.add_comm 1 j]using this) (fun j=>by have:=hf (j+1);simpa [Nat.add_assoc,Nat.add_comm 1 j]using this) (vA.set h0 lC) hB' h2)
 |[],_,_,_,_::_,_,_,_,_,_,h=>by cases ‹List fY› <;> exact h.elim
 |[],_,_,_,[],_::_,_,_,_,_,h=>h.elim
 |_::_,_,_,_,[],_,_,_,_,_,h=>h.elim
 |_::_,_,_,_,_::_,[],_,_,_,_,h=>h.elim
variable{cx:Cx}{ref:List Nat}
theorem wpAny_done{F:Fence}{n:Nat}{ops:Array Oper}{Q:Exit→Act→World→Prop}:∀(fuel:Nat) {listed:Array Bool} {a:Act} {w:World},Region.ready md ops listed=[]→Q .normal a w→wpAnyIn F n P md ops Q fuel listed a w
 |0,_,_,_,h,q=>⟨h,q⟩
 |_+1,_,_,_,h,q=>⟨fun _=>q,fun i hi=>by rw[h]at hi;cases hi⟩
end
section
variable{P:Program}{T:List (Nat×bV)}{cx:Cx}{N:Nat}{σ:St}{H:Hid}{all:List Oper}{rc:List Nat}
def bM(P:Program)(cx:Cx)(N:Nat)(all l:List Oper)(σ:St)(H:Hid)(K:St→Hid→Prop):Prop:=
 ∀M β a w Q,Inv cx N M β σ a w→mH cx M β σ w H→(∀a' w',yB cx N M w K a' w'→Q .normal a' w')→wpListIn (FW cx.rd) 0 P all.toArray Q l a w
theorem bM.nil{K:St→Hid→Prop}(h:K σ H):bM P cx N all [] σ H K:=fun M β a w _ i hi hQ=>wpListIn_nil (hQ a w ⟨σ,M,β,H,h,i,hi,Grow.refl _ _,cE.refl _ _⟩)
theorem bM.op{K:St→Hid→Prop}{o:Oper}{l:List Oper}(hg:o.guard=none)(h:n9 P cx N o σ H fun σ' H'=>bM P cx N all l σ' H' K):bM P cx N all (o::l) σ H K:=by intro M β a w Q i hi hQ;unfold wpListIn;rw[if_pos zeP];refine MQ h.1 (Oper.wp_mono ?_ (h.2 M β a w i hi Q));rintro a' w' ⟨σ',M',β',H',hk,i',bC,g,kp⟩;exact hk M' β' a' w' Q i' bC fun a2 w2 hp=>hQ a2 w2 (hp.trans g kp)
theorem bM.ops{K:St→Hid→Prop}{l:List Oper}{ks:List Nat}(hT:cD P T)(n:Nat)(jA:∀x,x∈ks→∃bc,aH σ.box x=some (some bc)∧bc.real=true)(lC:∀x bc,aH σ.box x=some (some bc)→x∈ks)(aA:∀x,x∈cx.ref→x∈ks)
  (h:l5 P T N ks rc all (l.take n) σ fun σ'=>bM P cx N all (l.drop n) σ' H K):bM P cx N all l σ H K:=by
 intro M β a w Q i hi hQ
 have l7:∀x,x∈ks→∃bc,aH σ.box x=some (some bc):=fun x hx=>let⟨bc,h1,_⟩:=jA x hx;⟨bc,h1⟩
 have fJ:∀x,x∈ks→∃p,β x=some p:=fun x hx=>by exact xw
 have ii:=i.aFP (rd:=cx.rd) l7 lC fJ i.defers
 have:=l5.SU (cx:=Cx.part w ks β cx.rd cx.df) (Q:=Q) hT rfl (l.drop n) (l.take n) h ii (by rintro a' w' ⟨σ',M',β',hk,i',g,kp⟩;exact hk M' β' a' w' Q (Inv.back i l7 aA i' (cE.back i l7 kp) i'.defers i'.tmps i'.env) (hi.after l7 i' g kp) fun a2 w2 hp=>hQ a2 w2 (hp.trans (Grow.back i g) (cE.back i l7 kp)))
 rwa [List.take_append_drop]at this
theorem bS.region{K:Exit→St→Hid→Prop}{id:Nat}{ops:Array Oper}(h:bM P cx N ops.toList ops.toList σ H (K .normal)):bS P cx N (.region id ops false) σ H K:=by intro M β a w i hi;have:=h M β a w (fun e a' w'=>yB cx N M w (K e) a' w') i hi (fun a' w' hp=>hp);exact zes
theorem wQ.aHS{md:Region.Mode}{ft:List fY}(hT:cD P T)(YK:∀f,rc.contains (f+2000000)=true→cx.ref=[]){last:Nat}{ol:Oper}(HW:all[last]? =some ol)(hg:ol.guard=none)(YP:∀c,ol.op≠.defer c)
  {σf:St} {Q:Exit→Act→World→Prop} {M0:Mem} {w0:World} (qP:∀M β a w,Inv cx N M β σf a w→Grow cx.B M0 M→cE cx w0 w→ol.wp P a w (fun a' w'=>Q .normal a' w') Q):∀(fuel:Nat) {listed:Array Bool} {σ:St} {M:Mem} {β:Nm} {a:Act} {w:World},
  wQ P T N rc all md ft σf last fuel listed σ→Inv cx N M β σ a w→Grow cx.B M0 M→cE cx w0 w→wpAnyIn (FW cx.rd) 0 P md all.toArray Q fuel listed a w:=by
 intro fuel
 induction fuel with
 |zero=>intro listed σ M β a w h;exact h.elim
 |succ fuel ih=>
  intro listed σ M β a w h i g0 k0;refine⟨fun h0=>absurd h0 h.1,fun k hk=>?_⟩;rcases h.2 k hk with⟨ND,hr,heq⟩|⟨ND,o,e,f,ho,hf,gF,LD⟩
  ·subst ND;have sO:all.toArray[k]? =some ol:=by simpa using HW
   unfold wpOpIn;rw[sO];simp only;rw[if_pos zeP];exact MQ YP (Oper.wp_mono (fun a' w' hp=>wpAny_done fuel hr hp) (qP M β a w (i.eqv heq.symm) g0 k0))
  have jO:=a6.sound (cx:=cx) (Q:=Q) hT YK (gF.pt (fun e'=>e'=e) rfl) i;have sO:all.toArray[k]? =some o:=by simpa using ho
  have next:∀a' w',CT cx N M w o σ (fun e'=>e'=e) a' w'→wpAnyIn (FW cx.rd) 0 P md all.toArray Q fuel (listed.setIfInBounds k true) a' w':=by rintro a' w' ⟨e',M',β',rfl,hi,hg,lB⟩;exact ih LD hi (g0.trans hg) (k0.trans lB)
  exact vq
theorem bS.aC4{K:Exit→St→Hid→Prop}{ks:List Nat}(hT:cD P T)(YK:∀f,rc.contains (f+2000000)=true→ks=[])(hm:P.follows .mixedOrders=true){id:Nat}{ops:Array Oper}
  (jA:∀x,x∈ks→∃bc,aH σ.box x=some (some bc)∧bc.real=true) (lC:∀x bc,aH σ.box x=some (some bc)→x∈ks) (aA:∀x,x∈cx.ref→x∈ks) (last:Nat) {ol:Oper}
  (HW:ops.toList[last]? =some ol) (mL:Nat.beq ops.toList.length (last+1)=true) (hg:ol.guard=none) (YP:∀c,ol.op≠.defer c)
  (h:pB P T N rc ops.toList (ops.toList.take last) σ [] fun σ' fs=>aBU .any ops.toList.toArray fs last (ops.toList.take last).length 0 (Array.replicate ops.toList.length false)=true∧n9 P cx N ol σ' H (K .normal)):bS P cx N (.region id ops true) σ H K:=by
 obtain⟨es,gs,hc,hl,hK⟩:=pB.chain h
 intro M β a w i hi
 refine wpIn_region_any hm ?_
 have T5:=wQ.lex (md:=.any) (ft:=gs) (ops.toList.take last) 0 (Array.replicate ops.toList.length false) σ es gs (fun j o h=>by rw[Nat.zero_add];exact(List.getElem?_eq_some_iff.1 h).elim fun h1 h2=>by rw[List.getElem_take]at h2;rw[List.length_take]at h1;rw[List.getElem?_eq_getElem oM];exact congrArg some h2) sM (fun m om _ h=>by simp[Array.getElem?_replicate]at h;split at h <;> simp_all) hl hc
 have l7:∀x,x∈ks→∃bc,aH σ.box x=some (some bc):=fun x hx=>let⟨bc,h1,_⟩:=jA x hx;⟨bc,h1⟩
 have fJ:∀x,x∈ks→∃p,β x=some p:=fun x hx=>by exact xw
 have id1:Inv cx N M β σ a {w with drawn:=w.drawn+1}:=
  ⟨i.defers,i.tmps,⟨i.heap.le,i.heap.tab⟩,i.env,i.mem,i.keys,i.box,i.inj,i.apart,i.low,i.ref⟩
 have OO:mH cx M β σ {w with drawn:=w.drawn+1} H:=⟨H.loc M M w _ hi.holds (Mem.le_refl M) fun _ _=>rfl,hi.low,hi.apart,hi.names⟩
 have kd:cE cx w {w with drawn:=w.drawn+1}:=⟨rfl,rfl,rfl,Nat.le_refl _,fun _ _ _=>rfl,trivial⟩
 have ii:=id1.aFP (rd:=cx.rd) l7 lC fJ i.defers
 have:=wQ.aHS (cx:=Cx.part {w with drawn:=w.drawn+1} ks β cx.rd cx.df) (Q:=fun e a' w'=>yB cx N M w (K e) a' w') (M0:=M) (w0:={w with drawn:=w.drawn+1}) hT YK HW hg YP (by intro M' β' a' w' i' g kp;refine Oper.wp_mono ?_ (hK.2 M' β' a' w' (Inv.back id1 l7 aA i' (cE.back id1 l7 kp) i'.defers i'.tmps i'.env) (OO.after l7 i' g kp) _);exact fun a2 w2 hp=>hp.trans (Grow.back id1 g) (kd.trans (cE.back id1 l7 kp))) _ T5 ii (Grow.refl _ _) (cE.refl _ _)
 have hlen:(ops.toList.take last).length+1=ops.toList.length:=by have:=(List.getElem?_eq_some_iff.1 HW).1;have:=Nat.eq_of_beq_eq_true mL;rw[List.length_take];omega
 rw[hlen]at this
 have e:(Cx.part {w with drawn:=w.drawn+1} ks β cx.rd cx.df).rd=cx.rd:=rfl
 rw[e]at this
 simpa using this
end
def Hid.none:Hid where
 S:=fun _=>False
 F:=fun _ _=>True
 lt:=fun _ _ _ _ h=>h.elim
 loc:=fun _ _ _ _ _ _ _=>trivial
section
variable{P:Program}{cx:Cx}{N:Nat}{σ:St}{M:Mem}{β:Nm}{a:Act}{w:World}
theorem mH.none:mH cx M β σ w Hid.none:=⟨trivial,fun _ h=>h.elim,fun _ h=>h.elim,fun _ _ _ _ _ _ h=>h⟩
theorem AW.DH{c:Code}{K:Exit→St→Prop}(h:bS P cx N c σ Hid.none fun e s _=>K e s):AW P cx N c σ K:=fun M β a w i=>
 wpIn_mono (h M β a w i mH.none) fun _ _ _ ⟨s,M',β',_,h1,h2,_,h4,h5⟩=>⟨s,M',β',h1,h2,h4,h5⟩
theorem Inv.grow(i:Inv cx N M β σ a w){M':Mem}(hM:Mem.le M M')(gF:lA M' w)(C2:∀x bx b c,aH σ.box x=some (some bx)→β x=some (b,c)→∀o,M' b o=none):Inv cx N M' β σ a w:=
 ⟨i.defers,i.tmps,i.heap,fun t=>AV.bI.mono hM (Nm.le_refl β) (i.env t),gF,i.keys,fun x bx e=>cN.mono hM (Nm.le_refl β) rfl (fun _ _ _=>rfl) (i.box x bx e),i.inj,C2,i.low,i.ref⟩
def dmV(s:Nat)(q:bO):DV:=match q.row with
 |some r=>.fU r.n s r.f
 |none=>.val (.slice none 0 0)
def dmL(s:Nat)(l:List bO):List (ByteArray×Nat×DV):=l.map fun q=>(q.key,q.born,dmV s q)
theorem RF(s:Nat):∀l:List bO,lY (dmL s l) (l.map (·.val))=l.map bO.nK
 |[]=>rfl
 |q::r=>by simp only [dmL,List.map_cons,lY];exact congrArg (_:: ·) (RF s r)
theorem W1{s:Nat}:∀{l:List bO},(∀q∈l,(dmV s q).bI M q.val)→wO M (dmL s l) (l.map (·.val))
 |[],_=>trivial
 |q::_,h=>⟨h q (List.mem_cons_self),W1 fun x hx=>h x (List.mem_cons_of_mem _ hx)⟩
theorem HSub.aE3{e s t x:Nat}{h:HM}(pD:∀q∈h.l,(∃r,q.row=some r∧r.lo=0)∨(q.row=none∧q.val=.slice none 0 0))(hx:aH σ.box x=none)(ht:fL σ.env t=.s (.d (.val (.map (some h.bm))))):
  HSub cx N σ (hid e s h) ⟨(t,.s (.mp x))::σ.env,(x,some (.dm (dmL s h.l) h.clock))::σ.box⟩ Hid.none:=by
 classical
 intro M β a w i hi
 have hF:h.F e s M w:=hi.holds
 let SE:Nat→Prop:=fun b=>∃q∈h.l,∃r,q.row=some r∧r.g=b
 have hRS:∀b,SE b→h.S b:=fun b ⟨q,hq,r,hr,e⟩=>.inr (.inl ⟨q,hq,r,hr,e⟩)
 let M':Mem:=fun b o=>if SE b then w.cell? ⟨b,o,none⟩else M b o
 have hM:Mem.le M M':=fun b o u e=>by
  by_cases hb:SE b
  ·rw[hi.apart b (hRS b hb) o]at e;cases e
  simp only [M',if_neg hb];exact e
 have gF:lA M' w:=fun b o u e=>by
  by_cases hb:SE b
  ·simp only [M',if_pos hb]at e;exact e
  simp only [M',if_neg hb]at e;exact i.mem b o u e
 have i1:=i.grow hM gF (fun y bx b c e1 e2 o=>by
  have:¬SE b:=fun hb=>hi.names y bx b c e1 e2 (hRS b hb)
  simp only [M',if_neg this];exact i.apart y bx b c e1 e2 o)
 have FX:¬SE h.bm:=by rintro⟨q,hq,r,hr,e⟩;obtain⟨_,_,_,_,_,hg,_⟩:=hF.rows q hq r hr;rw[e,hF.map]at hg;cases hg
 have aCB:∀q∈h.l,(dmV s q).bI M' q.val:=by
  intro q hq;rcases pD q hq with⟨r,hr,DR⟩|⟨hr,hv⟩
  ·obtain⟨o,cur,h1,h2,h3,h4,h5,h6,h7,h9,h8⟩:=hF.rows q hq r hr;rw[DR]at h1 h2;have ho:o=0:=by rw[h2 h9];simp
   subst ho;unfold dmV;rw[hr];refine⟨_,r.cap,by rw[h1];simp,h6,.inr ⟨r.g,0,rfl,fun k j hk hj=>?_⟩⟩;obtain⟨u,hu,FJ⟩:=h8 k j hk hj;have hR:SE r.g:=⟨q,hq,r,hr,rfl⟩;exact⟨u,by simp only [M',if_pos hR];simp[World.cell?,h4,hu],DV.bI.mono hM FJ⟩
  unfold dmV;rw[hr];exact hv
 obtain⟨β',h1,h2,h3,i2⟩:=i1.named (c:=(0,0)) (bc:=.dm (dmL s h.l) h.clock) hx (fun y bx b c e1 e2 e3=>hi.names y bx b c e1 e2 (e3▸.inl rfl)) (fun o=>by simp only [M',if_neg FX];exact hi.apart _ (.inl rfl) o) (hi.low _ (.inl rfl)) (fun β' e1 _=>
  ⟨h.bm,_,h.l.map (·.val),e1,by rw[RF];exact hF.map,W1 aCB⟩)
 refine⟨M',β',?_,mH.none,⟨hM,fun b o u e=>?_⟩⟩
 ·refine⟨i2.defers,i2.tmps,i2.heap,fun t'=>?_,i2.mem,i2.keys,i2.box,i2.inj,i2.apart,i2.low,i2.ref⟩;by_cases ER:t=t'
  ·subst ER;have:=i.env t;rw[ht]at this;simp only [fL,Nat.beq_refl,cond_true];exact⟨h.bm,_,h1,this⟩
  simp only [fL,UU ER,cond_false];exact i2.env t'
 ·by_cases hb:SE b
  ·exact .inr (hi.low b (hRS b hb))
  simp only [M',if_neg hb]at e;exact .inl e
end
def aO8(xs:List Nat):Option jK→Bool
 |some b=>SF xs b
 |none=>true
theorem Q4:∀{E:List (Nat×AV)} {u:Nat},fL E u=.s (.d .bL)∨∃p,p∈E∧fL E u=p.2
 |[],u=>.inl rfl
 |(k,v)::r,u=>by
  rw[gP];by_cases h:k=u
  ·rw[if_pos h];exact .inr ⟨(k,v),sM,rfl⟩
  rw[if_neg h];rcases Q4 (E:=r) (u:=u)with h|⟨p,hp,e⟩
  ·exact .inl h
  exact .inr ⟨p,by simp[hp],e⟩
theorem Q6:∀{B:aP} {y:Nat} {b:Option jK},aH B y=some b→(y,b)∈B
 |[],y,b,h=>by simp[aH]at h
 |(k,v)::r,y,b,h=>by
  rw[aL]at h;by_cases hk:k=y
  ·rw[if_pos hk]at h;cases h;subst hk;simp
  rw[if_neg hk]at h;have:=Q6 h;simp[this]
theorem aDO{B:aP}{y:Nat}{b:Option jK}(h:(y,b)∈B):y∈cR B:=by
 induction B with
 |nil=>cases h
 |cons a r ih=>
  obtain⟨k,v⟩:=a;unfold cR;rcases List.mem_cons.1 h with e|h
  ·cases e;simp
  simp[ih h]
def aEQ(T:List (Nat×bV))(rs:List ResultVar)(r:AV)(bx':eV):Exit→St→Prop
 |.ret,σ=>match oQ T σ rs with
  |some ts=>aU (yX ts) r∧jI σ.box bx'
  |none=>False
 |.normal,σ=>match oQ T σ rs with
  |some ts=>aU (yX ts) r∧jI σ.box bx'
  |none=>False
 |_,_=>False
section
variable{P:Program}{T:List (Nat×bV)}
theorem R1{f N:Nat}{fn:Func}{c:Code}{args:List AV}{bx:eV}{r:AV}{bx':eV}(hf:P.funcs[f]? =some fn)(hb:fn.body=some c)(hN:fn.ntmps=N)(eF:∀vs w,(callFunc f vs).run P w=.ok (.enter f vs) w)
  (hT:cD P T) (hl:Nat.ble args.length N=true) (kJ:(bx'.all fun p=>p.2.real)=true) {rs:List ResultVar} (NA:fn.results.toList=rs)
  (h:∀cx:Cx,cx.ref=names bx→AW P cx N c (qM args bx) (aEQ T rs r bx')):bW P f args bx r bx':=by
 classical
 refine⟨eF,fun M β w vs hG hr hM rJ hβ=>?_⟩
 refine calls_of_wp hf hb ?_
 let cx:Cx:={B:=w.heap.size,ref:=names bx,β0:=β}
 have hlen:=hr.length
 have hl:=Nat.le_of_ble_eq_true hl
 have hex:∀x,x∈names bx→∃p,β x=some p:=fun x hx=>by exact za5
 have i0:Inv cx N M β (qM args bx) {tmps:=vs.toArray++Array.replicate (fn.ntmps - vs.toArray.size) undef,defers:=[]} w:=by exact zb
 refine wp_mono (wpIn_wide.1 (h cx rfl M β _ w i0)) ?_
 rintro e a' w' ⟨σ',M',β',hk,i',hg,lB⟩
 have fin:∀ts,oQ T σ' rs=some ts→aU (yX ts) r→jI σ'.box bx'→a'.defers=[]∧∃v,(results fn a'.tmps).run P w'=.ok v w'∧∃v' M' β',Ending.returned v=.returned v'∧Nm.le β β'∧r.bI M' β' v'∧Grow w.heap.size M M'∧lA M' w'∧sE M' β' w' bx'∧
   (∀x b c,x∈names bx'→β' x=some (b,c)→w.heap.size≤b∨∃y c',β y=some (b,c'))∧
   w'.os=w.os∧w'.tape=w.tape∧w'.output=w.output∧w.heap.size≤w'.heap.size∧(∀k,k<w.heap.size→(∀y c,β y≠some (k,c))→w'.heap[k]? =w.heap[k]?)∧Dr w w':=by
  intro ts uX fQ qS
  obtain⟨AY,a7,eD⟩:=oQ.rep hT i' uX
  have cQ:∀x,x∈names bx'→∃b,aH σ'.box x=some (some b):=fun x hx=>by exact zaG
  refine⟨i'.defers,(if h:AY.toArray.size=1 then AY.toArray[0]else .tuple AY.toArray),?_,_,M',β',rfl,?_,fQ M' β' _ ?_,hg,i'.mem,?_,?_,lB.os,lB.tape,lB.output,lB.size,?_,lB.drawn⟩
  ·exact zj
  ·exact zaO
  ·cases ts with
   |nil=>
    cases AY with
    |nil=>exact⟨[],rfl,trivial⟩
    |cons _ _=>exact eD.elim
   |cons t r'=>
    cases AY with
    |nil=>exact eD.elim
    |cons v F9=>
     cases r' with
     |nil=>
      cases F9 with
      |cons _ _=>exact eD.2.elim
      |nil=>
       have:=eD.1;simp only [List.size_toArray,List.length_cons,List.length_nil,Nat.zero_add,dite_true,yX]
       cases t with
       |s x=>exact this
       |g cs=>exact this
     |cons t2 r2=>
      cases F9 with
      |nil=>exact eD.2.elim
      |cons v2 vs3=>have fJ:¬(v::v2::vs3).toArray.size=1:=sM;rw[dif_neg fJ];exact⟨_,rfl,eD⟩
  ·exact vm
  ·exact vg
  ·exact jy
 cases e with
 |ret=>exact zbS
 |normal=>exact zbS
 |_=>exact hk.elim
theorem E9{rc:List Nat}{f N:Nat}{fn:Func}{c:Code}{args:List AV}{bx:eV}{r:AV}{bx':eV}(hf:P.funcs[f]? =some fn)(hb:fn.body=some c)(hN:fn.ntmps=N)(eF:∀vs w,(callFunc f vs).run P w=.ok (.enter f vs) w)
  (hT:cD P T) (hm:P.follows .mixedOrders=true) (hl:Nat.ble args.length N=true) (kJ:(bx'.all fun p=>p.2.real)=true) {rs:List ResultVar} (NA:fn.results.toList=rs)
  (h:∀cx:Cx,cx.ref=names bx→ex P T N (names bx) rc cx c (qM args bx) (aEQ T rs r bx')):bW P f args bx r bx':=
 R1 hf hb hN eF hT hl kJ NA fun cx aA=>ex.sound hT hm aA c (h cx aA)
end
def aEA(P:Program)(f:FuncId)(args:List AV)(K:DV→Hid→Prop):Prop:=
 (∀vs w,(callFunc f vs).run P w=.ok (.enter f vs) w)∧
 ∀(M:Mem) (w:World) (vs:List Value),aKJ w→gZ M nb args vs→lA M w→
  Calls P f vs.toArray w fun e w'=>∃v M' x H,K x H∧e=.returned v∧x.bI M' v∧Grow w.heap.size M M'∧lA M' w'∧Bel w w'∧H.F M' w'∧(∀k,H.S k→w.heap.size≤k)∧∀k,H.S k→∀o,M' k o=none
def aOB(T:List (Nat×bV))(rs:List ResultVar)(K:DV→Hid→Prop):Exit→St→Hid→Prop
 |.ret,σ,H=>∃x,oQ T σ rs=some [.s (.d x)]∧K x H
 |.normal,σ,H=>∃x,oQ T σ rs=some [.s (.d x)]∧K x H
 |_,_,_=>False
section
variable{P:Program}{T:List (Nat×bV)}
theorem N9{f N:Nat}{fn:Func}{c:Code}{args:List AV}{K:DV→Hid→Prop}(hf:P.funcs[f]? =some fn)(hb:fn.body=some c)(hN:fn.ntmps=N)(eF:∀vs w,(callFunc f vs).run P w=.ok (.enter f vs) w)
  (hT:cD P T) (hl:Nat.ble args.length N=true) {rs:List ResultVar} (NA:fn.results.toList=rs)
  (h:∀cx:Cx,cx.ref=[]→bS P cx N c (uV args) Hid.none (aOB T rs K)):aEA P f args K:=by
 refine⟨eF,fun M w vs hG hr hM=>?_⟩
 refine calls_of_wp hf hb ?_
 let cx:Cx:={B:=w.heap.size,ref:=[],β0:=nb}
 have hlen:=hr.length
 have hl:=Nat.le_of_ble_eq_true hl
 have i0:Inv cx N M nb (uV args) {tmps:=vs.toArray++Array.replicate (fn.ntmps - vs.toArray.size) undef,defers:=[]} w:=by exact ue
 refine wp_mono (wpIn_wide.1 (h cx rfl M nb _ w i0 mH.none)) ?_
 rintro e a' w' ⟨σ',M',β',H',hk,i',bC,hg,lB⟩
 have fin:(∃x,oQ T σ' rs=some [.s (.d x)]∧K x H')→a'.defers=[]∧∃v,(results fn a'.tmps).run P w'=.ok v w'∧∃v' M' x H,K x H∧Ending.returned v=.returned v'∧x.bI M' v'∧Grow w.heap.size M M'∧lA M' w'∧Bel w w'∧H.F M' w'∧(∀k,H.S k→w.heap.size≤k)∧∀k,H.S k→∀o,M' k o=none:=by
  rintro⟨x,uX,hK⟩;obtain⟨AY,a7,eD⟩:=oQ.rep hT i' uX
  match AY,a7,eD with
  |[v],a7,eD=>
   refine⟨i'.defers,v,?_,v,M',x,H',hK,rfl,eD.1,hg,i'.mem,⟨⟨lB.os,lB.tape,lB.output,lB.size,fun k hk=>lB.block k hk (by rintro⟨x,c,hx,_⟩;cases hx)⟩,lB.drawn⟩,bC.holds,bC.low,bC.apart⟩;have h1:(fn.results.mapM (l6 a'.tmps)).run P w'=.ok #[v] w':=by rw[←Array.toArray_toList (xs:=fn.results),List.mapM_toArray,NA];simp only [Sem.run_map,a7,Result.andThen]
   have e:results fn a'.tmps=(do let vs←fn.results.mapM (l6 a'.tmps);pure (if h:vs.size=1 then vs[0]else .tuple vs)):=by unfold results;congr 1
   rw[e];simp only [Sem.run_bind,h1,Result.andThen,Sem.run_pure];rfl
  |[],_,eD=>exact eD.elim
  |_::_::_,_,eD=>exact eD.2.elim
 cases e with
 |ret=>exact fin hk
 |normal=>exact fin hk
 |_=>exact hk.elim
theorem n9.aNQ{cx:Cx}{N:Nat}{σ:St}{d f:Nat}{args:Array Operand}{wR:Array TypeId}{o:Oper}{ars:List AV}{K0:DV→Hid→Prop}{K:St→Hid→Prop}
  (ho:o.op=.call {callee:=.value (.func f),args:=args,argTypes:=wR}) (hd:o.dst=some d) (hN:d<N)
  (aPV:dY none σ args.toList fun l=>l=ars) (hr:tI ars=false) (h:aEA P f (jD σ ars) K0)
  (hK:∀x H,K0 x H→K ⟨(d,.s (.d x))::σ.env,σ.box⟩ H):n9 P cx N o σ Hid.none K:=by
 refine⟨fun c hc=>zeF,fun M β a w i hi Q=>?_⟩
 obtain⟨aQR,rfl,has⟩:=dY.spec aPV
 have xP:=has (fun _ h=>by cases h) cx N M β a w i
 obtain⟨z7,eF⟩:=h
 have a7:(execOp a.eval o).run P w=.ok (.enter f (args.toList.map a.eval).toArray) w:=by
  have:args.map a.eval=(args.toList.map a.eval).toArray:=by apply Array.ext';simp
  simp[execOp,ho,resolve,Act.eval,Deferred.ofValue,invoke,this,z7]
 unfold Oper.wp
 rw[a7,Oper.upon_enter]
 refine(eF M w _ i.heap.aFU (tI.rep hr xP) i.mem).mono ?_
 rintro e w' ⟨v,M',x,H,hk,rfl,TQ,hg,hm,Q2,hF,hS,C2⟩
 obtain⟨i1,g1,k1⟩:=i.after Q2 hg hm
 rw[hd]
 refine⟨_,M',β,H,hK x H hk,i1.put hN TQ,⟨hF,fun k hk=>Nat.le_trans i.heap.le (hS k hk),C2,fun y bc b c e1 e2 hs=>?_⟩,g1,k1⟩
 have h1:=i.vM e1 e2
 have h2:=hS b hs
 omega
end
end Go.Ax
