/- Part 3: lemmas that the proofs of this seat share; by itself it claims nothing. -/
import Derived.Test.YtaalojbkjiplcaaGreatDoorPt2
namespace Go.Ax
open Go.RowKit
def Cx.part(w:World)(ks:List Nat)(β:Nm)(rd:Option Nat)(df:List Deferred):Cx:={B:=w.heap.size,ref:=ks,β0:=β,rd:=rd,df:=df}
section
variable{P:Program}{cx:Cx}{N:Nat}{M:Mem}{β:Nm}{σ:St}{a:Act}{w:World}{ks:List Nat}{rd:Option Nat}{df:List Deferred}
theorem Inv.aDJ(i:Inv cx N M β σ a w)(iT:∀x,x∈ks→∃bc,aH σ.box x=some (some bc))(lE:∀x bc,aH σ.box x=some (some bc)→x∈ks)(hV:∀x,x∈ks→∃p,β x=some p)
  (hdf:a.defers=df):Inv (Cx.part w ks β rd df) N M β σ a w:=by
 refine⟨hdf,i.tmps,⟨Nat.le_refl _,?_⟩,i.env,i.mem,i.keys,i.box,i.inj,i.apart,fun x bc b c hb e=>.inr ⟨x,c,lE x bc hb,e⟩,fun x hx=>⟨rfl,hV x hx⟩⟩
 obtain⟨bs,h1,h2⟩:=i.heap.tab
 refine⟨bs,h1,fun g t m=>⟨h1.lt m,?_⟩⟩
 rintro⟨x,c,hx,e⟩
 obtain⟨bc,hbc⟩:=iT x hx
 rcases i.low x bc g c hbc e with h|h
 ·have:=(h2 g t m).1;omega
 ·exact(h2 g t m).2 h
theorem b6.back(i:Inv cx N M β σ a w)(iT:∀x,x∈ks→∃bc,aH σ.box x=some (some bc)){w1 w':World}(k:b6 (Cx.part w ks β rd df) w1 w'):b6 cx w1 w':=by
 refine⟨k.os,k.tape,k.output,k.size,fun b hb hm=>k.block b (Nat.lt_of_lt_of_le hb i.heap.le) ?_,k.drawn⟩
 rintro⟨x,c,hx,e⟩
 obtain⟨bc,hbc⟩:=iT x hx
 rcases i.low x bc b c hbc e with h|h
 ·omega
 ·exact hm h
theorem Grow.back(i:Inv cx N M β σ a w){M':Mem}(g:Grow w.heap.size M M'):Grow cx.B M M':=
 ⟨g.le,fun b o u e=>(g.new b o u e).imp id (fun h=>Nat.le_trans i.heap.le h)⟩
theorem Inv.back(i:Inv cx N M β σ a w)(iT:∀x,x∈ks→∃bc,aH σ.box x=some (some bc))(aA:∀x,x∈cx.ref→x∈ks)
  {N' N2:Nat} {M':Mem} {β':Nm} {σ':St} {a' a2:Act} {w':World} {aKE:List (Nat×AV)} {rd2:Option Nat} {df2:List Deferred}
  (i':Inv (Cx.part w ks β rd df) N' M' β' σ' a' w') (kb:b6 cx w w')
  (hd:a2.defers=df2) (ht:a2.tmps.size=N2) (he:∀t,(eZ aKE t).a7 M' β' (a2.tmps.getD t undef)):
  Inv {cx with rd:=rd2,df:=df2} N2 M' β' ⟨aKE,σ'.box⟩ a2 w':=by
 have h:=i.heap.keep kb
 refine⟨hd,ht,⟨h.le,h.tab⟩,he,i'.mem,i'.keys,i'.box,i'.inj,i'.apart,fun x bc b c hb e=>?_,fun x hx=>?_⟩
 ·rcases i'.low x bc b c hb e with h|⟨y,c',hy,ey⟩
  ·exact .inl (Nat.le_trans i.heap.le h)
  ·obtain⟨by',hby⟩:=iT y hy
   exact i.low y by' b c' hby ey
 ·obtain⟨e1,p,e2⟩:=i'.ref x (aA x hx)
  exact⟨e1.trans (i.ref x hx).1,p,e2⟩
structure aM7(B:Nat→Prop)(w w':World):Prop where
 size:w.heap.size≤w'.heap.size
 same:∀(k:Nat) (o:Obj),¬B k→w.heap[k]? =some o→w'.heap[k]? =some o
theorem Inv.side{B:Nat→Prop}{w':World}(i:Inv cx N M β σ a w)(h:aM7 B w w')(hb:∀x bc b c,aH σ.box x=some (some bc)→β x=some (b,c)→¬B b)
  (hM:∀b o u,M b o=some u→¬B b) (hT:∀bs,BT bs w→(∀g t,(g,t)∈rH bs→g<cx.B∧¬cx.vU g)→∀g t,(g,t)∈rH bs→¬B g):Inv cx N M β σ a w':=by
 refine⟨i.defers,i.tmps,⟨Nat.le_trans i.heap.le h.size,?_⟩,i.env,fun b o u e=>?_,i.keys,fun x bc e=>?_,i.inj,i.apart,i.low,i.ref⟩
 ·obtain⟨bs,h1,h2⟩:=i.heap.tab
  refine⟨bs,fun g t m=>?_,h2⟩
  obtain⟨e,fr,c⟩:=h1 g t m
  exact⟨e,fr,h.same g _ (hT bs h1 h2 g t m) c⟩
 ·have hc:=i.mem b o u e
  have:w'.heap[b]? =w.heap[b]? :=by
   cases ho:w.heap[b]? with
   |none=>simp[World.cell?,ho]at hc
   |some x=>exact h.same b x (hM b o u e) ho
  simpa [World.cell?,this]using hc
 ·have hh:∀b c,β x=some (b,c)→∀o,w.heap[b]? =some o→w'.heap[b]? =some o:=fun b c eb o ho=>h.same b o (hb x bc b c e eb) ho
  have hr:=i.box x bc e
  cases bc with
  |cells cs=>obtain⟨b,c,vs,T,ex,h1,h2,h3⟩:=hr;exact⟨b,c,vs,T,ex,h1,hh b c h1 _ h2,h3⟩
  |row e' n s f=>obtain⟨b,c,cur,h1,h2,h3⟩:=hr;exact⟨b,c,cur,h1,hh b c h1 _ h2,h3⟩
  |bW e' n s f=>intro b c h1;obtain⟨cur,h2,h3⟩:=hr b c h1;exact⟨cur,hh b c h1 _ h2,h3⟩
  |map vk l=>obtain⟨b,c,h1,h2⟩:=hr;exact⟨b,c,h1,hh b c h1 _ h2⟩
  |smap vk l=>obtain⟨b,c,h1,h2⟩:=hr;exact⟨b,c,h1,hh b c h1 _ h2⟩
  |dm l n=>obtain⟨b,c,vs,h1,h2,h3⟩:=hr;exact⟨b,c,vs,h1,hh b c h1 _ h2,h3⟩
  |fresh T vs=>obtain⟨b,c,h1,h2⟩:=hr;exact⟨b,c,h1,hh b c h1 _ h2⟩
  |iter m n seen=>obtain⟨b,c,bm,cm,h1,h2,h3⟩:=hr;exact⟨b,c,bm,cm,h1,h2,hh b c h1 _ h3⟩
def SR:Obj→Bool
 |.cells .. =>true
 |.map .. =>true
 |.mapIter .. =>true
 |_=>false
theorem cH.SR{M:Mem}{β:Nm}{w:World}{x b:Nat}{c:Nat×Nat}{bc:jM}(h:cH M β w x bc)(e:β x=some (b,c)):∃o,w.heap[b]? =some o∧Go.Ax.SR o=true:=by
 cases bc with
 |cells cs=>obtain⟨b',c',vs,T,ex,h1,h2,_⟩:=h;rw[h1]at e;cases e;exact⟨_,h2,rfl⟩
 |row e' n s f=>obtain⟨b',c',cur,h1,h2,_⟩:=h;rw[h1]at e;cases e;exact⟨_,h2,rfl⟩
 |bW e' n s f=>obtain⟨cur,h2,_⟩:=h b c e;exact⟨_,h2,rfl⟩
 |map vk l=>obtain⟨b',c',h1,h2⟩:=h;rw[h1]at e;cases e;exact⟨_,h2,rfl⟩
 |smap vk l=>obtain⟨b',c',h1,h2⟩:=h;rw[h1]at e;cases e;exact⟨_,h2,rfl⟩
 |dm l n=>obtain⟨b',c',vs,h1,h2,_⟩:=h;rw[h1]at e;cases e;exact⟨_,h2,rfl⟩
 |fresh T vs=>obtain⟨b',c',h1,h2⟩:=h;rw[h1]at e;cases e;exact⟨_,h2,rfl⟩
 |iter m n seen=>obtain⟨b',c',bm,cm,h1,_,h3⟩:=h;rw[h1]at e;cases e;exact⟨_,h3,rfl⟩
theorem Inv.off{w':World}(i:Inv cx N M β σ a w)(hs:w.heap.size≤w'.heap.size)(h:∀(k:Nat) (o:Obj),SR o=true→w.heap[k]? =some o→w'.heap[k]? =some o):Inv cx N M β σ a w':=by
 refine i.side (B:=fun k=>∀o:Obj,w.heap[k]? =some o→SR o=false) ⟨hs,fun k o hk ho=>?_⟩ ?_ ?_ ?_
 ·cases hb:SR o with
  |true=>exact h k o hb ho
  |false=>exact absurd (fun o' qW=>by rw[ho]at qW;cases qW;exact hb) hk
 ·intro x bc b c e eb hk
  obtain⟨o,ho,hy⟩:=(i.box x bc e).SR eb
  rw[hk o ho]at hy;cases hy
 ·intro b o u e hk
  have hc:=i.mem b o u e
  cases ho:w.heap[b]? with
  |none=>simp[World.cell?,ho]at hc
  |some x=>
   have:=hk x ho
   simp only [World.cell?,ho]at hc
   cases x <;> simp_all [SR]
 ·intro bs h1 _ g t m hk
  obtain⟨e,fr,c⟩:=h1 g t m
  have:=hk _ c
  cases this
end
section
variable{P:Program}{T:List (Nat×bJ)}
end
structure Hid where
 S:Nat→Prop
 F:Mem→World→Prop
 lt:∀M w,F M w→∀k,S k→k<w.heap.size
 loc:∀M M' w w',F M w→Mem.le M M'→(∀k,S k→w'.heap[k]? =w.heap[k]?)→F M' w'
structure lQ(cx:Cx)(M:Mem)(β:Nm)(σ:St)(w:World)(H:Hid):Prop where
 holds:H.F M w
 low:∀k,H.S k→cx.B≤k
 apart:∀k,H.S k→∀o,M k o=none
 names:∀x bc b c,aH σ.box x=some (some bc)→β x=some (b,c)→¬H.S b
def wX(cx:Cx)(N:Nat)(M:Mem)(w:World)(K:St→Hid→Prop)(a':Act)(w':World):Prop:=
 ∃σ' M' β' H',K σ' H'∧Inv cx N M' β' σ' a' w'∧lQ cx M' β' σ' w' H'∧Grow cx.B M M'∧b6 cx w w'
def bI(P:Program)(cx:Cx)(N:Nat)(c:Code)(σ:St)(H:Hid)(K:Exit→St→Hid→Prop):Prop:=
 ∀M β a w,Inv cx N M β σ a w→lQ cx M β σ w H→c.wpIn (FW cx.rd) 0 P (fun e a' w'=>wX cx N M w (K e) a' w') a w
theorem wX.trans{cx:Cx}{N:Nat}{M M1:Mem}{w w1:World}{K:St→Hid→Prop}{a':Act}{w':World}(g:Grow cx.B M M1)(k:b6 cx w w1)(h:wX cx N M1 w1 K a' w'):wX cx N M w K a' w':=
 let⟨s,M',β',H',h1,h2,h3,h4,h5⟩:=h
 ⟨s,M',β',H',h1,h2,h3,g.trans h4,k.trans h5⟩
def qG(next:St→Hid→Prop)(K:Exit→St→Hid→Prop):Exit→St→Hid→Prop
 |.normal,s,H=>next s H
 |e,s,H=>K e s H
def zC(id:Nat)(K:Exit→St→Hid→Prop):Exit→St→Hid→Prop
 |.exit id',s,H=>bif Nat.beq id' id then K .normal s H else K (.exit id') s H
 |e,s,H=>K e s H
section
variable{P:Program}{cx:Cx}{N:Nat}{σ:St}{H:Hid}{K:Exit→St→Hid→Prop}
theorem bI.mono{c:Code}{K':Exit→St→Hid→Prop}(h:bI P cx N c σ H K)(k:∀e s H,K e s H→K' e s H):bI P cx N c σ H K':=fun M β a w i hi=>
 wpIn_mono (h M β a w i hi) fun _ _ _ ⟨s,M',β',H',h1,h2⟩=>⟨s,M',β',H',k _ _ _ h1,h2⟩
theorem bI.seq{x y:Code}(h:bI P cx N x σ H (qG (fun s H=>bI P cx N y s H K) K)):bI P cx N (.seq x y) σ H K:=by
 intro M β a w i hi
 refine wpIn_seq (wpIn_mono (h M β a w i hi) ?_)
 rintro e a' w' ⟨s,M',β',H',k,i',bN,hM,hk⟩
 cases e with
 |normal=>exact wpIn_mono (k M' β' a' w' i' bN) fun _ _ _ h=>h.trans hM hk
 |exit id=>exact⟨s,M',β',H',k,i',bN,hM,hk⟩
 |goto l=>exact⟨s,M',β',H',k,i',bN,hM,hk⟩
 |ret=>exact⟨s,M',β',H',k,i',bN,hM,hk⟩
 |panic ch=>exact⟨s,M',β',H',k,i',bN,hM,hk⟩
 |outgrown=>exact⟨s,M',β',H',k,i',bN,hM,hk⟩
theorem bI.block{id:Nat}{c:Code}(h:bI P cx N c σ H (zC id K)):bI P cx N (.block id c) σ H K:=by
 intro M β a w i hi
 refine wpIn_block (wpIn_mono (h M β a w i hi) ?_)
 rintro e a' w' ⟨s,M',β',H',k,r⟩
 cases e with
 |exit id'=>
  by_cases hid:id'=id
  ·subst hid
   simp only [zC,Nat.beq_refl,cond_true]at k
   simp only [Exit.inBlock,if_true]
   exact⟨s,M',β',H',k,r⟩
  ·simp only [zC,SU hid,cond_false]at k
   simp only [Exit.inBlock,hid,if_false]
   exact⟨s,M',β',H',k,r⟩
 |_=>exact⟨s,M',β',H',k,r⟩
theorem bI.skip(h:K .normal σ H):bI P cx N .skip σ H K:=fun M β _ _ i hi=>wpIn_skip ⟨σ,M,β,H,h,i,hi,Grow.refl _ _,b6.refl _ _⟩
theorem bI.ret(h:K .ret σ H):bI P cx N .ret σ H K:=fun M β _ _ i hi=>wpIn_ret ⟨σ,M,β,H,h,i,hi,Grow.refl _ _,b6.refl _ _⟩
theorem bI.exit{id:Nat}(h:K (.exit id) σ H):bI P cx N (.exit id) σ H K:=fun M β _ _ i hi=>wpIn_exit ⟨σ,M,β,H,h,i,hi,Grow.refl _ _,b6.refl _ _⟩
theorem bI.cond{c:Operand}{x y:Code}(h:yY σ c (bI P cx N x σ H K) (bI P cx N y σ H K)):bI P cx N (.cond c x y) σ H K:=by
 unfold yY at h
 intro M β a w i hi
 split at h
 ·rename_i b hv
  have hb:a.eval c=.bool b:=by have:=ev.rep i c;rw[hv]at this;exact this
  cases b with
  |true=>exact wpIn_cond_true hb (h M β a w i hi)
  |false=>exact wpIn_cond_false hb (h M β a w i hi)
 ·rename_i b hv
  have hb:a.eval c=.bool b:=by have:=ev.rep i c;rw[hv]at this;exact this
  exact wpIn_cond_split hb (fun hb=>h.1 hb M β a w i hi) (fun hb=>h.2 hb M β a w i hi)
 ·cases h
def HSub(cx:Cx)(N:Nat)(σ:St)(H:Hid)(σ':St)(H':Hid):Prop:=
 ∀M β a w,Inv cx N M β σ a w→lQ cx M β σ w H→∃M' β',Inv cx N M' β' σ' a w∧lQ cx M' β' σ' w H'∧Grow cx.B M M'
theorem bI.sub{c:Code}{σ':St}{H':Hid}(h:HSub cx N σ H σ' H')(k:bI P cx N c σ' H' K):bI P cx N c σ H K:=by
 intro M β a w i hi
 obtain⟨M',β',i',bN,g⟩:=h M β a w i hi
 exact wpIn_mono (k M' β' a w i' bN) fun _ _ _ h=>h.trans g (b6.refl _ _)
theorem bI.loop{S:Type}{c:Code}(NA:S→St)(H0:S→Hid)(J:S→Prop)(μ:S→Nat)(s0:S)(hJ:J s0)(hs:HSub cx N σ H (NA s0) (H0 s0))
  (body:∀s,J s→bI P cx N c (NA s) (H0 s) (qG (fun σ' H'=>∃s',J s'∧μ s'<μ s∧HSub cx N σ' H' (NA s') (H0 s')) K)):bI P cx N (.loop c) σ H K:=by
 intro M β a w i hi
 obtain⟨M1,β1,i1,M7,g1⟩:=hs M β a w i hi
 intro b k cs hro hb hr
 have key:∀n s,μ s=n→J s→∀M β a w,Inv cx N M β (NA s) a w→lQ cx M β (NA s) w (H0 s)→
   ∃e a' w',wX cx N M w (K e) a' w'∧ArrivesIn (Machine.fenced P (FW cx.rd)) P (lone (b.atR a (.code c::.inLoop c::k)) cs w) b k cs e a' w':=by
  intro n
  induction n using Nat.strongRecOn with
  |_ n ih=>
   intro s hn hJ M β a w i hi
   obtain⟨e,a₁,w₁,⟨σ',M1,β1,H1,hq,i1,M7,hM,hk⟩,mI⟩:=body s hJ M β a w i hi b (.inLoop c::k) cs hro hb hr
   cases e with
   |normal=>
    obtain⟨s',hJ',fR,gK⟩:=hq
    obtain⟨M2,β2,i2,hi2,g2⟩:=gK M1 β1 a₁ w₁ i1 M7
    obtain⟨e₂,a₂,w₂,hp,AU⟩:=ih (μ s') (hn▸fR) s' rfl hJ' M2 β2 a₁ w₁ i2 hi2
    exact⟨e₂,a₂,w₂,hp.trans (hM.trans g2) hk,.of_steps (StepsIn.trans mI (.one (fenced_calm hb hr rfl) stepR_inLoop)) AU⟩
   |exit id=>exact⟨_,a₁,w₁,⟨σ',M1,β1,H1,hq,i1,M7,hM,hk⟩,.pass (x:=.inLoop c) rfl (fun _ _=>.inl sM) mI⟩
   |goto l=>exact⟨_,a₁,w₁,⟨σ',M1,β1,H1,hq,i1,M7,hM,hk⟩,.pass (x:=.inLoop c) rfl (fun _ _=>.inl sM) mI⟩
   |ret=>exact⟨_,a₁,w₁,⟨σ',M1,β1,H1,hq,i1,M7,hM,hk⟩,.pass (x:=.inLoop c) rfl (fun _ _=>.inl sM) mI⟩
   |panic ch=>exact⟨_,a₁,w₁,⟨σ',M1,β1,H1,hq,i1,M7,hM,hk⟩,.pass (x:=.inLoop c) rfl (fun _ _=>.inl sM) mI⟩
   |outgrown=>exact⟨_,a₁,w₁,⟨σ',M1,β1,H1,hq,i1,M7,hM,hk⟩,.pass (x:=.inLoop c) rfl (fun _ _=>.inl sM) mI⟩
 obtain⟨e,a',w',hq,mI⟩:=key _ s0 rfl hJ M1 β1 a w i1 M7
 exact⟨e,a',w',hq.trans g1 (b6.refl _ _),.of_steps (.one (fenced_calm hb hr rfl) stepR_loop) mI⟩
theorem lQ.after{M:Mem}{β:Nm}{w:World}{ks:List Nat}{rd:Option Nat}{df:List Deferred}{N':Nat}{M':Mem}{β':Nm}{σ':St}{a':Act}{w':World}
  (hi:lQ cx M β σ w H) (iT:∀x,x∈ks→∃bc,aH σ.box x=some (some bc)) (i':Inv (Cx.part w ks β rd df) N' M' β' σ' a' w') (g:Grow w.heap.size M M') (kp:b6 (Cx.part w ks β rd df) w w'):lQ cx M' β' σ' w' H:=by
 have fR:=H.lt M w hi.holds
 have nw:∀k,H.S k→¬(Cx.part w ks β rd df).vU k:=by
  rintro k hk ⟨x,c,hx,e⟩
  obtain⟨bc,hbc⟩:=iT x hx
  exact hi.names x bc k c hbc e hk
 refine⟨H.loc M M' w w' hi.holds g.le fun k hk=>kp.block k (fR k hk) (nw k hk),hi.low,fun k hk o=>?_,fun x bc b c hb e hs=>?_⟩
 ·cases hm:M' k o with
  |none=>rfl
  |some u=>
   rcases g.new k o u hm with h|h
   ·rw[hi.apart k hk o]at h;cases h
   ·have:=fR k hk;omega
 ·rcases i'.low x bc b c hb e with h|h
  ·have:=fR b hs
   have h:w.heap.size≤b:=h
   omega
  ·exact nw b hs h
theorem bI.part{c:Code}{ks:List Nat}(iT:∀x,x∈ks→∃bc,aH σ.box x=some (some bc)∧bc.real=true)(lE:∀x bc,aH σ.box x=some (some bc)→x∈ks)(aA:∀x,x∈cx.ref→x∈ks)
  (h:∀MJ:Cx,MJ.ref=ks→AW P MJ N c σ (fun e σ'=>K e σ' H)):bI P cx N c σ H K:=by
 intro M β a w i hi
 have lD:∀x,x∈ks→∃bc,aH σ.box x=some (some bc):=fun x hx=>let⟨bc,h1,_⟩:=iT x hx;⟨bc,h1⟩
 have hV:∀x,x∈ks→∃p,β x=some p:=fun x hx=>by
  obtain⟨bc,h1,h2⟩:=iT x hx
  obtain⟨b,c,e⟩:=(i.box x bc h1).exb h2
  exact⟨_,e⟩
 have ii:=i.aDJ (rd:=cx.rd) lD lE hV i.defers
 refine wpIn_mono (h (Cx.part w ks β cx.rd cx.df) rfl M β a w ii) ?_
 rintro e a' w' ⟨σ',M',β',k,i',g,kp⟩
 exact⟨σ',M',β',H,k,Inv.back i lD aA i' (b6.back i lD kp) i'.defers i'.tmps i'.env,hi.after lD i' g kp,Grow.back i g,b6.back i lD kp⟩
end
def eS(cx:Cx)(N:Nat)(σ σ':St):Prop:=∀M β a w,Inv cx N M β σ a w→∃β',Inv cx N M β' σ' a w∧∀x bx b c,aH σ'.box x=some (some bx)→β' x=some (b,c)→∃y b0,aH σ.box y=some (some b0)∧β y=some (b,c)
theorem eS.of{cx:Cx}{N:Nat}{σ σ':St}(ren:List (Nat×Nat))(hr:(cx.ref.all fun x=>(cJ σ'.box).contains x&&Nat.beq (look ren x) x)=true)(hi:GR ren (cJ σ'.box)=true)
  (hb:CZ ren σ.box (cJ σ'.box) σ'.box) (he:MB ren σ.env (cJ σ'.box) σ'.env):eS cx N σ σ':=by
 classical
 intro M β a w i
 let ks:=cJ σ'.box
 let β':Nm:=fun x=>if x∈ks then β (look ren x)else none
 have iT:∀x,x∈ks→β' x=β (look ren x):=fun x hx=>by simp[β',hx]
 have hβ:∀x p,β' x=some p→x∈ks∧β (look ren x)=some p:=fun x p h=>by
  simp only [β']at h
  split at h
  ·exact⟨by assumption,h⟩
  ·cases h
 have DQ:∀x,x∈ks→∀p,β (look ren x)=some p→β' x=some p:=fun x hx p e=>by rw[iT x hx];exact e
 have PA:∀x y,x∈ks→y∈ks→look ren x=look ren y→x=y:=by
  intro x y hx hy e
  simp only [GR,List.all_eq_true]at hi
  have:=hi x hx y hy
  simp only [Bool.or_eq_true]at this
  rcases this with h|h
  ·exact Nat.eq_of_beq_eq_true h
  ·rw[e]at h;simp at h
 have live:∀x b k c,aH σ'.box x=some (some b)→β' x=some (k,c)→x∈ks∧∃b0,aH σ.box (look ren x)=some (some b0)∧β (look ren x)=some (k,c):=by
  intro x b k c h e
  obtain⟨h1,h2,h3⟩:=CZ.get (fun _ h=>h) hb x b h
  have e:=(hβ x _ e).2
  obtain⟨y,hy⟩:=i.keys _ _ e
  rw[hy]at h3
  cases y with
  |none=>exact h3.elim
  |some b0=>exact⟨h1,b0,hy,e⟩
 refine⟨β',⟨i.defers,i.tmps,i.heap,fun t=>MB.get DQ he t _ (i.env t),i.mem,?_,?_,?_,?_,?_,?_⟩,fun x b k c h e=>let⟨_,b0,h1,h2⟩:=live x b k c h e;⟨_,b0,h1,h2⟩⟩
 ·intro x p e
  exact cJ.has (hβ x p e).1
 ·intro x b h
  obtain⟨h1,h2,h3⟩:=CZ.get (fun _ h=>h) hb x b h
  cases hs:aH σ.box (look ren x)with
  |none=>
   rw[hs]at h3
   have hn:β' x=none:=by
    rw[iT x h1]
    cases hb0:β (look ren x)with
    |none=>rfl
    |some p=>obtain⟨y,hy⟩:=i.keys _ _ hb0;rw[hs]at hy;cases hy
   cases b with
   |bW e n s f=>intro k c e;rw[hn]at e;cases e
   |_=>cases h3
  |some y=>
   cases y with
   |none=>rw[hs]at h3;exact h3.elim
   |some b0=>
    rw[hs]at h3
    have dU:=h3 M β w (look ren x) (i.box _ _ hs)
    cases b with
    |cells cs=>exact jN.rep DQ h1 h2 dU
    |row e n s f=>exact jN.rep DQ h1 rfl dU
    |bW e n s f=>intro k c e;rw[iT x h1]at e;exact dU k c e
    |map vk l=>exact jN.rep DQ h1 rfl dU
    |smap vk l=>exact jN.rep DQ h1 rfl dU
    |dm l n=>exact jN.rep DQ h1 rfl dU
    |fresh T vs=>exact jN.rep DQ h1 rfl dU
    |iter m n seen=>exact jN.rep DQ h1 h2 dU
 ·intro x y bx xV b c c' ex ey hx hy
  obtain⟨kx,b0,g0,e0⟩:=live x bx b c ex hx
  obtain⟨ky,b1,g1,e1⟩:=live y xV b c' ey hy
  exact PA x y kx ky (i.inj _ _ b0 b1 b c c' g0 g1 e0 e1)
 ·intro x bx b c ex hx
  obtain⟨kx,b0,g0,e0⟩:=live x bx b c ex hx
  exact i.apart _ b0 b c g0 e0
 ·intro x bx b c ex hx
  obtain⟨kx,b0,g0,e0⟩:=live x bx b c ex hx
  exact i.low _ b0 b c g0 e0
 ·intro x hx
  rw[List.all_eq_true]at hr
  have:=hr x hx
  simp only [Bool.and_eq_true]at this
  have h1:x∈ks:=by simpa using this.1
  have h2:=Nat.eq_of_beq_eq_true this.2
  rw[iT x h1,h2]
  exact i.ref x hx
theorem HSub.of{cx:Cx}{N:Nat}{σ σ':St}{H:Hid}(h:eS cx N σ σ'):HSub cx N σ H σ' H:=fun M β a w i hi=>
 let⟨β',i',hn⟩:=h M β a w i
 ⟨M,β',i',⟨hi.holds,hi.low,hi.apart,fun x bc b c h1 h2 hs=>let⟨y,b0,g1,g2⟩:=hn x bc b c h1 h2;hi.names y b0 b c g1 g2 hs⟩,Grow.refl _ _⟩
end Go.Ax
namespace Go.Ax
open Go.RowKit
open Go.ChangeMaps (setBlock)
structure l0 where
 g:Nat
 n:Nat
 cap:Nat
 lo:Nat
 f:Nat→Nat→DV
structure bF where
 key:ByteArray
 born:Nat
 val:Value
 row:Option l0
def bF.mJ(x:bF):MapEntry:={key:=.string x.key,val:=x.val,born:=x.born}
def l0.ok(e s:Nat)(M:Mem)(w:World)(r:l0)(v:Value):Prop:=
 ∃o cur,v=.slice (some ⟨r.g,o,none⟩) (r.n - r.lo) (r.cap - r.lo)∧(r.lo<r.cap→o=r.lo*s)∧r.lo≤r.n∧w.heap[r.g]? =some (.cells cur e (0,0))∧cur.size=r.cap*s∧r.n≤r.cap∧r.cap≤maxLen∧0<r.cap∧
  ∀i j,i<r.n→j<s→∃u,cur[i*s+j]? =some u∧(r.f i j).a7 M u
def BV(l:List bF):Prop:=∀(i j:Nat) (x y:bF) (r q:l0),l[i]? =some x→l[j]? =some y→x.row=some r→y.row=some q→r.g=q.g→i=j
structure HM where
 bm:Nat
 l:List bF
 clock:Nat
 it:Option (Nat×List Nat)
def HM.S(h:HM)(k:Nat):Prop:=k=h.bm∨(∃x∈h.l,∃r,x.row=some r∧r.g=k)∨∃sn,h.it=some (k,sn)
structure HM.F(e s:Nat)(h:HM)(M:Mem)(w:World):Prop where
 map:w.heap[h.bm]? =some (.map (h.l.map bF.mJ).toArray h.clock)
 rows:∀x∈h.l,∀r,x.row=some r→r.ok e s M w x.val
 iter:∀b sn,h.it=some (b,sn)→w.heap[b]? =some (.mapIter (some h.bm) h.clock sn.reverse.toArray h.clock)
 HJ:BV h.l
theorem RT{w:World}{k:Nat}{o:Obj}(h:w.heap[k]? =some o):k<w.heap.size:=(Array.getElem?_eq_some_iff.1 h).1
def hid(e s:Nat)(h:HM):Hid where
 S:=h.S
 F:=h.F e s
 lt:=fun M w hF k hk=>by
  rcases hk with rfl|⟨x,hx,r,hr,rfl⟩|⟨sn,hs⟩
  ·exact RT hF.map
  ·obtain⟨o,cur,_,_,_,hg,_⟩:=hF.rows x hx r hr
   exact RT hg
  ·exact RT (hF.iter k sn hs)
 loc:=fun M M' w w' hF hM hk=>by
  refine⟨(hk _ (.inl rfl)).trans hF.map,fun x hx r hr=>?_,fun b sn hs=>(hk b (.inr (.inr ⟨sn,hs⟩))).trans (hF.iter b sn hs),hF.HJ⟩
  obtain⟨o,cur,h1,h2,h3,h4,h5,h6,h7,h9,h8⟩:=hF.rows x hx r hr
  exact⟨o,cur,h1,h2,h3,(hk _ (.inr (.inl ⟨x,hx,r,hr,rfl⟩))).trans h4,h5,h6,h7,h9,fun i j hi hj=>let⟨u,q1,q2⟩:=h8 i j hi hj;⟨u,q1,DV.a7.mono hM q2⟩⟩
section
variable{P:Program}{cx:Cx}{N:Nat}{σ:St}{M:Mem}{β:Nm}{a:Act}{w:World}
theorem Inv.named(i:Inv cx N M β σ a w){d g:Nat}{c:Nat×Nat}{bc:jM}(hd:aH σ.box d=none)(hg:∀x bx b c',aH σ.box x=some (some bx)→β x=some (b,c')→b≠g)(ha:∀o,M g o=none)(hB:cx.B≤g)
  (hb:∀β':Nm,β' d=some (g,c)→Nm.le β β'→cH M β' w d bc):
  ∃β',β' d=some (g,c)∧Nm.le β β'∧(∀x,x≠d→β' x=β x)∧Inv cx N M β' ⟨σ.env,(d,some bc)::σ.box⟩ a w:=by
 have G1:β d=none:=by
  cases h:β d with
  |none=>rfl
  |some p=>obtain⟨y,hy⟩:=i.keys d p h;rw[hd]at hy;cases hy
 let β':Nm:=fun x=>if x=d then some (g,c)else β x
 have iR:β' d=some (g,c):=by simp[β']
 have hβ:Nm.le β β':=fun x p e=>by
  by_cases hx:x=d
  ·subst hx;rw[G1]at e;cases e
  ·simp[β',hx,e]
 have nJ:∀x,x≠d→β' x=β x:=fun x hx=>by simp[β',hx]
 have cI:∀x bx,aH ((d,some bc)::σ.box) x=some (some bx)→(x=d∧bx=bc)∨(x≠d∧aH σ.box x=some (some bx)):=fun x bx e=>by
  rw[aL]at e
  split at e
  ·rename_i h;subst h;simp at e;exact .inl ⟨rfl,e.symm⟩
  ·rename_i h;exact .inr ⟨fun k=>h k.symm,e⟩
 refine⟨β',iR,hβ,nJ,⟨i.defers,i.tmps,i.heap,fun t=>AV.a7.mono (Mem.le_refl M) hβ (i.env t),i.mem,?_,?_,?_,?_,?_,?_⟩⟩
 ·intro x p e
  by_cases hx:x=d
  ·subst hx;exact⟨_,by rw[aL,if_pos rfl]⟩
  ·rw[nJ x hx]at e
   obtain⟨y,hy⟩:=i.keys x p e
   exact⟨y,by rw[aL,if_neg (fun h=>hx h.symm)];exact hy⟩
 ·intro x bx e
  rcases cI x bx e with⟨rfl,rfl⟩|⟨hx,e⟩
  ·exact hb β' iR hβ
  ·exact cH.mono (Mem.le_refl M) hβ (nJ x hx) (fun b c' e'=>rfl) (i.box x bx e)
 ·intro x y bx xV b c1 c2 ex ey hx hy
  rcases cI x bx ex with⟨rfl,_⟩|⟨CO,ex2⟩ <;> rcases cI y xV ey with⟨rfl,_⟩|⟨DP,ey2⟩
  ·rfl
  ·rw[iR]at hx;cases hx
   rw[nJ y DP]at hy
   exact absurd rfl (hg y xV _ c2 ey2 hy)
  ·rw[iR]at hy;cases hy
   rw[nJ x CO]at hx
   exact absurd rfl (hg x bx _ c1 ex2 hx)
  ·rw[nJ x CO]at hx;rw[nJ y DP]at hy
   exact i.inj x y bx xV b c1 c2 ex2 ey2 hx hy
 ·intro x bx b c1 ex hx o
  rcases cI x bx ex with⟨rfl,_⟩|⟨CO,ex⟩
  ·rw[iR]at hx;cases hx;exact ha o
  ·rw[nJ x CO]at hx;exact i.apart x bx b c1 ex hx o
 ·intro x bx b c1 ex hx
  rcases cI x bx ex with⟨rfl,_⟩|⟨CO,ex⟩
  ·rw[iR]at hx;cases hx;exact .inl hB
  ·rw[nJ x CO]at hx;exact i.low x bx b c1 ex hx
 ·intro x hx
  obtain⟨h1,p,h2⟩:=i.ref x hx
  exact⟨(hβ x p h2).trans (h2.symm.trans h1),p,hβ x p h2⟩
def nE(P:Program)(cx:Cx)(N:Nat)(o:Oper)(σ:St)(H:Hid)(K:St→Hid→Prop):Prop:=
 (∀c,o.op≠.defer c)∧∀M β a w,Inv cx N M β σ a w→lQ cx M β σ w H→∀Q,o.wp P a w (wX cx N M w K) Q
def cT:List bF→ByteArray→Nat→Option (Nat×bF)
 |[],_,_=>none
 |x::r,k,i=>bif k==x.key then some (i,x)else cT r k (i+1)
theorem KD(k:ByteArray):∀(l:List bF) (i:Nat),Instr.findNow .string (.string k) (l.map bF.mJ) i=some ((cT l k i).map fun p=>(p.1,p.2.val))
 |[],_=>rfl
 |x::r,i=>by
  simp only [List.map_cons,Instr.findNow,Instr.sameNow,cT,bF.mJ]
  cases h:k==x.key with
  |true=>rfl
  |false=>simp only [cond_false];exact KD k r (i+1)
theorem w7{kt:TypeId}(hk:P.underlying kt=some .string)(k:ByteArray)(l:List bF):
  (Instr.findKey kt (.string k) (l.map bF.mJ)).run P w=.ok ((cT l k 0).map fun p=>(p.1,p.2.val)) w:=by
 simp[Instr.findKey,run_underlying hk,KD]
theorem tE{k:ByteArray}:∀{l:List bF} {i:Nat} {p:Nat×bF},cT l k i=some p→i≤p.1∧l[p.1 - i]? =some p.2∧p.2.key=k
 |[],_,_,h=>by cases h
 |x::r,i,p,h=>by
  simp only [cT]at h
  cases hk:k==x.key with
  |true=>
   rw[hk]at h
   cases h
   exact⟨Nat.le_refl _,sM,by simpa using(beq_iff_eq.1 hk).symm⟩
  |false=>
   rw[hk]at h
   obtain⟨h1,h2,h3⟩:=tE (l:=r) (i:=i+1) (p:=p) h
   refine⟨oM,?_,h3⟩
   rw[show p.1 - i=(p.1 - (i+1))+1 by omega]
   simpa using h2
def cL(l:List bF)(i:Nat):List bF:=l.modify i fun x=>{x with row:=none}
theorem I7(l:List bF)(i:Nat):(cL l i).map bF.mJ=l.map bF.mJ:=by
 unfold cL
 apply List.ext_getElem?
 intro j
 rw[List.getElem?_map,List.getElem?_map,List.getElem?_modify]
 split
 ·cases l[j]? <;> rfl
 ·simp
theorem pB{l:List bF}{i j:Nat}{x:bF}{r:l0}(h:(cL l i)[j]? =some x)(hr:x.row=some r):j≠i∧l[j]? =some x:=by
 unfold cL at h
 rw[List.getElem?_modify]at h
 cases hl:l[j]? with
 |none=>rw[hl]at h;cases h
 |some y=>
  rw[hl]at h
  have h:(if i=j then {key:=y.key,born:=y.born,val:=y.val,row:=none}else y)=x:=by simpa using h
  by_cases e:i=j
  ·rw[if_pos e]at h;subst h;cases hr
  ·rw[if_neg e]at h;subst h;exact⟨fun e'=>e e'.symm,rfl⟩
theorem BV.take{l:List bF}(h:BV l)(i:Nat):BV (cL l i):=fun a b x y r q hx hy hr hq e=>
 h a b x y r q (pB hx hr).2 (pB hy hq).2 hr hq e
def yA(d s:Nat)(r:l0):AV:=match r.lo with
 |0=>.s (.own d)
 |_+1=>.s (.jQ d s r.lo (r.n - r.lo))
theorem yA.rep{d s e:Nat}{r:l0}{v:Value}(h:r.ok e s M w v)(hβ:β d=some (r.g,(r.cap,r.n))):(yA d s r).a7 M β v:=by
 obtain⟨o,cur,h1,h2,h3,h4,h5,h6,h7,h9,h8⟩:=h
 unfold yA
 split
 ·rename_i h0
  rw[h0]at h1 h2
  refine⟨r.g,_,hβ,?_,h6⟩
  rw[h1,h2 h9]
  simp
 ·rename_i m h0
  exact⟨r.g,_,o,hβ,h1,h2,by simp only;omega,h6⟩
theorem l0.box{d s e:Nat}{r:l0}{v:Value}(h:r.ok e s M w v)(hβ:β d=some (r.g,(r.cap,r.n))):cH M β w d (.row e r.n s r.f):=by
 obtain⟨o,cur,h1,h2,h3,h4,h5,h6,h7,h9,h8⟩:=h
 exact⟨r.g,_,cur,hβ,h4,rfl,h5,h6,h7,h8⟩
theorem nE.look{e s d t kt et:Nat}{x y:Operand}{k:ByteArray}{o:Oper}{h:HM}{K:St→Hid→Prop}(ho:o.op=.lookup t x y false)(hd:o.dst=some d)(hN:d<N)(hn:aH σ.box d=none)
  (hx:ev σ x=.s (.d (.val (.map (some h.bm))))) (hy:ev σ y=.s (.d (.val (.string k)))) (ht:P.underlying t=some (.map kt et)) (hk:P.underlying kt=some .string) (hz:∀w,(zeroValue et).run P w=.ok (.slice none 0 0) w)
  (hK:match cT h.l k 0 with
   |none=>K ⟨(d,.s (.d (.val (.slice none 0 0))))::σ.env,σ.box⟩ (hid e s h)
   |some (i,q)=>match q.row with
    |some r=>K ⟨(d,yA d s r)::σ.env,(d,some (.row e r.n s r.f))::σ.box⟩ (hid e s {h with l:=cL h.l i})
    |none=>q.val=.slice none 0 0∧K ⟨(d,.s (.d (.val (.slice none 0 0))))::σ.env,σ.box⟩ (hid e s h)):nE P cx N o σ (hid e s h) K:=by
 refine⟨fun c hc=>(by rw[ho]at hc;cases hc),fun M β a w i hi Q=>?_⟩
 have ex:a.eval x=.map (some h.bm):=by have:=ev.rep i x;rw[hx]at this;exact this
 have ey:a.eval y=.string k:=by have:=ev.rep i y;rw[hy]at this;exact this
 have hF:h.F e s M w:=hi.holds
 have jC:∀b,(Instr.checkKey b 10000 kt (.string k)).run P w=.ok () w:=fun b=>iV w hk b k 9999
 have nS:=w7 (P:=P) (w:=w) hk k h.l
 have aV:(execOp a.eval o).run P w=.ok (.value (match cT h.l k 0 with|some p=>p.2.val|none=>.slice none 0 0)) w:=by
  simp only [execOp,ho,ex,ey]
  cases hq:cT h.l k 0 with
  |none=>rw[hq]at nS;simp[Instr.lookup,run_underlying ht,MapKept.run_getObj_map hF.map,jC,nS,hz]
  |some p=>rw[hq]at nS;simp[Instr.lookup,run_underlying ht,MapKept.run_getObj_map hF.map,jC,nS]
 unfold Oper.wp
 rw[aV,Oper.upon_value,hd]
 cases hq:cT h.l k 0 with
 |none=>
  rw[hq]at hK
  exact⟨_,M,β,_,hK,i.put hN rfl,⟨hi.holds,hi.low,hi.apart,hi.names⟩,Grow.refl _ _,b6.refl _ _⟩
 |some p=>
  obtain⟨j,q⟩:=p
  rw[hq]at hK
  simp only at hK ⊢
  obtain⟨_,AS,_⟩:=tE hq
  simp only [Nat.sub_zero]at AS
  have j0:=List.mem_of_getElem? AS
  cases hr:q.row with
  |none=>
   rw[hr]at hK
   exact⟨_,M,β,_,hK.2,i.put hN hK.1,⟨hi.holds,hi.low,hi.apart,hi.names⟩,Grow.refl _ _,b6.refl _ _⟩
  |some r=>
   rw[hr]at hK
   simp only at hK
   have fT:=hF.rows q j0 r hr
   have hS:h.S r.g:=.inr (.inl ⟨q,j0,r,hr,rfl⟩)
   obtain⟨β',h1,h2,h3,i2⟩:=i.named (c:=(r.cap,r.n)) (bc:=.row e r.n s r.f) hn (fun x bx b c' e1 e2 e3=>hi.names x bx b c' e1 e2 (e3▸hS)) (hi.apart _ hS) (hi.low _ hS) (fun β' e1 _=>l0.box fT e1)
   refine⟨_,M,β',_,hK,i2.put (σ:=⟨σ.env,(d,some (.row e r.n s r.f))::σ.box⟩) hN (yA.rep fT h1),?_,Grow.refl _ _,b6.refl _ _⟩
   have gK:∀k,HM.S {h with l:=cL h.l j} k→h.S k∧k≠r.g:=by
    rintro k (rfl|⟨x,hx,r',BZ,rfl⟩|⟨sn,hs⟩)
    ·refine⟨.inl rfl,fun e1=>?_⟩
     obtain⟨_,_,_,_,_,hg,_⟩:=fT
     rw[←e1,hF.map]at hg;cases hg
    ·obtain⟨j',xS⟩:=List.getElem?_of_mem hx
     obtain⟨q1,q2⟩:=pB xS BZ
     exact⟨.inr (.inl ⟨x,List.mem_of_getElem? q2,r',BZ,rfl⟩),fun e1=>q1 (hF.HJ j' j x q r' r q2 AS BZ hr e1)⟩
    ·refine⟨.inr (.inr ⟨sn,hs⟩),fun e1=>?_⟩
     obtain⟨_,_,_,_,_,hg,_⟩:=fT
     rw[←e1,hF.iter k sn hs]at hg;cases hg
   refine⟨⟨?_,fun x hx r' BZ=>?_,hF.iter,hF.HJ.take j⟩,fun k hk=>hi.low k (gK k hk).1,fun k hk=>hi.apart k (gK k hk).1,fun x bx b c e1 e2 hs=>?_⟩
   ·show w.heap[h.bm]? =some (.map ((cL h.l j).map bF.mJ).toArray h.clock)
    rw[I7];exact hF.map
   ·obtain⟨j',xS⟩:=List.getElem?_of_mem hx
    exact hF.rows x (List.mem_of_getElem? (pB xS BZ).2) r' BZ
   ·by_cases CO:x=d
    ·subst CO
     rw[h1]at e2;cases e2
     exact(gK _ hs).2 rfl
    ·have e1':aH σ.box x=some (some bx):=by
      have e1:aH ((d,some (jM.row e r.n s r.f))::σ.box) x=some (some bx):=e1
      rw[aL,if_neg (fun h=>CO h.symm)]at e1;exact e1
     rw[h3 x CO]at e2
     exact hi.names x bx b c e1' e2 (gK _ hs).1
theorem Inv.dead(i:Inv cx N M β σ a w)(b:Nat):Inv cx N M β ⟨σ.env,(b,none)::σ.box⟩ a w:=by
 have live:∀x bx,aH ((b,none)::σ.box) x=some (some bx)→aH σ.box x=some (some bx):=fun x bx e=>by
  rw[aL]at e
  split at e
  ·cases e
  ·exact e
 refine⟨i.defers,i.tmps,i.heap,i.env,i.mem,fun x p e=>?_,fun x bx e=>i.box x bx (live x bx e),fun x y bx xV b c c' ex ey=>i.inj x y bx xV b c c' (live x bx ex) (live y xV ey),fun x bx b c e=>i.apart x bx b c (live x bx e),fun x bx b c e=>i.low x bx b c (live x bx e),i.ref⟩
 by_cases hx:x=b
 ·exact⟨_,by rw[aL,if_pos hx.symm]⟩
 ·obtain⟨y,hy⟩:=i.keys x p e
  exact⟨y,by rw[aL,if_neg (fun h=>hx h.symm)];exact hy⟩
theorem Inv.zO(i:Inv cx N M β σ a w){H:Hid}(hi:lQ cx M β σ w H){g:Nat}(hg:H.S g){w':World}(hs:w'.heap.size=w.heap.size)(ho:∀k,k≠g→w'.heap[k]? =w.heap[k]?):Inv cx N M β σ a w':=
 i.side (B:=(· =g)) ⟨oM,fun k o hk h=>(ho k hk).trans h⟩ (fun x bx b c e1 e2 e3=>hi.names x bx b c e1 e2 (e3▸hg)) (fun b o u e e3=>by subst e3;rw[hi.apart _ hg o]at e;cases e)
  (fun bs h1 h2 k t m e=>by subst e;have:=(h2 _ t m).1;have:=hi.low _ hg;omega)
theorem b6.zO{H:Hid}(hi:lQ cx M β σ w H){g:Nat}(hg:H.S g){w':World}(hs:w'.heap.size=w.heap.size)(ho:∀k,k≠g→w'.heap[k]? =w.heap[k]?)(h1:w'.os=w.os)(h2:w'.tape=w.tape)(h3:w'.output=w.output)(h4:Dr w w'):b6 cx w w':=
 ⟨h1,h2,h3,oM,fun k hk _=>ho k (fun e=>by subst e;have:=hi.low _ hg;omega),h4⟩
theorem GF{l:List bF}{i:Nat}{q:bF}{k:ByteArray}(v:Value)(r:Option l0)(h:l[i]? =some q)(hk:q.key=k):
  (l.map bF.mJ).modify i (fun e=>{e with key:=.string k,val:=v})=(l.modify i fun x=>{x with val:=v,row:=r}).map bF.mJ:=by
 apply List.ext_getElem?
 intro j
 rw[List.getElem?_modify,List.getElem?_map,List.getElem?_map,List.getElem?_modify]
 by_cases e:i=j
 ·subst e
  rw[h]
  simp[bF.mJ,hk]
 ·cases l[j]? <;> simp[e]
def eH(h:HM)(k:ByteArray)(v:Value)(r:Option l0):HM:=match cT h.l k 0 with
 |some (i,_)=>{h with l:=h.l.modify i fun x=>{x with val:=v,row:=r}}
 |none=>{h with l:=h.l++ [⟨k,h.clock,v,r⟩],clock:=h.clock+1}
theorem zT{h:HM}{k:ByteArray}{v:Value}{r:Option l0}{x:bF}(hx:x∈(eH h k v r).l):x∈h.l∨(x.val=v∧x.row=r):=by
 unfold eH at hx
 split at hx
 ·rename_i i q hq
  obtain⟨j,hj⟩:=List.getElem?_of_mem hx
  simp only at hj
  rw[List.getElem?_modify]at hj
  cases hl:h.l[j]? with
  |none=>rw[hl]at hj;cases hj
  |some y=>
   rw[hl]at hj
   have hj:(if i=j then {key:=y.key,born:=y.born,val:=v,row:=r}else y)=x:=by simpa using hj
   by_cases e:i=j
   ·rw[if_pos e]at hj;subst hj;exact .inr ⟨rfl,rfl⟩
   ·rw[if_neg e]at hj;subst hj;exact .inl (List.mem_of_getElem? hl)
 ·simp only [List.mem_append,List.mem_cons,List.not_mem_nil,or_false]at hx
  exact hx.imp id (fun e=>by subst e;exact⟨rfl,rfl⟩)
theorem zU{h:HM}{k:ByteArray}{v:Value}{r:Option l0}{j:Nat}{x:bF}(hx:(eH h k v r).l[j]? =some x):h.l[j]? =some x∨(x.row=r∧∀j' x',(eH h k v r).l[j']? =some x'→j'≠j→h.l[j']? =some x'):=by
 unfold eH at hx ⊢
 split at hx
 ·rename_i i q hq
  simp only at hx ⊢
  rw[List.getElem?_modify]at hx
  cases hl:h.l[j]? with
  |none=>rw[hl]at hx;cases hx
  |some y=>
   rw[hl]at hx
   have hx:(if i=j then {key:=y.key,born:=y.born,val:=v,row:=r}else y)=x:=by simpa using hx
   by_cases e:i=j
   ·rw[if_pos e]at hx;subst hx
    refine .inr ⟨rfl,fun j' x' h' hV=>?_⟩
    rw[List.getElem?_modify]at h'
    have YA:¬i=j':=fun e'=>hV (e'.symm.trans e)
    cases hl':h.l[j']? with
    |none=>rw[hl']at h';cases h'
    |some y'=>rw[hl']at h';simpa [YA]using h'
   ·rw[if_neg e]at hx;subst hx;exact .inl rfl
 ·simp only at hx ⊢
  by_cases hj:j<h.l.length
  ·rw[List.getElem?_append_left hj]at hx;exact .inl hx
  ·rw[List.getElem?_append_right oM]at hx
   cases hjj:j - h.l.length with
   |succ m=>rw[hjj]at hx;simp at hx
   |zero=>
    rw[hjj]at hx
    simp at hx
    subst hx
    refine .inr ⟨rfl,fun j' x' h' hV=>?_⟩
    by_cases xS:j'<h.l.length
    ·rw[List.getElem?_append_left xS]at h';exact h'
    ·rw[List.getElem?_append_right oM]at h'
     cases aME:j' - h.l.length with
     |zero=>omega
     |succ m=>rw[aME]at h';simp at h'
theorem nE.YK{e s t kt et b n lo n':Nat}{f:Nat→Nat→DV}{x y z:Operand}{k:ByteArray}{o:Oper}{h:HM}{K:St→Hid→Prop}(aA:cx.ref=[])(ho:o.op=.mapUpdate t x y z)(hd:o.dst=none)
  (hx:ev σ x=.s (.d (.val (.map (some h.bm))))) (hy:ev σ y=.s (.d (.val (.string k)))) (hz:(ev σ z=.s (.own b)∧lo=0∧n'=n)∨ev σ z=.s (.jQ b s lo n')) (hb:aH σ.box b=some (some (.row e n s f))) (hn0:0<n)
  (ht:P.underlying t=some (.map kt et)) (hk:P.underlying kt=some .string) (hit:cT h.l k 0=none→h.it=none)
  (hK:∀g cap v,K ⟨σ.env,(b,none)::σ.box⟩ (hid e s (eH h k v (some ⟨g,lo+n',cap,lo,f⟩)))):nE P cx N o σ (hid e s h) K:=by
 refine⟨fun c hc=>(by rw[ho]at hc;cases hc),fun M β a w i hi Q=>?_⟩
 have ex:a.eval x=.map (some h.bm):=by have:=ev.rep i x;rw[hx]at this;exact this
 have ey:a.eval y=.string k:=by have:=ev.rep i y;rw[hy]at this;exact this
 have hF:h.F e s M w:=hi.holds
 have hS0:h.S h.bm:=.inl rfl
 obtain⟨g,c,cur,hβ,hg,H7,lT,hn,H6,cN⟩:=i.box b _ hb
 obtain⟨ov,ez,hov,hle⟩:∃ov,a.eval z=.slice (some ⟨g,ov,none⟩) n' (c.1 - lo)∧(lo<c.1→ov=lo*s)∧lo+n'≤n:=by
  have hr:=ev.rep i z
  rcases hz with⟨hz,rfl,rfl⟩|hz
  ·rw[hz]at hr
   obtain⟨b',c',e1,e2,_⟩:=hr
   rw[hβ]at e1;cases e1
   exact⟨0,by rw[e2,H7];simp,fun _=>by simp,oM⟩
  ·rw[hz]at hr
   obtain⟨b',c',o',e1,e2,e3,e4,_⟩:=hr
   rw[hβ]at e1;cases e1
   exact⟨o',e2,e3,oM⟩
 have jC:∀b,(Instr.checkKey b 10000 kt (.string k)).run P w=.ok () w:=fun b=>iV w hk b k 9999
 have nS:=w7 (P:=P) (w:=w) hk k h.l
 have hnS:¬h.S g:=hi.names b _ g c hb hβ
 have hBg:cx.B≤g:=by
  rcases i.low b _ g c hb hβ with h|⟨y,c',hy,_⟩
  ·exact h
  ·rw[aA]at hy;cases hy
 generalize hv:a.eval z=v at*
 obtain⟨h',AR⟩:∃h',eH h k v (some ⟨g,lo+n',c.1,lo,f⟩)=h':=⟨_,rfl⟩
 have M8:h'.bm=h.bm:=by rw[←AR];unfold eH;split <;> rfl
 have aV:(execOp a.eval o).run P w=.ok .skip (setBlock w h.bm (.map (h'.l.map bF.mJ).toArray h'.clock)):=by
  cases hq:cT h.l k 0 with
  |none=>
   rw[hq]at nS
   have e1:h'= {h with l:=h.l++ [⟨k,h.clock,v,some ⟨g,lo+n',c.1,lo,f⟩⟩],clock:=h.clock+1}:=by rw[←AR];unfold eH;rw[hq]
   have e3:(h.l.map bF.mJ).toArray.push {key:=.string k,val:=v,born:=h.clock}=(h'.l.map bF.mJ).toArray:=by rw[e1];simp[bF.mJ]
   have e4:h'.clock=h.clock+1:=by rw[e1]
   have hm:(Instr.mapUpdate t (.map (some h.bm)) (.string k) v).run P w=.ok () (setBlock w h.bm (.map (h'.l.map bF.mJ).toArray h'.clock)):=by
    rw[e4,←e3]
    simp[Instr.mapUpdate,run_underlying ht,MapKept.run_getObj_map hF.map,jC,nS,fQ hF.map]
   simp[execOp,ho,ex,ey,hv,hm]
  |some p=>
   obtain⟨j,q⟩:=p
   rw[hq]at nS
   obtain⟨_,AS,rU⟩:=tE hq
   simp only [Nat.sub_zero]at AS
   have rU:q.key=k:=rU
   have e1:h'= {h with l:=h.l.modify j fun x=>{x with val:=v,row:=some ⟨g,lo+n',c.1,lo,f⟩}}:=by rw[←AR];unfold eH;rw[hq]
   have e3:=GF v (some ⟨g,lo+n',c.1,lo,f⟩) AS rU
   have e4:h'.clock=h.clock:=by rw[e1]
   have GY:(Instr.keyThatStays (.string k) (.string k)).run P w=.ok (.string k) w:=by simp[Instr.keyThatStays,Instr.sameBits]
   have hm:(Instr.mapUpdate t (.map (some h.bm)) (.string k) v).run P w=.ok () (setBlock w h.bm (.map (h'.l.map bF.mJ).toArray h'.clock)):=by
    have e5:h'.l.map bF.mJ=(h.l.map bF.mJ).modify j (fun e=>{e with key:=.string k,val:=v}):=by rw[e1];exact e3.symm
    have e6:(Option.map ((fun x:MapEntry=>x.key)∘bF.mJ) h.l[j]?).getD (.string k)=.string k:=by rw[AS];simp[bF.mJ,rU]
    rw[e4,e5]
    simp[Instr.mapUpdate,run_underlying ht,MapKept.run_getObj_map hF.map,jC,nS,e6,GY,fQ hF.map]
   simp[execOp,ho,ex,ey,hv,hm]
 unfold Oper.wp
 rw[aV,Oper.upon_skip,hd]
 have QP:=fO w h.bm (.map (h'.l.map bF.mJ).toArray h'.clock)
 have qW:∀k',k'≠h.bm→(setBlock w h.bm (.map (h'.l.map bF.mJ).toArray h'.clock)).heap[k']? =w.heap[k']? :=fun k' x0=>eT _ _ _ x0
 have hat:=iN (ob':=.map (h'.l.map bF.mJ).toArray h'.clock) hF.map
 generalize hw:setBlock w h.bm (.map (h'.l.map bF.mJ).toArray h'.clock)=w' at*
 have i1:=i.zO hi hS0 QP qW
 have kp:=b6.zO hi hS0 QP qW (by rw[←hw];rfl) (by rw[←hw];rfl) (by rw[←hw];rfl) (by rw[←hw];exact trivial)
 have hgb:g≠h.bm:=fun e=>hnS (e▸hS0)
 have oP:(l0.mk g (lo+n') c.1 lo f).ok e s M w' v:=
  ⟨ov,cur,by rw[ez];simp,hov,Nat.le_add_right _ _,(qW g hgb).trans hg,lT,by simp only;omega,H6,by simp only;omega,fun i j hi hj=>cN i j (by simp only at hi;omega) hj⟩
 refine⟨_,M,β,_,AR▸hK g c.1 v,i1.dead b,?_,Grow.refl _ _,kp⟩
 have gK:∀k',h'.S k'→h.S k'∨k'=g:=by
  rintro k' (rfl|⟨x,hx,r,hr,rfl⟩|⟨sn,hs⟩)
  ·exact .inl (M8▸.inl rfl)
  ·rw[←AR]at hx
   rcases zT hx with h1|⟨_,h2⟩
   ·exact .inl (.inr (.inl ⟨x,h1,r,hr,rfl⟩))
   ·rw[hr]at h2;cases h2;exact .inr rfl
  ·refine .inl (.inr (.inr ⟨sn,?_⟩))
   rw[←AR]at hs
   unfold eH at hs
   split at hs <;> exact hs
 refine⟨⟨by rw[M8];exact hat,fun x hx r hr=>?_,fun bi sn hs=>?_,?_⟩,fun k' x0=>?_,fun k' x0=>?_,fun x bx b' c' e1 e2 hs=>?_⟩
 ·have O1:=hx
  rw[←AR]at hx
  rcases zT hx with h1|⟨h1,h2⟩
  ·obtain⟨o,cur,q1,q2,q3,q4,q5⟩:=hF.rows x h1 r hr
   exact⟨o,cur,q1,q2,q3,(qW r.g (fun e=>by rw[e,hF.map]at q4;cases q4)).trans q4,q5⟩
  ·rw[hr]at h2;cases h2;rw[h1];exact oP
 ·have hs0:h.it=some (bi,sn)∧h'.clock=h.clock:=by
   rw[←AR]at hs ⊢
   unfold eH at hs ⊢
   split at hs
   ·exact⟨hs,rfl⟩
   ·rename_i hq;rw[hit hq]at hs;cases hs
  have:=hF.iter bi sn hs0.1
  rw[hs0.2,M8]
  exact(qW bi (fun e=>by rw[e,hF.map]at this;cases this)).trans this
 ·intro j1 j2 x1 x2 r1 r2 g1 g2 hr1 WH eg
  rw[←AR]at g1 g2
  have X5:∀{j:Nat} {x:bF} {r:l0},h.l[j]? =some x→x.row=some r→r.g≠g:=fun h1 h2 e=>hnS (.inr (.inl ⟨_,List.mem_of_getElem? h1,_,h2,e⟩))
  rcases zU g1 with q1|⟨q1,p1⟩
  ·rcases zU g2 with q2|⟨q2,p2⟩
   ·exact hF.HJ j1 j2 x1 x2 r1 r2 q1 q2 hr1 WH eg
   ·rw[WH]at q2;cases q2
    exact absurd eg (X5 q1 hr1)
  ·rw[hr1]at q1;cases q1
   by_cases hV:j2=j1
   ·exact hV.symm
   ·exact absurd eg.symm (X5 (p1 j2 x2 g2 hV) WH)
 ·rcases gK k' x0 with h1|rfl
  ·exact hi.low k' h1
  ·exact hBg
 ·rcases gK k' x0 with h1|rfl
  ·exact hi.apart k' h1
  ·exact i.apart b _ _ c hb hβ
 ·have e1':aH ((b,none)::σ.box) x=some (some bx):=e1
  rw[aL]at e1'
  split at e1'
  ·cases e1'
  rename_i hxb
  rcases gK b' hs with h1|rfl
  ·exact hi.names x bx b' c' e1' e2 h1
  ·exact hxb (i.inj b x _ bx _ c c' hb e1' hβ e2)
theorem KH{α β:Type}(f:α→β):∀(l:List α) (i:Nat),(l.map f).eraseIdx i=(l.eraseIdx i).map f
 |[],_=>rfl
 |_::_,0=>rfl
 |_::r,i+1=>congrArg _ (KH f r i)
theorem HC{l:List bF}{i j:Nat}{x:bF}(h:(l.eraseIdx i)[j]? =some x):∃j',l[j']? =some x∧(j'=if j<i then j else j+1):=by
 rw[List.getElem?_eraseIdx]at h
 by_cases e:j<i
 ·rw[if_pos e]at h;exact⟨j,h,by rw[if_pos e]⟩
 ·rw[if_neg e]at h;exact⟨j+1,h,by rw[if_neg e]⟩
theorem BV.erase{l:List bF}(h:BV l)(i:Nat):BV (l.eraseIdx i):=fun a b x y r q hx hy hr hq e=>by
 obtain⟨a',ha,ea⟩:=HC hx
 obtain⟨b',hb,eb⟩:=HC hy
 have:=h a' b' x y r q ha hb hr hq e
 split at ea <;> split at eb <;> omega
def xU(h:HM)(k:ByteArray):HM:=match cT h.l k 0 with
 |some (i,_)=>{h with l:=h.l.eraseIdx i}
 |none=>h
theorem lQ.less{e s:Nat}{h h':HM}{w':World}(hi:lQ cx M β σ w (hid e s h))(M8:h'.bm=h.bm)(uA:h'.clock=h.clock)(hl:∀x,x∈h'.l→x∈h.l)(hd:BV h'.l)(hit:h'.it=h.it)
  (ho:∀k,k≠h.bm→w'.heap[k]? =w.heap[k]?) (hat:w'.heap[h.bm]? =some (.map (h'.l.map bF.mJ).toArray h'.clock)):lQ cx M β σ w' (hid e s h'):=by
 have hF:h.F e s M w:=hi.holds
 have gK:∀k,h'.S k→h.S k:=by
  rintro k (rfl|⟨x,hx,r,hr,rfl⟩|⟨sn,hs⟩)
  ·exact .inl M8
  ·exact .inr (.inl ⟨x,hl x hx,r,hr,rfl⟩)
  ·exact .inr (.inr ⟨sn,hit▸hs⟩)
 refine⟨⟨by rw[M8];exact hat,fun x hx r hr=>?_,fun bi sn hs=>?_,hd⟩,fun k hk=>hi.low k (gK k hk),fun k hk=>hi.apart k (gK k hk),fun x bx b c e1 e2 hs=>hi.names x bx b c e1 e2 (gK b hs)⟩
 ·obtain⟨o,cur,q1,q2,q3,q4,q5⟩:=hF.rows x (hl x hx) r hr
  exact⟨o,cur,q1,q2,q3,(ho r.g (fun e=>by rw[e,hF.map]at q4;cases q4)).trans q4,q5⟩
 ·have:=hF.iter bi sn (hit▸hs)
  rw[uA,M8]
  exact(ho bi (fun e=>by rw[e,hF.map]at this;cases this)).trans this
theorem nE.del{e s t kt et kt':Nat}{x y:Operand}{k:ByteArray}{o:Oper}{h:HM}{K:St→Hid→Prop}(ho:o.op=.call {callee:=.builtin .delete,args:= #[x,y],argTypes:= #[t,kt']})(hd:o.dst=none)
  (hx:ev σ x=.s (.d (.val (.map (some h.bm))))) (hy:ev σ y=.s (.d (.val (.string k)))) (ht:P.underlying t=some (.map kt et)) (hk:P.underlying kt=some .string)
  (hK:K σ (hid e s (xU h k))):nE P cx N o σ (hid e s h) K:=by
 refine⟨fun c hc=>(by rw[ho]at hc;cases hc),fun M β a w i hi Q=>?_⟩
 have ex:a.eval x=.map (some h.bm):=by have:=ev.rep i x;rw[hx]at this;exact this
 have ey:a.eval y=.string k:=by have:=ev.rep i y;rw[hy]at this;exact this
 have hF:h.F e s M w:=hi.holds
 have hS0:h.S h.bm:=.inl rfl
 have jC:∀b,(Instr.checkKey b 10000 kt (.string k)).run P w=.ok () w:=fun b=>iV w hk b k 9999
 have nS:=w7 (P:=P) (w:=w) hk k h.l
 obtain⟨h',AR⟩:∃h',xU h k=h':=⟨_,rfl⟩
 have M8:h'.bm=h.bm:=by rw[←AR];unfold xU;split <;> rfl
 have uA:h'.clock=h.clock:=by rw[←AR];unfold xU;split <;> rfl
 have hit:h'.it=h.it:=by rw[←AR];unfold xU;split <;> rfl
 have hl:∀x,x∈h'.l→x∈h.l:=fun x hx=>by
  rw[←AR]at hx
  unfold xU at hx
  split at hx
  ·exact List.mem_of_mem_eraseIdx hx
  ·exact hx
 have hdd:BV h'.l:=by
  rw[←AR]
  unfold xU
  split
  ·exact hF.HJ.erase _
  ·exact hF.HJ
 have aV:(execOp a.eval o).run P w=.ok (.value (.tuple #[])) (setBlock w h.bm (.map (h'.l.map bF.mJ).toArray h'.clock)):=by
  rw[uA]
  cases hq:cT h.l k 0 with
  |none=>
   rw[hq]at nS
   have e1:h'=h:=by rw[←AR];unfold xU;rw[hq]
   rw[e1]
   simp[execOp,ho,ex,ey,resolve,invoke,builtin,Builtin.delete_,run_underlying ht,MapKept.run_getObj_map hF.map,jC,nS,fQ hF.map]
  |some p=>
   obtain⟨j,q⟩:=p
   rw[hq]at nS
   have e1:h'.l=h.l.eraseIdx j:=by rw[←AR];unfold xU;rw[hq]
   have e3:(h.l.map bF.mJ).toArray.eraseIdxIfInBounds j=(h'.l.map bF.mJ).toArray:=by rw[e1,←KH];simp
   rw[←e3]
   simp[execOp,ho,ex,ey,resolve,invoke,builtin,Builtin.delete_,run_underlying ht,MapKept.run_getObj_map hF.map,jC,nS,fQ hF.map]
 unfold Oper.wp
 rw[aV,Oper.upon_value,hd]
 have QP:=fO w h.bm (.map (h'.l.map bF.mJ).toArray h'.clock)
 have qW:∀k',k'≠h.bm→(setBlock w h.bm (.map (h'.l.map bF.mJ).toArray h'.clock)).heap[k']? =w.heap[k']? :=fun k' x0=>eT _ _ _ x0
 have hat:=iN (ob':=.map (h'.l.map bF.mJ).toArray h'.clock) hF.map
 generalize hw:setBlock w h.bm (.map (h'.l.map bF.mJ).toArray h'.clock)=w' at*
 exact⟨_,M,β,_,AR▸hK,i.zO hi hS0 QP qW,hi.less M8 uA hl hdd hit qW hat,Grow.refl _ _,b6.zO hi hS0 QP qW (by rw[←hw];rfl) (by rw[←hw];rfl) (by rw[←hw];rfl) (by rw[←hw];exact trivial)⟩
theorem lQ.alloc{H:Hid}{ob:Obj}(hi:lQ cx M β σ w H):lQ cx M β σ (w.alloc ob) H:=
 ⟨H.loc M M w _ hi.holds (Mem.le_refl M) fun k hk=>Below.heap_alloc _ _ _ (H.lt M w hi.holds k hk),hi.low,hi.apart,hi.names⟩
theorem Inv.aB1(i:Inv cx N M β σ a w)(ob:Obj):Inv cx N M β σ a (w.alloc ob)∧b6 cx w (w.alloc ob):=
 ⟨i.off sM (fun k o _ h=>(Below.heap_alloc _ _ _ (Array.getElem?_eq_some_iff.1 h).1).trans h),⟨rfl,rfl,rfl,sM,fun k hk _=>Below.heap_alloc _ _ _ (Nat.lt_of_lt_of_le hk i.heap.le),trivial⟩⟩
theorem Inv.top(i:Inv cx N M β σ a w):(∀o,M w.heap.size o=none)∧∀x bx b c,aH σ.box x=some (some bx)→β x=some (b,c)→b≠w.heap.size:=
 ⟨fun o=>by
  cases h:M w.heap.size o with
  |none=>rfl
  |some u=>have:=i.GH h;omega,fun x bx b c e1 e2 e3=>by have:=i.tQ e1 e2;omega⟩
theorem nE.mk{e s d t:Nat}{o:Oper}{K:St→Hid→Prop}{H:Hid}(ho:o.op=.makeMap t none)(hd:o.dst=some d)(hN:d<N)
  (hK:∀bm,K ⟨(d,.s (.d (.val (.map (some bm)))))::σ.env,σ.box⟩ (hid e s ⟨bm,[],0,none⟩)):nE P cx N o σ H K:=by
 refine⟨fun c hc=>(by rw[ho]at hc;cases hc),fun M β a w i hi Q=>?_⟩
 have aV:(execOp a.eval o).run P w=.ok (.value (.map (some w.heap.size))) (w.alloc (.map #[] 0)):=by
  simp[execOp,ho,run_makeMap]
 unfold Oper.wp
 rw[aV,Oper.upon_value,hd]
 obtain⟨i1,kp⟩:=i.aB1 (.map #[] 0)
 obtain⟨t1,t2⟩:=i.top
 have only:∀k,HM.S ⟨w.heap.size,[],0,none⟩ k→k=w.heap.size:=by
  rintro k (h|⟨x,hx,_⟩|⟨sn,hs⟩)
  ·exact h
  ·cases hx
  ·cases hs
 refine⟨_,M,β,_,hK w.heap.size,i1.put hN rfl,⟨⟨heap_alloc_new w _,fun x hx=>(by cases hx),fun b sn hs=>(by cases hs),fun i j x y r q hx=>(by simp at hx)⟩,fun k hk=>?_,fun k hk o=>?_,fun x bx b c e1 e2 hs=>?_⟩,Grow.refl _ _,kp⟩
 ·rw[only k hk];exact i.heap.le
 ·rw[only k hk];exact t1 o
 ·exact t2 x bx b c e1 e2 (only b hs)
theorem nE.range{e s d t kt et:Nat}{x:Operand}{o:Oper}{h:HM}{K:St→Hid→Prop}(ho:o.op=.range t x)(hd:o.dst=some d)(hN:d<N)
  (hx:ev σ x=.s (.d (.val (.map (some h.bm))))) (ht:P.underlying t=some (.map kt et))
  (hK:∀bi,K ⟨(d,.s (.d (.val (.pointer (some ⟨bi,0,none⟩)))))::σ.env,σ.box⟩ (hid e s {h with it:=some (bi,[])})):nE P cx N o σ (hid e s h) K:=by
 refine⟨fun c hc=>(by rw[ho]at hc;cases hc),fun M β a w i hi Q=>?_⟩
 have ex:a.eval x=.map (some h.bm):=by have:=ev.rep i x;rw[hx]at this;exact this
 have hF:h.F e s M w:=hi.holds
 have aV:(execOp a.eval o).run P w=.ok (.value (.pointer (some ⟨w.heap.size,0,none⟩))) (w.alloc (.mapIter (some h.bm) h.clock #[] h.clock)):=by
  simp[execOp,ho,ex,run_range_map w t kt et h.bm _ _ ht hF.map]
 unfold Oper.wp
 rw[aV,Oper.upon_value,hd]
 obtain⟨i1,kp⟩:=i.aB1 (.mapIter (some h.bm) h.clock #[] h.clock)
 obtain⟨t1,t2⟩:=i.top
 have M7:=hi.alloc (ob:=.mapIter (some h.bm) h.clock #[] h.clock)
 have hF1:h.F e s M (w.alloc (.mapIter (some h.bm) h.clock #[] h.clock)):=M7.holds
 have gK:∀k,HM.S {h with it:=some (w.heap.size,[])} k→h.S k∨k=w.heap.size:=by
  rintro k (h|h|⟨sn,hs⟩)
  ·exact .inl (.inl h)
  ·exact .inl (.inr (.inl h))
  ·cases hs;exact .inr rfl
 refine⟨_,M,β,_,hK w.heap.size,i1.put hN rfl,⟨⟨hF1.map,hF1.rows,fun b sn hs=>?_,hF1.HJ⟩,fun k hk=>?_,fun k hk o=>?_,fun x bx b c e1 e2 hs=>?_⟩,Grow.refl _ _,kp⟩
 ·cases hs;exact heap_alloc_new w _
 ·rcases gK k hk with h|rfl
  ·exact hi.low k h
  ·exact i.heap.le
 ·rcases gK k hk with h|rfl
  ·exact hi.apart k h o
  ·exact t1 o
 ·rcases gK b hs with h|rfl
  ·exact hi.names x bx b c e1 e2 h
  ·exact t2 x bx _ c e1 e2 rfl
theorem nE.next{e s d bi:Nat}{sn:List Nat}{x:Operand}{o:Oper}{h:HM}{K:St→Hid→Prop}(ho:o.op=.next x false)(hd:o.dst=some d)(hN:d<N)
  (hx:ev σ x=.s (.d (.val (.pointer (some ⟨bi,0,none⟩))))) (hit:h.it=some (bi,sn)) (hb:∀q∈h.l,q.born<h.clock)
  (hK0:(∀q∈h.l,q.born∈sn)→K ⟨(d,.t [.s (.d (.lit false))])::σ.env,σ.box⟩ (hid e s h))
  (hK1:∀q∈h.l,q.born∉sn→K ⟨(d,.t [.s (.d (.lit true)),.s (.d (.val (.string q.key))),.s (.d .bC)])::σ.env,σ.box⟩ (hid e s {h with it:=some (bi,q.born::sn)})):nE P cx N o σ (hid e s h) K:=by
 refine⟨fun c hc=>(by rw[ho]at hc;cases hc),fun M β a w i hi Q=>?_⟩
 have ex:a.eval x=.pointer (some ⟨bi,0,none⟩):=by have:=ev.rep i x;rw[hx]at this;exact this
 have hF:h.F e s M w:=hi.holds
 have hh:=hF.iter bi sn hit
 have hSb:h.S bi:=.inr (.inr ⟨sn,hit⟩)
 have hold:∀x∈(h.l.map bF.mJ).toArray.toList,x.born<h.clock:=by
  intro x hx
  simp only [List.mem_map]at hx
  obtain⟨q,hq,rfl⟩:=hx
  exact hb q hq
 have j0:∀e',e'∈(leftOf (h.l.map bF.mJ).toArray sn.reverse.toArray).toList↔∃q∈h.l,q.born∉sn∧e'=q.mJ:=by
  intro e'
  unfold leftOf
  simp only [Array.toList_filter,List.mem_filter,List.mem_map]
  constructor
  ·rintro⟨⟨q,hq,rfl⟩,hs⟩
   exact⟨q,hq,by simpa [bF.mJ]using hs,rfl⟩
  ·rintro⟨q,hq,hs,rfl⟩
   exact⟨⟨q,hq,rfl⟩,by simpa [bF.mJ]using hs⟩
 unfold Oper.wp
 rcases run_next_at (P:=P) w o.type bi h.bm h.clock h.clock sn.reverse.toArray (h.l.map bF.mJ).toArray h.clock hh hF.map hold (Nat.le_refl _)with⟨hz,aV⟩|⟨e',he,w1,T5,aV⟩
 ·have hr:(execOp a.eval o).run P w=.ok (.value (.tuple #[.bool false])) w:=by simp[execOp,ho,ex,aV]
  rw[hr,Oper.upon_value,hd]
  refine⟨_,M,β,_,hK0 (fun q hq=>?_),i.put hN ⟨[.bool false],rfl,rfl,trivial⟩,⟨hi.holds,hi.low,hi.apart,hi.names⟩,Grow.refl _ _,b6.refl _ _⟩
  refine Classical.byContradiction fun hs=>?_
  have:=(j0 _).2 ⟨q,hq,hs,rfl⟩
  have RR:(leftOf (h.l.map bF.mJ).toArray sn.reverse.toArray).toList=[]:=List.eq_nil_of_length_eq_zero (by rw[Array.length_toList];exact hz)
  rw[RR]at this
  cases this
 ·obtain⟨q,hq,hs,rfl⟩:=(j0 e').1 he
  obtain⟨q1,q2,q3,q4⟩:=tM T5
  have pO:sn.reverse.toArray.push q.born=(q.born::sn).reverse.toArray:=sM
  have hr:(execOp a.eval o).run P w=.ok (.value (.tuple #[.bool true,.string q.key,q.val])) (setBlock w1 bi (.mapIter (some h.bm) h.clock (q.born::sn).reverse.toArray h.clock)):=by
   rw[←pO];simp[execOp,ho,ex,aV,bF.mJ]
  rw[hr,Oper.upon_value,hd]
  have QP:(setBlock w1 bi (.mapIter (some h.bm) h.clock (q.born::sn).reverse.toArray h.clock)).heap.size=w.heap.size:=by rw[fO,q1]
  have qW:∀k',k'≠bi→(setBlock w1 bi (.mapIter (some h.bm) h.clock (q.born::sn).reverse.toArray h.clock)).heap[k']? =w.heap[k']? :=fun k' x0=>by rw[eT _ _ _ x0,q1]
  have hat:=iN (w:=w1) (ob':=.mapIter (some h.bm) h.clock (q.born::sn).reverse.toArray h.clock) (by rw[q1];exact hh)
  have e1:(setBlock w1 bi (.mapIter (some h.bm) h.clock (q.born::sn).reverse.toArray h.clock)).os=w.os:=q2
  have e2:(setBlock w1 bi (.mapIter (some h.bm) h.clock (q.born::sn).reverse.toArray h.clock)).tape=w.tape:=q3
  have e3:(setBlock w1 bi (.mapIter (some h.bm) h.clock (q.born::sn).reverse.toArray h.clock)).output=w.output:=q4
  generalize setBlock w1 bi (.mapIter (some h.bm) h.clock (q.born::sn).reverse.toArray h.clock)=w' at*
  have hbb:h.bm≠bi:=fun e=>by rw[←e,hF.map]at hh;cases hh
  have gK:∀k,HM.S {h with it:=some (bi,q.born::sn)} k→h.S k:=by
   rintro k (h1|h1|⟨sn',h1⟩)
   ·exact .inl h1
   ·exact .inr (.inl h1)
   ·cases h1;exact hSb
  refine⟨_,M,β,_,hK1 q hq hs,(i.zO hi hSb QP qW).put hN ⟨_,rfl,rfl,rfl,trivial,trivial⟩,⟨⟨(qW _ hbb).trans hF.map,fun y hy r hr=>?_,fun b sn' h1=>?_,hF.HJ⟩,fun k hk=>hi.low k (gK k hk),fun k hk=>hi.apart k (gK k hk),fun y bx b c f1 f2 f3=>hi.names y bx b c f1 f2 (gK b f3)⟩,Grow.refl _ _,b6.zO hi hSb QP qW e1 e2 e3 trivial⟩
  ·obtain⟨o',cur,p1,p2,p3,p4,p5⟩:=hF.rows y hy r hr
   exact⟨o',cur,p1,p2,p3,(qW r.g (fun e=>by rw[e,hh]at p4;cases p4)).trans p4,p5⟩
  ·cases h1;exact hat
theorem nE.entry{e s d bi j:Nat}{sn:List Nat}{x:Operand}{o:Oper}{h:HM}{q:bF}{r:l0}{K:St→Hid→Prop}(ho:o.op=.entry x)(hd:o.dst=some d)(hN:d<N)(hn:aH σ.box d=none)
  (hx:ev σ x=.s (.d (.val (.pointer (some ⟨bi,0,none⟩))))) (hj:h.l[j]? =some q) (hit:h.it=some (bi,q.born::sn)) (hb:(h.l.map (·.born)).Nodup) (hr:q.row=some r) (CP:r.lo=0)
  (hK:K ⟨(d,.t [.s (.d (.val (.string q.key))),.s (.own d)])::σ.env,(d,some (.row e r.n s r.f))::σ.box⟩ (hid e s {h with l:=cL h.l j})):nE P cx N o σ (hid e s h) K:=by
 refine⟨fun c hc=>(by rw[ho]at hc;cases hc),fun M β a w i hi Q=>?_⟩
 have ex:a.eval x=.pointer (some ⟨bi,0,none⟩):=by have:=ev.rep i x;rw[hx]at this;exact this
 have hF:h.F e s M w:=hi.holds
 have hh:=hF.iter bi _ hit
 have j0:=List.mem_of_getElem? hj
 have pO:(q.born::sn).reverse.toArray=sn.reverse.toArray.push q.born:=sM
 rw[pO]at hh
 have aV:=run_entry_at (P:=P) w bi h.bm h.clock sn.reverse.toArray (h.l.map bF.mJ).toArray h.clock q.mJ hh hF.map (by simpa using⟨q,j0,rfl⟩) (by
  have:((h.l.map bF.mJ).toArray.toList.map (·.born))=h.l.map (·.born):=by simp[bF.mJ]
  rw[this];exact hb)
 have hrn:(execOp a.eval o).run P w=.ok (.value (.tuple #[.string q.key,q.val])) w:=by simp[execOp,ho,ex,aV,bF.mJ]
 unfold Oper.wp
 rw[hrn,Oper.upon_value,hd]
 have fT:=hF.rows q j0 r hr
 have hS:h.S r.g:=.inr (.inl ⟨q,j0,r,hr,rfl⟩)
 obtain⟨β',h1,h2,h3,i2⟩:=i.named (c:=(r.cap,r.n)) (bc:=.row e r.n s r.f) hn (fun x bx b c' e1 e2 e3=>hi.names x bx b c' e1 e2 (e3▸hS)) (hi.apart _ hS) (hi.low _ hS) (fun β' e1 _=>l0.box fT e1)
 have hv:(AV.s (.own d)).a7 M β' q.val:=by
  have:=yA.rep (d:=d) fT h1
  unfold yA at this
  rw[CP]at this
  exact this
 refine⟨_,M,β',_,hK,i2.put (σ:=⟨σ.env,(d,some (.row e r.n s r.f))::σ.box⟩) hN ⟨_,rfl,rfl,hv,trivial⟩,?_,Grow.refl _ _,b6.refl _ _⟩
 have gK:∀k,HM.S {h with l:=cL h.l j} k→h.S k∧k≠r.g:=by
  rintro k (rfl|⟨x,hx,r',BZ,rfl⟩|⟨sn,hs⟩)
  ·refine⟨.inl rfl,fun e1=>?_⟩
   obtain⟨_,_,_,_,_,hg,_⟩:=fT
   rw[←e1,hF.map]at hg;cases hg
  ·obtain⟨j',xS⟩:=List.getElem?_of_mem hx
   obtain⟨q1,q2⟩:=pB xS BZ
   exact⟨.inr (.inl ⟨x,List.mem_of_getElem? q2,r',BZ,rfl⟩),fun e1=>q1 (hF.HJ j' j x q r' r q2 hj BZ hr e1)⟩
  ·refine⟨.inr (.inr ⟨sn,hs⟩),fun e1=>?_⟩
   obtain⟨_,_,_,_,_,hg,_⟩:=fT
   rw[←e1,hF.iter k sn hs]at hg;cases hg
 refine⟨⟨?_,fun x hx r' BZ=>?_,hF.iter,hF.HJ.take j⟩,fun k hk=>hi.low k (gK k hk).1,fun k hk=>hi.apart k (gK k hk).1,fun x bx b c e1 e2 hs=>?_⟩
 ·show w.heap[h.bm]? =some (.map ((cL h.l j).map bF.mJ).toArray h.clock)
  rw[I7];exact hF.map
 ·obtain⟨j',xS⟩:=List.getElem?_of_mem hx
  exact hF.rows x (List.mem_of_getElem? (pB xS BZ).2) r' BZ
 ·by_cases CO:x=d
  ·subst CO
   rw[h1]at e2;cases e2
   exact(gK _ hs).2 rfl
  ·have e1':aH σ.box x=some (some bx):=by
    have e1:aH ((d,some (jM.row e r.n s r.f))::σ.box) x=some (some bx):=e1
    rw[aL,if_neg (fun h=>CO h.symm)]at e1;exact e1
   rw[h3 x CO]at e2
   exact hi.names x bx b c e1' e2 (gK _ hs).1
end
end Go.Ax
namespace Go.Ax
open Go.RowKit
section
variable{P:Program}{T:List (Nat×bJ)}{N:Nat}{rc:List Nat}{all:List Oper}{md:Region.Mode}{ft:List fI}
def uW(P:Program)(T:List (Nat×bJ))(N:Nat)(rc:List Nat)(all:List Oper)(md:Region.Mode)(ft:List fI)(σf:St)(last:Nat):Nat→Array Bool→St→Prop
 |0,_,_=>False
 |fuel+1,listed,σ=>
  Region.ready md all.toArray listed≠[]∧
  ∀i∈Region.ready md all.toArray listed,(i=last∧Region.ready md all.toArray (listed.setIfInBounds i true)=[]∧ET σf σ)∨
   (i≠last∧∃o e f,all[i]? =some o∧ft[i]? =some f∧EE P T N rc all o σ e f∧uW P T N rc all md ft σf last fuel (listed.setIfInBounds i true) (eL o e σ))
theorem uW.eqv{σf:St}{last:Nat}:∀(fuel:Nat) {listed:Array Bool} {σ σ':St},ET σ σ'→uW P T N rc all md ft σf last fuel listed σ→uW P T N rc all md ft σf last fuel listed σ'
 |0,_,_,_,_,h=>h
 |fuel+1,_,_,_,k,h=>⟨h.1,fun i hi=>by
  rcases h.2 i hi with⟨h1,h2,h3⟩|⟨h0,o,e,f,h1,h2,h3,h4⟩
  ·exact .inl ⟨h1,h2,h3.trans k⟩
  ·exact .inr ⟨h0,o,e,f,h1,h2,h3.eqv k,uW.eqv fuel (eL.eqv k) h4⟩⟩
theorem uW.first{σf:St}{last:Nat}{i:Nat}{oi:Oper}{ei:Ef}{fi:fI}(hi:all[i]? =some oi)(hfi:ft[i]? =some fi)(hil:i≠last){d:Nat}(aAT:dep md all.toArray i d last=true):
  ∀(fuel:Nat) (listed:Array Bool) (σ:St),
   (∀j oj fj,all[j]? =some oj→ft[j]? =some fj→j≠i→listed.getD j true=false→(∀n,dep md all.toArray i n j=false)→oi.apart all.toArray oj=true∧iL fi fj=true)→rB md all listed→
   i∈Region.ready md all.toArray listed→EE P T N rc all oi σ ei fi→
   uW P T N rc all md ft σf last fuel (listed.setIfInBounds i true) (eL oi ei σ)→uW P T N rc all md ft σf last (fuel+1) listed σ:=by
 intro fuel
 induction fuel with
 |zero=>intro listed σ _ _ hr hy H;exact H.elim
 |succ fuel ih=>
  intro listed σ DX uA hr hy H
  refine⟨fun h=>(by rw[h]at hr;cases hr),fun j hj=>?_⟩
  by_cases EK:j=i
  ·subst EK;exact .inr ⟨hil,oi,ei,fi,hi,hfi,hy,H⟩
  ·obtain⟨O9,oj',aAO,lE⟩:=mem_ready.1 hj
   have DU:all[j]? =some oj':=by simpa using aAO
   have L0:∀n,dep md all.toArray i n j=false:=fun n=>MF uA (L6 (mem_ready.1 hr).1) n j oj' DU lE
   have rF:j≠last:=fun e=>by rw[e]at L0;rw[L0 d]at aAT;cases aAT
   rcases H.2 j (ready_mono hj EK)with⟨h1,_,_⟩|⟨_,oj,ej,fj,RQ,hfj,hyj,Hj⟩
   ·exact absurd h1 rF
   obtain rfl:oj=oj':=Option.some.inj (RQ.symm.trans DU)
   obtain⟨B0,wH⟩:=DX j oj fj RQ hfj EK O9 L0
   have aAE:EE P T N rc all oj σ ej fj:=EE.past hy.wr B0 wH hyj
   have aAF:EE P T N rc all oi (eL oj ej σ) ei fi:=EE.over hyj.wr B0 wH hy
   have G2:∀k ok fk,all[k]? =some ok→ft[k]? =some fk→k≠i→(listed.setIfInBounds j true).getD k true=false→
     (∀n,dep md all.toArray i n k=false)→oi.apart all.toArray ok=true∧iL fi fk=true:=fun k ok fk hk nS M6 T7 WJ=>by
    refine DX k ok fk hk nS M6 ?_ WJ
    by_cases hjk:j=k
    ·subst hjk;exact O9
    ·rw[getD_set_ne true hjk]at T7;exact T7
   refine .inr ⟨rF,oj,ej,fj,RQ,hfj,aAE,ih (listed.setIfInBounds j true) (eL oj ej σ) G2 (uA.set RQ lE) (ready_mono hr (Ne.symm EK)) aAF ?_⟩
   rw[Array.setIfInBounds_comm _ _ EK]
   refine uW.eqv fuel ?_ Hj
   obtain⟨h1,h2,h3⟩:=Oper.apart_spec B0
   obtain⟨k1,k2,k3⟩:=iL.spec wH
   exact(eL.comm (fun d hd=>h2 d hd) (fun x hx=>by rw[hy.wr]at hx;rw[hyj.wr];exact k2 x hx)).symm
def ZX(md:Region.Mode)(ops:Array Oper)(ft:List fI)(last:Nat):Nat→Nat→Array Bool→Bool
 |0,_,listed=>(match Region.ready md ops listed with|[i]=>Nat.beq i last|_=>false)&&(Region.ready md ops (listed.setIfInBounds last true)).isEmpty
 |fuel+1,k,listed=>(Region.ready md ops listed).contains k&&A0 md ops ft listed k&&(!Nat.beq k last&&dep md ops k 8 last)&&ZX md ops ft last fuel (k+1) (listed.setIfInBounds k true)
theorem uW.lex{last:Nat}:∀(l:List Oper) (k:Nat) (listed:Array Bool) (σ:St) (es:List Ef) (fs:List fI),(∀j o,l[j]? =some o→all[k+j]? =some o)→(∀j,fs[j]? =ft[k+j]?)→
  rB md all listed→ZX md all.toArray ft last l.length k listed=true→U4 P T N rc all l σ es fs→uW P T N rc all md ft (p7 l σ es) last (l.length+1) listed σ
 |[],_,listed,_,[],[],_,_,_,hB,_=>by
  simp only [List.length_nil,ZX,Bool.and_eq_true]at hB
  obtain⟨h1,h2⟩:=hB
  cases hr:Region.ready md all.toArray listed with
  |nil=>rw[hr]at h1;cases h1
  |cons i t=>
   rw[hr]at h1
   cases t with
   |cons _ _=>cases h1
   |nil=>
    have hi:=Nat.eq_of_beq_eq_true h1
    subst hi
    show uW P T N rc all md ft _ i 1 listed _
    refine⟨by rw[hr];simp,fun j hj=>?_⟩
    rw[hr]at hj
    obtain rfl:j=i:=by simpa using hj
    exact .inl ⟨rfl,by simpa using h2,ET.refl _⟩
 |o::l,k,listed,σ,e::es,f::fs,hl,hf,uA,hB,⟨h1,h2⟩=>by
  have h0:all[k]? =some o:=hl 0 o rfl
  have UB:ft[k]? =some f:=by simpa using(hf 0).symm
  simp only [List.length_cons,ZX,Bool.and_eq_true,Bool.not_eq_true']at hB
  obtain⟨⟨⟨hr,hfr⟩,hV,hdp⟩,hB'⟩:=hB
  have BZ:k∈Region.ready md all.toArray listed:=by simpa using hr
  have J8:k≠last:=fun e=>by subst e;simp at hV
  have lE:∀e∈o.after,Region.binds md e=true→listed.getD e.on false=true:=by
   obtain⟨_,o',qW,h⟩:=mem_ready.1 BZ
   have:all[k]? =some o':=by simpa using qW
   rw[h0]at this;cases this
   exact h
  exact uW.first h0 UB J8 hdp (l.length+1) listed σ (A0.spec h0 UB hfr) uA BZ h1
   (uW.lex l (k+1) _ _ es fs (fun j o' h=>by have:=hl (j+1) o' h;simpa [Nat.add_assoc,Nat.add_comm 1 j]using this) (fun j=>by have:=hf (j+1);simpa [Nat.add_assoc,Nat.add_comm 1 j]using this) (uA.set h0 lE) hB' h2)
 |[],_,_,_,_::_,_,_,_,_,_,h=>by cases ‹List fI› <;> exact h.elim
 |[],_,_,_,[],_::_,_,_,_,_,h=>h.elim
 |_::_,_,_,_,[],_,_,_,_,_,h=>h.elim
 |_::_,_,_,_,_::_,[],_,_,_,_,h=>h.elim
variable{cx:Cx}{ref:List Nat}
theorem wpAny_done{F:Fence}{n:Nat}{ops:Array Oper}{Q:Exit→Act→World→Prop}:∀(fuel:Nat) {listed:Array Bool} {a:Act} {w:World},Region.ready md ops listed=[]→Q .normal a w→wpAnyIn F n P md ops Q fuel listed a w
 |0,_,_,_,h,q=>⟨h,q⟩
 |_+1,_,_,_,h,q=>⟨fun _=>q,fun i hi=>by rw[h]at hi;cases hi⟩
end
section
variable{P:Program}{T:List (Nat×bJ)}{cx:Cx}{N:Nat}{σ:St}{H:Hid}{all:List Oper}{rc:List Nat}
def bD(P:Program)(cx:Cx)(N:Nat)(all l:List Oper)(σ:St)(H:Hid)(K:St→Hid→Prop):Prop:=
 ∀M β a w Q,Inv cx N M β σ a w→lQ cx M β σ w H→(∀a' w',wX cx N M w K a' w'→Q .normal a' w')→wpListIn (FW cx.rd) 0 P all.toArray Q l a w
theorem bD.nil{K:St→Hid→Prop}(h:K σ H):bD P cx N all [] σ H K:=fun M β a w _ i hi hQ=>wpListIn_nil (hQ a w ⟨σ,M,β,H,h,i,hi,Grow.refl _ _,b6.refl _ _⟩)
theorem bD.op{K:St→Hid→Prop}{o:Oper}{l:List Oper}(hg:o.guard=none)(h:nE P cx N o σ H fun σ' H'=>bD P cx N all l σ' H' K):bD P cx N all (o::l) σ H K:=by
 intro M β a w Q i hi hQ
 unfold wpListIn
 rw[if_pos (by simp[Region.wanted,hg])]
 refine LJ h.1 (Oper.wp_mono ?_ (h.2 M β a w i hi Q))
 rintro a' w' ⟨σ',M',β',H',hk,i',bN,g,kp⟩
 exact hk M' β' a' w' Q i' bN fun a2 w2 hp=>hQ a2 w2 (hp.trans g kp)
theorem bD.ops{K:St→Hid→Prop}{l:List Oper}{ks:List Nat}(hT:b5 P T)(n:Nat)(iT:∀x,x∈ks→∃bc,aH σ.box x=some (some bc)∧bc.real=true)(lE:∀x bc,aH σ.box x=some (some bc)→x∈ks)(aA:∀x,x∈cx.ref→x∈ks)
  (h:lA P T N ks rc all (l.take n) σ fun σ'=>bD P cx N all (l.drop n) σ' H K):bD P cx N all l σ H K:=by
 intro M β a w Q i hi hQ
 have lD:∀x,x∈ks→∃bc,aH σ.box x=some (some bc):=fun x hx=>let⟨bc,h1,_⟩:=iT x hx;⟨bc,h1⟩
 have hV:∀x,x∈ks→∃p,β x=some p:=fun x hx=>by
  obtain⟨bc,h1,h2⟩:=iT x hx
  obtain⟨b,c,e⟩:=(i.box x bc h1).exb h2
  exact⟨_,e⟩
 have ii:=i.aDJ (rd:=cx.rd) lD lE hV i.defers
 have:=lA.Q0 (cx:=Cx.part w ks β cx.rd cx.df) (Q:=Q) hT rfl (l.drop n) (l.take n) h ii (by
  rintro a' w' ⟨σ',M',β',hk,i',g,kp⟩
  exact hk M' β' a' w' Q (Inv.back i lD aA i' (b6.back i lD kp) i'.defers i'.tmps i'.env) (hi.after lD i' g kp) fun a2 w2 hp=>hQ a2 w2 (hp.trans (Grow.back i g) (b6.back i lD kp)))
 rwa [List.take_append_drop]at this
theorem bI.region{K:Exit→St→Hid→Prop}{id:Nat}{ops:Array Oper}(h:bD P cx N ops.toList ops.toList σ H (K .normal)):bI P cx N (.region id ops false) σ H K:=by
 intro M β a w i hi
 have:=h M β a w (fun e a' w'=>wX cx N M w (K e) a' w') i hi (fun a' w' hp=>hp)
 exact wpIn_region_list (by simpa using this)
theorem uW.aFM{md:Region.Mode}{ft:List fI}(hT:b5 P T)(WG:∀f,rc.contains (f+2000000)=true→cx.ref=[]){last:Nat}{ol:Oper}(G0:all[last]? =some ol)(hg:ol.guard=none)(hnd:∀c,ol.op≠.defer c)
  {σf:St} {Q:Exit→Act→World→Prop} {M0:Mem} {w0:World} (tZ:∀M β a w,Inv cx N M β σf a w→Grow cx.B M0 M→b6 cx w0 w→ol.wp P a w (fun a' w'=>Q .normal a' w') Q):∀(fuel:Nat) {listed:Array Bool} {σ:St} {M:Mem} {β:Nm} {a:Act} {w:World},
  uW P T N rc all md ft σf last fuel listed σ→Inv cx N M β σ a w→Grow cx.B M0 M→b6 cx w0 w→wpAnyIn (FW cx.rd) 0 P md all.toArray Q fuel listed a w:=by
 intro fuel
 induction fuel with
 |zero=>intro listed σ M β a w h;exact h.elim
 |succ fuel ih=>
  intro listed σ M β a w h i g0 k0
  refine⟨fun h0=>absurd h0 h.1,fun k hk=>?_⟩
  rcases h.2 k hk with⟨J8,hr,heq⟩|⟨J8,o,e,f,ho,hf,fT,J7⟩
  ·subst J8
   have qW:all.toArray[k]? =some ol:=by simpa using G0
   unfold wpOpIn
   rw[qW]
   simp only
   rw[if_pos (by simp[Region.wanted,hg])]
   exact LJ hnd (Oper.wp_mono (fun a' w' hp=>wpAny_done fuel hr hp) (tZ M β a w (i.eqv heq.symm) g0 k0))
  ·have jE:=aT.sound (cx:=cx) (Q:=Q) hT WG (fT.pt (fun e'=>e'=e) rfl) i
   have qW:all.toArray[k]? =some o:=by simpa using ho
   have next:∀a' w',BR cx N M w o σ (fun e'=>e'=e) a' w'→wpAnyIn (FW cx.rd) 0 P md all.toArray Q fuel (listed.setIfInBounds k true) a' w':=by
    rintro a' w' ⟨e',M',β',rfl,hi,hg,kG⟩
    exact ih J7 hi (g0.trans hg) (k0.trans kG)
   unfold wpOpIn
   rw[qW]
   simp only
   split
   ·rename_i hw
    rw[if_pos hw]at jE
    exact LJ jE.1 (Oper.wp_mono next jE.2)
   ·rename_i hw
    rw[if_neg hw]at jE
    exact⟨fun _ _=>trivial,next _ _ jE⟩
theorem bI.aA7{K:Exit→St→Hid→Prop}{ks:List Nat}(hT:b5 P T)(WG:∀f,rc.contains (f+2000000)=true→ks=[])(hm:P.follows .mixedOrders=true){id:Nat}{ops:Array Oper}
  (iT:∀x,x∈ks→∃bc,aH σ.box x=some (some bc)∧bc.real=true) (lE:∀x bc,aH σ.box x=some (some bc)→x∈ks) (aA:∀x,x∈cx.ref→x∈ks) (last:Nat) {ol:Oper}
  (G0:ops.toList[last]? =some ol) (lT:Nat.beq ops.toList.length (last+1)=true) (hg:ol.guard=none) (hnd:∀c,ol.op≠.defer c)
  (h:oK P T N rc ops.toList (ops.toList.take last) σ [] fun σ' fs=>ZX .any ops.toList.toArray fs last (ops.toList.take last).length 0 (Array.replicate ops.toList.length false)=true∧nE P cx N ol σ' H (K .normal)):bI P cx N (.region id ops true) σ H K:=by
 obtain⟨es,gs,hc,hl,hK⟩:=oK.chain h
 intro M β a w i hi
 refine wpIn_region_any hm ?_
 have aAV:=uW.lex (md:=.any) (ft:=gs) (ops.toList.take last) 0 (Array.replicate ops.toList.length false) σ es gs (fun j o h=>by
  rw[Nat.zero_add]
  exact(List.getElem?_eq_some_iff.1 h).elim fun h1 h2=>by rw[List.getElem_take]at h2;rw[List.length_take]at h1;rw[List.getElem?_eq_getElem oM];exact congrArg some h2) sM (fun m om _ h=>by simp[Array.getElem?_replicate]at h;split at h <;> simp_all) hl hc
 have lD:∀x,x∈ks→∃bc,aH σ.box x=some (some bc):=fun x hx=>let⟨bc,h1,_⟩:=iT x hx;⟨bc,h1⟩
 have hV:∀x,x∈ks→∃p,β x=some p:=fun x hx=>by
  obtain⟨bc,h1,h2⟩:=iT x hx
  obtain⟨b,c,e⟩:=(i.box x bc h1).exb h2
  exact⟨_,e⟩
 have id1:Inv cx N M β σ a {w with drawn:=w.drawn+1}:=
  ⟨i.defers,i.tmps,⟨i.heap.le,i.heap.tab⟩,i.env,i.mem,i.keys,i.box,i.inj,i.apart,i.low,i.ref⟩
 have M7:lQ cx M β σ {w with drawn:=w.drawn+1} H:=⟨H.loc M M w _ hi.holds (Mem.le_refl M) fun _ _=>rfl,hi.low,hi.apart,hi.names⟩
 have kd:b6 cx w {w with drawn:=w.drawn+1}:=⟨rfl,rfl,rfl,Nat.le_refl _,fun _ _ _=>rfl,trivial⟩
 have ii:=id1.aDJ (rd:=cx.rd) lD lE hV i.defers
 have:=uW.aFM (cx:=Cx.part {w with drawn:=w.drawn+1} ks β cx.rd cx.df) (Q:=fun e a' w'=>wX cx N M w (K e) a' w') (M0:=M) (w0:={w with drawn:=w.drawn+1}) hT WG G0 hg hnd (by
  intro M' β' a' w' i' g kp
  refine Oper.wp_mono ?_ (hK.2 M' β' a' w' (Inv.back id1 lD aA i' (b6.back id1 lD kp) i'.defers i'.tmps i'.env) (M7.after lD i' g kp) _)
  exact fun a2 w2 hp=>hp.trans (Grow.back id1 g) (kd.trans (b6.back id1 lD kp))) _ aAV ii (Grow.refl _ _) (b6.refl _ _)
 have hlen:(ops.toList.take last).length+1=ops.toList.length:=by
  have:=(List.getElem?_eq_some_iff.1 G0).1
  have:=Nat.eq_of_beq_eq_true lT
  rw[List.length_take];omega
 rw[hlen]at this
 have e:(Cx.part {w with drawn:=w.drawn+1} ks β cx.rd cx.df).rd=cx.rd:=rfl
 rw[e]at this
 simpa using this
end
def Hid.none:Hid where
 S:=fun _=>False
 F:=fun _ _=>True
 lt:=fun _ _ _ _ h=>h.elim
 loc:=fun _ _ _ _ _ _ _=>trivial
section
variable{P:Program}{cx:Cx}{N:Nat}{σ:St}{M:Mem}{β:Nm}{a:Act}{w:World}
theorem lQ.none:lQ cx M β σ w Hid.none:=⟨trivial,fun _ h=>h.elim,fun _ h=>h.elim,fun _ _ _ _ _ _ h=>h⟩
theorem AW.CI{c:Code}{K:Exit→St→Prop}(h:bI P cx N c σ Hid.none fun e s _=>K e s):AW P cx N c σ K:=fun M β a w i=>
 wpIn_mono (h M β a w i lQ.none) fun _ _ _ ⟨s,M',β',_,h1,h2,_,h4,h5⟩=>⟨s,M',β',h1,h2,h4,h5⟩
theorem Inv.grow(i:Inv cx N M β σ a w){M':Mem}(hM:Mem.le M M')(fT:kF M' w)(B0:∀x bx b c,aH σ.box x=some (some bx)→β x=some (b,c)→∀o,M' b o=none):Inv cx N M' β σ a w:=
 ⟨i.defers,i.tmps,i.heap,fun t=>AV.a7.mono hM (Nm.le_refl β) (i.env t),fT,i.keys,fun x bx e=>cH.mono hM (Nm.le_refl β) rfl (fun _ _ _=>rfl) (i.box x bx e),i.inj,B0,i.low,i.ref⟩
def dmV(s:Nat)(q:bF):DV:=match q.row with
 |some r=>.fJ r.n s r.f
 |none=>.val (.slice none 0 0)
def dmL(s:Nat)(l:List bF):List (ByteArray×Nat×DV):=l.map fun q=>(q.key,q.born,dmV s q)
theorem PR(s:Nat):∀l:List bF,k8 (dmL s l) (l.map (·.val))=l.map bF.mJ
 |[]=>rfl
 |q::r=>by simp only [dmL,List.map_cons,k8];exact congrArg (_:: ·) (PR s r)
theorem U2{s:Nat}:∀{l:List bF},(∀q∈l,(dmV s q).a7 M q.val)→uU M (dmL s l) (l.map (·.val))
 |[],_=>trivial
 |q::_,h=>⟨h q (List.mem_cons_self),U2 fun x hx=>h x (List.mem_cons_of_mem _ hx)⟩
theorem HSub.aCX{e s t x:Nat}{h:HM}(oN:∀q∈h.l,(∃r,q.row=some r∧r.lo=0)∨(q.row=none∧q.val=.slice none 0 0))(hx:aH σ.box x=none)(ht:eZ σ.env t=.s (.d (.val (.map (some h.bm))))):
  HSub cx N σ (hid e s h) ⟨(t,.s (.mp x))::σ.env,(x,some (.dm (dmL s h.l) h.clock))::σ.box⟩ Hid.none:=by
 classical
 intro M β a w i hi
 have hF:h.F e s M w:=hi.holds
 let QM:Nat→Prop:=fun b=>∃q∈h.l,∃r,q.row=some r∧r.g=b
 have hRS:∀b,QM b→h.S b:=fun b ⟨q,hq,r,hr,e⟩=>.inr (.inl ⟨q,hq,r,hr,e⟩)
 let M':Mem:=fun b o=>if QM b then w.cell? ⟨b,o,none⟩else M b o
 have hM:Mem.le M M':=fun b o u e=>by
  by_cases hb:QM b
  ·rw[hi.apart b (hRS b hb) o]at e;cases e
  ·simp only [M',if_neg hb];exact e
 have fT:kF M' w:=fun b o u e=>by
  by_cases hb:QM b
  ·simp only [M',if_pos hb]at e;exact e
  ·simp only [M',if_neg hb]at e;exact i.mem b o u e
 have i1:=i.grow hM fT (fun y bx b c e1 e2 o=>by
  have:¬QM b:=fun hb=>hi.names y bx b c e1 e2 (hRS b hb)
  simp only [M',if_neg this];exact i.apart y bx b c e1 e2 o)
 have M8:¬QM h.bm:=by
  rintro⟨q,hq,r,hr,e⟩
  obtain⟨_,_,_,_,_,hg,_⟩:=hF.rows q hq r hr
  rw[e,hF.map]at hg;cases hg
 have aAH:∀q∈h.l,(dmV s q).a7 M' q.val:=by
  intro q hq
  rcases oN q hq with⟨r,hr,CP⟩|⟨hr,hv⟩
  ·obtain⟨o,cur,h1,h2,h3,h4,h5,h6,h7,h9,h8⟩:=hF.rows q hq r hr
   rw[CP]at h1 h2
   have ho:o=0:=by rw[h2 h9];simp
   subst ho
   unfold dmV
   rw[hr]
   refine⟨_,r.cap,by rw[h1];simp,h6,.inr ⟨r.g,0,rfl,fun k j hk hj=>?_⟩⟩
   obtain⟨u,hu,EI⟩:=h8 k j hk hj
   have hR:QM r.g:=⟨q,hq,r,hr,rfl⟩
   exact⟨u,by simp only [M',if_pos hR];simp[World.cell?,h4,hu],DV.a7.mono hM EI⟩
  ·unfold dmV
   rw[hr];exact hv
 obtain⟨β',h1,h2,h3,i2⟩:=i1.named (c:=(0,0)) (bc:=.dm (dmL s h.l) h.clock) hx (fun y bx b c e1 e2 e3=>hi.names y bx b c e1 e2 (e3▸.inl rfl)) (fun o=>by simp only [M',if_neg M8];exact hi.apart _ (.inl rfl) o) (hi.low _ (.inl rfl)) (fun β' e1 _=>
  ⟨h.bm,_,h.l.map (·.val),e1,by rw[PR];exact hF.map,U2 aAH⟩)
 refine⟨M',β',?_,lQ.none,⟨hM,fun b o u e=>?_⟩⟩
 ·refine⟨i2.defers,i2.tmps,i2.heap,fun t'=>?_,i2.mem,i2.keys,i2.box,i2.inj,i2.apart,i2.low,i2.ref⟩
  by_cases DR:t=t'
  ·subst DR
   have:=i.env t
   rw[ht]at this
   simp only [eZ,Nat.beq_refl,cond_true]
   exact⟨h.bm,_,h1,this⟩
  ·simp only [eZ,SU DR,cond_false]
   exact i2.env t'
 ·by_cases hb:QM b
  ·exact .inr (hi.low b (hRS b hb))
  ·simp only [M',if_neg hb]at e;exact .inl e
end
def aL0(xs:List Nat):Option jM→Bool
 |some b=>QN xs b
 |none=>true
theorem PG:∀{E:List (Nat×AV)} {u:Nat},eZ E u=.s (.d .bC)∨∃p,p∈E∧eZ E u=p.2
 |[],u=>.inl rfl
 |(k,v)::r,u=>by
  rw[gG]
  by_cases h:k=u
  ·rw[if_pos h];exact .inr ⟨(k,v),sM,rfl⟩
  ·rw[if_neg h]
   rcases PG (E:=r) (u:=u)with h|⟨p,hp,e⟩
   ·exact .inl h
   ·exact .inr ⟨p,by simp[hp],e⟩
theorem PI:∀{B:aO} {y:Nat} {b:Option jM},aH B y=some b→(y,b)∈B
 |[],y,b,h=>by simp[aH]at h
 |(k,v)::r,y,b,h=>by
  rw[aL]at h
  by_cases hk:k=y
  ·rw[if_pos hk]at h;cases h;subst hk;simp
  ·rw[if_neg hk]at h
   have:=PI h
   simp[this]
theorem aBQ{B:aO}{y:Nat}{b:Option jM}(h:(y,b)∈B):y∈cJ B:=by
 induction B with
 |nil=>cases h
 |cons a r ih=>
  obtain⟨k,v⟩:=a
  unfold cJ
  rcases List.mem_cons.1 h with e|h
  ·cases e;simp
  ·simp[ih h]
def aCR(T:List (Nat×bJ))(rs:List ResultVar)(r:AV)(bx':eO):Exit→St→Prop
 |.ret,σ=>match nV T σ rs with
  |some ts=>aM (xN ts) r∧iZ σ.box bx'
  |none=>False
 |.normal,σ=>match nV T σ rs with
  |some ts=>aM (xN ts) r∧iZ σ.box bx'
  |none=>False
 |_,_=>False
section
variable{P:Program}{T:List (Nat×bJ)}
theorem QD{f N:Nat}{fn:Func}{c:Code}{args:List AV}{bx:eO}{r:AV}{bx':eO}(hf:P.funcs[f]? =some fn)(hb:fn.body=some c)(hN:fn.ntmps=N)(dV:∀vs w,(callFunc f vs).run P w=.ok (.enter f vs) w)
  (hT:b5 P T) (hl:Nat.ble args.length N=true) (jZ:(bx'.all fun p=>p.2.real)=true) {rs:List ResultVar} (LZ:fn.results.toList=rs)
  (h:∀cx:Cx,cx.ref=names bx→AW P cx N c (pM args bx) (aCR T rs r bx')):bM P f args bx r bx':=by
 classical
 refine⟨dV,fun M β w vs hG hr hM qE hβ=>?_⟩
 refine calls_of_wp hf hb ?_
 let cx:Cx:={B:=w.heap.size,ref:=names bx,β0:=β}
 have hlen:=hr.length
 have hl:=Nat.le_of_ble_eq_true hl
 have hex:∀x,x∈names bx→∃p,β x=some p:=fun x hx=>by
  obtain⟨k,c,e⟩:=qE.has x hx
  exact⟨_,e⟩
 have i0:Inv cx N M β (pM args bx) {tmps:=vs.toArray++Array.replicate (fn.ntmps - vs.toArray.size) undef,defers:=[]} w:=by
  refine⟨rfl,by simp;omega,⟨Nat.le_refl _,by obtain⟨bs,hG,hN2⟩:=hG;exact⟨bs,hG,fun g t m=>⟨hG.lt m,by rintro⟨x,c,_,hx⟩;exact hN2 g t m x c hx⟩⟩⟩,fun t=>?_,hM,fun x p e=>gC.has (hβ x p e),fun x b e=>qE.rep x b (gC.get e),fun x y b1 b2 b c c' h1 h2 e1 e2=>?_,fun x b1 b c h1 e=>?_,fun x b1 b c h1 e=>?_,fun x hx=>⟨rfl,hex x hx⟩⟩
  ·have:=rY.rep (k:=0) (t:=t) (List.replicate (fn.ntmps - vs.length) undef) hr (Nat.zero_le _)
   simp only [Nat.sub_zero]at this
   simp only [pM]
   have e:(vs.toArray++Array.replicate (fn.ntmps - vs.toArray.size) undef).getD t undef=(vs++List.replicate (fn.ntmps - vs.length) undef).getD t undef:=by
    simp[←List.toArray_replicate]
   rw[e]
   exact this
  ·exact qE.inj x y b c c' (cX (gC.get h1)) (cX (gC.get h2)) e1 e2
  ·exact qE.apart x b c (cX (gC.get h1)) e
  ·exact .inr ⟨x,c,cX (gC.get h1),e⟩
 refine wp_mono (wpIn_wide.1 (h cx rfl M β _ w i0)) ?_
 rintro e a' w' ⟨σ',M',β',hk,i',hg,kG⟩
 have fin:∀ts,nV T σ' rs=some ts→aM (xN ts) r→iZ σ'.box bx'→a'.defers=[]∧∃v,(results fn a'.tmps).run P w'=.ok v w'∧∃v' M' β',Ending.returned v=.returned v'∧Nm.le β β'∧r.a7 M' β' v'∧Grow w.heap.size M M'∧kF M' w'∧qR M' β' w' bx'∧
   (∀x b c,x∈names bx'→β' x=some (b,c)→w.heap.size≤b∨∃y c',β y=some (b,c'))∧
   w'.os=w.os∧w'.tape=w.tape∧w'.output=w.output∧w.heap.size≤w'.heap.size∧(∀k,k<w.heap.size→(∀y c,β y≠some (k,c))→w'.heap[k]? =w.heap[k]?)∧Dr w w':=by
  intro ts qV gK pQ
  obtain⟨zJ,aV,dU⟩:=nV.rep hT i' qV
  have cI:∀x,x∈names bx'→∃b,aH σ'.box x=some (some b):=fun x hx=>by
   obtain⟨b,hb⟩:=jI hx
   exact⟨b,iZ.get pQ hb⟩
  refine⟨i'.defers,(if h:zJ.toArray.size=1 then zJ.toArray[0]else .tuple zJ.toArray),?_,_,M',β',rfl,?_,gK M' β' _ ?_,hg,i'.mem,?_,?_,kG.os,kG.tape,kG.output,kG.size,?_,kG.drawn⟩
  ·have:(fn.results.mapM (lB a'.tmps)).run P w'=.ok zJ.toArray w':=by
    rw[←Array.toArray_toList (xs:=fn.results),List.mapM_toArray,LZ]
    simp only [Sem.run_map,aV,Result.andThen]
   have e:results fn a'.tmps=(do let vs←fn.results.mapM (lB a'.tmps);pure (if h:vs.size=1 then vs[0]else .tuple vs)):=by
    unfold results
    congr 1
   rw[e]
   simp only [Sem.run_bind,this,Result.andThen,Sem.run_pure]
  ·intro x p e
   rw[(i'.ref x (hβ x p e)).1]
   exact e
  ·cases ts with
   |nil=>
    cases zJ with
    |nil=>exact⟨[],rfl,trivial⟩
    |cons _ _=>exact dU.elim
   |cons t r'=>
    cases zJ with
    |nil=>exact dU.elim
    |cons v FD=>
     cases r' with
     |nil=>
      cases FD with
      |cons _ _=>exact dU.2.elim
      |nil=>
       have:=dU.1
       simp only [List.size_toArray,List.length_cons,List.length_nil,Nat.zero_add,dite_true,xN]
       cases t with
       |s x=>exact this
       |g cs=>exact this
     |cons t2 r2=>
      cases FD with
      |nil=>exact dU.2.elim
      |cons v2 vs3=>
       have hV:¬(v::v2::vs3).toArray.size=1:=sM
       rw[dif_neg hV]
       exact⟨_,rfl,dU⟩
  ·refine⟨fun x hx=>?_,fun x b hb=>i'.box x b (iZ.get pQ hb),fun x y b c c' hx hy e1 e2=>?_,fun x b c hx e o=>?_⟩
   ·obtain⟨b,hb⟩:=jI hx
    rw[List.all_eq_true]at jZ
    exact(i'.box x b (iZ.get pQ hb)).exb (jZ _ hb)
   ·obtain⟨CY,h1⟩:=cI x hx
    obtain⟨bx2,h2⟩:=cI y hy
    exact i'.inj x y CY bx2 b c c' h1 h2 e1 e2
   ·obtain⟨CY,h1⟩:=cI x hx
    exact i'.apart x CY b c h1 e o
  ·intro x b c hx e
   obtain⟨CY,h1⟩:=cI x hx
   rcases i'.low x CY b c h1 e with h|⟨y,c',hy,RM⟩
   ·exact .inl h
   ·exact .inr ⟨y,c',RM⟩
  ·intro k hk hnk
   exact kG.block k hk (by rintro⟨x,c,_,hx⟩;exact hnk x c hx)
 cases e with
 |ret=>
  simp only [aCR]at hk
  split at hk
  ·rename_i ts qV;exact fin ts qV hk.1 hk.2
  ·exact hk.elim
 |normal=>
  simp only [aCR]at hk
  split at hk
  ·rename_i ts qV;exact fin ts qV hk.1 hk.2
  ·exact hk.elim
 |_=>exact hk.elim
theorem EA{rc:List Nat}{f N:Nat}{fn:Func}{c:Code}{args:List AV}{bx:eO}{r:AV}{bx':eO}(hf:P.funcs[f]? =some fn)(hb:fn.body=some c)(hN:fn.ntmps=N)(dV:∀vs w,(callFunc f vs).run P w=.ok (.enter f vs) w)
  (hT:b5 P T) (hm:P.follows .mixedOrders=true) (hl:Nat.ble args.length N=true) (jZ:(bx'.all fun p=>p.2.real)=true) {rs:List ResultVar} (LZ:fn.results.toList=rs)
  (h:∀cx:Cx,cx.ref=names bx→ex P T N (names bx) rc cx c (pM args bx) (aCR T rs r bx')):bM P f args bx r bx':=
 QD hf hb hN dV hT hl jZ LZ fun cx aA=>ex.sound hT hm aA c (h cx aA)
end

def aCD(P:Program)(f:FuncId)(args:List AV)(K:DV→Hid→Prop):Prop:=
 (∀vs w,(callFunc f vs).run P w=.ok (.enter f vs) w)∧
 ∀(M:Mem) (w:World) (vs:List Value),aH5 w→gU M nb args vs→kF M w→
  Calls P f vs.toArray w fun e w'=>∃v M' x H,K x H∧e=.returned v∧x.a7 M' v∧Grow w.heap.size M M'∧kF M' w'∧Bel w w'∧H.F M' w'∧(∀k,H.S k→w.heap.size≤k)∧∀k,H.S k→∀o,M' k o=none
def aLD(T:List (Nat×bJ))(rs:List ResultVar)(K:DV→Hid→Prop):Exit→St→Hid→Prop
 |.ret,σ,H=>∃x,nV T σ rs=some [.s (.d x)]∧K x H
 |.normal,σ,H=>∃x,nV T σ rs=some [.s (.d x)]∧K x H
 |_,_,_=>False
section
variable{P:Program}{T:List (Nat×bJ)}
theorem MT{f N:Nat}{fn:Func}{c:Code}{args:List AV}{K:DV→Hid→Prop}(hf:P.funcs[f]? =some fn)(hb:fn.body=some c)(hN:fn.ntmps=N)(dV:∀vs w,(callFunc f vs).run P w=.ok (.enter f vs) w)
  (hT:b5 P T) (hl:Nat.ble args.length N=true) {rs:List ResultVar} (LZ:fn.results.toList=rs)
  (h:∀cx:Cx,cx.ref=[]→bI P cx N c (sY args) Hid.none (aLD T rs K)):aCD P f args K:=by
 refine⟨dV,fun M w vs hG hr hM=>?_⟩
 refine calls_of_wp hf hb ?_
 let cx:Cx:={B:=w.heap.size,ref:=[],β0:=nb}
 have hlen:=hr.length
 have hl:=Nat.le_of_ble_eq_true hl
 have i0:Inv cx N M nb (sY args) {tmps:=vs.toArray++Array.replicate (fn.ntmps - vs.toArray.size) undef,defers:=[]} w:=by
  refine⟨rfl,by simp;omega,⟨Nat.le_refl _,by obtain⟨bs,hG⟩:=hG;exact⟨bs,hG,fun g t m=>⟨hG.lt m,by rintro⟨x,c,hx,_⟩;cases hx⟩⟩⟩,fun t=>?_,hM,fun _ _ e=>(by cases e),fun _ _ e=>(by cases e),fun _ _ _ _ _ _ _ e=>(by cases e),fun _ _ _ _ e=>(by cases e),fun _ _ _ _ e=>(by cases e),fun _ hx=>(by cases hx)⟩
  have:=rY.rep (k:=0) (t:=t) (List.replicate (fn.ntmps - vs.length) undef) hr (Nat.zero_le _)
  simp only [Nat.sub_zero]at this
  simp only [sY]
  have e:(vs.toArray++Array.replicate (fn.ntmps - vs.toArray.size) undef).getD t undef=(vs++List.replicate (fn.ntmps - vs.length) undef).getD t undef:=by
   simp[←List.toArray_replicate]
  rw[e]
  exact this
 refine wp_mono (wpIn_wide.1 (h cx rfl M nb _ w i0 lQ.none)) ?_
 rintro e a' w' ⟨σ',M',β',H',hk,i',bN,hg,kG⟩
 have fin:(∃x,nV T σ' rs=some [.s (.d x)]∧K x H')→a'.defers=[]∧∃v,(results fn a'.tmps).run P w'=.ok v w'∧∃v' M' x H,K x H∧Ending.returned v=.returned v'∧x.a7 M' v'∧Grow w.heap.size M M'∧kF M' w'∧Bel w w'∧H.F M' w'∧(∀k,H.S k→w.heap.size≤k)∧∀k,H.S k→∀o,M' k o=none:=by
  rintro⟨x,qV,hK⟩
  obtain⟨zJ,aV,dU⟩:=nV.rep hT i' qV
  match zJ,aV,dU with
  |[v],aV,dU=>
   refine⟨i'.defers,v,?_,v,M',x,H',hK,rfl,dU.1,hg,i'.mem,⟨⟨kG.os,kG.tape,kG.output,kG.size,fun k hk=>kG.block k hk (by rintro⟨x,c,hx,_⟩;cases hx)⟩,kG.drawn⟩,bN.holds,bN.low,bN.apart⟩
   have h1:(fn.results.mapM (lB a'.tmps)).run P w'=.ok #[v] w':=by
    rw[←Array.toArray_toList (xs:=fn.results),List.mapM_toArray,LZ]
    simp only [Sem.run_map,aV,Result.andThen]
   have e:results fn a'.tmps=(do let vs←fn.results.mapM (lB a'.tmps);pure (if h:vs.size=1 then vs[0]else .tuple vs)):=by
    unfold results
    congr 1
   rw[e]
   simp only [Sem.run_bind,h1,Result.andThen,Sem.run_pure]
   rfl
  |[],_,dU=>exact dU.elim
  |_::_::_,_,dU=>exact dU.2.elim
 cases e with
 |ret=>exact fin hk
 |normal=>exact fin hk
 |_=>exact hk.elim
theorem nE.aKV{cx:Cx}{N:Nat}{σ:St}{d f:Nat}{args:Array Operand}{uX:Array TypeId}{o:Oper}{ars:List AV}{K0:DV→Hid→Prop}{K:St→Hid→Prop}
  (ho:o.op=.call {callee:=.value (.func f),args:=args,argTypes:=uX}) (hd:o.dst=some d) (hN:d<N)
  (aMN:dO none σ args.toList fun l=>l=ars) (hr:rL ars=false) (h:aCD P f (iW σ ars) K0)
  (hK:∀x H,K0 x H→K ⟨(d,.s (.d x))::σ.env,σ.box⟩ H):nE P cx N o σ Hid.none K:=by
 refine⟨fun c hc=>(by rw[ho]at hc;cases hc),fun M β a w i hi Q=>?_⟩
 obtain⟨aNI,rfl,has⟩:=dO.spec aMN
 have wI:=has (fun _ h=>by cases h) cx N M β a w i
 obtain⟨yO,dV⟩:=h
 have aV:(execOp a.eval o).run P w=.ok (.enter f (args.toList.map a.eval).toArray) w:=by
  have:args.map a.eval=(args.toList.map a.eval).toArray:=by apply Array.ext';simp
  simp[execOp,ho,resolve,Act.eval,Deferred.ofValue,invoke,this,yO]
 unfold Oper.wp
 rw[aV,Oper.upon_enter]
 refine(dV M w _ i.heap.aDO (rL.rep hr wI) i.mem).mono ?_
 rintro e w' ⟨v,M',x,H,hk,rfl,RO,hg,hm,PE,hF,hS,B0⟩
 obtain⟨i1,g1,k1⟩:=i.after PE hg hm
 rw[hd]
 refine⟨_,M',β,H,hK x H hk,i1.put hN RO,⟨hF,fun k hk=>Nat.le_trans i.heap.le (hS k hk),B0,fun y bc b c e1 e2 hs=>?_⟩,g1,k1⟩
 have h1:=i.tQ e1 e2
 have h2:=hS b hs
 omega
end
end Go.Ax
