/- Part 3: lemmas that the proofs of this seat share; by itself it claims nothing. -/
import Derived.Test.YtmmfnloidfibkaaGreatDoorPt2
set_option linter.defProp false
namespace Go.Ax
open Go.RowKit
def aOA(bx':eV):Exit->St->Prop
 |.ret,I=>jI I.box bx'
 |.normal,I=>jI I.box bx'
 |_,_=>False
section
variable{P:Ba}{T:List (Nat×bV)}
def r9{rc:List Nat}{f N:Nat}{fn:Func}{c:Code}{args:List AV}{bx:eV}{bx':eV}(hf:P.funcs[f]? =some fn)(hb:fn.body=some c)(hN:fn.ntmps=N)(eF:∀vs w,(callFunc f vs).run P w=.ok (.enter f vs) w)
  (hT:cD P T) (hm:P.follows .mixedOrders=true) (hl:Nat.ble args.length N=true) (kJ:(bx'.all λp=>p.2.real)=true) (NA:fn.results.toList=[])
  (h:∀R:Cx,R.ref=names bx->ex P T N (names bx) rc R c (qM args bx) (aOA bx')):bW P f args bx (.t []) bx':=by
 classical
 refine⟨eF,λM V w vs hG hr hM rJ hβ=>?_⟩
 apply Wn hf hb
 let R:Cx:={B:=w.heap.size,ref:=names bx,ma:=V}
 have hlen:=hr.length
 have hl:=Dc hl
 have hex:∀x,x∈names bx->∃p,V x=some p:=λx hx=>by exact Lq
 have i0:Inv R N M V (qM args bx) {tmps:=vs.toArray++Array.replicate (fn.ntmps-vs.toArray.size) undef,defers:=[]} w:=zb
 refine Yn (Xn.1 (Sb hT hm (R:=R) rfl c (h R rfl) M V _ w i0)) ?_
 rintro e a' w' ⟨I',M',V',hk,i',hg,lB⟩
 have fin:jI I'.box bx'->a'.defers=[]/\∃v,(results fn a'.tmps).run P w'=.ok v w'/\∃v' M' V',Ending.returned v=.returned v'/\Nm.le V V'/\(AV.t []).bI M' V' v'/\Grow w.heap.size M M'/\lA M' w'/\sE M' V' w' bx'/\
   (∀x b c,x∈names bx'->V' x=some (b,c)->w.heap.size<=b\/∃y c',V y=some (b,c'))/\
   w'.os=w.os/\w'.tape=w.tape/\w'.output=w.output/\w.heap.size<=w'.heap.size/\(∀k,k<w.heap.size->(∀y c,V y≠some (k,c))->w'.heap[k]? =w.heap[k]?)/\Dr w w':=by
  intro qS
  have cQ:∀x,x∈names bx'->∃b,aH I'.box x=some (some b):=λx hx=>by exact Qq
  refine⟨i'.defers,.tuple #[],?_,_,M',V',rfl,?_,⟨[],rfl,trivial⟩,hg,i'.mem,?_,?_,lB.os,lB.tape,lB.output,lB.size,?_,lB.drawn⟩
  ·have e0:fn.results= #[]:=by rw[<-Array.toArray_toList (xs:=fn.results),NA]
   have:(fn.results.mapM (l6 a'.tmps)).run P w'=.ok #[] w':=by rw[e0];simp only[Array.mapM_empty,Wc]
   have e:results fn a'.tmps=(do let vs<-fn.results.mapM (l6 a'.tmps);pure (if h:vs.size=1 then vs[0]else .tuple vs)):=by unfold results;congr 1
   rw[e];simp only[Ic,this,Result.andThen,Wc];rfl
  ·exact Nq
  ·exact vm
  ·exact vg
  ·exact jy
 cases e with
 |ret=>exact fin hk
 |normal=>exact fin hk
 |_=>exact hk.elim
end
def Jf(w:Aa)(ks:List Nat)(V:Nm)(rd:Da Nat)(df:List Deferred):Cx:={B:=w.heap.size,ref:=ks,ma:=V,rd:=rd,df:=df}
section
variable{P:Ba}{R:Cx}{N:Nat}{M:Mem}{V:Nm}{I:St}{a:Act}{w:Aa}{ks:List Nat}{rd:Da Nat}{df:List Deferred}
def Inv.Mk(i:Inv R N M V I a w)(jA:∀x,x∈ks->∃bc,aH I.box x=some (some bc))(lC:∀x bc,aH I.box x=some (some bc)->x∈ks)(fJ:∀x,x∈ks->∃p,V x=some p)
  (hdf:a.defers=df):Inv (Jf w ks V rd df) N M V I a w:=by
 refine⟨hdf,i.tmps,⟨mb _,?_⟩,i.env,i.mem,i.keys,i.box,i.inj,i.apart,λx bc b c hb e=>.inr ⟨x,c,lC x bc hb,e⟩,λx hx=>⟨rfl,fJ x hx⟩⟩
 obtain⟨bs,h1,h2⟩:=i.heap.tab
 refine⟨bs,h1,λg t m=>⟨h1.lt m,?_⟩⟩
 rintro⟨x,c,hx,e⟩
 obtain⟨bc,hbc⟩:=jA x hx
 rcases i.low x bc g c hbc e with h|h
 ·have:=(h2 g t m).1;omega
 ·exact(h2 g t m).2 h
def Gg(i:Inv R N M V I a w)(jA:∀x,x∈ks->∃bc,aH I.box x=some (some bc)){w1 w':Aa}(k:cE (Jf w ks V rd df) w1 w'):cE R w1 w':=by
 refine⟨k.os,k.tape,k.output,k.size,λb hb hm=>k.block b (aw hb i.heap.le) ?_,k.drawn⟩;rintro⟨x,c,hx,e⟩;obtain⟨bc,hbc⟩:=jA x hx;rcases i.low x bc b c hbc e with h|h
 ·omega
 exact hm h
def Fk(i:Inv R N M V I a w){M':Mem}(g:Grow w.heap.size M M'):Grow R.B M M':=
 ⟨g.le,λb o u e=>(g.new b o u e).imp id (λh=>Xb i.heap.le h)⟩
def ck(i:Inv R N M V I a w)(jA:∀x,x∈ks->∃bc,aH I.box x=some (some bc))(J:∀x,x∈R.ref->x∈ks)
  {N' N2:Nat} {M':Mem} {V':Nm} {I':St} {a' a2:Act} {w':Aa} {aM8:List (Nat×AV)} {rd2:Da Nat} {df2:List Deferred}
  (i':Inv (Jf w ks V rd df) N' M' V' I' a' w') (kb:cE R w w')
  (hd:a2.defers=df2) (ht:a2.tmps.size=N2) (he:∀t,(fL aM8 t).bI M' V' (a2.tmps.getD t undef)):
  Inv {R with rd:=rd2,df:=df2} N2 M' V' ⟨aM8,I'.box⟩ a2 w':=by
 have h:=i.heap.keep kb
 refine⟨hd,ht,⟨h.le,h.tab⟩,he,i'.mem,i'.keys,i'.box,i'.inj,i'.apart,λx bc b c hb e=>?_,λx hx=>?_⟩
 ·rcases i'.low x bc b c hb e with h|⟨y,c',hy,ey⟩
  ·exact .inl (Xb i.heap.le h)
  obtain⟨by',hby⟩:=jA y hy;exact i.low y by' b c' hby ey
 ·obtain⟨e1,p,e2⟩:=i'.ref x (J x hx);exact⟨e1.trans (i.ref x hx).1,p,e2⟩
structure aQD(B:Nat->Prop)(w w':Aa):Prop where
 size:w.heap.size<=w'.heap.size
 same:∀(k:Nat) (o:Obj),¬B k->w.heap[k]? =some o->w'.heap[k]? =some o
def Inv.side{B:Nat->Prop}{w':Aa}(i:Inv R N M V I a w)(h:aQD B w w')(hb:∀x bc b c,aH I.box x=some (some bc)->V x=some (b,c)->¬B b)
  (hM:∀b o u,M b o=some u->¬B b) (hT:∀bs,CU bs w->(∀g t,(g,t)∈tE bs->g<R.B/\¬R.xC g)->∀g t,(g,t)∈tE bs->¬B g):Inv R N M V I a w':=by
 refine⟨i.defers,i.tmps,⟨Xb i.heap.le h.size,?_⟩,i.env,λb o u e=>?_,i.keys,λx bc e=>?_,i.inj,i.apart,i.low,i.ref⟩
 ·obtain⟨bs,h1,h2⟩:=i.heap.tab;refine⟨bs,λg t m=>?_,h2⟩;obtain⟨e,fr,c⟩:=h1 g t m;exact⟨e,fr,h.same g _ (hT bs h1 h2 g t m) c⟩
 ·have hc:=i.mem b o u e;have:w'.heap[b]? =w.heap[b]? :=by
   cases ho:w.heap[b]? with
   |none=>simp[World.cell?,ho]at hc
   |some x=>exact h.same b x (hM b o u e) ho
  simpa[World.cell?,this]using hc
 ·have hh:∀b c,V x=some (b,c)->∀o,w.heap[b]? =some o->w'.heap[b]? =some o:=λb c eb o ho=>h.same b o (hb x bc b c e eb) ho
  have hr:=i.box x bc e
  cases bc with
  |cells cs=>obtain⟨b,c,vs,T,ex,h1,h2,h3⟩:=hr;exact⟨b,c,vs,T,ex,h1,hh b c h1 _ h2,h3⟩
  |row e' n s f=>obtain⟨b,c,cur,h1,h2,h3⟩:=hr;exact⟨b,c,cur,h1,hh b c h1 _ h2,h3⟩
  |b8 e' n s f=>intro b c h1;obtain⟨cur,h2,h3⟩:=hr b c h1;exact⟨cur,hh b c h1 _ h2,h3⟩
  |map vk l=>obtain⟨b,c,h1,h2⟩:=hr;exact⟨b,c,h1,hh b c h1 _ h2⟩
  |smap vk l=>obtain⟨b,c,h1,h2⟩:=hr;exact⟨b,c,h1,hh b c h1 _ h2⟩
  |dm l n=>obtain⟨b,c,vs,h1,h2,h3⟩:=hr;exact⟨b,c,vs,h1,hh b c h1 _ h2,h3⟩
  |fresh T vs=>obtain⟨b,c,h1,h2⟩:=hr;exact⟨b,c,h1,hh b c h1 _ h2⟩
  |iter m n seen=>obtain⟨b,c,bm,cm,h1,h2,h3⟩:=hr;exact⟨b,c,bm,cm,h1,h2,hh b c h1 _ h3⟩
def UR:Obj->Bool
 |.cells .. =>true
 |.map .. =>true
 |.mapIter .. =>true
 |_=>false
def cN.UR{M:Mem}{V:Nm}{w:Aa}{x b:Nat}{c:Nat×Nat}{bc:jK}(h:cN M V w x bc)(e:V x=some (b,c)):∃o,w.heap[b]? =some o/\Go.Ax.UR o=true:=by
 cases bc with
 |cells cs=>obtain⟨b',c',vs,T,ex,h1,h2,_⟩:=h;rw[h1]at e;cases e;exact⟨_,h2,rfl⟩
 |row e' n s f=>obtain⟨b',c',cur,h1,h2,_⟩:=h;rw[h1]at e;cases e;exact⟨_,h2,rfl⟩
 |b8 e' n s f=>obtain⟨cur,h2,_⟩:=h b c e;exact⟨_,h2,rfl⟩
 |map vk l=>obtain⟨b',c',h1,h2⟩:=h;rw[h1]at e;cases e;exact⟨_,h2,rfl⟩
 |smap vk l=>obtain⟨b',c',h1,h2⟩:=h;rw[h1]at e;cases e;exact⟨_,h2,rfl⟩
 |dm l n=>obtain⟨b',c',vs,h1,h2,_⟩:=h;rw[h1]at e;cases e;exact⟨_,h2,rfl⟩
 |fresh T vs=>obtain⟨b',c',h1,h2⟩:=h;rw[h1]at e;cases e;exact⟨_,h2,rfl⟩
 |iter m n seen=>obtain⟨b',c',bm,cm,h1,_,h3⟩:=h;rw[h1]at e;cases e;exact⟨_,h3,rfl⟩
def Inv.off{w':Aa}(i:Inv R N M V I a w)(hs:w.heap.size<=w'.heap.size)(h:∀(k:Nat) (o:Obj),UR o=true->w.heap[k]? =some o->w'.heap[k]? =some o):Inv R N M V I a w':=by
 refine i.side (B:=λk=>∀o:Obj,w.heap[k]? =some o->UR o=false) ⟨hs,λk o hk ho=>?_⟩ ?_ ?_ ?_
 ·cases hb:UR o with
  |true=>exact h k o hb ho
  |false=>exact absurd (λo' sO=>by rw[ho]at sO;cases sO;exact hb) hk
 ·intro x bc b c e eb hk;obtain⟨o,ho,hy⟩:=(i.box x bc e).UR eb;rw[hk o ho]at hy;cases hy
 ·intro b o u e hk;have hc:=i.mem b o u e
  cases ho:w.heap[b]? with
  |none=>simp[World.cell?,ho]at hc
  |some x=>
   have:=hk x ho;simp only[World.cell?,ho]at hc
   cases x <;> simp_all [UR]
 intro bs h1 _ g t m hk;obtain⟨e,fr,c⟩:=h1 g t m;have:=hk _ c
 cases this
end
def ox{R:Cx}{N:Nat}{I:St}{e n s:Nat}{f:Nat->Nat->DV}{z:Bool}{cs:List SV}(y0 j x:Nat)(hy0:aH I.box y0=some (some (.cells cs)))(hj:cs[j]? =some (.mo z x))(hz:z=false)(hb:aH I.box x=some (some (.b8 e n s f))):
  aM R N I ⟨I.env,(x,some (.row e n s f))::I.box⟩:=by
 intro M V a w i
 obtain⟨_,_,vs,_,_,_,_,hr⟩:=i.box y0 _ hy0
 obtain⟨v,_,r⟩:=hr.get hj
 obtain⟨b,c,hx,hv,hc⟩:=r.2 hz
 obtain⟨cur,h1,h2,h3,h4,h5,h6⟩:=i.box x _ hb b c hx
 have live:∀y bc,aH ((x,some (.row e n s f))::I.box) y=some (some bc)->∃bc,aH I.box y=some (some bc):=zbx
 refine⟨V,i.defers,i.tmps,i.heap,?_,i.mem,?_,?_,?_,?_,?_,i.ref⟩
 ·exact i.env
 ·exact xj
 ·exact js
 ·exact zaq
 ·exact zcg
 ·exact zco
section
variable{P:Ba}{T:List (Nat×bV)}
end
structure Hid where
 S:Nat->Prop
 F:Mem->Aa->Prop
 lt:∀M w,F M w->∀k,S k->k<w.heap.size
 loc:∀M M' w w',F M w->Mem.le M M'->(∀k,S k->w'.heap[k]? =w.heap[k]?)->F M' w'
structure mH(R:Cx)(M:Mem)(V:Nm)(I:St)(w:Aa)(H:Hid):Prop where
 holds:H.F M w
 low:∀k,H.S k->R.B<=k
 apart:∀k,H.S k->∀o,M k o=none
 names:∀x bc b c,aH I.box x=some (some bc)->V x=some (b,c)->¬H.S b
def yB(R:Cx)(N:Nat)(M:Mem)(w:Aa)(K:St->Hid->Prop)(a':Act)(w':Aa):Prop:=
 ∃I' M' V' H',K I' H'/\Inv R N M' V' I' a' w'/\mH R M' V' I' w' H'/\Grow R.B M M'/\cE R w w'
def bS(P:Ba)(R:Cx)(N:Nat)(c:Code)(I:St)(H:Hid)(K:Exit->St->Hid->Prop):Prop:=
 ∀M V a w,Inv R N M V I a w->mH R M V I w H->c.wpIn (FW R.rd) 0 P (λe a' w'=>yB R N M w (K e) a' w') a w
def yB.trans{R:Cx}{N:Nat}{M M1:Mem}{w w1:Aa}{K:St->Hid->Prop}{a':Act}{w':Aa}(g:Grow R.B M M1)(k:cE R w w1)(h:yB R N M1 w1 K a' w'):yB R N M w K a' w':=
 let⟨s,M',V',H',h1,h2,h3,h4,h5⟩:=h
 ⟨s,M',V',H',h1,h2,h3,g.trans h4,k.trans h5⟩
def rO(next:St->Hid->Prop)(K:Exit->St->Hid->Prop):Exit->St->Hid->Prop
 |.normal,s,H=>next s H
 |e,s,H=>K e s H
def AN(id:Nat)(K:Exit->St->Hid->Prop):Exit->St->Hid->Prop
 |.exit id',s,H=>bif Nat.beq id' id then K .normal s H else K (.exit id') s H
 |e,s,H=>K e s H
section
variable{P:Ba}{R:Cx}{N:Nat}{I:St}{H:Hid}{K:Exit->St->Hid->Prop}
def bS.mono{c:Code}{K':Exit->St->Hid->Prop}(h:bS P R N c I H K)(k:∀e s H,K e s H->K' e s H):bS P R N c I H K':=λM V a w i hi=>
 Dg (h M V a w i hi) λ_ _ _ ⟨s,M',V',H',h1,h2⟩=>⟨s,M',V',H',k _ _ _ h1,h2⟩
def bS.seq{x y:Code}(h:bS P R N x I H (rO (λs H=>bS P R N y s H K) K)):bS P R N (.seq x y) I H K:=by
 intro M V a w i hi;refine wpIn_seq (Dg (h M V a w i hi) ?_);rintro e a' w' ⟨s,M',V',H',k,i',bC,hM,hk⟩
 cases e with
 |normal=>exact Dg (k M' V' a' w' i' bC) λ_ _ _ h=>h.trans hM hk
 |exit id=>exact⟨s,M',V',H',k,i',bC,hM,hk⟩
 |goto l=>exact⟨s,M',V',H',k,i',bC,hM,hk⟩
 |ret=>exact⟨s,M',V',H',k,i',bC,hM,hk⟩
 |panic ch=>exact⟨s,M',V',H',k,i',bC,hM,hk⟩
 |outgrown=>exact⟨s,M',V',H',k,i',bC,hM,hk⟩
def pb:=@bS.seq
def bS.block{id:Nat}{c:Code}(h:bS P R N c I H (AN id K)):bS P R N (.block id c) I H K:=by
 intro M V a w i hi;refine wpIn_block (Dg (h M V a w i hi) ?_);rintro e a' w' ⟨s,M',V',H',k,r⟩
 cases e with
 |exit id'=>
  by_cases hid:id'=id
  ·subst hid;simp only[AN,Ar,cond_true]at k;simp only[Exit.inBlock,Xi];exact⟨s,M',V',H',k,r⟩
  simp only[AN,UU hid,Ua]at k;simp only[Exit.inBlock,hid,rh];exact⟨s,M',V',H',k,r⟩
 |_=>exact⟨s,M',V',H',k,r⟩
def od:=@bS.block
def bS.skip(h:K .normal I H):bS P R N .skip I H K:=λM V _ _ i hi=>wpIn_skip ⟨I,M,V,H,h,i,hi,fb _ _,lc _ _⟩
def gd:=@bS.skip
def bS.ret(h:K .ret I H):bS P R N .ret I H K:=λM V _ _ i hi=>wpIn_ret ⟨I,M,V,H,h,i,hi,fb _ _,lc _ _⟩
def Yi:=@bS.ret
def bS.exit{id:Nat}(h:K (.exit id) I H):bS P R N (.exit id) I H K:=λM V _ _ i hi=>wpIn_exit ⟨I,M,V,H,h,i,hi,fb _ _,lc _ _⟩
def Oe:=@bS.exit
def bS.cond{c:Ca}{x y:Code}(h:AI I c (bS P R N x I H K) (bS P R N y I H K)):bS P R N (.cond c x y) I H K:=by
 unfold AI at h;intro M V a w i hi;split at h
 ·rename_i b hv;have hb:a.eval c=.bool b:=by have:=Yb i c;rw[hv]at this;exact this
  cases b with
  |true=>exact Ny hb (h M V a w i hi)
  |false=>exact Gy hb (h M V a w i hi)
 ·rename_i b hv;have hb:a.eval c=.bool b:=by have:=Yb i c;rw[hv]at this;exact this
  exact Fy hb (λhb=>h.1 hb M V a w i hi) (λhb=>h.2 hb M V a w i hi)
 cases h
def Nc:=@bS.cond
def HSub(R:Cx)(N:Nat)(I:St)(H:Hid)(I':St)(H':Hid):Prop:=
 ∀M V a w,Inv R N M V I a w->mH R M V I w H->∃M' V',Inv R N M' V' I' a w/\mH R M' V' I' w H'/\Grow R.B M M'
def bS.sub{c:Code}{I':St}{H':Hid}(h:HSub R N I H I' H')(k:bS P R N c I' H' K):bS P R N c I H K:=by intro M V a w i hi;obtain⟨M',V',i',bC,g⟩:=h M V a w i hi;exact Dg (k M' V' a w i' bC) λ_ _ _ h=>h.trans g (lc _ _)
def Pb:=@bS.sub
def bS.loop{S:Type}{c:Code}(UZ:S->St)(H0:S->Hid)(oa:S->Prop)(μ:S->Nat)(s0:S)(hJ:oa s0)(hs:HSub R N I H (UZ s0) (H0 s0))
  (body:∀s,oa s->bS P R N c (UZ s) (H0 s) (rO (λI' H'=>∃s',oa s'/\μ s'<μ s/\HSub R N I' H' (UZ s') (H0 s')) K)):bS P R N (.loop c) I H K:=by
 intro M V a w i hi
 obtain⟨M1,na,i1,OO,g1⟩:=hs M V a w i hi
 intro b k cs hro hb hr
 have key:∀n s,μ s=n->oa s->∀M V a w,Inv R N M V (UZ s) a w->mH R M V (UZ s) w (H0 s)->
   ∃e a' w',yB R N M w (K e) a' w'/\ArrivesIn (Machine.fenced P (FW R.rd)) P (lone (b.atR a (.code c::.inLoop c::k)) cs w) b k cs e a' w':=by
  intro n
  induction n using Nat.strongRecOn with
  |_ n ih=>
   intro s hn hJ M V a w i hi;obtain⟨e,a₁,w₁,⟨I',M1,na,H1,hq,i1,OO,hM,hk⟩,nI⟩:=body s hJ M V a w i hi b (.inLoop c::k) cs hro hb hr
   cases e with
   |normal=>obtain⟨s',hJ',fZ,fQ⟩:=hq;obtain⟨M2,la,i2,hi2,g2⟩:=fQ M1 na a₁ w₁ i1 OO;obtain⟨e₂,a₂,w₂,hp,BZ⟩:=ih (μ s') (hn▸fZ) s' rfl hJ' M2 la a₁ w₁ i2 hi2;exact⟨e₂,a₂,w₂,hp.trans (hM.trans g2) hk,.of_steps (StepsIn.trans nI (.one (Tl hb hr rfl) stepR_inLoop)) BZ⟩
   |exit id=>exact⟨_,a₁,w₁,⟨I',M1,na,H1,hq,i1,OO,hM,hk⟩,.pass (x:=.inLoop c) rfl (λ_ _=>.inl sM) nI⟩
   |goto l=>exact⟨_,a₁,w₁,⟨I',M1,na,H1,hq,i1,OO,hM,hk⟩,.pass (x:=.inLoop c) rfl (λ_ _=>.inl sM) nI⟩
   |ret=>exact⟨_,a₁,w₁,⟨I',M1,na,H1,hq,i1,OO,hM,hk⟩,.pass (x:=.inLoop c) rfl (λ_ _=>.inl sM) nI⟩
   |panic ch=>exact⟨_,a₁,w₁,⟨I',M1,na,H1,hq,i1,OO,hM,hk⟩,.pass (x:=.inLoop c) rfl (λ_ _=>.inl sM) nI⟩
   |outgrown=>exact⟨_,a₁,w₁,⟨I',M1,na,H1,hq,i1,OO,hM,hk⟩,.pass (x:=.inLoop c) rfl (λ_ _=>.inl sM) nI⟩
 obtain⟨e,a',w',hq,nI⟩:=key _ s0 rfl hJ M1 na a w i1 OO
 exact⟨e,a',w',hq.trans g1 (lc _ _),.of_steps (.one (Tl hb hr rfl) stepR_loop) nI⟩
def Hg:=@bS.loop
def mH.after{M:Mem}{V:Nm}{w:Aa}{ks:List Nat}{rd:Da Nat}{df:List Deferred}{N':Nat}{M':Mem}{V':Nm}{I':St}{a':Act}{w':Aa}
  (hi:mH R M V I w H) (jA:∀x,x∈ks->∃bc,aH I.box x=some (some bc)) (i':Inv (Jf w ks V rd df) N' M' V' I' a' w') (g:Grow w.heap.size M M') (kp:cE (Jf w ks V rd df) w w'):mH R M' V' I' w' H:=by
 have fZ:=H.lt M w hi.holds
 have nw:∀k,H.S k->¬(Jf w ks V rd df).xC k:=by rintro k hk ⟨x,c,hx,e⟩;obtain⟨bc,hbc⟩:=jA x hx;exact hi.names x bc k c hbc e hk
 refine⟨H.loc M M' w w' hi.holds g.le λk hk=>kp.block k (fZ k hk) (nw k hk),hi.low,λk hk o=>?_,λx bc b c hb e hs=>?_⟩
 ·cases hm:M' k o with
  |none=>rfl
  |some u=>
   rcases g.new k o u hm with h|h
   ·rw[hi.apart k hk o]at h;cases h
   have:=fZ k hk;omega
 ·rcases i'.low x bc b c hb e with h|h
  ·have:=fZ b hs;have h:w.heap.size<=b:=h;omega
  exact nw b hs h
def bS.part{c:Code}{ks:List Nat}(jA:∀x,x∈ks->∃bc,aH I.box x=some (some bc)/\bc.real=true)(lC:∀x bc,aH I.box x=some (some bc)->x∈ks)(J:∀x,x∈R.ref->x∈ks)
  (h:∀NY:Cx,NY.ref=ks->AW P NY N c I (λe I'=>K e I' H)):bS P R N c I H K:=by
 intro M V a w i hi
 have l7:∀x,x∈ks->∃bc,aH I.box x=some (some bc):=λx hx=>let⟨bc,h1,_⟩:=jA x hx;⟨bc,h1⟩
 have fJ:∀x,x∈ks->∃p,V x=some p:=λx hx=>by exact xw
 have ii:=i.Mk (rd:=R.rd) l7 lC fJ i.defers
 refine Dg (h (Jf w ks V R.rd R.df) rfl M V a w ii) ?_
 rintro e a' w' ⟨I',M',V',k,i',g,kp⟩
 exact⟨I',M',V',H,k,ck i l7 J i' (Gg i l7 kp) i'.defers i'.tmps i'.env,hi.after l7 i' g kp,Fk i g,Gg i l7 kp⟩
end
def fC(R:Cx)(N:Nat)(I I':St):Prop:=∀M V a w,Inv R N M V I a w->∃V',Inv R N M V' I' a w/\∀x bx b c,aH I'.box x=some (some bx)->V' x=some (b,c)->∃y b0,aH I.box y=some (some b0)/\V y=some (b,c)
def fC.of{R:Cx}{N:Nat}{I I':St}(ren:List (Nat×Nat))(hr:(R.ref.all λx=>(cR I'.box).contains x&&Nat.beq (look ren x) x)=true)(hi:HO ren (cR I'.box)=true)
  (hb:D3 ren I.box (cR I'.box) I'.box) (he:NS ren I.env (cR I'.box) I'.env):fC R N I I':=by
 classical
 intro M V a w i
 let ks:=cR I'.box
 let V':Nm:=λx=>if x∈ks then V (look ren x)else none
 have jA:∀x,x∈ks->V' x=V (look ren x):=λx hx=>by simp[V',hx]
 have hβ:∀x p,V' x=some p->x∈ks/\V (look ren x)=some p:=λx p h=>by exact fv
 have EP:∀x,x∈ks->∀p,V (look ren x)=some p->V' x=some p:=λx hx p e=>by rw[jA x hx];exact e
 have QY:∀x y,x∈ks->y∈ks->look ren x=look ren y->x=y:=vt
 have live:∀x b k c,aH I'.box x=some (some b)->V' x=some (k,c)->x∈ks/\∃b0,aH I.box (look ren x)=some (some b0)/\V (look ren x)=some (k,c):=kg
 refine⟨V',⟨i.defers,i.tmps,i.heap,λt=>NS.get EP he t _ (i.env t),i.mem,?_,?_,?_,?_,?_,?_⟩,λx b k c h e=>let⟨_,b0,h1,h2⟩:=live x b k c h e;⟨_,b0,h1,h2⟩⟩
 ·exact Iv
 ·exact zu
 ·exact vu
 ·exact zbL
 ·exact xf
 ·exact ko
def ab:=@fC.of
def HSub.of{R:Cx}{N:Nat}{I I':St}{H:Hid}(h:fC R N I I'):HSub R N I H I' H:=λM V a w i hi=>
 let⟨V',i',hn⟩:=h M V a w i
 ⟨M,V',i',⟨hi.holds,hi.low,hi.apart,λx bc b c h1 h2 hs=>let⟨y,b0,g1,g2⟩:=hn x bc b c h1 h2;hi.names y b0 b c g1 g2 hs⟩,fb _ _⟩
def Za:=@HSub.of
end Go.Ax
namespace Go.Ax
open Go.RowKit
open Go.ChangeMaps (setBlock)
structure mX where
 g:Nat
 n:Nat
 cap:Nat
 lo:Nat
 f:Nat->Nat->DV
structure bO where
 key:ta
 born:Nat
 val:wa
 row:Da mX
def bO.nK(x:bO):MapEntry:={key:=.string x.key,val:=x.val,born:=x.born}
def mX.ok(e s:Nat)(M:Mem)(w:Aa)(r:mX)(v:wa):Prop:=
 ∃o cur,v=.slice (some ⟨r.g,o,none⟩) (r.n-r.lo) (r.cap-r.lo)/\(r.lo<r.cap->o=r.lo*s)/\r.lo<=r.n/\w.heap[r.g]? =some (.cells cur e (0,0))/\cur.size=r.cap*s/\r.n<=r.cap/\r.cap<=maxLen/\0<r.cap/\
  ∀i j,i<r.n->j<s->∃u,cur[i*s+j]? =some u/\(r.f i j).bI M u
def CX(l:List bO):Prop:=∀(i j:Nat) (x y:bO) (r q:mX),l[i]? =some x->l[j]? =some y->x.row=some r->y.row=some q->r.g=q.g->i=j
structure HM where
 bm:Nat
 l:List bO
 clock:Nat
 it:Da (Nat×List Nat)
def HM.S(h:HM)(k:Nat):Prop:=k=h.bm\/(∃x∈h.l,∃r,x.row=some r/\r.g=k)\/∃sn,h.it=some (k,sn)
structure HM.F(e s:Nat)(h:HM)(M:Mem)(w:Aa):Prop where
 map:w.heap[h.bm]? =some (.map (h.l.map bO.nK).toArray h.clock)
 rows:∀x∈h.l,∀r,x.row=some r->r.ok e s M w x.val
 iter:∀b sn,h.it=some (b,sn)->w.heap[b]? =some (.mapIter (some h.bm) h.clock sn.reverse.toArray h.clock)
 II:CX h.l
def TU{w:Aa}{k:Nat}{o:Obj}(h:w.heap[k]? =some o):k<w.heap.size:=(Lh.1 h).1
def hid(e s:Nat)(h:HM):Hid where
 S:=h.S
 F:=h.F e s
 lt:=λM w hF k hk=>by
  rcases hk with rfl|⟨x,hx,r,hr,rfl⟩|⟨sn,hs⟩
  ·exact TU hF.map
  ·obtain⟨o,cur,_,_,_,hg,_⟩:=hF.rows x hx r hr;exact TU hg
  exact TU (hF.iter k sn hs)
 loc:=λM M' w w' hF hM hk=>by refine⟨(hk _ (.inl rfl)).trans hF.map,λx hx r hr=>?_,λb sn hs=>(hk b (.inr (.inr ⟨sn,hs⟩))).trans (hF.iter b sn hs),hF.II⟩;obtain⟨o,cur,h1,h2,h3,h4,h5,h6,h7,h9,h8⟩:=hF.rows x hx r hr;exact⟨o,cur,h1,h2,h3,(hk _ (.inr (.inl ⟨x,hx,r,hr,rfl⟩))).trans h4,h5,h6,h7,h9,λi j hi hj=>let⟨u,q1,q2⟩:=h8 i j hi hj;⟨u,q1,lg hM q2⟩⟩
section
variable{P:Ba}{R:Cx}{N:Nat}{I:St}{M:Mem}{V:Nm}{a:Act}{w:Aa}
def Inv.named(i:Inv R N M V I a w){d g:Nat}{c:Nat×Nat}{bc:jK}(hd:aH I.box d=none)(hg:∀x bx b c',aH I.box x=some (some bx)->V x=some (b,c')->b≠g)(ha:∀o,M g o=none)(hB:R.B<=g)
  (hb:∀V':Nm,V' d=some (g,c)->Nm.le V V'->cN M V' w d bc):
  ∃V',V' d=some (g,c)/\Nm.le V V'/\(∀x,x≠d->V' x=V x)/\Inv R N M V' ⟨I.env,(d,some bc)::I.box⟩ a w:=by
 have HX:V d=none:=xk
 let V':Nm:=λx=>if x=d then some (g,c)else V x
 have iX:V' d=some (g,c):=by simp[V']
 have hβ:Nm.le V V':=λx p e=>by exact zdd
 have oE:∀x,x≠d->V' x=V x:=λx hx=>by simp[V',hx]
 have cQ:∀x bx,aH ((d,some bc)::I.box) x=some (some bx)->(x=d/\bx=bc)\/(x≠d/\aH I.box x=some (some bx)):=λx bx e=>by exact jm
 refine⟨V',iX,hβ,oE,⟨i.defers,i.tmps,i.heap,λt=>Vf (Xe M) hβ (i.env t),i.mem,?_,?_,?_,?_,?_,?_⟩⟩
 ·exact kv
 ·intro x bx e;rcases cQ x bx e with⟨rfl,rfl⟩|⟨hx,e⟩
  ·exact hb V' iX hβ
  exact xh (Xe M) hβ (oE x hx) (λb c' e'=>rfl) (i.box x bx e)
 ·intro x y bx zB b c1 c2 ex ey hx hy;rcases cQ x bx ex with⟨rfl,_⟩|⟨DQ,ex2⟩ <;> rcases cQ y zB ey with⟨rfl,_⟩|⟨EO,ey2⟩
  ·rfl
  ·rw[iX]at hx;cases hx;rw[oE y EO]at hy;exact absurd rfl (hg y zB _ c2 ey2 hy)
  ·rw[iX]at hy;cases hy;rw[oE x DQ]at hx;exact absurd rfl (hg x bx _ c1 ex2 hx)
  rw[oE x DQ]at hx;rw[oE y EO]at hy;exact i.inj x y bx zB b c1 c2 ex2 ey2 hx hy
 ·intro x bx b c1 ex hx o;rcases cQ x bx ex with⟨rfl,_⟩|⟨DQ,ex⟩
  ·rw[iX]at hx;cases hx;exact ha o
  rw[oE x DQ]at hx;exact i.apart x bx b c1 ex hx o
 ·intro x bx b c1 ex hx;rcases cQ x bx ex with⟨rfl,_⟩|⟨DQ,ex⟩
  ·rw[iX]at hx;cases hx;exact .inl hB
  rw[oE x DQ]at hx;exact i.low x bx b c1 ex hx
 ·intro x hx;obtain⟨h1,p,h2⟩:=i.ref x hx;exact⟨(hβ x p h2).trans (h2.symm.trans h1),p,hβ x p h2⟩
def n9(P:Ba)(R:Cx)(N:Nat)(o:Oper)(I:St)(H:Hid)(K:St->Hid->Prop):Prop:=
 (∀c,o.op≠.defer c)/\∀M V a w,Inv R N M V I a w->mH R M V I w H->∀Q,o.wp P a w (yB R N M w K) Q
def dD:List bO->ta->Nat->Da (Nat×bO)
 |[],_,_=>none
 |x::r,k,i=>bif k==x.key then some (i,x)else dD r k (i+1)
def LJ(k:ta):∀(l:List bO) (i:Nat),Instr.findNow .string (.string k) (l.map bO.nK) i=some ((dD l k i).map λp=>(p.1,p.2.val))
 |[],_=>rfl
 |x::r,i=>by
  simp only[Le,Instr.findNow,Instr.sameNow,dD,bO.nK]
  cases h:k==x.key with
  |true=>rfl
  |false=>simp only[Ua];exact LJ k r (i+1)
def yH{kt:Ea}(hk:P.underlying kt=some .string)(k:ta)(l:List bO):
  (Instr.findKey kt (.string k) (l.map bO.nK)).run P w=.ok ((dD l k 0).map λp=>(p.1,p.2.val)) w:=by
 simp[Instr.findKey,Bb hk,LJ]
def vD{k:ta}:∀{l:List bO} {i:Nat} {p:Nat×bO},dD l k i=some p->i<=p.1/\l[p.1-i]? =some p.2/\p.2.key=k
 |[],_,_,h=>by cases h
 |x::r,i,p,h=>by
  simp only[dD]at h
  cases hk:k==x.key with
  |true=>
   rw[hk]at h
   cases h
   exact⟨mb _,sM,by simpa using(Tf.1 hk).symm⟩
  |false=>rw[hk]at h;obtain⟨h1,h2,h3⟩:=vD (l:=r) (i:=i+1) (p:=p) h;refine⟨O,?_,h3⟩;rw[show p.1-i=(p.1-(i+1))+1 by omega];simpa using h2
def cW(l:List bO)(i:Nat):List bO:=l.modify i λx=>{x with row:=none}
def KL(l:List bO)(i:Nat):(cW l i).map bO.nK=l.map bO.nK:=by
 unfold cW;apply Si;intro j;rw[ag,ag,se];split
 ·cases l[j]? <;> rfl
 simp
def p6{l:List bO}{i j:Nat}{x:bO}{r:mX}(h:(cW l i)[j]? =some x)(hr:x.row=some r):j≠i/\l[j]? =some x:=by
 unfold cW at h;rw[se]at h
 cases hl:l[j]? with
 |none=>rw[hl]at h;cases h
 |some y=>
  rw[hl]at h;have h:(if i=j then {key:=y.key,born:=y.born,val:=y.val,row:=none}else y)=x:=by simpa using h
  by_cases e:i=j
  ·rw[La e]at h;subst h;cases hr
  rw[Ka e]at h;subst h;exact⟨λe'=>e e'.symm,rfl⟩
def CX.take{l:List bO}(h:CX l)(i:Nat):CX (cW l i):=λa b x y r q hx hy hr hq e=>
 h a b x y r q (p6 hx hr).2 (p6 hy hq).2 hr hq e
def zR(d s:Nat)(r:mX):AV:=match r.lo with
 |0=>.s (.own d)
 |_+1=>.s (.j0 d s r.lo (r.n-r.lo))
def zR.rep{d s e:Nat}{r:mX}{v:wa}(h:r.ok e s M w v)(hβ:V d=some (r.g,(r.cap,r.n))):(zR d s r).bI M V v:=by
 obtain⟨o,cur,h1,h2,h3,h4,h5,h6,h7,h9,h8⟩:=h;unfold zR;split
 ·rename_i h0;rw[h0]at h1 h2;refine⟨r.g,_,hβ,?_,h6⟩;rw[h1,h2 h9];simp
 rename_i m h0;exact⟨r.g,_,o,hβ,h1,h2,by simp only;omega,h6⟩
def mX.box{d s e:Nat}{r:mX}{v:wa}(h:r.ok e s M w v)(hβ:V d=some (r.g,(r.cap,r.n))):cN M V w d (.row e r.n s r.f):=by obtain⟨o,cur,h1,h2,h3,h4,h5,h6,h7,h9,h8⟩:=h;exact⟨r.g,_,cur,hβ,h4,rfl,h5,h6,h7,h8⟩
def Vl{e s d t kt et:Nat}{x y:Ca}{k:ta}{o:Oper}{h:HM}{K:St->Hid->Prop}(ho:o.op=.lookup t x y false)(hd:o.dst=some d)(hN:d<N)(hn:aH I.box d=none)
  (hx:ev I x=.s (.d (.val (.map (some h.bm))))) (hy:ev I y=.s (.d (.val (.string k)))) (ht:P.underlying t=some (.map kt et)) (hk:P.underlying kt=some .string) (hz:∀w,(zeroValue et).run P w=.ok (.slice none 0 0) w)
  (hK:match dD h.l k 0 with
   |none=>K ⟨(d,.s (.d (.val (.slice none 0 0))))::I.env,I.box⟩ (hid e s h)
   |some (i,q)=>match q.row with
    |some r=>K ⟨(d,zR d s r)::I.env,(d,some (.row e r.n s r.f))::I.box⟩ (hid e s {h with l:=cW h.l i})
    |none=>q.val=.slice none 0 0/\K ⟨(d,.s (.d (.val (.slice none 0 0))))::I.env,I.box⟩ (hid e s h)):n9 P R N o I (hid e s h) K:=by
 refine⟨λc hc=>Bh,λM V a w i hi Q=>?_⟩
 have ex:a.eval x=.map (some h.bm):=by have:=Yb i x;rw[hx]at this;exact this
 have ey:a.eval y=.string k:=by have:=Yb i y;rw[hy]at this;exact this
 have hF:h.F e s M w:=hi.holds
 have jL:∀b,(Instr.checkKey b 10000 kt (.string k)).run P w=.ok () w:=λb=>jC w hk b k 9999
 have oL:=yH (P:=P) (w:=w) hk k h.l
 have a7:(execOp a.eval o).run P w=.ok (.value (match dD h.l k 0 with|some p=>p.2.val|none=>.slice none 0 0)) w:=by
  simp only[execOp,ho,ex,ey]
  cases hq:dD h.l k 0 with
  |none=>rw[hq]at oL;simp[Instr.lookup,Bb ht,MapKept.run_getObj_map hF.map,jL,oL,hz]
  |some p=>rw[hq]at oL;simp[Instr.lookup,Bb ht,MapKept.run_getObj_map hF.map,jL,oL]
 unfold Oper.wp
 rw[a7,Wd,hd]
 cases hq:dD h.l k 0 with
 |none=>rw[hq]at hK;exact⟨_,M,V,_,hK,i.put hN rfl,⟨hi.holds,hi.low,hi.apart,hi.names⟩,fb _ _,lc _ _⟩
 |some p=>
  obtain⟨j,q⟩:=p;rw[hq]at hK;simp only at hK⊢;obtain⟨_,BX,_⟩:=vD hq;simp only[ak]at BX;have kK:=Dd BX
  cases hr:q.row with
  |none=>rw[hr]at hK;exact⟨_,M,V,_,hK.2,i.put hN hK.1,⟨hi.holds,hi.low,hi.apart,hi.names⟩,fb _ _,lc _ _⟩
  |some r=>
   rw[hr]at hK;simp only at hK;have gF:=hF.rows q kK r hr;have hS:h.S r.g:=.inr (.inl ⟨q,kK,r,hr,rfl⟩);obtain⟨V',h1,h2,h3,i2⟩:=i.named (c:=(r.cap,r.n)) (bc:=.row e r.n s r.f) hn (λx bx b c' e1 e2 e3=>hi.names x bx b c' e1 e2 (e3▸hS)) (hi.apart _ hS) (hi.low _ hS) (λV' e1 _=>mX.box gF e1);refine⟨_,M,V',_,hK,i2.put (I:=⟨I.env,(d,some (.row e r.n s r.f))::I.box⟩) hN (zR.rep gF h1),?_,fb _ _,lc _ _⟩;have fQ:∀k,HM.S {h with l:=cW h.l j} k->h.S k/\k≠r.g:=by
    rintro k (rfl|⟨x,hx,r',C1,rfl⟩|⟨sn,hs⟩)
    ·exact zbO
    ·obtain⟨j',qR⟩:=dd hx;obtain⟨q1,q2⟩:=p6 qR C1;exact⟨.inr (.inl ⟨x,Dd q2,r',C1,rfl⟩),λe1=>q1 (hF.II j' j x q r' r q2 BX C1 hr e1)⟩
    exact za0
   refine⟨⟨?_,λx hx r' C1=>?_,hF.iter,hF.II.take j⟩,λk hk=>hi.low k (fQ k hk).1,λk hk=>hi.apart k (fQ k hk).1,λx bx b c e1 e2 hs=>?_⟩
   ·exact zbX
   ·exact zbz
   exact qr
def Inv.dead(i:Inv R N M V I a w)(b:Nat):Inv R N M V ⟨I.env,(b,none)::I.box⟩ a w:=by
 have live:∀x bx,aH ((b,none)::I.box) x=some (some bx)->aH I.box x=some (some bx):=λx bx e=>by
  rw[aL]at e;split at e
  ·cases e
  exact e
 refine⟨i.defers,i.tmps,i.heap,i.env,i.mem,λx p e=>?_,λx bx e=>i.box x bx (live x bx e),λx y bx zB b c c' ex ey=>i.inj x y bx zB b c c' (live x bx ex) (live y zB ey),λx bx b c e=>i.apart x bx b c (live x bx e),λx bx b c e=>i.low x bx b c (live x bx e),i.ref⟩;by_cases hx:x=b
 ·exact⟨_,by rw[aL,La hx.symm]⟩
 obtain⟨y,hy⟩:=i.keys x p e;exact⟨y,by rw[aL,Ka (λh=>hx h.symm)];exact hy⟩
def Inv.A1(i:Inv R N M V I a w){H:Hid}(hi:mH R M V I w H){g:Nat}(hg:H.S g){w':Aa}(hs:w'.heap.size=w.heap.size)(ho:∀k,k≠g->w'.heap[k]? =w.heap[k]?):Inv R N M V I a w':=
 i.side (B:=(· =g)) ⟨O,λk o hk h=>(ho k hk).trans h⟩ (λx bx b c e1 e2 e3=>hi.names x bx b c e1 e2 (e3▸hg)) (λb o u e e3=>by subst e3;rw[hi.apart _ hg o]at e;cases e)
  (λbs h1 h2 k t m e=>by subst e;have:=(h2 _ t m).1;have:=hi.low _ hg;omega)
def cE.A1{H:Hid}(hi:mH R M V I w H){g:Nat}(hg:H.S g){w':Aa}(hs:w'.heap.size=w.heap.size)(ho:∀k,k≠g->w'.heap[k]? =w.heap[k]?)(h1:w'.os=w.os)(h2:w'.tape=w.tape)(h3:w'.output=w.output)(h4:Dr w w'):cE R w w':=
 ⟨h1,h2,h3,O,λk hk _=>ho k (λe=>by subst e;have:=hi.low _ hg;omega),h4⟩
def nk:=@cE.A1
def G8{l:List bO}{i:Nat}{q:bO}{k:ta}(v:wa)(r:Da mX)(h:l[i]? =some q)(hk:q.key=k):
  (l.map bO.nK).modify i (λe=>{e with key:=.string k,val:=v})=(l.modify i λx=>{x with val:=v,row:=r}).map bO.nK:=by
 apply Si
 intro j
 rw[se,ag,ag,se]
 by_cases e:i=j
 ·subst e;rw[h];simp[bO.nK,hk]
 ·cases l[j]? <;> simp[e]
def eR(h:HM)(k:ta)(v:wa)(r:Da mX):HM:=match dD h.l k 0 with
 |some (i,_)=>{h with l:=h.l.modify i λx=>{x with val:=v,row:=r}}
 |none=>{h with l:=h.l++ [⟨k,h.clock,v,r⟩],clock:=h.clock+1}
def A8{h:HM}{k:ta}{v:wa}{r:Da mX}{x:bO}(hx:x∈(eR h k v r).l):x∈h.l\/(x.val=v/\x.row=r):=by
 unfold eR at hx;split at hx
 ·rename_i i q hq;obtain⟨j,hj⟩:=dd hx;simp only at hj;rw[se]at hj
  cases hl:h.l[j]? with
  |none=>rw[hl]at hj;cases hj
  |some y=>
   rw[hl]at hj;have hj:(if i=j then {key:=y.key,born:=y.born,val:=v,row:=r}else y)=x:=by simpa using hj
   by_cases e:i=j
   ·rw[La e]at hj;subst hj;exact .inr ⟨rfl,rfl⟩
   rw[Ka e]at hj;subst hj;exact .inl (Dd hl)
 simp only[ic,wb,Sd,Kd]at hx;exact hx.imp id (λe=>by subst e;exact⟨rfl,rfl⟩)
def A9{h:HM}{k:ta}{v:wa}{r:Da mX}{j:Nat}{x:bO}(hx:(eR h k v r).l[j]? =some x):h.l[j]? =some x\/(x.row=r/\∀j' x',(eR h k v r).l[j']? =some x'->j'≠j->h.l[j']? =some x'):=by
 unfold eR at hx⊢;split at hx
 ·rename_i i q hq;simp only at hx⊢;rw[se]at hx
  cases hl:h.l[j]? with
  |none=>rw[hl]at hx;cases hx
  |some y=>
   rw[hl]at hx;have hx:(if i=j then {key:=y.key,born:=y.born,val:=v,row:=r}else y)=x:=by simpa using hx
   by_cases e:i=j
   ·rw[La e]at hx;subst hx;refine .inr ⟨rfl,λj' x' h' fJ=>?_⟩;rw[se]at h';have Z5:¬i=j':=λe'=>fJ (e'.symm.trans e)
    cases hl':h.l[j']? with
    |none=>rw[hl']at h';cases h'
    |some y'=>rw[hl']at h';simpa[Z5]using h'
   rw[Ka e]at hx;subst hx;exact .inl rfl
 simp only at hx⊢;by_cases hj:j<h.l.length
 ·rw[Jc hj]at hx;exact .inl hx
 rw[Gd O]at hx
 cases hjj:j-h.l.length with
 |succ m=>rw[hjj]at hx;simp at hx
 |zero=>
  rw[hjj]at hx;simp at hx;subst hx;refine .inr ⟨rfl,λj' x' h' fJ=>?_⟩;by_cases qR:j'<h.l.length
  ·rw[Jc qR]at h';exact h'
  rw[Gd O]at h'
  cases aPM:j'-h.l.length with
  |zero=>omega
  |succ m=>rw[aPM]at h';simp at h'
def Xh{e s t kt et b n lo n':Nat}{f:Nat->Nat->DV}{x y z:Ca}{k:ta}{o:Oper}{h:HM}{K:St->Hid->Prop}(J:R.ref=[])(ho:o.op=.mapUpdate t x y z)(hd:o.dst=none)
  (hx:ev I x=.s (.d (.val (.map (some h.bm))))) (hy:ev I y=.s (.d (.val (.string k)))) (hz:(ev I z=.s (.own b)/\lo=0/\n'=n)\/ev I z=.s (.j0 b s lo n')) (hb:aH I.box b=some (some (.row e n s f))) (hn0:0<n)
  (ht:P.underlying t=some (.map kt et)) (hk:P.underlying kt=some .string) (hit:dD h.l k 0=none->h.it=none)
  (hK:∀g cap v,K ⟨I.env,(b,none)::I.box⟩ (hid e s (eR h k v (some ⟨g,lo+n',cap,lo,f⟩)))):n9 P R N o I (hid e s h) K:=by
 refine⟨λc hc=>Bh,λM V a w i hi Q=>?_⟩
 have ex:a.eval x=.map (some h.bm):=by have:=Yb i x;rw[hx]at this;exact this
 have ey:a.eval y=.string k:=by have:=Yb i y;rw[hy]at this;exact this
 have hF:h.F e s M w:=hi.holds
 have hS0:h.S h.bm:=.inl rfl
 obtain⟨g,c,cur,hβ,hg,JA,mL,hn,I9,cY⟩:=i.box b _ hb
 obtain⟨ov,ez,hov,hle⟩:∃ov,a.eval z=.slice (some ⟨g,ov,none⟩) n' (c.1-lo)/\(lo<c.1->ov=lo*s)/\lo+n'<=n:=by
  have hr:=Yb i z;rcases hz with⟨hz,rfl,rfl⟩|hz
  ·rw[hz]at hr;obtain⟨b',c',e1,e2,_⟩:=hr;rw[hβ]at e1;cases e1;exact⟨0,by rw[e2,JA];simp,λ_=>by simp,O⟩
  rw[hz]at hr;obtain⟨b',c',o',e1,e2,e3,e4,_⟩:=hr;rw[hβ]at e1;cases e1;exact⟨o',e2,e3,O⟩
 have jL:∀b,(Instr.checkKey b 10000 kt (.string k)).run P w=.ok () w:=λb=>jC w hk b k 9999
 have oL:=yH (P:=P) (w:=w) hk k h.l
 have hnS:¬h.S g:=hi.names b _ g c hb hβ
 have hBg:R.B<=g:=by
  rcases i.low b _ g c hb hβ with h|⟨y,c',hy,_⟩
  ·exact h
  rw[J]at hy;cases hy
 generalize hv:a.eval z=v at*
 obtain⟨h',BW⟩:∃h',eR h k v (some ⟨g,lo+n',c.1,lo,f⟩)=h':=⟨_,rfl⟩
 have FX:h'.bm=h.bm:=by rw[<-BW];unfold eR;split <;> rfl
 have a7:(execOp a.eval o).run P w=.ok .skip (setBlock w h.bm (.map (h'.l.map bO.nK).toArray h'.clock)):=by
  cases hq:dD h.l k 0 with
  |none=>
   rw[hq]at oL;have e1:h'= {h with l:=h.l++ [⟨k,h.clock,v,some ⟨g,lo+n',c.1,lo,f⟩⟩],clock:=h.clock+1}:=by rw[<-BW];unfold eR;rw[hq]
   have e3:(h.l.map bO.nK).toArray.push {key:=.string k,val:=v,born:=h.clock}=(h'.l.map bO.nK).toArray:=by rw[e1];simp[bO.nK]
   have e4:h'.clock=h.clock+1:=by rw[e1]
   have hm:(Instr.mapUpdate t (.map (some h.bm)) (.string k) v).run P w=.ok () (setBlock w h.bm (.map (h'.l.map bO.nK).toArray h'.clock)):=zbE
   exact lq
  |some p=>
   obtain⟨j,q⟩:=p;rw[hq]at oL;obtain⟨_,BX,tR⟩:=vD hq;simp only[ak]at BX;have tR:q.key=k:=tR;have e1:h'= {h with l:=h.l.modify j λx=>{x with val:=v,row:=some ⟨g,lo+n',c.1,lo,f⟩}}:=by rw[<-BW];unfold eR;rw[hq]
   have e3:=G8 v (some ⟨g,lo+n',c.1,lo,f⟩) BX tR;have e4:h'.clock=h.clock:=by rw[e1]
   have HU:(Instr.keyThatStays (.string k) (.string k)).run P w=.ok (.string k) w:=by simp[Instr.keyThatStays,Instr.sameBits]
   have hm:(Instr.mapUpdate t (.map (some h.bm)) (.string k) v).run P w=.ok () (setBlock w h.bm (.map (h'.l.map bO.nK).toArray h'.clock)):=by
    have e5:h'.l.map bO.nK=(h.l.map bO.nK).modify j (λe=>{e with key:=.string k,val:=v}):=by rw[e1];exact e3.symm
    exact jw
   exact lq
 unfold Oper.wp
 rw[a7,yj,hd]
 have SI:=gC w h.bm (.map (h'.l.map bO.nK).toArray h'.clock)
 have sO:∀k',k'≠h.bm->(setBlock w h.bm (.map (h'.l.map bO.nK).toArray h'.clock)).heap[k']? =w.heap[k']? :=λk' y5=>fD _ _ _ y5
 have hat:=iS (ob':=.map (h'.l.map bO.nK).toArray h'.clock) hF.map
 generalize hw:setBlock w h.bm (.map (h'.l.map bO.nK).toArray h'.clock)=w' at*
 have i1:=i.A1 hi hS0 SI sO
 have kp:=nk hi hS0 SI sO mi mi mi Mt
 have hgb:g≠h.bm:=λe=>hnS (e▸hS0)
 have pE:(mX.mk g (lo+n') c.1 lo f).ok e s M w' v:=
  ⟨ov,cur,by rw[ez];simp,hov,Ey _ _,(sO g hgb).trans hg,mL,by simp only;omega,I9,by simp only;omega,λi j hi hj=>cY i j (by simp only at hi;omega) hj⟩
 refine⟨_,M,V,_,BW▸hK g c.1 v,i1.dead b,?_,fb _ _,kp⟩
 have fQ:∀k',h'.S k'->h.S k'\/k'=g:=by
  rintro k' (rfl|⟨x,hx,r,hr,rfl⟩|⟨sn,hs⟩)
  ·exact .inl (FX▸.inl rfl)
  ·rw[<-BW]at hx;rcases A8 hx with h1|⟨_,h2⟩
   ·exact .inl (.inr (.inl ⟨x,h1,r,hr,rfl⟩))
   rw[hr]at h2;cases h2;exact .inr rfl
  refine .inl (.inr (.inr ⟨sn,?_⟩));exact zdz
 refine⟨⟨by rw[FX];exact hat,λx hx r hr=>?_,λbi sn hs=>?_,?_⟩,λk' y5=>?_,λk' y5=>?_,λx bx b' c' e1 e2 hs=>?_⟩
 ·have QO:=hx;rw[<-BW]at hx;rcases A8 hx with h1|⟨h1,h2⟩
  ·exact zau
  rw[hr]at h2;cases h2;rw[h1];exact pE
 ·exact jb
 ·intro j1 j2 x1 x2 r1 r2 g1 g2 hr1 YL eg;rw[<-BW]at g1 g2;have Z2:∀{j:Nat} {x:bO} {r:mX},h.l[j]? =some x->x.row=some r->r.g≠g:=λh1 h2 e=>hnS (.inr (.inl ⟨_,Dd h1,_,h2,e⟩))
  rcases A9 g1 with q1|⟨q1,p1⟩
  ·rcases A9 g2 with q2|⟨q2,p2⟩
   ·exact zei
   rw[YL]at q2;cases q2;exact absurd eg (Z2 q1 hr1)
  rw[hr1]at q1;cases q1;by_cases fJ:j2=j1
  ·exact fJ.symm
  exact absurd eg.symm (Z2 (p1 j2 x2 g2 fJ) YL)
 ·rcases fQ k' y5 with h1|rfl
  ·exact hi.low k' h1
  exact hBg
 ·rcases fQ k' y5 with h1|rfl
  ·exact hi.apart k' h1
  exact i.apart b _ _ c hb hβ
 ·have e1':aH ((b,none)::I.box) x=some (some bx):=e1;rw[aL]at e1';split at e1'
  ·cases e1'
  rename_i hxb;rcases fQ b' hs with h1|rfl
  ·exact hi.names x bx b' c' e1' e2 h1
  exact hxb (i.inj b x _ bx _ c c' hb e1' hβ e2)
def LO{α V:Type}(f:α->V):∀(l:List α) (i:Nat),(l.map f).eraseIdx i=(l.eraseIdx i).map f
 |[],_=>rfl
 |_::_,0=>rfl
 |_::r,i+1=>Na _ (LO f r i)
def IB{l:List bO}{i j:Nat}{x:bO}(h:(l.eraseIdx i)[j]? =some x):∃j',l[j']? =some x/\(j'=if j<i then j else j+1):=by
 rw[Ux]at h;by_cases e:j<i
 ·rw[La e]at h;exact⟨j,h,by rw[La e]⟩
 rw[Ka e]at h;exact⟨j+1,h,by rw[Ka e]⟩
def CX.erase{l:List bO}(h:CX l)(i:Nat):CX (l.eraseIdx i):=λa b x y r q hx hy hr hq e=>by obtain⟨a',ha,ea⟩:=IB hx;obtain⟨b',hb,eb⟩:=IB hy;have:=h a' b' x y r q ha hb hr hq e;split at ea <;> split at eb <;> omega
def y9(h:HM)(k:ta):HM:=match dD h.l k 0 with
 |some (i,_)=>{h with l:=h.l.eraseIdx i}
 |none=>h
def mH.less{e s:Nat}{h h':HM}{w':Aa}(hi:mH R M V I w (hid e s h))(FX:h'.bm=h.bm)(vA:h'.clock=h.clock)(hl:∀x,x∈h'.l->x∈h.l)(hd:CX h'.l)(hit:h'.it=h.it)
  (ho:∀k,k≠h.bm->w'.heap[k]? =w.heap[k]?) (hat:w'.heap[h.bm]? =some (.map (h'.l.map bO.nK).toArray h'.clock)):mH R M V I w' (hid e s h'):=by
 have hF:h.F e s M w:=hi.holds
 have fQ:∀k,h'.S k->h.S k:=by
  rintro k (rfl|⟨x,hx,r,hr,rfl⟩|⟨sn,hs⟩)
  ·exact .inl FX
  ·exact .inr (.inl ⟨x,hl x hx,r,hr,rfl⟩)
  exact .inr (.inr ⟨sn,hit▸hs⟩)
 refine⟨⟨by rw[FX];exact hat,λx hx r hr=>?_,λbi sn hs=>?_,hd⟩,λk hk=>hi.low k (fQ k hk),λk hk=>hi.apart k (fQ k hk),λx bx b c e1 e2 hs=>hi.names x bx b c e1 e2 (fQ b hs)⟩
 ·obtain⟨o,cur,q1,q2,q3,q4,q5⟩:=hF.rows x (hl x hx) r hr;exact⟨o,cur,q1,q2,q3,(ho r.g (λe=>by rw[e,hF.map]at q4;cases q4)).trans q4,q5⟩
 ·have:=hF.iter bi sn (hit▸hs);rw[vA,FX];exact(ho bi (λe=>by rw[e,hF.map]at this;cases this)).trans this
def n9.del{e s t kt et kt':Nat}{x y:Ca}{k:ta}{o:Oper}{h:HM}{K:St->Hid->Prop}(ho:o.op=.call {callee:=.builtin .delete,args:= #[x,y],argTypes:= #[t,kt']})(hd:o.dst=none)
  (hx:ev I x=.s (.d (.val (.map (some h.bm))))) (hy:ev I y=.s (.d (.val (.string k)))) (ht:P.underlying t=some (.map kt et)) (hk:P.underlying kt=some .string)
  (hK:K I (hid e s (y9 h k))):n9 P R N o I (hid e s h) K:=by
 refine⟨λc hc=>Bh,λM V a w i hi Q=>?_⟩
 have ex:a.eval x=.map (some h.bm):=by have:=Yb i x;rw[hx]at this;exact this
 have ey:a.eval y=.string k:=by have:=Yb i y;rw[hy]at this;exact this
 have hF:h.F e s M w:=hi.holds
 have hS0:h.S h.bm:=.inl rfl
 have jL:∀b,(Instr.checkKey b 10000 kt (.string k)).run P w=.ok () w:=λb=>jC w hk b k 9999
 have oL:=yH (P:=P) (w:=w) hk k h.l
 obtain⟨h',BW⟩:∃h',y9 h k=h':=⟨_,rfl⟩
 have FX:h'.bm=h.bm:=by rw[<-BW];unfold y9;split <;> rfl
 have vA:h'.clock=h.clock:=by rw[<-BW];unfold y9;split <;> rfl
 have hit:h'.it=h.it:=by rw[<-BW];unfold y9;split <;> rfl
 have hl:∀x,x∈h'.l->x∈h.l:=λx hx=>by
  rw[<-BW]at hx;unfold y9 at hx;split at hx
  ·exact List.mem_of_mem_eraseIdx hx
  exact hx
 have hdd:CX h'.l:=by
  rw[<-BW];unfold y9;split
  ·exact hF.II.erase _
  exact hF.II
 have a7:(execOp a.eval o).run P w=.ok (.value (.tuple #[])) (setBlock w h.bm (.map (h'.l.map bO.nK).toArray h'.clock)):=by
  rw[vA]
  cases hq:dD h.l k 0 with
  |none=>
   rw[hq]at oL;have e1:h'=h:=by rw[<-BW];unfold y9;rw[hq]
   rw[e1];exact zaV
  |some p=>
   obtain⟨j,q⟩:=p;rw[hq]at oL;have e1:h'.l=h.l.eraseIdx j:=by rw[<-BW];unfold y9;rw[hq]
   have e3:(h.l.map bO.nK).toArray.eraseIdxIfInBounds j=(h'.l.map bO.nK).toArray:=by rw[e1,<-LO];simp
   rw[<-e3];exact zaV
 unfold Oper.wp
 rw[a7,Wd,hd]
 have SI:=gC w h.bm (.map (h'.l.map bO.nK).toArray h'.clock)
 have sO:∀k',k'≠h.bm->(setBlock w h.bm (.map (h'.l.map bO.nK).toArray h'.clock)).heap[k']? =w.heap[k']? :=λk' y5=>fD _ _ _ y5
 have hat:=iS (ob':=.map (h'.l.map bO.nK).toArray h'.clock) hF.map
 generalize hw:setBlock w h.bm (.map (h'.l.map bO.nK).toArray h'.clock)=w' at*
 exact⟨_,M,V,_,BW▸hK,i.A1 hi hS0 SI sO,hi.less FX vA hl hdd hit sO hat,fb _ _,nk hi hS0 SI sO mi mi mi Mt⟩
def mH.alloc{H:Hid}{ob:Obj}(hi:mH R M V I w H):mH R M V I (w.alloc ob) H:=
 ⟨H.loc M M w _ hi.holds (Xe M) λk hk=>Below.heap_alloc _ _ _ (H.lt M w hi.holds k hk),hi.low,hi.apart,hi.names⟩
def Inv.Dp(i:Inv R N M V I a w)(ob:Obj):Inv R N M V I a (w.alloc ob)/\cE R w (w.alloc ob):=
 ⟨i.off sM (λk o _ h=>(Below.heap_alloc _ _ _ (Lh.1 h).1).trans h),⟨rfl,rfl,rfl,sM,λk hk _=>Below.heap_alloc _ _ _ (aw hk i.heap.le),trivial⟩⟩
def Inv.cb(i:Inv R N M V I a w):(∀o,M w.heap.size o=none)/\∀x bx b c,aH I.box x=some (some bx)->V x=some (b,c)->b≠w.heap.size:=
 ⟨λo=>by
  cases h:M w.heap.size o with
  |none=>rfl
  |some u=>have:=i.HC h;omega,λx bx b c e1 e2 e3=>by have:=i.vM e1 e2;omega⟩
def n9.mk{e s d t:Nat}{o:Oper}{K:St->Hid->Prop}{H:Hid}(ho:o.op=.makeMap t none)(hd:o.dst=some d)(hN:d<N)
  (hK:∀bm,K ⟨(d,.s (.d (.val (.map (some bm)))))::I.env,I.box⟩ (hid e s ⟨bm,[],0,none⟩)):n9 P R N o I H K:=by
 refine⟨λc hc=>Bh,λM V a w i hi Q=>?_⟩
 have a7:(execOp a.eval o).run P w=.ok (.value (.map (some w.heap.size))) (w.alloc (.map #[] 0)):=by exact Xs
 unfold Oper.wp
 rw[a7,Wd,hd]
 obtain⟨i1,kp⟩:=i.Dp (.map #[] 0)
 obtain⟨t1,t2⟩:=i.cb
 have only:∀k,HM.S ⟨w.heap.size,[],0,none⟩ k->k=w.heap.size:=by
  rintro k (h|⟨x,hx,_⟩|⟨sn,hs⟩)
  ·exact h
  ·cases hx
  cases hs
 refine⟨_,M,V,_,hK w.heap.size,i1.put hN rfl,⟨⟨Ke w _,λx hx=>(by cases hx),λb sn hs=>(by cases hs),λi j x y r q hx=>(by simp at hx)⟩,λk hk=>?_,λk hk o=>?_,λx bx b c e1 e2 hs=>?_⟩,fb _ _,kp⟩
 ·rw[only k hk];exact i.heap.le
 ·rw[only k hk];exact t1 o
 ·exact t2 x bx b c e1 e2 (only b hs)
def n9.range{e s d t kt et:Nat}{x:Ca}{o:Oper}{h:HM}{K:St->Hid->Prop}(ho:o.op=.range t x)(hd:o.dst=some d)(hN:d<N)
  (hx:ev I x=.s (.d (.val (.map (some h.bm))))) (ht:P.underlying t=some (.map kt et))
  (hK:∀bi,K ⟨(d,.s (.d (.val (.pointer (some ⟨bi,0,none⟩)))))::I.env,I.box⟩ (hid e s {h with it:=some (bi,[])})):n9 P R N o I (hid e s h) K:=by
 refine⟨λc hc=>Bh,λM V a w i hi Q=>?_⟩
 have ex:a.eval x=.map (some h.bm):=by have:=Yb i x;rw[hx]at this;exact this
 have hF:h.F e s M w:=hi.holds
 have a7:(execOp a.eval o).run P w=.ok (.value (.pointer (some ⟨w.heap.size,0,none⟩))) (w.alloc (.mapIter (some h.bm) h.clock #[] h.clock)):=by simp[execOp,ho,ex,Bw w t kt et h.bm _ _ ht hF.map]
 unfold Oper.wp
 rw[a7,Wd,hd]
 obtain⟨i1,kp⟩:=i.Dp (.mapIter (some h.bm) h.clock #[] h.clock)
 obtain⟨t1,t2⟩:=i.cb
 have OO:=hi.alloc (ob:=.mapIter (some h.bm) h.clock #[] h.clock)
 have hF1:h.F e s M (w.alloc (.mapIter (some h.bm) h.clock #[] h.clock)):=OO.holds
 have fQ:∀k,HM.S {h with it:=some (w.heap.size,[])} k->h.S k\/k=w.heap.size:=by
  rintro k (h|h|⟨sn,hs⟩)
  ·exact .inl (.inl h)
  ·exact .inl (.inr (.inl h))
  cases hs;exact .inr rfl
 refine⟨_,M,V,_,hK w.heap.size,i1.put hN rfl,⟨⟨hF1.map,hF1.rows,λb sn hs=>?_,hF1.II⟩,λk hk=>?_,λk hk o=>?_,λx bx b c e1 e2 hs=>?_⟩,fb _ _,kp⟩
 ·cases hs;exact Ke w _
 ·rcases fQ k hk with h|rfl
  ·exact hi.low k h
  exact i.heap.le
 ·rcases fQ k hk with h|rfl
  ·exact hi.apart k h o
  exact t1 o
 ·rcases fQ b hs with h|rfl
  ·exact hi.names x bx b c e1 e2 h
  exact t2 x bx _ c e1 e2 rfl
def n9.next{e s d bi:Nat}{sn:List Nat}{x:Ca}{o:Oper}{h:HM}{K:St->Hid->Prop}(ho:o.op=.next x false)(hd:o.dst=some d)(hN:d<N)
  (hx:ev I x=.s (.d (.val (.pointer (some ⟨bi,0,none⟩))))) (hit:h.it=some (bi,sn)) (hb:∀q∈h.l,q.born<h.clock)
  (hK0:(∀q∈h.l,q.born∈sn)->K ⟨(d,.t [.s (.d (.lit false))])::I.env,I.box⟩ (hid e s h))
  (hK1:∀q∈h.l,q.born∉sn->K ⟨(d,.t [.s (.d (.lit true)),.s (.d (.val (.string q.key))),.s (.d .bL)])::I.env,I.box⟩ (hid e s {h with it:=some (bi,q.born::sn)})):n9 P R N o I (hid e s h) K:=by
 refine⟨λc hc=>Bh,λM V a w i hi Q=>?_⟩
 have ex:a.eval x=.pointer (some ⟨bi,0,none⟩):=by have:=Yb i x;rw[hx]at this;exact this
 have hF:h.F e s M w:=hi.holds
 have hh:=hF.iter bi sn hit
 have hSb:h.S bi:=.inr (.inr ⟨sn,hit⟩)
 have hold:∀x∈(h.l.map bO.nK).toArray.toList,x.born<h.clock:=by intro x hx;simp only[Lc]at hx;obtain⟨q,hq,rfl⟩:=hx;exact hb q hq
 have kK:∀e',e'∈(leftOf (h.l.map bO.nK).toArray sn.reverse.toArray).toList↔∃q∈h.l,q.born∉sn/\e'=q.nK:=by
  intro e';unfold leftOf;simp only[Yv,rf,Lc];constructor
  ·rintro⟨⟨q,hq,rfl⟩,hs⟩;exact⟨q,hq,by simpa[bO.nK]using hs,rfl⟩
  rintro⟨q,hq,hs,rfl⟩;exact⟨⟨q,hq,rfl⟩,by simpa[bO.nK]using hs⟩
 unfold Oper.wp
 rcases Cr (P:=P) w o.type bi h.bm h.clock h.clock sn.reverse.toArray (h.l.map bO.nK).toArray h.clock hh hF.map hold (mb _)with⟨hz,a7⟩|⟨e',he,w1,V7,a7⟩
 ·have hr:(execOp a.eval o).run P w=.ok (.value (.tuple #[.bool false])) w:=by simp[execOp,ho,ex,a7]
  rw[hr,Wd,hd];refine⟨_,M,V,_,hK0 (λq hq=>?_),i.put hN ⟨[.bool false],rfl,rfl,trivial⟩,⟨hi.holds,hi.low,hi.apart,hi.names⟩,fb _ _,lc _ _⟩;refine Classical.byContradiction λhs=>?_
  have:=(kK _).2 ⟨q,hq,hs,rfl⟩;have TT:(leftOf (h.l.map bO.nK).toArray sn.reverse.toArray).toList=[]:=fh Gq;exact Dq
 ·obtain⟨q,hq,hs,rfl⟩:=(kK e').1 he;obtain⟨q1,q2,q3,q4⟩:=vK V7;have qO:sn.reverse.toArray.push q.born=(q.born::sn).reverse.toArray:=sM;have hr:(execOp a.eval o).run P w=.ok (.value (.tuple #[.bool true,.string q.key,q.val])) (setBlock w1 bi (.mapIter (some h.bm) h.clock (q.born::sn).reverse.toArray h.clock)):=by rw[<-qO];simp[execOp,ho,ex,a7,bO.nK]
  rw[hr,Wd,hd];have SI:(setBlock w1 bi (.mapIter (some h.bm) h.clock (q.born::sn).reverse.toArray h.clock)).heap.size=w.heap.size:=by rw[gC,q1]
  have sO:∀k',k'≠bi->(setBlock w1 bi (.mapIter (some h.bm) h.clock (q.born::sn).reverse.toArray h.clock)).heap[k']? =w.heap[k']? :=λk' y5=>by rw[fD _ _ _ y5,q1]
  have hat:=iS (w:=w1) (ob':=.mapIter (some h.bm) h.clock (q.born::sn).reverse.toArray h.clock) (by rw[q1];exact hh);have e1:(setBlock w1 bi (.mapIter (some h.bm) h.clock (q.born::sn).reverse.toArray h.clock)).os=w.os:=q2;have e2:(setBlock w1 bi (.mapIter (some h.bm) h.clock (q.born::sn).reverse.toArray h.clock)).tape=w.tape:=q3;have e3:(setBlock w1 bi (.mapIter (some h.bm) h.clock (q.born::sn).reverse.toArray h.clock)).output=w.output:=q4;generalize setBlock w1 bi (.mapIter (some h.bm) h.clock (q.born::sn).reverse.toArray h.clock)=w' at*;have hbb:h.bm≠bi:=λe=>by rw[<-e,hF.map]at hh;cases hh
  have fQ:∀k,HM.S {h with it:=some (bi,q.born::sn)} k->h.S k:=by
   rintro k (h1|h1|⟨sn',h1⟩)
   ·exact .inl h1
   ·exact .inr (.inl h1)
   cases h1;exact hSb
  refine⟨_,M,V,_,hK1 q hq hs,(i.A1 hi hSb SI sO).put hN ⟨_,rfl,rfl,rfl,trivial,trivial⟩,⟨⟨(sO _ hbb).trans hF.map,λy hy r hr=>?_,λb sn' h1=>?_,hF.II⟩,λk hk=>hi.low k (fQ k hk),λk hk=>hi.apart k (fQ k hk),λy bx b c f1 f2 f3=>hi.names y bx b c f1 f2 (fQ b f3)⟩,fb _ _,nk hi hSb SI sO e1 e2 e3 trivial⟩
  ·obtain⟨o',cur,p1,p2,p3,p4,p5⟩:=hF.rows y hy r hr;exact⟨o',cur,p1,p2,p3,(sO r.g (λe=>by rw[e,hh]at p4;cases p4)).trans p4,p5⟩
  cases h1;exact hat
def n9.entry{e s d bi j:Nat}{sn:List Nat}{x:Ca}{o:Oper}{h:HM}{q:bO}{r:mX}{K:St->Hid->Prop}(ho:o.op=.entry x)(hd:o.dst=some d)(hN:d<N)(hn:aH I.box d=none)
  (hx:ev I x=.s (.d (.val (.pointer (some ⟨bi,0,none⟩))))) (hj:h.l[j]? =some q) (hit:h.it=some (bi,q.born::sn)) (hb:(h.l.map (·.born)).Nodup) (hr:q.row=some r) (DR:r.lo=0)
  (hK:K ⟨(d,.t [.s (.d (.val (.string q.key))),.s (.own d)])::I.env,(d,some (.row e r.n s r.f))::I.box⟩ (hid e s {h with l:=cW h.l j})):n9 P R N o I (hid e s h) K:=by
 refine⟨λc hc=>Bh,λM V a w i hi Q=>?_⟩
 have ex:a.eval x=.pointer (some ⟨bi,0,none⟩):=by have:=Yb i x;rw[hx]at this;exact this
 have hF:h.F e s M w:=hi.holds
 have hh:=hF.iter bi _ hit
 have kK:=Dd hj
 have qO:(q.born::sn).reverse.toArray=sn.reverse.toArray.push q.born:=sM
 rw[qO]at hh
 have a7:=yr (P:=P) w bi h.bm h.clock sn.reverse.toArray (h.l.map bO.nK).toArray h.clock q.nK hh hF.map (by simpa using⟨q,kK,rfl⟩) (by
  have:((h.l.map bO.nK).toArray.toList.map (·.born))=h.l.map (·.born):=by simp[bO.nK]
  rw[this];exact hb)
 have hrn:(execOp a.eval o).run P w=.ok (.value (.tuple #[.string q.key,q.val])) w:=by simp[execOp,ho,ex,a7,bO.nK]
 unfold Oper.wp
 rw[hrn,Wd,hd]
 have gF:=hF.rows q kK r hr
 have hS:h.S r.g:=.inr (.inl ⟨q,kK,r,hr,rfl⟩)
 obtain⟨V',h1,h2,h3,i2⟩:=i.named (c:=(r.cap,r.n)) (bc:=.row e r.n s r.f) hn (λx bx b c' e1 e2 e3=>hi.names x bx b c' e1 e2 (e3▸hS)) (hi.apart _ hS) (hi.low _ hS) (λV' e1 _=>mX.box gF e1)
 have hv:(AV.s (.own d)).bI M V' q.val:=by have:=zR.rep (d:=d) gF h1;unfold zR at this;rw[DR]at this;exact this
 refine⟨_,M,V',_,hK,i2.put (I:=⟨I.env,(d,some (.row e r.n s r.f))::I.box⟩) hN ⟨_,rfl,rfl,hv,trivial⟩,?_,fb _ _,lc _ _⟩
 have fQ:∀k,HM.S {h with l:=cW h.l j} k->h.S k/\k≠r.g:=by
  rintro k (rfl|⟨x,hx,r',C1,rfl⟩|⟨sn,hs⟩)
  ·exact zbO
  ·obtain⟨j',qR⟩:=dd hx;obtain⟨q1,q2⟩:=p6 qR C1;exact⟨.inr (.inl ⟨x,Dd q2,r',C1,rfl⟩),λe1=>q1 (hF.II j' j x q r' r q2 hj C1 hr e1)⟩
  exact za0
 refine⟨⟨?_,λx hx r' C1=>?_,hF.iter,hF.II.take j⟩,λk hk=>hi.low k (fQ k hk).1,λk hk=>hi.apart k (fQ k hk).1,λx bx b c e1 e2 hs=>?_⟩
 ·exact zbX
 ·exact zbz
 ·exact qr
end
end Go.Ax
namespace Go.Ax
open Go.RowKit
section
variable{P:Ba}{T:List (Nat×bV)}{N:Nat}{rc:List Nat}{all:List Oper}{md:Region.Mode}{ft:List fY}
def wQ(P:Ba)(T:List (Nat×bV))(N:Nat)(rc:List Nat)(all:List Oper)(md:Region.Mode)(ft:List fY)(ca:St)(last:Nat):Nat->Array Bool->St->Prop
 |0,_,_=>False
 |Ma+1,listed,I=>
  Region.ready md all.toArray listed≠[]/\
  ∀i∈Region.ready md all.toArray listed,(i=last/\Region.ready md all.toArray (listed.setIfInBounds i true)=[]/\FP ca I)\/
   (i≠last/\∃o e f,all[i]? =some o/\ft[i]? =some f/\FD P T N rc all o I e f/\wQ P T N rc all md ft ca last Ma (listed.setIfInBounds i true) (eU o e I))
def wQ.eqv{ca:St}{last:Nat}:∀(Ma:Nat) {listed:Array Bool} {I I':St},FP I I'->wQ P T N rc all md ft ca last Ma listed I->wQ P T N rc all md ft ca last Ma listed I'
 |0,_,_,_,_,h=>h
 |Ma+1,_,_,_,k,h=>⟨h.1,λi hi=>by
  rcases h.2 i hi with⟨h1,h2,h3⟩|⟨h0,o,e,f,h1,h2,h3,h4⟩
  ·exact .inl ⟨h1,h2,h3.trans k⟩
  exact .inr ⟨h0,o,e,f,h1,h2,h3.eqv k,wQ.eqv Ma (Co k) h4⟩⟩
def wQ.first{ca:St}{last:Nat}{i:Nat}{oi:Oper}{ei:Ef}{fi:fY}(hi:all[i]? =some oi)(hfi:ft[i]? =some fi)(hil:i≠last){d:Nat}(aCN:dep md all.toArray i d last=true):
  ∀(Ma:Nat) (listed:Array Bool) (I:St),
   (∀j oj fj,all[j]? =some oj->ft[j]? =some fj->j≠i->listed.getD j true=false->(∀n,dep md all.toArray i n j=false)->oi.apart all.toArray oj=true/\iP fi fj=true)->sZ md all listed->
   i∈Region.ready md all.toArray listed->FD P T N rc all oi I ei fi->
   wQ P T N rc all md ft ca last Ma (listed.setIfInBounds i true) (eU oi ei I)->wQ P T N rc all md ft ca last (Ma+1) listed I:=by
 intro Ma
 induction Ma with
 |zero=>intro listed I _ _ hr hy H;exact H.elim
 |succ Ma ih=>
  intro listed I EV vA hr hy H;refine⟨λh=>Bq,λj hj=>?_⟩;by_cases y7:j=i
  ·exact zdT
  obtain⟨QX,oj',aCI,lC⟩:=ph.1 hj;have ET:all[j]? =some oj':=by simpa using aCI
  have NB:∀n,dep md all.toArray i n j=false:=λn=>NW vA (NL (ph.1 hr).1) n j oj' ET lC
  have tC:j≠last:=λe=>by rw[e]at NB;rw[NB d]at aCN;cases aCN
  rcases H.2 j (Ej hj y7)with⟨h1,_,_⟩|⟨_,oj,ej,fj,TS,hfj,hyj,Hj⟩
  ·exact absurd h1 tC
  obtain rfl:oj=oj':=sc (TS.symm.trans ET);obtain⟨C2,xO⟩:=EV j oj fj TS hfj y7 QX NB;have aB8:FD P T N rc all oj I ej fj:=Iw hy.wr C2 xO hyj;have aB9:FD P T N rc all oi (eU oj ej I) ei fi:=FD.over hyj.wr C2 xO hy;have HY:∀k ok fk,all[k]? =some ok->ft[k]? =some fk->k≠i->(listed.setIfInBounds j true).getD k true=false->
    (∀n,dep md all.toArray i n k=false)->oi.apart all.toArray ok=true/\iP fi fk=true:=λk ok fk hk oL ON V9 YN=>by
   refine EV k ok fk hk oL ON ?_ YN
   by_cases SL:j=k
   ·subst SL;exact QX
   ·exact yv
  refine .inr ⟨tC,oj,ej,fj,TS,hfj,aB8,ih (listed.setIfInBounds j true) (eU oj ej I) HY (vA.set TS lC) (Ej hr (Ne.symm y7)) aB9 ?_⟩;rw[Pv _ _ y7];refine wQ.eqv Ma ?_ Hj;exact xp
def Dn(md:Region.Mode)(ops:Array Oper)(ft:List fY)(last:Nat):Nat->Nat->Array Bool->Bool
 |0,_,listed=>(match Region.ready md ops listed with|[i]=>Nat.beq i last|_=>false)&&(Region.ready md ops (listed.setIfInBounds last true)).isEmpty
 |Ma+1,k,listed=>(Region.ready md ops listed).contains k&&B3 md ops ft listed k&&(!Nat.beq k last&&dep md ops k 8 last)&&Dn md ops ft last Ma (k+1) (listed.setIfInBounds k true)
def Tw{last:Nat}:∀(l:List Oper) (k:Nat) (listed:Array Bool) (I:St) (es:List Ef) (Y:List fY),(∀j o,l[j]? =some o->all[k+j]? =some o)->(∀j,Y[j]? =ft[k+j]?)->
  sZ md all listed->Dn md all.toArray ft last l.length k listed=true->W4 P T N rc all l I es Y->wQ P T N rc all md ft (rD l I es) last (l.length+1) listed I
 |[],_,listed,_,[],[],_,_,_,hB,_=>by
  simp only[xe,Dn,Bool.and_eq_true]at hB;obtain⟨h1,h2⟩:=hB
  cases hr:Region.ready md all.toArray listed with
  |nil=>rw[hr]at h1;cases h1
  |cons i t=>
   rw[hr]at h1
   cases t with
   |cons _ _=>cases h1
   |nil=>
    have hi:=Mb h1;subst hi;show wQ P T N rc all md ft _ i 1 listed _;refine⟨by rw[hr];simp,λj hj=>?_⟩;rw[hr]at hj;obtain rfl:j=i:=by simpa using hj
    exact .inl ⟨rfl,by simpa using h2,Ho _⟩
 |o::l,k,listed,I,e::es,f::Y,hl,hf,vA,hB,⟨h1,h2⟩=>by
  have h0:all[k]? =some o:=hl 0 o rfl;have SO:ft[k]? =some f:=by simpa using(hf 0).symm
  simp only[Rb,Dn,Bool.and_eq_true,Qh]at hB;obtain⟨⟨⟨hr,hfr⟩,fJ,hdp⟩,hB'⟩:=hB;have C1:k∈Region.ready md all.toArray listed:=by simpa using hr
  have ND:k≠last:=λe=>by subst e;simp at fJ
  have lC:∀e∈o.after,Region.binds md e=true->listed.getD e.on false=true:=jx
  exact wQ.first h0 SO ND hdp (l.length+1) listed I (io h0 SO hfr) vA C1 h1
   (Tw l (k+1) _ _ es Y (λj o' h=>by have:=hl (j+1) o' h;simpa[De,Wi 1 j]using this) (λj=>by have:=hf (j+1);simpa[De,Wi 1 j]using this) (vA.set h0 lC) hB' h2)
 |[],_,_,_,_::_,_,_,_,_,_,h=>by cases ‹List fY› <;> exact h.elim
 |[],_,_,_,[],_::_,_,_,_,_,h=>h.elim
 |_::_,_,_,_,[],_,_,_,_,_,h=>h.elim
 |_::_,_,_,_,_::_,[],_,_,_,_,h=>h.elim
variable{R:Cx}{ref:List Nat}
def wpAny_done{F:Fence}{n:Nat}{ops:Array Oper}{Q:Exit->Act->Aa->Prop}:∀(Ma:Nat) {listed:Array Bool} {a:Act} {w:Aa},Region.ready md ops listed=[]->Q .normal a w->wpAnyIn F n P md ops Q Ma listed a w
 |0,_,_,_,h,q=>⟨h,q⟩
 |_+1,_,_,_,h,q=>⟨λ_=>q,λi hi=>by rw[h]at hi;cases hi⟩
end
section
variable{P:Ba}{T:List (Nat×bV)}{R:Cx}{N:Nat}{I:St}{H:Hid}{all:List Oper}{rc:List Nat}
def bM(P:Ba)(R:Cx)(N:Nat)(all l:List Oper)(I:St)(H:Hid)(K:St->Hid->Prop):Prop:=
 ∀M V a w Q,Inv R N M V I a w->mH R M V I w H->(∀a' w',yB R N M w K a' w'->Q .normal a' w')->wpListIn (FW R.rd) 0 P all.toArray Q l a w
def bM.nil{K:St->Hid->Prop}(h:K I H):bM P R N all [] I H K:=λM V a w _ i hi hQ=>wpListIn_nil (hQ a w ⟨I,M,V,H,h,i,hi,fb _ _,lc _ _⟩)
def mc:=@bM.nil
def bM.op{K:St->Hid->Prop}{o:Oper}{l:List Oper}(hg:o.guard=none)(h:n9 P R N o I H λI' H'=>bM P R N all l I' H' K):bM P R N all (o::l) I H K:=by intro M V a w Q i hi hQ;unfold wpListIn;rw[La tn];refine MQ h.1 (Hf ?_ (h.2 M V a w i hi Q));rintro a' w' ⟨I',M',V',H',hk,i',bC,g,kp⟩;exact hk M' V' a' w' Q i' bC λa2 w2 hp=>hQ a2 w2 (hp.trans g kp)
def Rc:=@bM.op
def Pr{K:St->Hid->Prop}{l:List Oper}{ks:List Nat}(hT:cD P T)(n:Nat)(jA:∀x,x∈ks->∃bc,aH I.box x=some (some bc)/\bc.real=true)(lC:∀x bc,aH I.box x=some (some bc)->x∈ks)(J:∀x,x∈R.ref->x∈ks)
  (h:l5 P T N ks rc all (l.take n) I λI'=>bM P R N all (l.drop n) I' H K):bM P R N all l I H K:=by
 intro M V a w Q i hi hQ
 have l7:∀x,x∈ks->∃bc,aH I.box x=some (some bc):=λx hx=>let⟨bc,h1,_⟩:=jA x hx;⟨bc,h1⟩
 have fJ:∀x,x∈ks->∃p,V x=some p:=λx hx=>by exact xw
 have ii:=i.Mk (rd:=R.rd) l7 lC fJ i.defers
 have:=Ks (R:=Jf w ks V R.rd R.df) (Q:=Q) hT rfl (l.drop n) (l.take n) h ii (by rintro a' w' ⟨I',M',V',hk,i',g,kp⟩;exact hk M' V' a' w' Q (ck i l7 J i' (Gg i l7 kp) i'.defers i'.tmps i'.env) (hi.after l7 i' g kp) λa2 w2 hp=>hQ a2 w2 (hp.trans (Fk i g) (Gg i l7 kp)))
 rwa [List.take_append_drop]at this
def bS.region{K:Exit->St->Hid->Prop}{id:Nat}{ops:Array Oper}(h:bM P R N ops.toList ops.toList I H (K .normal)):bS P R N (.region id ops false) I H K:=by intro M V a w i hi;have:=h M V a w (λe a' w'=>yB R N M w (K e) a' w') i hi (λa' w' hp=>hp);exact zes
def Sc:=@bS.region
def wQ.aHS{md:Region.Mode}{ft:List fY}(hT:cD P T)(YK:∀f,rc.contains (f+2000000)=true->R.ref=[]){last:Nat}{ol:Oper}(HW:all[last]? =some ol)(hg:ol.guard=none)(YP:∀c,ol.op≠.defer c)
  {ca:St} {Q:Exit->Act->Aa->Prop} {M0:Mem} {w0:Aa} (qP:∀M V a w,Inv R N M V ca a w->Grow R.B M0 M->cE R w0 w->ol.wp P a w (λa' w'=>Q .normal a' w') Q):∀(Ma:Nat) {listed:Array Bool} {I:St} {M:Mem} {V:Nm} {a:Act} {w:Aa},
  wQ P T N rc all md ft ca last Ma listed I->Inv R N M V I a w->Grow R.B M0 M->cE R w0 w->wpAnyIn (FW R.rd) 0 P md all.toArray Q Ma listed a w:=by
 intro Ma
 induction Ma with
 |zero=>intro listed I M V a w h;exact h.elim
 |succ Ma ih=>
  intro listed I M V a w h i g0 k0;refine⟨λh0=>absurd h0 h.1,λk hk=>?_⟩;rcases h.2 k hk with⟨ND,hr,heq⟩|⟨ND,o,e,f,ho,hf,gF,LD⟩
  ·subst ND;have sO:all.toArray[k]? =some ol:=by simpa using HW
   unfold wpOpIn;rw[sO];simp only;rw[La tn];exact MQ YP (Hf (λa' w' hp=>wpAny_done Ma hr hp) (qP M V a w (i.eqv heq.symm) g0 k0))
  have jO:=Zl (R:=R) (Q:=Q) hT YK (gF.pt (λe'=>e'=e) rfl) i;have sO:all.toArray[k]? =some o:=by simpa using ho
  have next:∀a' w',CT R N M w o I (λe'=>e'=e) a' w'->wpAnyIn (FW R.rd) 0 P md all.toArray Q Ma (listed.setIfInBounds k true) a' w':=by rintro a' w' ⟨e',M',V',rfl,hi,hg,lB⟩;exact ih LD hi (g0.trans hg) (k0.trans lB)
  exact vq
def bS.aC4{K:Exit->St->Hid->Prop}{ks:List Nat}(hT:cD P T)(YK:∀f,rc.contains (f+2000000)=true->ks=[])(hm:P.follows .mixedOrders=true){id:Nat}{ops:Array Oper}
  (jA:∀x,x∈ks->∃bc,aH I.box x=some (some bc)/\bc.real=true) (lC:∀x bc,aH I.box x=some (some bc)->x∈ks) (J:∀x,x∈R.ref->x∈ks) (last:Nat) {ol:Oper}
  (HW:ops.toList[last]? =some ol) (mL:Nat.beq ops.toList.length (last+1)=true) (hg:ol.guard=none) (YP:∀c,ol.op≠.defer c)
  (h:pB P T N rc ops.toList (ops.toList.take last) I [] λI' Y=>Dn .any ops.toList.toArray Y last (ops.toList.take last).length 0 (Array.replicate ops.toList.length false)=true/\n9 P R N ol I' H (K .normal)):bS P R N (.region id ops true) I H K:=by
 obtain⟨es,gs,hc,hl,hK⟩:=Gs h
 intro M V a w i hi
 apply yw hm
 have T5:=Tw (md:=.any) (ft:=gs) (ops.toList.take last) 0 (Array.replicate ops.toList.length false) I es gs (λj o h=>by rw[Ec];exact(Ue.1 h).elim λh1 h2=>by rw[By]at h2;rw[pf]at h1;rw[List.getElem?_eq_getElem O];exact Na some h2) sM (λm om _ h=>by simp[Qv]at h;split at h <;> simp_all) hl hc
 have l7:∀x,x∈ks->∃bc,aH I.box x=some (some bc):=λx hx=>let⟨bc,h1,_⟩:=jA x hx;⟨bc,h1⟩
 have fJ:∀x,x∈ks->∃p,V x=some p:=λx hx=>by exact xw
 have id1:Inv R N M V I a {w with drawn:=w.drawn+1}:=
  ⟨i.defers,i.tmps,⟨i.heap.le,i.heap.tab⟩,i.env,i.mem,i.keys,i.box,i.inj,i.apart,i.low,i.ref⟩
 have OO:mH R M V I {w with drawn:=w.drawn+1} H:=⟨H.loc M M w _ hi.holds (Xe M) λ_ _=>rfl,hi.low,hi.apart,hi.names⟩
 have kd:cE R w {w with drawn:=w.drawn+1}:=⟨rfl,rfl,rfl,mb _,λ_ _ _=>rfl,trivial⟩
 have ii:=id1.Mk (rd:=R.rd) l7 lC fJ i.defers
 have:=wQ.aHS (R:=Jf {w with drawn:=w.drawn+1} ks V R.rd R.df) (Q:=λe a' w'=>yB R N M w (K e) a' w') (M0:=M) (w0:={w with drawn:=w.drawn+1}) hT YK HW hg YP (by intro M' V' a' w' i' g kp;refine Hf ?_ (hK.2 M' V' a' w' (ck id1 l7 J i' (Gg id1 l7 kp) i'.defers i'.tmps i'.env) (OO.after l7 i' g kp) _);exactλa2 w2 hp=>hp.trans (Fk id1 g) (kd.trans (Gg id1 l7 kp))) _ T5 ii (fb _ _) (lc _ _)
 have hlen:(ops.toList.take last).length+1=ops.toList.length:=by have:=(Ue.1 HW).1;have:=Mb mL;rw[pf];omega
 rw[hlen]at this
 have e:(Jf {w with drawn:=w.drawn+1} ks V R.rd R.df).rd=R.rd:=rfl
 rw[e]at this
 simpa using this
end
def Ud:Hid where
 S:=λ_=>False
 F:=λ_ _=>True
 lt:=λ_ _ _ _ h=>h.elim
 loc:=λ_ _ _ _ _ _ _=>trivial
section
variable{P:Ba}{R:Cx}{N:Nat}{I:St}{M:Mem}{V:Nm}{a:Act}{w:Aa}
def Xl:mH R M V I w Ud:=⟨trivial,λ_ h=>h.elim,λ_ h=>h.elim,λ_ _ _ _ _ _ h=>h⟩
def Gj{c:Code}{K:Exit->St->Prop}(h:bS P R N c I Ud λe s _=>K e s):AW P R N c I K:=λM V a w i=>
 Dg (h M V a w i Xl) λ_ _ _ ⟨s,M',V',_,h1,h2,_,h4,h5⟩=>⟨s,M',V',h1,h2,h4,h5⟩
def Inv.grow(i:Inv R N M V I a w){M':Mem}(hM:Mem.le M M')(gF:lA M' w)(C2:∀x bx b c,aH I.box x=some (some bx)->V x=some (b,c)->∀o,M' b o=none):Inv R N M' V I a w:=
 ⟨i.defers,i.tmps,i.heap,λt=>Vf hM (Kf V) (i.env t),gF,i.keys,λx bx e=>xh hM (Kf V) rfl (λ_ _ _=>rfl) (i.box x bx e),i.inj,C2,i.low,i.ref⟩
def Wk(s:Nat)(q:bO):DV:=match q.row with
 |some r=>.fU r.n s r.f
 |none=>.val (.slice none 0 0)
def ml(s:Nat)(l:List bO):List (ta×Nat×DV):=l.map λq=>(q.key,q.born,Wk s q)
def RF(s:Nat):∀l:List bO,lY (ml s l) (l.map (·.val))=l.map bO.nK
 |[]=>rfl
 |q::r=>by simp only[ml,Le,lY];exact Na (_:: ·) (RF s r)
def W1{s:Nat}:∀{l:List bO},(∀q∈l,(Wk s q).bI M q.val)->wO M (ml s l) (l.map (·.val))
 |[],_=>trivial
 |q::_,h=>⟨h q (Zd),W1 λx hx=>h x (oc _ hx)⟩
def HSub.aE3{e s t x:Nat}{h:HM}(pD:∀q∈h.l,(∃r,q.row=some r/\r.lo=0)\/(q.row=none/\q.val=.slice none 0 0))(hx:aH I.box x=none)(ht:fL I.env t=.s (.d (.val (.map (some h.bm))))):
  HSub R N I (hid e s h) ⟨(t,.s (.mp x))::I.env,(x,some (.dm (ml s h.l) h.clock))::I.box⟩ Ud:=by
 classical
 intro M V a w i hi
 have hF:h.F e s M w:=hi.holds
 let SE:Nat->Prop:=λb=>∃q∈h.l,∃r,q.row=some r/\r.g=b
 have hRS:∀b,SE b->h.S b:=λb ⟨q,hq,r,hr,e⟩=>.inr (.inl ⟨q,hq,r,hr,e⟩)
 let M':Mem:=λb o=>if SE b then w.cell? ⟨b,o,none⟩else M b o
 have hM:Mem.le M M':=λb o u e=>by
  by_cases hb:SE b
  ·rw[hi.apart b (hRS b hb) o]at e;cases e
  simp only[M',Ka hb];exact e
 have gF:lA M' w:=λb o u e=>by
  by_cases hb:SE b
  ·simp only[M',La hb]at e;exact e
  simp only[M',Ka hb]at e;exact i.mem b o u e
 have i1:=i.grow hM gF (λy bx b c e1 e2 o=>by
  have:¬SE b:=λhb=>hi.names y bx b c e1 e2 (hRS b hb)
  simp only[M',Ka this];exact i.apart y bx b c e1 e2 o)
 have FX:¬SE h.bm:=by rintro⟨q,hq,r,hr,e⟩;obtain⟨_,_,_,_,_,hg,_⟩:=hF.rows q hq r hr;rw[e,hF.map]at hg;cases hg
 have aCB:∀q∈h.l,(Wk s q).bI M' q.val:=by
  intro q hq;rcases pD q hq with⟨r,hr,DR⟩|⟨hr,hv⟩
  ·obtain⟨o,cur,h1,h2,h3,h4,h5,h6,h7,h9,h8⟩:=hF.rows q hq r hr;rw[DR]at h1 h2;have ho:o=0:=by rw[h2 h9];simp
   subst ho;unfold Wk;rw[hr];refine⟨_,r.cap,by rw[h1];simp,h6,.inr ⟨r.g,0,rfl,λk j hk hj=>?_⟩⟩;obtain⟨u,hu,FJ⟩:=h8 k j hk hj;have hR:SE r.g:=⟨q,hq,r,hr,rfl⟩;exact⟨u,by simp only[M',La hR];simp[World.cell?,h4,hu],lg hM FJ⟩
  unfold Wk;rw[hr];exact hv
 obtain⟨V',h1,h2,h3,i2⟩:=i1.named (c:=(0,0)) (bc:=.dm (ml s h.l) h.clock) hx (λy bx b c e1 e2 e3=>hi.names y bx b c e1 e2 (e3▸.inl rfl)) (λo=>by simp only[M',Ka FX];exact hi.apart _ (.inl rfl) o) (hi.low _ (.inl rfl)) (λV' e1 _=>
  ⟨h.bm,_,h.l.map (·.val),e1,by rw[RF];exact hF.map,W1 aCB⟩)
 refine⟨M',V',?_,Xl,⟨hM,λb o u e=>?_⟩⟩
 ·refine⟨i2.defers,i2.tmps,i2.heap,λt'=>?_,i2.mem,i2.keys,i2.box,i2.inj,i2.apart,i2.low,i2.ref⟩;by_cases ER:t=t'
  ·subst ER;have:=i.env t;rw[ht]at this;simp only[fL,Ar,cond_true];exact⟨h.bm,_,h1,this⟩
  simp only[fL,UU ER,Ua];exact i2.env t'
 ·by_cases hb:SE b
  ·exact .inr (hi.low b (hRS b hb))
  simp only[M',Ka hb]at e;exact .inl e
end
def aO8(xs:List Nat):Da jK->Bool
 |some b=>SF xs b
 |none=>true
def Q4:∀{E:List (Nat×AV)} {u:Nat},fL E u=.s (.d .bL)\/∃p,p∈E/\fL E u=p.2
 |[],u=>.inl rfl
 |(k,v)::r,u=>by
  rw[gP];by_cases h:k=u
  ·rw[La h];exact .inr ⟨(k,v),sM,rfl⟩
  rw[Ka h];rcases Q4 (E:=r) (u:=u)with h|⟨p,hp,e⟩
  ·exact .inl h
  exact .inr ⟨p,by simp[hp],e⟩
def Q6:∀{B:aP} {y:Nat} {b:Da jK},aH B y=some b->(y,b)∈B
 |[],y,b,h=>by simp[aH]at h
 |(k,v)::r,y,b,h=>by
  rw[aL]at h;by_cases hk:k=y
  ·rw[La hk]at h;cases h;subst hk;simp
  rw[Ka hk]at h;have:=Q6 h;simp[this]
def aDO{B:aP}{y:Nat}{b:Da jK}(h:(y,b)∈B):y∈cR B:=by
 induction B with
 |nil=>cases h
 |cons a r ih=>
  obtain⟨k,v⟩:=a;unfold cR;rcases wb.1 h with e|h
  ·cases e;simp
  simp[ih h]
def nv(T:List (Nat×bV))(rs:List ResultVar)(r:AV)(bx':eV):Exit->St->Prop
 |.ret,I=>match oQ T I rs with
  |some ts=>aU (yX ts) r/\jI I.box bx'
  |none=>False
 |.normal,I=>match oQ T I rs with
  |some ts=>aU (yX ts) r/\jI I.box bx'
  |none=>False
 |_,_=>False
section
variable{P:Ba}{T:List (Nat×bV)}
def R1{f N:Nat}{fn:Func}{c:Code}{args:List AV}{bx:eV}{r:AV}{bx':eV}(hf:P.funcs[f]? =some fn)(hb:fn.body=some c)(hN:fn.ntmps=N)(eF:∀vs w,(callFunc f vs).run P w=.ok (.enter f vs) w)
  (hT:cD P T) (hl:Nat.ble args.length N=true) (kJ:(bx'.all λp=>p.2.real)=true) {rs:List ResultVar} (NA:fn.results.toList=rs)
  (h:∀R:Cx,R.ref=names bx->AW P R N c (qM args bx) (nv T rs r bx')):bW P f args bx r bx':=by
 classical
 refine⟨eF,λM V w vs hG hr hM rJ hβ=>?_⟩
 apply Wn hf hb
 let R:Cx:={B:=w.heap.size,ref:=names bx,ma:=V}
 have hlen:=hr.length
 have hl:=Dc hl
 have hex:∀x,x∈names bx->∃p,V x=some p:=λx hx=>by exact Lq
 have i0:Inv R N M V (qM args bx) {tmps:=vs.toArray++Array.replicate (fn.ntmps-vs.toArray.size) undef,defers:=[]} w:=zb
 refine Yn (Xn.1 (h R rfl M V _ w i0)) ?_
 rintro e a' w' ⟨I',M',V',hk,i',hg,lB⟩
 have fin:∀ts,oQ T I' rs=some ts->aU (yX ts) r->jI I'.box bx'->a'.defers=[]/\∃v,(results fn a'.tmps).run P w'=.ok v w'/\∃v' M' V',Ending.returned v=.returned v'/\Nm.le V V'/\r.bI M' V' v'/\Grow w.heap.size M M'/\lA M' w'/\sE M' V' w' bx'/\
   (∀x b c,x∈names bx'->V' x=some (b,c)->w.heap.size<=b\/∃y c',V y=some (b,c'))/\
   w'.os=w.os/\w'.tape=w.tape/\w'.output=w.output/\w.heap.size<=w'.heap.size/\(∀k,k<w.heap.size->(∀y c,V y≠some (k,c))->w'.heap[k]? =w.heap[k]?)/\Dr w w':=by
  intro ts uX fQ qS
  obtain⟨AY,a7,eD⟩:=yk hT i' uX
  have cQ:∀x,x∈names bx'->∃b,aH I'.box x=some (some b):=λx hx=>by exact Qq
  refine⟨i'.defers,(if h:AY.toArray.size=1 then AY.toArray[0]else .tuple AY.toArray),?_,_,M',V',rfl,?_,fQ M' V' _ ?_,hg,i'.mem,?_,?_,lB.os,lB.tape,lB.output,lB.size,?_,lB.drawn⟩
  ·exact zj
  ·exact Nq
  ·cases ts with
   |nil=>
    cases AY with
    |nil=>exact⟨[],rfl,trivial⟩
    |cons _ _=>exact eD.elim
   |cons t r'=>
    cases AY with
    |nil=>exact eD.elim
    |cons v F9=>
     cases r' with
     |nil=>
      cases F9 with
      |cons _ _=>exact eD.2.elim
      |nil=>
       have:=eD.1;simp only[Ln,Rb,xe,Ec,Er,yX]
       cases t with
       |s x=>exact this
       |g cs=>exact this
     |cons t2 r2=>
      cases F9 with
      |nil=>exact eD.2.elim
      |cons v2 vs3=>have fJ:¬(v::v2::vs3).toArray.size=1:=sM;rw[Gr fJ];exact⟨_,rfl,eD⟩
  ·exact vm
  ·exact vg
  ·exact jy
 cases e with
 |ret=>exact zbS
 |normal=>exact zbS
 |_=>exact hk.elim
def E9{rc:List Nat}{f N:Nat}{fn:Func}{c:Code}{args:List AV}{bx:eV}{r:AV}{bx':eV}(hf:P.funcs[f]? =some fn)(hb:fn.body=some c)(hN:fn.ntmps=N)(eF:∀vs w,(callFunc f vs).run P w=.ok (.enter f vs) w)
  (hT:cD P T) (hm:P.follows .mixedOrders=true) (hl:Nat.ble args.length N=true) (kJ:(bx'.all λp=>p.2.real)=true) {rs:List ResultVar} (NA:fn.results.toList=rs)
  (h:∀R:Cx,R.ref=names bx->ex P T N (names bx) rc R c (qM args bx) (nv T rs r bx')):bW P f args bx r bx':=
 R1 hf hb hN eF hT hl kJ NA λR J=>Sb hT hm J c (h R J)
end
def Rt(P:Ba)(f:FuncId)(args:List AV)(K:DV->Hid->Prop):Prop:=
 (∀vs w,(callFunc f vs).run P w=.ok (.enter f vs) w)/\
 ∀(M:Mem) (w:Aa) (vs:List wa),Up w->gZ M nb args vs->lA M w->
  Calls P f vs.toArray w λe w'=>∃v M' x H,K x H/\e=.returned v/\x.bI M' v/\Grow w.heap.size M M'/\lA M' w'/\yl w w'/\H.F M' w'/\(∀k,H.S k->w.heap.size<=k)/\∀k,H.S k->∀o,M' k o=none
def aOB(T:List (Nat×bV))(rs:List ResultVar)(K:DV->Hid->Prop):Exit->St->Hid->Prop
 |.ret,I,H=>∃x,oQ T I rs=some [.s (.d x)]/\K x H
 |.normal,I,H=>∃x,oQ T I rs=some [.s (.d x)]/\K x H
 |_,_,_=>False
section
variable{P:Ba}{T:List (Nat×bV)}
def N9{f N:Nat}{fn:Func}{c:Code}{args:List AV}{K:DV->Hid->Prop}(hf:P.funcs[f]? =some fn)(hb:fn.body=some c)(hN:fn.ntmps=N)(eF:∀vs w,(callFunc f vs).run P w=.ok (.enter f vs) w)
  (hT:cD P T) (hl:Nat.ble args.length N=true) {rs:List ResultVar} (NA:fn.results.toList=rs)
  (h:∀R:Cx,R.ref=[]->bS P R N c (uV args) Ud (aOB T rs K)):Rt P f args K:=by
 refine⟨eF,λM w vs hG hr hM=>?_⟩
 apply Wn hf hb
 let R:Cx:={B:=w.heap.size,ref:=[],ma:=nb}
 have hlen:=hr.length
 have hl:=Dc hl
 have i0:Inv R N M nb (uV args) {tmps:=vs.toArray++Array.replicate (fn.ntmps-vs.toArray.size) undef,defers:=[]} w:=ue
 refine Yn (Xn.1 (h R rfl M nb _ w i0 Xl)) ?_
 rintro e a' w' ⟨I',M',V',H',hk,i',bC,hg,lB⟩
 have fin:(∃x,oQ T I' rs=some [.s (.d x)]/\K x H')->a'.defers=[]/\∃v,(results fn a'.tmps).run P w'=.ok v w'/\∃v' M' x H,K x H/\Ending.returned v=.returned v'/\x.bI M' v'/\Grow w.heap.size M M'/\lA M' w'/\yl w w'/\H.F M' w'/\(∀k,H.S k->w.heap.size<=k)/\∀k,H.S k->∀o,M' k o=none:=by
  rintro⟨x,uX,hK⟩;obtain⟨AY,a7,eD⟩:=yk hT i' uX
  match AY,a7,eD with
  |[v],a7,eD=>
   refine⟨i'.defers,v,?_,v,M',x,H',hK,rfl,eD.1,hg,i'.mem,⟨⟨lB.os,lB.tape,lB.output,lB.size,λk hk=>lB.block k hk (by rintro⟨x,c,hx,_⟩;cases hx)⟩,lB.drawn⟩,bC.holds,bC.low,bC.apart⟩;have h1:(fn.results.mapM (l6 a'.tmps)).run P w'=.ok #[v] w':=by rw[<-Array.toArray_toList (xs:=fn.results),yy,NA];simp only[Sem.run_map,a7,Result.andThen]
   have e:results fn a'.tmps=(do let vs<-fn.results.mapM (l6 a'.tmps);pure (if h:vs.size=1 then vs[0]else .tuple vs)):=by unfold results;congr 1
   rw[e];simp only[Ic,h1,Result.andThen,Wc];rfl
  |[],_,eD=>exact eD.elim
  |_::_::_,_,eD=>exact eD.2.elim
 cases e with
 |ret=>exact fin hk
 |normal=>exact fin hk
 |_=>exact hk.elim
def n9.aNQ{R:Cx}{N:Nat}{I:St}{d f:Nat}{args:Array Ca}{wR:Array Ea}{o:Oper}{ars:List AV}{K0:DV->Hid->Prop}{K:St->Hid->Prop}
  (ho:o.op=.call {callee:=.value (.func f),args:=args,argTypes:=wR}) (hd:o.dst=some d) (hN:d<N)
  (aPV:dY none I args.toList λl=>l=ars) (hr:tI ars=false) (h:Rt P f (jD I ars) K0)
  (hK:∀x H,K0 x H->K ⟨(d,.s (.d x))::I.env,I.box⟩ H):n9 P R N o I Ud K:=by
 refine⟨λc hc=>Bh,λM V a w i hi Q=>?_⟩
 obtain⟨aQR,rfl,has⟩:=lk aPV
 have xP:=has (λ_ h=>by cases h) R N M V a w i
 obtain⟨z7,eF⟩:=h
 have a7:(execOp a.eval o).run P w=.ok (.enter f (args.toList.map a.eval).toArray) w:=by
  have:args.map a.eval=(args.toList.map a.eval).toArray:=by apply Jd;simp
  simp[execOp,ho,resolve,Act.eval,Deferred.ofValue,invoke,this,z7]
 unfold Oper.wp
 rw[a7,mr]
 refine(eF M w _ i.heap.Kq (tI.rep hr xP) i.mem).mono ?_
 rintro e w' ⟨v,M',x,H,hk,rfl,TQ,hg,hm,Q2,hF,hS,C2⟩
 obtain⟨i1,g1,k1⟩:=i.after Q2 hg hm
 rw[hd]
 refine⟨_,M',V,H,hK x H hk,i1.put hN TQ,⟨hF,λk hk=>Xb i.heap.le (hS k hk),C2,λy bc b c e1 e2 hs=>?_⟩,g1,k1⟩
 have h1:=i.vM e1 e2
 have h2:=hS b hs
 omega
end
end Go.Ax
