/- Part 2: lemmas that the proofs of this seat share; by itself it claims nothing. -/
import Derived.Scope
import Derived.ProofKit
import Derived.OpenShut
import Derived.Deep.Slices
import Derived.Test.YtonkbmnkoabhnaaGreatDoorPt1
namespace Go.Ax
open Go.RowKit
open Go.ChangeMaps (setBlock)
theorem bytes_beq(a b:ByteArray):(a==b)=decide (a=b):=by
 cases a with|mk a=>cases b with|mk b=>
 show(a==b)=_;rw[Bool.eq_iff_iff];simp
instance:LawfulBEq ByteArray where
 eq_of_beq:=fun {a b} h=>by rw[bytes_beq]at h;simpa using h
 rfl:=fun {a}=>by rw[bytes_beq];simp
def nS:List (ByteArray×Int)→ByteArray→Option Int
 |[],_=>none
 |(a,v)::r,k=>bif k==a then some v else nS r k
def WD(l:List (ByteArray×Int))(k:ByteArray):Bool:=(nS l k).isSome
def gW(l:List (ByteArray×Int))(k:ByteArray):Int:=(nS l k).getD 0
def jR:List (ByteArray×Int)→ByteArray→Int→List (ByteArray×Int)
 |[],k,v=>[(k,v)]
 |(a,u)::r,k,v=>bif k==a then(a,v)::r else(a,u)::jR r k v
def yZ(T:List (Nat×bV))(k:Nat):Bool:=match dE T k with
 |some tk=>match tk.j7 with
  |.string=>true
  |_=>false
 |none=>false
theorem yZ.spec{P:Program}{T:List (Nat×bV)}(hT:cD P T){k:Nat}(h:yZ T k=true):P.underlying k=some .string:=by
 unfold yZ at h;split at h
 ·rename_i tk hk;split at h
  ·rename_i hu;exact(hT.get hk).isString hu
  cases h
 cases h
def k9(vk:VK):List (ByteArray×Int)→ByteArray→Nat→Option (Nat×Value)
 |[],_,_=>none
 |(a,v)::r,k,i=>bif k==a then some (i,vk.val v)else k9 vk r k (i+1)
theorem zL(vk:VK)(k:ByteArray):∀(l:List (ByteArray×Int)) (i:Nat),Instr.findNow .string (.string k) (eL vk l i) i=some (k9 vk l k i)
 |[],_=>rfl
 |(a,v)::r,i=>by
  simp only [eL,Instr.findNow,Instr.sameNow,k9]
  cases h:k==a with
  |true=>rfl
  |false=>simp only [cond_false];exact zL vk k r (i+1)
theorem BB{P:Program}(w:World){kt:TypeId}(hk:P.underlying kt=some .string)(vk:VK)(k:ByteArray)(l:List (ByteArray×Int)):
  (Instr.findKey kt (.string k) (eL vk l 0)).run P w=.ok (k9 vk l k 0) w:=by
 simp[Instr.findKey,run_underlying hk,zL]
theorem jC{P:Program}(w:World){kt:TypeId}(hk:P.underlying kt=some .string)(b:Bool)(k:ByteArray)(n:Nat):(Instr.checkKey b (n+1) kt (.string k)).run P w=.ok () w:=by simp[Instr.checkKey,run_underlying hk]
theorem B6(vk:VK)(k:ByteArray):∀(l:List (ByteArray×Int)) (i:Nat),(k9 vk l k i).map (·.2)=(nS l k).map vk.val
 |[],_=>rfl
 |(a,v)::r,i=>by
  simp only [k9,nS]
  cases h:k==a with
  |true=>rfl
  |false=>simp only [cond_false];exact B6 vk k r (i+1)
theorem vG(vk:VK):∀(l:List (ByteArray×Int)) (i:Nat),(eL vk l i).length=l.length
 |[],_=>rfl
 |(_,_)::r,i=>by simp[eL,vG vk r (i+1)]
theorem ID(vk:VK):∀(l:List (ByteArray×Int)) (i:Nat),(eL vk l i).map (·.born)=List.range' i l.length
 |[],_=>rfl
 |(_,_)::r,i=>by simp[eL,ID vk r (i+1),List.range'_succ]
theorem tX(vk:VK):∀(l:List (ByteArray×Int)) (i j:Nat) (e:MapEntry),(eL vk l i)[j]? =some e→j<l.length∧e= {key:=.string (l.getD j (⟨#[]⟩,0)).1,val:=vk.val (l.getD j (⟨#[]⟩,0)).2,born:=i+j}
 |[],_,_,_,h=>by simp[eL]at h
 |(a,v)::r,i,0,e,h=>by simp[eL]at h;exact⟨sM,by rw[←h];rfl⟩
 |(a,v)::r,i,j+1,e,h=>by
  have h:(eL vk r (i+1))[j]? =some e:=by simpa [eL]using h
  obtain⟨h1,h2⟩:=tX vk r (i+1) j e h;exact zea
theorem KR(vk:VK)(k:ByteArray)(v:Int):∀(l:List (ByteArray×Int)) (i j:Nat) (u:Value),k9 vk l k i=some (i+j,u)→(∃e,(eL vk l i)[j]? =some e∧e.key=.string k)∧
   (eL vk l i).modify j (fun e=>{e with key:=.string k,val:=vk.val v})=eL vk (jR l k v) i∧(jR l k v).length=l.length
 |[],_,_,_,h=>by cases h
 |(a,b)::r,i,j,u,h=>by
  simp only [k9]at h
  cases hk:k==a with
  |true=>
   rw[hk]at h;simp only [cond_true,Option.some.injEq,Prod.mk.injEq]at h;obtain rfl:j=0:=oM;have:k=a:=by simpa using hk
   subst this;simp[eL,jR]
  |false=>
   rw[hk]at h;simp only [cond_false]at h;have hj:∃q,j=q+1:=by
    cases j with
    |zero=>
     exfalso;have:∀(l:List (ByteArray×Int)) (i p:Nat) (u:Value),k9 vk l k i=some (p,u)→i≤p:=by
      intro l;induction l with
      |nil=>intro i p u h;cases h
      |cons x r ih=>intro i p u h;obtain⟨a,b⟩:=x;simp only [k9]at h;exact zaj
     have:=this r (i+1) _ u h;omega
    |succ q=>exact⟨q,rfl⟩
   obtain⟨q,rfl⟩:=hj;obtain⟨⟨e,h1,JX⟩,h2,h3⟩:=KR vk k v r (i+1) q u ze7;refine⟨⟨e,by simpa [eL]using h1,JX⟩,?_,by simp[jR,hk,h3]⟩;simp[eL,jR,hk,h2]
theorem KS(vk:VK)(k:ByteArray)(v:Int):∀(l:List (ByteArray×Int)) (i:Nat),k9 vk l k i=none→eL vk l i++ [{key:=.string k,val:=vk.val v,born:=i+l.length}]=eL vk (jR l k v) i∧(jR l k v).length=l.length+1
 |[],i,_=>by simp[eL,jR]
 |(a,b)::r,i,h=>by
  simp only [k9]at h
  cases hk:k==a with
  |true=>rw[hk]at h;cases h
  |false=>rw[hk]at h;obtain⟨h1,h2⟩:=KS vk k v r (i+1) h;have e:i+(r.length+1)=i+1+r.length:=oM;simp[eL,jR,hk,h2,←h1,e]
section
variable{P:Program}{σ:St}{K:AV→aP→Prop}{o:Oper}
def MV(T:List (Nat×bV))(σ:St)(d t:Nat)(K:AV→aP→Prop):Prop:=
 match dE T t with
 |some ti=>match ti.j7 with
  |.map k e=>match aKM T e with
   |some vk=>bif yZ T k then match aH σ.box d with
    |none=>K (.s (.mp d)) ((d,some (.smap vk []))::σ.box)
    |some _=>False
    else False
   |none=>False
  |_=>False
 |none=>False
theorem aIP.spec{T:List (Nat×bV)}{d t:Nat}(ho:o.op=.makeMap t none)(h:MV T σ d t K):∃r bx,K r bx∧KI P o σ r bx:=by
 unfold MV at h;split at h
 case h_2=>cases h
 split at h
 case h_2=>cases h
 split at h
 case h_2=>cases h
 rename_i vk hvk
 cases hk:yZ T _ with
 |false=>rw[hk]at h;cases h
 |true=>
  rw[hk]at h;simp only [cond_true]at h;split at h
  case h_2=>cases h
  rename_i hd;refine⟨_,_,h,fun cx N M β a w i=>?_⟩;have a7:(execOp a.eval o).run P w=.ok (.value (.map (some w.heap.size))) (w.alloc (.map #[] 0)):=by exact zej
  obtain⟨β',h1,h2,h3,h4⟩:=i.new (w':=w.alloc (.map #[] 0)) (c:=(0,0)) hd (ob:=.map #[] 0) rfl rfl rfl rfl (bc:=.smap vk []) (by intro β' e _;exact⟨_,_,e,heap_alloc_new w _⟩);exact vw
def aAE(T:List (Nat×bV))(σ:St)(t:Nat)(x y z:Operand)(K:AV→aP→Prop):Prop:=
 fe none (ev σ x) fun vx=>fe none (ev σ y) fun vy=>fe none (ev σ z) fun vz=>match vx,vy with
  |.s (.mp b),.s (.d (.val (.string k)))=>match aH σ.box b with
   |some (some (.smap vk l))=>match dE T t with
    |some ti=>match ti.j7 with
     |.map kt _=>bif yZ T kt then match UF vk vz with
      |some n=>K (.s (.d .bL)) ((b,some (.smap vk (jR l k n)))::σ.box)
      |none=>False
      else False
     |_=>False
    |none=>False
   |_=>False
  |_,_=>False
theorem aN6.spec{T:List (Nat×bV)}(hT:cD P T){t:Nat}{x y z:Operand}(ho:o.op=.mapUpdate t x y z)(h:aAE T σ t x y z K):∃r bx,K r bx∧KI P o σ r bx:=by
 unfold aAE at h;replace h:=fe.ev h;obtain⟨vx,h,tB⟩:=h;replace h:=fe.ev h;obtain⟨vy,h,JV⟩:=h;replace h:=fe.ev h;obtain⟨vz,h,hrz⟩:=h;split at h
 case h_2=>cases h
 rename_i b k;split at h
 case h_2=>cases h
 rename_i vk l hb;split at h
 case h_2=>cases h
 rename_i ti gG;split at h
 case h_2=>cases h
 rename_i kt et hu
 cases hk:yZ T kt with
 |false=>rw[hk]at h;cases h
 |true=>
  rw[hk]at h;simp only [cond_true]at h;split at h
  case h_2=>cases h
  rename_i n hn;have SK:=yZ.spec hT hk;have dB:=(hT.get gG).EM hu;refine⟨_,_,h,fun cx N M β a w i=>?_⟩;obtain⟨bb,c,e1,ex⟩:=tB iY cx N M β a w i;obtain⟨b',c',e2,hh⟩:=i.box b _ hb;rw[e1]at e2;cases e2;have ey:a.eval y=.string k:=JV iY cx N M β a w i;have ez:a.eval z=vk.val n:=UF.spec hn (hrz iY cx N M β a w i);have jL:(Instr.checkKey false 10000 kt (.string k)).run P w=.ok () w:=jC w SK false k 9999;have oL:=BB (P:=P) w SK vk k l;have YQ:(Instr.mapUpdate t (.map (some bb)) (.string k) (vk.val n)).run P w=.ok () (setBlock w bb (.map (eL vk (jR l k n) 0).toArray (jR l k n).length)):=by
   cases hf:k9 vk l k 0 with
   |none=>
    rw[hf]at oL;obtain⟨q1,q2⟩:=KS vk k n l 0 hf;have e3:((eL vk l 0).toArray.push {key:=.string k,val:=vk.val n,born:=l.length})=(eL vk (jR l k n) 0).toArray:=by rw[←q1];simp
    exact zcb
   |some pr=>
    obtain⟨p,u⟩:=pr;rw[hf]at oL;obtain⟨⟨e,q0,q0'⟩,q1,q2⟩:=KR vk k n l 0 p u (by rw[Nat.zero_add];exact hf);have HU:(Instr.keyThatStays (.string k) (.string k)).run P w=.ok (.string k) w:=by simp[Instr.keyThatStays,Instr.sameBits]
    have e3:(eL vk l 0).modify p (fun e=>{key:=.string k,val:=vk.val n,born:=e.born})=eL vk (jR l k n) 0:=q1;have e4:(((eL vk l 0).toArray[p]?).map (·.key)).getD (.string k)=.string k:=by simp[q0,q0']
    exact zaK
  have a7:(execOp a.eval o).run P w=.ok .skip (setBlock w bb (.map (eL vk (jR l k n) 0).toArray (jR l k n).length)):=by simp[execOp,ho,ex,ey,ez,YQ]
  have hw:=i.write (bc':=.smap vk (jR l k n)) hb e1 (w':=setBlock w bb (.map (eL vk (jR l k n) 0).toArray (jR l k n).length)) (gC _ _ _) (fun j hj=>fD _ _ _ hj) rfl rfl rfl
   ⟨bb,c,e1,iS hh⟩
  exact jf
def MJ(T:List (Nat×bV))(σ:St)(d t:Nat)(x:Operand)(K:AV→aP→Prop):Prop:=
 fe none (ev σ x) fun vx=>match vx with
  |.s (.mp b)=>match aH σ.box b with
   |some (some (.smap _ l))=>match dE T t with
    |some ti=>match ti.j7 with
     |.map _ _=>match aH σ.box d with
      |none=>K (.s (.ptr d 0)) ((d,some (.iter b l.length []))::σ.box)
      |some _=>False
     |_=>False
    |none=>False
   |_=>False
  |_=>False
theorem aH8.spec{T:List (Nat×bV)}(hT:cD P T){d t:Nat}{x:Operand}(ho:o.op=.range t x)(h:MJ T σ d t x K):∃r bx,K r bx∧KI P o σ r bx:=by unfold MJ at h;exact zo
def TD(σ:St)(x:Operand)(K:AV→aP→Prop):Prop:=
 fe none (ev σ x) fun vx=>match vx with
  |.s (.ptr b 0)=>match aH σ.box b with
   |some (some (.iter m n seen))=>match aH σ.box m with
    |some (some (.smap vk l))=>l.length=n∧((∀i,i<n→i∈seen)→K (.t [.s (.d (.lit false))]) σ.box)∧
      (∀i,i<n→i∉seen→K (.t [.s (.d (.lit true)),.s (.d (.val (.string (l.getD i (⟨#[]⟩,0)).1))),.s (.d (vk.dv (l.getD i (⟨#[]⟩,0)).2))]) ((b,some (.iter m n (i::seen)))::σ.box))
    |_=>False
   |_=>False
  |_=>False
theorem aLG.spec{x:Operand}(ho:o.op=.next x false)(h:TD σ x K){cx:Cx}{N:Nat}{M:Mem}{β:Nm}{a:Act}{w:World}(i:Inv cx N M β σ a w):
  ∃r bx,K r bx∧∃v w',(execOp a.eval o).run P w=.ok (.value v) w'∧r.bI M β v∧Inv cx N M β ⟨σ.env,bx⟩ a w'∧cE cx w w':=by
 unfold TD at h
 replace h:=fe.ev h
 obtain⟨vx,h,tB⟩:=h
 split at h
 case h_2=>cases h
 rename_i b
 split at h
 case h_2=>cases h
 rename_i m n seen hb
 split at h
 case h_2=>cases h
 rename_i vk l hm
 obtain⟨hl,h1,h2⟩:=h
 subst hl
 obtain⟨bb,c,e1,ex⟩:=tB iY cx N M β a w i
 obtain⟨b',c',bm,cm,e2,em,hh⟩:=i.box b _ hb
 rw[e1]at e2;cases e2
 obtain⟨bm',cm',RG,hhm⟩:=i.box m _ hm
 rw[em]at RG;cases RG
 have hold:∀x∈(eL vk l 0).toArray.toList,x.born<l.length:=by intro x hx;obtain⟨j,hj⟩:=List.getElem?_of_mem hx;obtain⟨k1,k2⟩:=tX vk l 0 j x zfg;rw[k2];simpa using k1
 have kK:∀e,e∈(leftOf (eL vk l 0).toArray seen.reverse.toArray).toList↔∃j,j<l.length∧j∉seen∧e= {key:=.string (l.getD j (⟨#[]⟩,0)).1,val:=vk.val (l.getD j (⟨#[]⟩,0)).2,born:=j}:=by
  intro e;unfold leftOf;simp only [Array.toList_filter,List.mem_filter];constructor
  ·rintro⟨hx,hs⟩;obtain⟨j,hj⟩:=List.getElem?_of_mem hx;obtain⟨k1,k2⟩:=tX vk l 0 j e zfg;exact zcL
  rintro⟨j,hj,hs,rfl⟩;refine⟨?_,by simpa using hs⟩;have fZ:j<(eL vk l 0).length:=by rw[vG];exact hj
  have hg:=List.getElem?_eq_getElem fZ;obtain⟨_,k2⟩:=tX vk l 0 j _ hg;exact zdr
 rcases run_next_at (P:=P) w o.type bb bm l.length l.length seen.reverse.toArray (eL vk l 0).toArray l.length hh hhm hold (Nat.le_refl _)with⟨hz,a7⟩|⟨e,he,w1,V7,a7⟩
 ·refine⟨_,_,h1 (fun j hj=>?_),_,w,by simp[execOp,ho,ex,a7],⟨[.bool false],rfl,rfl,trivial⟩,i,cE.refl _ _⟩;refine Classical.byContradiction fun hs=>?_
  have:=(kK _).2 ⟨j,hj,hs,rfl⟩;have TT:(leftOf (eL vk l 0).toArray seen.reverse.toArray).toList=[]:=List.eq_nil_of_length_eq_zero zeM;exact zdD
 ·obtain⟨j,hj,hs,rfl⟩:=(kK e).1 he;obtain⟨q1,q2,q3,q4⟩:=vK V7;have hh1:w1.heap[bb]? =some (.mapIter (some bm) l.length seen.reverse.toArray l.length):=by rw[q1];exact hh
  have qO:seen.reverse.toArray.push j=(j::seen).reverse.toArray:=sM;have QR:(execOp a.eval o).run P w=.ok (.value (.tuple #[.bool true,.string (l.getD j (⟨#[]⟩,0)).1,vk.val (l.getD j (⟨#[]⟩,0)).2])) (setBlock w1 bb (.mapIter (some bm) l.length (j::seen).reverse.toArray l.length)):=by exact zdH
  exact qn
end
section
variable{P:Program}{σ:St}{g:Option Bool}{K:AV→Prop}{o:Oper}
def NT(σ:St)(va:AV)(K:AV→Prop):Prop:=match va with
 |.s (.ptr b 0)=>match aH σ.box b with
  |some (some (.iter m n (i::_)))=>match aH σ.box m with
   |some (some (.smap vk l))=>l.length=n∧i<l.length∧K (.t [.s (.d (.val (.string (l.getD i (⟨#[]⟩,0)).1))),.s (.d (vk.dv (l.getD i (⟨#[]⟩,0)).2))])
   |_=>False
  |_=>False
 |_=>False
def qK(T:List (Nat×bV))(σ:St)(t:Nat)(ok:Bool)(_g:Option Bool)(vx vy:AV)(K:AV→Prop):Prop:=match vx,vy with
 |.s (.mp b),.s (.d (.val (.string k)))=>match aH σ.box b with
  |some (some (.smap vk l))=>match dE T t with
   |some ti=>match ti.j7 with
    |.map kt et=>bif yZ T kt&&zOK T et vk then match ok with
     |true=>K (.t [.s (.d (vk.dv (gW l k))),.s (.d (.val (.bool (WD l k))))])
     |false=>K (.s (.d (vk.dv (gW l k))))
     else False
    |_=>False
   |none=>False
  |_=>False
 |_,_=>False
theorem aLK.spec{T:List (Nat×bV)}(hT:cD P T){t:Nat}{x y:Operand}{ok:Bool}(ho:o.op=.lookup t x y ok)(h:fe g (ev σ x) fun va=>fe g (ev σ y) fun vb=>qK T σ t ok g va vb K):
  ∃r,K r∧jW P o σ g r:=by
 replace h:=fe.ev h
 obtain⟨vx,h,tB⟩:=h
 replace h:=fe.ev h
 obtain⟨vy,h,JV⟩:=h
 unfold qK at h
 split at h
 case h_2=>cases h
 rename_i b k
 split at h
 case h_2=>cases h
 rename_i vk l hb
 split at h
 case h_2=>cases h
 rename_i ti gG
 split at h
 case h_2=>cases h
 rename_i kt et hu
 cases hk:(yZ T kt&&zOK T et vk)with
 |false=>rw[hk]at h;cases h
 |true=>
  rw[hk]at h;simp only [cond_true]at h;simp only [Bool.and_eq_true]at hk;have SK:=yZ.spec hT hk.1;have dB:=(hT.get gG).EM hu;have key:∀(ha:act g) cx N M β a w,Inv cx N M β σ a w→(execOp a.eval o).run P w=.ok (.value (if ok=true then .tuple #[vk.val (gW l k),.bool (WD l k)]else vk.val (gW l k))) w:=by
   intro ha cx N M β a w i;obtain⟨bb,c,e1,ex⟩:=tB ha cx N M β a w i;obtain⟨b',c',e2,hh⟩:=i.box b _ hb;rw[e1]at e2;cases e2;have ey:a.eval y=.string k:=JV ha cx N M β a w i;have hz:=zOK.spec hT hk.2 w;have jL:(Instr.checkKey (eL vk l 0).toArray.isEmpty 10000 kt (.string k)).run P w=.ok () w:=jC w SK _ k 9999;have oL:=BB (P:=P) w SK vk k l;have hf:=B6 vk k l 0
   cases hfa:k9 vk l k 0 with
   |none=>
    rw[hfa]at oL hf;have hf:(nS l k).map vk.val=none:=hf.symm;have hn:nS l k=none:=by simpa using hf
    simp only [List.isEmpty_toArray]at jL;simp only [execOp,ho,ex,ey]
    cases ok <;> simp[Instr.lookup,run_underlying dB,MapKept.run_getObj_map hh,jL,oL,hz,hn,WD,gW]
   |some pr=>
    obtain⟨p,u⟩:=pr;rw[hfa]at oL hf;have hf:(nS l k).map vk.val=some u:=hf.symm;obtain⟨n,hn,WA⟩:=Option.map_eq_some_iff.1 hf;simp only [List.isEmpty_toArray]at jL;simp only [execOp,ho,ex,ey]
    cases ok <;> simp[Instr.lookup,run_underlying dB,MapKept.run_getObj_map hh,jL,oL,hn,WA,WD,gW]
  cases ok with
  |true=>exact⟨_,h,fun ha cx N M β a w i=>⟨_,key ha cx N M β a w i,_,rfl,VK.vJ vk _ M,rfl,trivial⟩⟩
  |false=>exact⟨_,h,fun ha cx N M β a w i=>⟨_,key ha cx N M β a w i,VK.vJ vk _ M⟩⟩
theorem aJG.spec{x:Operand}(ho:o.op=.entry x)(h:fe g (ev σ x) fun va=>NT σ va K):∃r,K r∧jW P o σ g r:=by
 replace h:=fe.ev h;obtain⟨vx,h,tB⟩:=h;unfold NT at h;split at h
 case h_2=>cases h
 rename_i b;split at h
 case h_2=>cases h
 rename_i m n j seen hb;split at h
 case h_2=>cases h
 rename_i vk l hm;obtain⟨hl,hj,h⟩:=h;subst hl;refine⟨_,h,fun ha cx N M β a w i=>?_⟩;obtain⟨bb,c,e1,ex⟩:=tB ha cx N M β a w i;obtain⟨b',c',bm,cm,e2,em,hh⟩:=i.box b _ hb;rw[e1]at e2;cases e2;obtain⟨bm',cm',RG,hhm⟩:=i.box m _ hm;rw[em]at RG;cases RG;have fZ:j<(eL vk l 0).length:=by rw[vG];exact hj
 have hg:=List.getElem?_eq_getElem fZ;obtain⟨_,k2⟩:=tX vk l 0 j _ hg;rw[Nat.zero_add]at k2;have kK:=List.getElem_mem fZ;generalize (eL vk l 0)[j]=e at*;subst k2;have qO:(j::seen).reverse.toArray=seen.reverse.toArray.push j:=sM;rw[qO]at hh;have a7:=run_entry_at (P:=P) w bb bm l.length seen.reverse.toArray (eL vk l 0).toArray l.length {key:=.string (l.getD j (⟨#[]⟩,0)).1,val:=vk.val (l.getD j (⟨#[]⟩,0)).2,born:=j} hh hhm (by simpa using kK) (by rw[show(eL vk l 0).toArray.toList=eL vk l 0 from rfl,ID];exact List.nodup_range');exact⟨.tuple #[.string (l.getD j (⟨#[]⟩,0)).1,vk.val (l.getD j (⟨#[]⟩,0)).2],by simp[execOp,ho,ex,a7],[.string (l.getD j (⟨#[]⟩,0)).1,vk.val (l.getD j (⟨#[]⟩,0)).2],rfl,rfl,VK.vJ _ _ _,trivial⟩
end
theorem wO.len{M:Mem}:∀{l:List (ByteArray×Nat×DV)} {vs:List Value},wO M l vs→l.length=vs.length
 |[],[],_=>rfl
 |(_,_,_)::_,_::_,h=>congrArg (· +1) (wO.len h.2)
 |[],_::_,h=>h.elim
 |(_,_,_)::_,[],h=>h.elim
theorem DU{M:Mem}:∀{l:List (ByteArray×Nat×DV)} {vs:List Value},wO M l vs→∀e,e∈lY l vs↔∃(j:Nat) (q:ByteArray×Nat×DV) (v:Value),l[j]? =some q∧vs[j]? =some v∧e= {key:=.string q.1,val:=v,born:=q.2.1}
 |[],[],_,e=>by simp[lY]
 |(k,b,x)::r,v::vs,h,e=>by
  simp only [lY,List.mem_cons,DU h.2 e];constructor
  ·rintro(rfl|⟨j,q,u,h1,h2,h3⟩)
   ·exact⟨0,(k,b,x),v,rfl,rfl,rfl⟩
   exact⟨j+1,q,u,h1,h2,h3⟩
  rintro⟨j,q,u,h1,h2,h3⟩
  cases j with
  |zero=>cases h1;cases h2;exact .inl h3
  |succ j=>exact .inr ⟨j,q,u,h1,h2,h3⟩
 |[],_::_,h,_=>h.elim
 |(_,_,_)::_,[],h,_=>h.elim
theorem wO.get{M:Mem}:∀{l:List (ByteArray×Nat×DV)} {vs:List Value} {j:Nat} {q:ByteArray×Nat×DV} {v:Value},wO M l vs→l[j]? =some q→vs[j]? =some v→q.2.2.bI M v
 |(k,b,x)::r,v::vs,0,q,u,h,h1,h2=>by cases h1;cases h2;exact h.1
 |(k,b,x)::r,v::vs,j+1,q,u,h,h1,h2=>wO.get (l:=r) (vs:=vs) (j:=j) h.2 h1 h2
 |[],[],_,_,_,_,h1,_=>by simp at h1
 |[],_::_,_,_,_,h,_,_=>h.elim
 |(_,_,_)::_,[],_,_,_,h,_,_=>h.elim
theorem IF{M:Mem}:∀{l:List (ByteArray×Nat×DV)} {vs:List Value},wO M l vs→(lY l vs).map (·.born)=l.map (·.2.1)
 |[],[],_=>rfl
 |(k,b,x)::r,v::vs,h=>by simp only [lY,List.map_cons,IF h.2]
 |[],_::_,h=>h.elim
 |(_,_,_)::_,[],h=>h.elim
def findD:List (ByteArray×Nat×DV)→ByteArray→Option DV
 |[],_=>none
 |(a,_,v)::r,k=>bif k==a then some v else findD r k
theorem LK{M:Mem}(k:ByteArray):∀(l:List (ByteArray×Nat×DV)) (vs:List Value) (i:Nat),wO M l vs→∃r,Instr.findNow .string (.string k) (lY l vs) i=some r∧match findD l k with
  |none=>r=none
  |some x=>∃j v,r=some (j,v)∧x.bI M v
 |[],[],_,_=>⟨none,rfl,rfl⟩
 |(a,b,x)::r,v::vs,i,h=>by
  simp only [lY,Instr.findNow,Instr.sameNow,findD]
  cases hk:k==a with
  |true=>exact⟨_,rfl,_,_,rfl,h.1⟩
  |false=>exact LK k r vs (i+1) h.2
 |[],_::_,_,h=>h.elim
 |(_,_,_)::_,[],_,h=>h.elim
section
variable{P:Program}{σ:St}{K:AV→aP→Prop}{o:Oper}
def MK(T:List (Nat×bV))(σ:St)(d t:Nat)(x:Operand)(K:AV→aP→Prop):Prop:=
 fe none (ev σ x) fun vx=>match vx with
  |.s (.mp b)=>match aH σ.box b with
   |some (some (.dm _ n))=>match dE T t with
    |some ti=>match ti.j7 with
     |.map _ _=>match aH σ.box d with
      |none=>K (.s (.ptr d 0)) ((d,some (.iter b n []))::σ.box)
      |some _=>False
     |_=>False
    |none=>False
   |_=>False
  |_=>False
theorem aH9.spec{T:List (Nat×bV)}(hT:cD P T){d t:Nat}{x:Operand}(ho:o.op=.range t x)(h:MK T σ d t x K):∃r bx,K r bx∧KI P o σ r bx:=by
 unfold MK at h;replace h:=fe.ev h;obtain⟨vx,h,tB⟩:=h;split at h
 case h_2=>cases h
 rename_i b;split at h
 case h_2=>cases h
 rename_i l n hb;split at h
 case h_2=>cases h
 rename_i ti gG;split at h
 case h_2=>cases h
 rename_i kt et hu;have dB:=(hT.get gG).EM hu;split at h
 case h_2=>cases h
 rename_i hd;refine⟨_,_,h,fun cx N M β a w i=>?_⟩;obtain⟨bb,c,e1,ex⟩:=tB iY cx N M β a w i;obtain⟨b',c',vs,e2,hh,hr⟩:=i.box b _ hb;rw[e1]at e2;cases e2;have a7:(execOp a.eval o).run P w=.ok (.value (.pointer (some ⟨w.heap.size,0,none⟩))) (w.alloc (.mapIter (some bb) n #[] n)):=by simp[execOp,ho,ex,run_range_map w t kt et bb _ _ dB hh]
 obtain⟨β',h1,h2,h3,h4⟩:=i.new (w':=w.alloc (.mapIter (some bb) n #[] n)) (c:=(0,0)) hd (ob:=.mapIter (some bb) n #[] n) rfl rfl rfl rfl (bc:=.iter b n []) (by intro β' e hle;exact⟨_,_,_,_,e,hle _ _ e1,heap_alloc_new w _⟩);exact vw
def TE(σ:St)(x:Operand)(K:AV→aP→Prop):Prop:=
 fe none (ev σ x) fun vx=>match vx with
  |.s (.ptr b 0)=>match aH σ.box b with
   |some (some (.iter m n seen))=>match aH σ.box m with
    |some (some (.dm l c))=>c=n∧(∀q∈l,q.2.1<n)∧((∀q∈l,q.2.1∈seen)→K (.t [.s (.d (.lit false))]) σ.box)∧
      (∀q∈l,q.2.1∉seen→K (.t [.s (.d (.lit true)),.s (.d (.val (.string q.1))),.s (.d q.2.2)]) ((b,some (.iter m n (q.2.1::seen)))::σ.box))
    |_=>False
   |_=>False
  |_=>False
theorem aLH.spec{x:Operand}(ho:o.op=.next x false)(h:TE σ x K){cx:Cx}{N:Nat}{M:Mem}{β:Nm}{a:Act}{w:World}(i:Inv cx N M β σ a w):
  ∃r bx,K r bx∧∃v w',(execOp a.eval o).run P w=.ok (.value v) w'∧r.bI M β v∧Inv cx N M β ⟨σ.env,bx⟩ a w'∧cE cx w w':=by
 unfold TE at h
 replace h:=fe.ev h
 obtain⟨vx,h,tB⟩:=h
 split at h
 case h_2=>cases h
 rename_i b
 split at h
 case h_2=>cases h
 rename_i m n seen hb
 split at h
 case h_2=>cases h
 rename_i l c0 hm
 obtain⟨rfl,fZ,h1,h2⟩:=h
 obtain⟨bb,c,e1,ex⟩:=tB iY cx N M β a w i
 obtain⟨b',c',bm,cm,e2,em,hh⟩:=i.box b _ hb
 rw[e1]at e2;cases e2
 obtain⟨bm',cm',vs,RG,hhm,WB⟩:=i.box m _ hm
 rw[em]at RG;cases RG
 have hmm:=DU WB
 have hold:∀x∈(lY l vs).toArray.toList,x.born<c0:=by intro x hx;obtain⟨j,q,v,k1,_,k2⟩:=(hmm x).1 hx;rw[k2];exact fZ q (List.mem_of_getElem? k1)
 have kK:∀e,e∈(leftOf (lY l vs).toArray seen.reverse.toArray).toList↔∃(j:Nat) (q:ByteArray×Nat×DV) (v:Value),l[j]? =some q∧vs[j]? =some v∧q.2.1∉seen∧e= {key:=.string q.1,val:=v,born:=q.2.1}:=by
  intro e;unfold leftOf;simp only [Array.toList_filter,List.mem_filter];constructor
  ·rintro⟨hx,hs⟩;obtain⟨j,q,v,k1,k2,k3⟩:=(hmm e).1 hx;refine⟨j,q,v,k1,k2,?_,k3⟩;rw[k3]at hs;simpa using hs
  rintro⟨j,q,v,k1,k2,k3,rfl⟩;exact⟨(hmm _).2 ⟨j,q,v,k1,k2,rfl⟩,by simpa using k3⟩
 rcases run_next_at (P:=P) w o.type bb bm c0 c0 seen.reverse.toArray (lY l vs).toArray c0 hh hhm hold (Nat.le_refl _)with⟨hz,a7⟩|⟨e,he,w1,V7,a7⟩
 ·refine⟨_,_,h1 (fun q hq=>?_),_,w,by simp[execOp,ho,ex,a7],⟨[.bool false],rfl,rfl,trivial⟩,i,cE.refl _ _⟩;refine Classical.byContradiction fun hs=>?_
  obtain⟨j,hj⟩:=List.getElem?_of_mem hq;have tC:j<vs.length:=by rw[←WB.len];exact(List.getElem?_eq_some_iff.1 hj).1
  have:=(kK _).2 ⟨j,q,vs[j],hj,List.getElem?_eq_getElem tC,hs,rfl⟩;have TT:(leftOf (lY l vs).toArray seen.reverse.toArray).toList=[]:=List.eq_nil_of_length_eq_zero zeM;exact zdD
 ·obtain⟨j,q,v,k1,k2,k3,rfl⟩:=(kK e).1 he;obtain⟨q1,q2,q3,q4⟩:=vK V7;have hh1:w1.heap[bb]? =some (.mapIter (some bm) c0 seen.reverse.toArray c0):=by rw[q1];exact hh
  have qO:seen.reverse.toArray.push q.2.1=(q.2.1::seen).reverse.toArray:=sM;have QR:(execOp a.eval o).run P w=.ok (.value (.tuple #[.bool true,.string q.1,v])) (setBlock w1 bb (.mapIter (some bm) c0 (q.2.1::seen).reverse.toArray c0)):=by exact zdH
  have hw:=i.write (bc':=.iter m c0 (q.2.1::seen)) hb e1 (w':=setBlock w1 bb (.mapIter (some bm) c0 (q.2.1::seen).reverse.toArray c0)) (by rw[gC,q1]) (fun k hk=>by rw[fD _ _ _ hk,q1]) q2 q3 q4
   ⟨bb,c,bm,cm,e1,em,iS hh1⟩ trivial
  exact⟨_,_,h2 q (List.mem_of_getElem? k1) k3,_,_,QR,⟨_,rfl,rfl,rfl,WB.get k1 k2,trivial⟩,hw.1,hw.2⟩
end
section
variable{P:Program}{σ:St}{g:Option Bool}{K:AV→Prop}{o:Oper}
def NU(σ:St)(va:AV)(K:AV→Prop):Prop:=match va with
 |.s (.ptr b 0)=>match aH σ.box b with
  |some (some (.iter m n (i::_)))=>match aH σ.box m with
   |some (some (.dm l c))=>c=n∧(l.map (·.2.1)).Nodup∧∃q,q∈l∧q.2.1=i∧K (.t [.s (.d (.val (.string q.1))),.s (.d q.2.2)])
   |_=>False
  |_=>False
 |_=>False
theorem aJH.spec{x:Operand}(ho:o.op=.entry x)(h:fe g (ev σ x) fun va=>NU σ va K):∃r,K r∧jW P o σ g r:=by
 replace h:=fe.ev h;obtain⟨vx,h,tB⟩:=h;unfold NU at h;split at h
 case h_2=>cases h
 rename_i b;split at h
 case h_2=>cases h
 rename_i m n j seen hb;split at h
 case h_2=>cases h
 rename_i l c0 hm;obtain⟨rfl,YP,q,hq,rfl,h⟩:=h;refine⟨_,h,fun ha cx N M β a w i=>?_⟩;obtain⟨bb,c,e1,ex⟩:=tB ha cx N M β a w i;obtain⟨b',c',bm,cm,e2,em,hh⟩:=i.box b _ hb;rw[e1]at e2;cases e2;obtain⟨bm',cm',vs,RG,hhm,WB⟩:=i.box m _ hm;rw[em]at RG;cases RG;obtain⟨j,hj⟩:=List.getElem?_of_mem hq;have tC:j<vs.length:=by rw[←WB.len];exact(List.getElem?_eq_some_iff.1 hj).1
 have hv:=List.getElem?_eq_getElem tC;have kK:=(DU WB {key:=.string q.1,val:=vs[j],born:=q.2.1}).2 ⟨j,q,vs[j],hj,hv,rfl⟩;have qO:(q.2.1::seen).reverse.toArray=seen.reverse.toArray.push q.2.1:=sM;rw[qO]at hh;have a7:=run_entry_at (P:=P) w bb bm c0 seen.reverse.toArray (lY l vs).toArray c0 {key:=.string q.1,val:=vs[j],born:=q.2.1} hh hhm (by simpa using kK) (by rw[show(lY l vs).toArray.toList=lY l vs from rfl,IF WB];exact YP);exact⟨.tuple #[.string q.1,vs[j]],by simp[execOp,ho,ex,a7],[.string q.1,vs[j]],rfl,rfl,WB.get hj hv,trivial⟩
def BU(T:List (Nat×bV))(σ:St)(op:Op):Option (List (ByteArray×Nat×DV)×ByteArray):=match op with
 |.lookup t x y false=>match ev σ x,ev σ y with
  |.s (.mp b),.s (.d (.val (.string k)))=>match aH σ.box b with
   |some (some (.dm l _))=>match dE T t with
    |some ti=>match ti.j7 with
     |.map kt et=>bif yZ T kt&&(match dE T et with|some te=>(match te.zero with|[.slice none 0 0]=> !te.agg|_=>false)|none=>false)then some (l,k)else none
     |_=>none
    |none=>none
   |_=>none
  |_,_=>none
 |_=>none
def aKO:Option DV→DV
 |some x=>x
 |none=>.val (.slice none 0 0)
theorem BU.spec{T:List (Nat×bV)}(hT:cD P T){l:List (ByteArray×Nat×DV)}{k:ByteArray}(h:BU T σ o.op=some (l,k)){cx:Cx}{N:Nat}{M:Mem}{β:Nm}{a:Act}{w:World}(i:Inv cx N M β σ a w):
  ∃v,(execOp a.eval o).run P w=.ok (.value v) w∧(aKO (findD l k)).bI M v:=by
 unfold BU at h
 split at h
 case h_2=>cases h
 rename_i t x y oT
 split at h
 case h_2=>cases h
 rename_i b k' hx hy
 split at h
 case h_2=>cases h
 rename_i l' n hb
 split at h
 case h_2=>cases h
 rename_i ti gG
 split at h
 case h_2=>cases h
 rename_i kt et hu
 cases hc:(yZ T kt&&(match dE T et with|some te=>(match te.zero with|[.slice none 0 0]=> !te.agg|_=>false)|none=>false))with
 |false=>rw[hc]at h;cases h
 |true=>
  rw[hc]at h;simp only [cond_true,Option.some.injEq,Prod.mk.injEq]at h;obtain⟨rfl,rfl⟩:=h;simp only [Bool.and_eq_true]at hc;have SK:=yZ.spec hT hc.1;have dB:=(hT.get gG).EM hu;have hz:(zeroValue et).run P w=.ok (.slice none 0 0) w:=by
   have h2:=hc.2;split at h2
   case h_2=>cases h2
   rename_i te nD;split at h2
   case h_2=>cases h2
   rename_i hzz;obtain⟨ti,z,q1,q2,q3⟩:=(hT.get nD).one (by simpa using h2);rw[hzz]at q3
   cases q3
   simp[zeroValue,typeInfo,q1,q2]
  have rx:=ev.rep i x;have ry:=ev.rep i y;rw[hx]at rx;rw[hy]at ry;obtain⟨bb,c,e1,ex⟩:=rx;have ey:a.eval y=.string k':=ry;obtain⟨b',c',vs,e2,hh,WB⟩:=i.box b _ hb;rw[e1]at e2;cases e2;have jL:∀b,(Instr.checkKey b 10000 kt (.string k')).run P w=.ok () w:=fun b=>jC w SK b k' 9999
  obtain⟨r,hr1,YL⟩:=LK k' l' vs 0 WB;have oL:(Instr.findKey kt (.string k') (lY l' vs)).run P w=.ok r w:=by simp[Instr.findKey,run_underlying SK,hr1]
  cases hf:findD l' k' with
  |none=>rw[hf]at YL;subst YL;refine⟨.slice none 0 0,?_,rfl⟩;simp only [execOp,oT,ex,ey];simp[Instr.lookup,run_underlying dB,MapKept.run_getObj_map hh,jL,oL,hz]
  |some xv=>rw[hf]at YL;obtain⟨j,v,rfl,hv⟩:=YL;refine⟨v,?_,hv⟩;simp only [execOp,oT,ex,ey];simp[Instr.lookup,run_underlying dB,MapKept.run_getObj_map hh,jL,oL]
end
def YB(T:List (Nat×bV))(t:Nat):Bool:=match dE T t with
 |some ti=>match ti.j7 with
  |.map k _=>yZ T k
  |_=>false
 |none=>false
def aLV(σ:St)(x:Operand):Bool:=match ev σ x with
 |.s (.ptr b 0)=>match aH σ.box b with
  |some (some (.iter m _ _))=>match aH σ.box m with
   |some (some (.smap _ _))=>true
   |_=>false
  |_=>false
 |_=>false
def aO6(σ:St)(x:Operand):Bool:=match ev σ x with
 |.s (.mp b)=>match aH σ.box b with
  |some (some (.dm _ _))=>true
  |_=>false
 |_=>false
def aLW(σ:St)(x:Operand):Bool:=match ev σ x with
 |.s (.ptr b 0)=>match aH σ.box b with
  |some (some (.iter m _ _))=>match aH σ.box m with
   |some (some (.dm _ _))=>true
   |_=>false
  |_=>false
 |_=>false
def G9(T:List (Nat×bV))(σ:St)(d t:Nat)(K:AV→aP→Prop):Prop:=match YB T t with
 |true=>MV T σ d t K
 |false=>TF T σ d t K
def aAF(T:List (Nat×bV))(σ:St)(t:Nat)(x y z:Operand)(K:AV→aP→Prop):Prop:=match YB T t with
 |true=>aAE T σ t x y z K
 |false=>aHQ T σ t x y z K
def GW(T:List (Nat×bV))(σ:St)(d t:Nat)(x:Operand)(K:AV→aP→Prop):Prop:=match aO6 σ x with
 |true=>MK T σ d t x K
 |false=>match YB T t with
  |true=>MJ T σ d t x K
  |false=>S6 T σ d t x K
def PU(σ:St)(x:Operand)(K:AV→aP→Prop):Prop:=match aLW σ x with
 |true=>TE σ x K
 |false=>match aLV σ x with
  |true=>TD σ x K
  |false=>aBM σ x K
def IG(σ:St)(x:Operand)(K:AV→Prop):Prop:=match aLW σ x with
 |true=>fe none (ev σ x) fun va=>NU σ va K
 |false=>match aLV σ x with
  |true=>fe none (ev σ x) fun va=>NT σ va K
  |false=>fe none (ev σ x) fun va=>UE σ va K
def rX(T:List (Nat×bV))(σ:St)(t:Nat)(ok:Bool)(g:Option Bool)(va vb:AV)(K:AV→Prop):Prop:=match YB T t with
 |true=>qK T σ t ok g va vb K
 |false=>xE T σ t ok g va vb K
section
variable{P:Program}{T:List (Nat×bV)}{σ:St}{o:Oper}
theorem G9.spec{K:AV→aP→Prop}{d t:Nat}(ho:o.op=.makeMap t none)(h:G9 T σ d t K):∃r bx,K r bx∧KI P o σ r bx:=by
 unfold G9 at h;split at h
 ·exact aIP.spec ho h
 exact mkMap.spec ho h
theorem aAF.spec{K:AV→aP→Prop}(hT:cD P T){t:Nat}{x y z:Operand}(ho:o.op=.mapUpdate t x y z)(h:aAF T σ t x y z K):∃r bx,K r bx∧KI P o σ r bx:=by
 unfold aAF at h;split at h
 ·exact aN6.spec hT ho h
 exact upd.spec hT ho h
theorem GW.spec{K:AV→aP→Prop}(hT:cD P T){d t:Nat}{x:Operand}(ho:o.op=.range t x)(h:GW T σ d t x K):∃r bx,K r bx∧KI P o σ r bx:=by
 unfold GW at h;split at h
 ·exact aH9.spec hT ho h
 split at h
 ·exact aH8.spec hT ho h
 exact range.spec hT ho h
theorem PU.spec{K:AV→aP→Prop}{x:Operand}(ho:o.op=.next x false)(h:PU σ x K){cx:Cx}{N:Nat}{M:Mem}{β:Nm}{a:Act}{w:World}(i:Inv cx N M β σ a w):
  ∃r bx,K r bx∧∃v w',(execOp a.eval o).run P w=.ok (.value v) w'∧r.bI M β v∧Inv cx N M β ⟨σ.env,bx⟩ a w'∧cE cx w w':=by
 unfold PU at h
 split at h
 ·exact aLH.spec ho h i
 split at h
 ·exact aLG.spec ho h i
 ·exact next.spec ho h i
theorem IG.spec{K:AV→Prop}{x:Operand}(ho:o.op=.entry x)(h:IG σ x K):∃r,K r∧jW P o σ none r:=by
 unfold IG at h;split at h
 ·exact aJH.spec ho h
 split at h
 ·exact aJG.spec ho h
 exact entry.spec ho h
theorem rX.spec{g:Option Bool}{K:AV→Prop}(hT:cD P T){t:Nat}{x y:Operand}{ok:Bool}(ho:o.op=.lookup t x y ok)(h:fe g (ev σ x) fun va=>fe g (ev σ y) fun vb=>rX T σ t ok g va vb K):
  ∃r,K r∧jW P o σ g r:=by
 unfold rX at h
 split at h
 ·exact aLK.spec hT ho h
 ·exact look.spec hT ho h
end
end Go.Ax
namespace Go.Ax
open Go.RowKit
theorem zW(P:Program)(w:World)(t ty e:TypeId)(i:TypeInfo)(ht:P.underlying t=some (.slice e))(hi:P.info? e=some i)
  (g o DB S0:Nat) (cur:Array Value) (hg:w.heap[g]? =some (.cells cur e (0,0)))
  (a:Addr) (m c:Nat) (news:List Value) (hl:news.length=m*i.size) (aL5:∀j u,news[j]? =some u→w.cell? (a.add j)=some u) (h1:∀u∈news,u.oneCell'=true)
  (rY:DB+m≤S0) (oW:o+DB*i.size+news.length≤cur.size):
  (Builtin.append_ #[t,t] ty #[.slice (some ⟨g,o,none⟩) DB S0,.slice (some a) m c]).run P w=
   .ok (.slice (some ⟨g,o,none⟩) (DB+m) S0) (w.setRow g (cur.toList.take (o+DB*i.size)++news++cur.toList.drop (o+DB*i.size+news.length)).toArray):=by
 have hf:=run_firstCells_some (P:=P) w i.size m a m c news hl aL5
 have jO:=run_storeCells_at P g (o+DB*i.size) e news 0 cur w hg (by simpa using oW) h1
 simp only [Nat.add_zero]at jO
 simp[Builtin.append_,run_underlying ht,sizeOf,typeInfo,hi,Builtin.lenOf,rY,hf,jV,jO]
section
variable{P:Program}{σ:St}{K:AV→aP→Prop}{o:Oper}
def aDU(T:List (Nat×bV))(σ:St)(d t:Nat)(x y:Operand)(K:AV→aP→Prop):Prop:=
 fe none (ev σ x) fun vx=>fe none (ev σ y) fun vy=>match dE T t with
  |some ti=>match ti.j7 with
   |.slice e=>match dE T e with
    |some te=>match aH σ.box d with
     |none=>match sF σ vy with
      |some (m,s',g)=>bif Nat.beq s' te.size&&Nat.blt 0 te.size&&Nat.blt 0 te.bytes&&Nat.beq te.zero.length te.size then
       match vx with
       |.s (.j0 b s2 lo n)=>match aH σ.box b with
        |some (some (.row e' _ s f))=>bif Nat.beq e' e&&Nat.beq s te.size&&Nat.beq s2 te.size then
          0≤m∧(lo+n+m)*te.bytes≤140737488355328∧fitAll m s' g∧
          K (.s (.j0 d te.size lo (n+m))) ((d,some (.row e (lo+n+m) te.size (jM (lo+n) f g)))::(b,none)::σ.box)∧
          K (.s (.j0 d te.size 0 (n+m))) ((d,some (.row e (n+m) te.size (jM n (fun i=>f (lo+i)) g)))::(b,none)::σ.box)
          else False
        |_=>False
       |_=>False
       else False
      |none=>False
     |some _=>False
    |none=>False
   |_=>False
  |none=>False
theorem aQA.spec{T:List (Nat×bV)}(hT:cD P T){d t:Nat}{x y:Operand}(ho:o.op=.call {callee:=.builtin .append,args:= #[x,y],argTypes:= #[t,t]})
  (h:aDU T σ d t x y K) {cx:Cx} {N:Nat} {M:Mem} {β:Nm} {a:Act} {w:World} (i:Inv cx N M β σ a w):∃r bx,K r bx∧OI P o σ cx N M a w r bx:=by
 unfold aDU at h
 replace h:=fe.ev h
 obtain⟨vx,h,tB⟩:=h
 replace h:=fe.ev h
 obtain⟨vy,h,JV⟩:=h
 split at h
 case h_2=>cases h
 rename_i ti gG
 have gF:=hT.get gG
 split at h
 case h_2=>cases h
 rename_i e hu
 have dB:P.underlying t=some (.slice e):=gF.isSlice hu
 split at h
 case h_2=>cases h
 rename_i te nD
 have mS:=hT.get nD
 split at h
 case h_2=>cases h
 rename_i hd
 split at h
 case h_2=>cases h
 rename_i m s' g xN
 cases hc:(Nat.beq s' te.size&&Nat.blt 0 te.size&&Nat.blt 0 te.bytes&&Nat.beq te.zero.length te.size)with
 |false=>rw[hc]at h;cases h
 |true=>
  rw[hc]at h
  simp only [cond_true]at h
  simp only [Bool.and_eq_true]at hc
  have c1:=Nat.eq_of_beq_eq_true hc.1.1.1
  have c2:0<te.size:=Nat.le_of_ble_eq_true hc.1.1.2
  have c3:0<te.bytes:=Nat.le_of_ble_eq_true hc.1.2
  have c4:=Nat.eq_of_beq_eq_true hc.2
  subst c1
  obtain⟨ie,z,EU,y8,QZ,SM,LB⟩:=mS.K8
  have JU:z.cells.size=te.size:=by rw[←Array.length_toList,LB,c4]
  have run:∀(w':World) (r:Value),(Builtin.append_ #[t,t] o.type #[a.eval x,a.eval y]).run P w=.ok r w'→(execOp a.eval o).run P w=.ok (.value r) w':=by
   exact zbH
  split at h
  case h_2=>cases h
  rename_i b s2 lo n
  split at h
  case h_2=>cases h
  rename_i e' n0 s f hb
  cases pV:(Nat.beq e' e&&Nat.beq s te.size&&Nat.beq s2 te.size)with
  |false=>rw[pV]at h;cases h
  |true=>
   rw[pV]at h
   simp only [cond_true]at h
   simp only [Bool.and_eq_true]at pV
   have k1:=(Nat.eq_of_beq_eq_true pV.1.1).symm
   have k2:=Nat.eq_of_beq_eq_true pV.1.2
   have k3:=Nat.eq_of_beq_eq_true pV.2
   subst k1;subst k2;subst k3
   obtain⟨_,mT,oW,hK1,hK2⟩:=h
   obtain⟨k,c,o',e1,ex,hoo,hln,wI⟩:=tB iY cx N M β a w i
   obtain⟨k',c',cur,e2,hh,hlen,mL,hn0,I9,cY⟩:=i.box b _ hb
   rw[e1]at e2;cases e2
   obtain⟨ad,cap,ey,hy⟩:=sF.rep i xN (JV iY cx N M β a w i)
   by_cases hm0:m=0
   ·subst hm0
    have ES:(Builtin.append_ #[t,t] o.type #[a.eval x,a.eval y]).run P w=.ok (.slice (some ⟨k,o',none⟩) (n+0) (c.1 - lo)) w:=by
     have hf:(Builtin.firstCells te.size 0 (.slice ad 0 cap)).run P w=.ok #[] w:=by
      exact zdg
     have hn:n≤c.1 - lo:=oM
     rw[ex,ey]
     exact zbP
    obtain⟨β',iX,HT,hinv,qQ⟩:=i.move (c':=(c.1,lo+n+0)) (bc':=.row e (lo+n+0) te.size (jM (lo+n) f g)) hb e1 hd
     (w':=w) rfl (fun j hj=>rfl) rfl rfl rfl (by
      intro β' iX _
      refine⟨k,_,_,iX,hh,rfl,mL,by show lo+n+0≤c.1;omega,I9,fun p j hp hj=>?_⟩
      obtain⟨u,hu,hr⟩:=cY p j oM hj
      exact⟨u,hu,by unfold jM;rw[if_pos oM];exact hr⟩)
    exact⟨_,_,hK1,_,_,M,β',.inl (run _ _ ES),⟨k,_,o',iX,rfl,hoo,by show lo+(n+0)≤lo+n+0;omega,by show lo+n+0≤c.1;omega⟩,hinv,Grow.refl _ _,qQ⟩
   have hm:0<m:=oM
   obtain⟨bad,news,rfl,hl,kB,pL⟩:=DI c2 hm hy
   have hnm:lo+n+m≤140737488355328:=Nat.le_trans (Nat.le_mul_of_pos_right _ c3) mT
   have h1:∀u∈news,u.oneCell'=true:=by
    exact ui
   by_cases rY:lo+n+m≤c.1
   ·
    have DR:lo<c.1:=oM
    have sO:=hoo DR
    subst sO
    have aLY:(lo+n)*te.size+m*te.size≤cur.size:=by rw[mL,←Nat.add_mul];exact Nat.mul_le_mul_right _ rY
    have hmul:lo*te.size+n*te.size=(lo+n)*te.size:=(Nat.add_mul _ _ _).symm
    have ES:=zW P w t o.type e ie dB EU k (lo*te.size) n (c.1 - lo) cur hh bad m cap news ze0 kB h1 oM (by rw[y8,hl,hmul];exact aLY)
    rw[y8,hmul,←ex,←ey]at ES
    have TP:(cur.toList.take ((lo+n)*te.size)).length=(lo+n)*te.size:=by simp;omega
    obtain⟨β',iX,HT,hinv,qQ⟩:=i.move (c':=(c.1,lo+n+m)) (bc':=.row e (lo+n+m) te.size (jM (lo+n) f g)) hb e1 hd
     (w':=w.setRow k (cur.toList.take ((lo+n)*te.size)++news++cur.toList.drop ((lo+n)*te.size+news.length)).toArray) sM (fun j hj=>setRow_other w k j _ hj) rfl rfl rfl (by
      intro β' iX _
      refine⟨k,_,_,iX,setRow_heap w k cur _ e _ hh,rfl,by simp;omega,rY,I9,fun p j hp hj=>?_⟩
      simp only [List.getElem?_toArray,jM]
      by_cases QT:p<lo+n
      ·obtain⟨u,hu,hr⟩:=cY p j oM hj
       have fZ:p*te.size+j<(lo+n)*te.size:=by
        have:(p+1)*te.size≤(lo+n)*te.size:=Nat.mul_le_mul_right _ QT
        exact qp
       exact zaw
      ·obtain⟨u,hu,hr⟩:=pL (p - (lo+n)) j oM hj
       refine⟨u,?_,by rw[if_neg QT];exact hr⟩
       have hpe:p*te.size+j=(lo+n)*te.size+((p - (lo+n))*te.size+j):=by
        have:p=lo+n+(p - (lo+n)):=oM
        rw[←Nat.add_assoc,←Nat.add_mul,←this]
       have fZ:(p - (lo+n))*te.size+j<m*te.size:=by
        have:(p - (lo+n)+1)*te.size≤m*te.size:=Nat.mul_le_mul_right _ oM
        exact qp
       rw[hpe,List.append_assoc,List.getElem?_append_right oM,TP,Nat.add_sub_cancel_left,List.getElem?_append_left oM]
       exact hu)
    exact⟨_,_,hK1,_,_,M,β',.inl (run _ _ ES),⟨k,_,_,iX,rfl,fun _=>rfl,by show lo+(n+m)≤lo+n+m;omega,rY⟩,hinv,Grow.refl _ _,qQ⟩
   ·
    have aCH:((cur.toList.drop (lo*te.size)).take (n*te.size)).length=n*te.size:=by
     have:(lo+n)*te.size≤c.1*te.size:=Nat.mul_le_mul_right _ oM
     rw[Nat.add_mul]at this
     simp;omega
    have SN:=run_append_grow (P:=P) w t o.type e ie z dB EU SM ⟨k,o',none⟩ n (c.1 - lo) ((cur.toList.drop (lo*te.size)).take (n*te.size)) (by rw[y8];exact aCH) (by
     intro j v hv
     rw[List.getElem?_take]at hv
     split at hv
     ·rename_i hj
      have aQJ:0<n:=by
       rcases Nat.eq_zero_or_pos n with h0|h0
       ·rw[h0]at hj;simp at hj
       ·exact h0
      rw[hoo oM,jV]
      rw[List.getElem?_drop]at hv
      simp[World.cell?,hh];simpa using hv
     ·cases hv) bad m cap news ze0 kB oM oM (by
     rw[QZ];exact growslice_fits oM (Nat.le_trans (Nat.mul_le_mul_right _ oM) mT))
    rw[←ex,←ey]at SN
    have FK:=grownCap_ge w (n+m) (c.1 - lo) e
    have T2:=grownCap_le_maxLen w (n+m) (c.1 - lo) e zeU
    have ik:=i.kill hb
    have hd':aH ((b,none)::σ.box) d=none:=by
     exact za4
    obtain⟨β',q1,q2,q3,q4⟩:=ik.new (σ:=⟨σ.env,(b,none)::σ.box⟩) (c:=(grownCap w (n+m) (c.1 - lo) e,n+m)) (w':=w.drew.alloc (.cells (((cur.toList.drop (lo*te.size)).take (n*te.size)).toArray++news.toArray++Builtin.zeroCells z.cells (grownCap w (n+m) (c.1 - lo) e - (n+m))) e)) hd' rfl rfl rfl rfl (bc:=.row e (n+m) te.size (jM n (fun i=>f (lo+i)) g)) (by
     intro β' iX _
     refine⟨_,_,_,iX,heap_alloc_new w.drew _,rfl,?_,FK,T2,fun p j hp hj=>?_⟩
     ·simp only [Array.size_append,List.size_toArray,size_zeroCells,JU,hl,aCH,←Nat.add_mul]
      congr 1;omega
     ·have nI:(((cur.toList.drop (lo*te.size)).take (n*te.size)).toArray++news.toArray++Builtin.zeroCells z.cells (grownCap w (n+m) (c.1 - lo) e - (n+m)))[p*te.size+j]? =((cur.toList.drop (lo*te.size)).take (n*te.size)++(news++(Builtin.zeroCells z.cells (grownCap w (n+m) (c.1 - lo) e - (n+m))).toList))[p*te.size+j]? :=by
       rw[←Array.getElem?_toList]
       simp
      rw[nI]
      simp only [jM]
      by_cases QT:p<n
      ·obtain⟨u,hu,hr⟩:=cY (lo+p) j oM hj
       have fZ:p*te.size+j<n*te.size:=by
        exact xr
       refine⟨u,?_,by rw[if_pos QT];exact hr⟩
       rw[List.getElem?_append_left oM,List.getElem?_take_of_lt fZ,List.getElem?_drop]
       rw[show lo*te.size+(p*te.size+j)=(lo+p)*te.size+j by rw[Nat.add_mul];omega]
       simpa using hu
      ·obtain⟨u,hu,hr⟩:=pL (p - n) j oM hj
       refine⟨u,?_,by rw[if_neg QT];exact hr⟩
       have hpe:p*te.size+j=n*te.size+((p - n)*te.size+j):=by
        exact za1
       have fZ:(p - n)*te.size+j<m*te.size:=by
        exact xg
       rw[hpe,List.getElem?_append_right oM,aCH,Nat.add_sub_cancel_left,List.getElem?_append_left oM]
       exact hu)
    exact⟨_,_,hK2,_,_,M,β',.inl (run _ _ SN),⟨_,_,0,q1,rfl,fun _=>by simp,by show 0+(n+m)≤n+m;omega,FK⟩,q3,Grow.refl _ _,q4⟩
def aDV(T:List (Nat×bV))(σ:St)(d t t':Nat)(x y:Operand)(K:AV→aP→Prop):Prop:=
 fe none (ev σ x) fun vx=>fe none (ev σ y) fun vy=>match vx,vy with
  |.s (.d (.val (.slice none 0 0))),.s (.d (.val (.int .i64 n)))=>match dE T t with
   |some ti=>match ti.j7 with
    |.slice e=>match dE T e with
     |some te=>bif TK T t'&&Nat.beq te.size 1&&Nat.blt 0 te.bytes&&Nat.beq te.zero.length 1 then match aH σ.box d with
      |none=>0<n∧n*te.bytes≤140737488355328∧K (.s (.own d)) ((d,some (.row e n.toNat 1 fun _ j=>match (iB te.zero)[j]? with|some c=>OP c|none=>.bL))::σ.box)
      |some _=>False
      else False
     |none=>False
    |_=>False
   |none=>False
  |_,_=>False
theorem aQB.spec{T:List (Nat×bV)}(hT:cD P T){d t t':Nat}{x y:Operand}(ho:o.op=.call {callee:=.builtin .append,args:= #[x,y],argTypes:= #[t,t']})
  (h:aDV T σ d t t' x y K):∃r bx,K r bx∧KI P o σ r bx:=by
 unfold aDV at h
 replace h:=fe.ev h
 obtain⟨vx,h,tB⟩:=h
 replace h:=fe.ev h
 obtain⟨vy,h,JV⟩:=h
 split at h
 case h_2=>cases h
 rename_i n
 split at h
 case h_2=>cases h
 rename_i ti gG
 split at h
 case h_2=>cases h
 rename_i e hu
 have dB:=(hT.get gG).isSlice hu
 split at h
 case h_2=>cases h
 rename_i te nD
 have mS:=hT.get nD
 cases hc:(TK T t'&&Nat.beq te.size 1&&Nat.blt 0 te.bytes&&Nat.beq te.zero.length 1)with
 |false=>rw[hc]at h;cases h
 |true=>
  rw[hc]at h;simp only [cond_true]at h;simp only [Bool.and_eq_true]at hc;have ht':=TK.spec hT hc.1.1.1;have c2:=Nat.eq_of_beq_eq_true hc.1.1.2;have c3:0<te.bytes:=Nat.le_of_ble_eq_true hc.1.2;have c4:=Nat.eq_of_beq_eq_true hc.2;split at h
  case h_2=>cases h
  rename_i hd;obtain⟨h0,hb,h⟩:=h;refine⟨_,_,h,fun cx N M β a w i=>?_⟩;obtain⟨m,rfl⟩:=Int.eq_ofNat_of_zero_le (Int.le_of_lt h0);have hm:0<m:=oM;have ex:a.eval x=.slice none 0 0:=tB iY cx N M β a w i;have ey:a.eval y=.int .i64 m:=JV iY cx N M β a w i;obtain⟨ie,z,EU,y8,QZ,SM,LB⟩:=mS.K8;have hzs:z.cells.size=1:=by rw[←Array.length_toList,LB,c4]
  have hmb:m*te.bytes≤140737488355328:=Int.ofNat_le.1 (by rw[Int.natCast_mul];exact hb);have hml:m≤140737488355328:=Nat.le_trans (Nat.le_mul_of_pos_right _ c3) hmb;have hw:IntKind.i64.wrap (m:Int)=m:=IntWalk.i64_in m ⟨oM,oM⟩;have aCD:(Builtin.append_ #[t,t'] o.type #[.slice none 0 0,.int .i64 m]).run P w=.ok (.slice (some ⟨w.heap.size,0,none⟩) m (grownCap w m 0 e)) (w.drew.alloc (.cells (Builtin.zeroCells z.cells m++Builtin.zeroCells z.cells (grownCap w m 0 e - m)) e)):=by
   have t1:¬((m:Int)<0):=oM;have t2:¬((281474976710656:Int)<(m:Int)*te.bytes):=Int.not_lt.2 (Int.le_trans hb dC);have t3:¬m=0:=oM;have t4:¬((9223372036854775807:Int)<(m:Int)):=oM;have t5:¬(281474976710656<Builtin.nextslicecap m 0*te.bytes):=by rw[nextslicecap_zero hm];omega
   simp[Builtin.append_,run_underlying dB,run_underlying ht',asInt,asIntOf,sizeOf,typeInfo,zeroValue,EU,QZ,y8,c2,SM,hw,t1,t2,t3,t4,t5,Question.forced,run_firstCells_none,newRow,grownCap]
  have a7:(execOp a.eval o).run P w=.ok (.value (.slice (some ⟨w.heap.size,0,none⟩) m (grownCap w m 0 e))) (w.drew.alloc (.cells (Builtin.zeroCells z.cells m++Builtin.zeroCells z.cells (grownCap w m 0 e - m)) e)):=by simp[execOp,ho,resolve,invoke,builtin,ex,ey,aCD]
  have FK:=grownCap_ge w m 0 e;have T2:=grownCap_le_maxLen w m 0 e zeU;have kB:∀q,q<m→(Builtin.zeroCells z.cells m++Builtin.zeroCells z.cells (grownCap w m 0 e - m))[q]? =some z.cells[0]:=by
   intro q hq;have mL:(Builtin.zeroCells z.cells m).size=m:=by rw[size_zeroCells,hzs,Nat.mul_one]
   rw[Array.getElem?_append_left (by rw[mL];exact hq)];unfold Builtin.zeroCells;simp only [Array.getElem?_map,Array.getElem?_range,hzs,Nat.mul_one,hq,if_true,Option.map_some,Nat.mod_one,getElem!_pos z.cells 0 oM]
  obtain⟨β',b1,b2,b3,b4⟩:=i.new (w':=w.drew.alloc (.cells (Builtin.zeroCells z.cells m++Builtin.zeroCells z.cells (grownCap w m 0 e - m)) e)) (c:=(grownCap w m 0 e,m)) hd (ob:=.cells (Builtin.zeroCells z.cells m++Builtin.zeroCells z.cells (grownCap w m 0 e - m)) e) rfl rfl rfl rfl
   (bc:=.row e m 1 fun _ j=>match (iB te.zero)[j]? with|some c=>OP c|none=>.bL) (by
   intro β' iX _
   refine⟨_,_,_,iX,heap_alloc_new w.drew _,rfl,?_,FK,T2,fun k j hk hj=>?_⟩
   ·simp only [Array.size_append,size_zeroCells,hzs];omega
   obtain rfl:j=0:=oM
   refine⟨z.cells[0],by rw[Nat.mul_one,Nat.add_zero];exact kB k hk,?_⟩
   have tC:0<te.zero.length:=by rw[c4];omega
   have hzj:z.cells[0]=te.zero[0]:=by
    have:z.cells.toList[0]? =te.zero[0]? :=by rw[LB]
    have hz0:0<z.cells.size:=oM;simpa [hz0,tC]using this
   have hlen:(iB te.zero).length=te.zero.length:=by have:=(iB.rep M β te.zero).length;omega
   obtain⟨u,hu,hr⟩:=(iB.rep M β te.zero).get (List.getElem?_eq_getElem (by rw[hlen];exact tC:0<(iB te.zero).length))
   rw[List.getElem?_eq_getElem tC]at hu
   cases hu
   simp only [List.getElem?_eq_getElem (by rw[hlen];exact tC:0<(iB te.zero).length)]
   rw[hzj]
   have had:∀l:List Value,o5 (iB l)=true:=by exact zcS
   have:=o5.OP (had te.zero) (List.getElem?_eq_getElem (by rw[hlen];exact tC:0<(iB te.zero).length))
   rw[this]at hr
   exact hr)
  exact⟨_,_,M,β',.inl a7,⟨_,_,b1,rfl,FK⟩,b3,Grow.refl _ _,b4⟩
end
def look(ren:List (Nat×Nat))(x:Nat):Nat:=
 match ren with
 |[]=>x
 |(a,b)::r=>bif Nat.beq a x then b else look r x
def GR(ren:List (Nat×Nat)):CV→CV
 |.d x=>.d x
 |.ptr x off=>.ptr (look ren x) off
def GP(ren:List (Nat×Nat)):List CV→List CV
 |[]=>[]
 |x::r=>GR ren x::GP ren r
def wF(ren:List (Nat×Nat)):SV→SV
 |.d x=>.d x
 |.ptr x off=>.ptr (look ren x) off
 |.own x=>.own (look ren x)
 |.mo z x=>.mo z (look ren x)
 |.rw x i s o=>.rw (look ren x) i s o
 |.dZ f cs=>.dZ f (GP ren cs)
 |.j0 x s lo n=>.j0 (look ren x) s lo n
 |.mp x=>.mp (look ren x)
def mC(ren:List (Nat×Nat)):List SV→List SV
 |[]=>[]
 |x::r=>wF ren x::mC ren r
def aA2(ren:List (Nat×Nat)):TV→TV
 |.s x=>.s (wF ren x)
 |.g cs=>.g (mC ren cs)
def BF(ren:List (Nat×Nat)):List TV→List TV
 |[]=>[]
 |x::r=>aA2 ren x::BF ren r
def oC(ren:List (Nat×Nat)):AV→AV
 |.s x=>.s (wF ren x)
 |.g cs=>.g (mC ren cs)
 |.ib b x=>.ib b (wF ren x)
 |.ig b cs=>.ig b (mC ren cs)
 |.t ts=>.t (BF ren ts)
def zG(ren:List (Nat×Nat)):List AV→List AV
 |[]=>[]
 |x::r=>oC ren x::zG ren r
def jX(ren:List (Nat×Nat)):jK→jK
 |.cells cs=>.cells (mC ren cs)
 |.row e n s f=>.row e n s f
 |.b8 e n s f=>.b8 e n s f
 |.map vk l=>.map vk l
 |.smap vk l=>.smap vk l
 |.dm l n=>.dm l n
 |.fresh T vs=>.fresh T vs
 |.iter m n seen=>.iter (look ren m) n seen
def inC(xs:List Nat):List CV→Bool
 |[]=>true
 |.d _::r=>inC xs r
 |.ptr x _::r=>xs.contains x&&inC xs r
def LA(xs:List Nat):SV→Bool
 |.d _=>true
 |.ptr x _=>xs.contains x
 |.own x=>xs.contains x
 |.mo _ x=>xs.contains x
 |.rw x _ _ _=>xs.contains x
 |.dZ _ cs=>inC xs cs
 |.j0 x _ _ _=>xs.contains x
 |.mp x=>xs.contains x
def HQ(xs:List Nat):List SV→Bool
 |[]=>true
 |x::r=>LA xs x&&HQ xs r
def inT(xs:List Nat):TV→Bool
 |.s x=>LA xs x
 |.g cs=>HQ xs cs
def QM(xs:List Nat):List TV→Bool
 |[]=>true
 |x::r=>inT xs x&&QM xs r
def YH(xs:List Nat):AV→Bool
 |.s x=>LA xs x
 |.g cs=>HQ xs cs
 |.t ts=>QM xs ts
 |_=>false
def aB4(xs:List Nat):List AV→Bool
 |[]=>true
 |x::r=>YH xs x&&aB4 xs r
def SF(xs:List Nat):jK→Bool
 |.cells cs=>HQ xs cs
 |.row _ _ _ _=>true
 |.b8 _ _ _ _=>false
 |.map _ _=>true
 |.smap _ _=>true
 |.dm _ _=>true
 |.fresh _ _=>true
 |.iter m _ _=>xs.contains m
section
variable{M:Mem}{ren:List (Nat×Nat)}{xs:List Nat}{β β':Nm}
theorem GR.rep(h:∀x,x∈xs→∀p,β (look ren x)=some p→β' x=some p):∀{cs:List CV} {vs:List Value},inC xs cs=true→vO M β (GP ren cs) vs→vO M β' cs vs
 |[],[],_,_=>trivial
 |.d _::_,_::_,hi,⟨a,r⟩=>⟨a,GR.rep h (by simpa [inC]using hi) r⟩
 |.ptr x off::_,_::_,hi,⟨⟨b,c,e,hv⟩,r⟩=>by simp only [inC,Bool.and_eq_true]at hi;exact⟨⟨b,c,h x (by simpa using hi.1) _ e,hv⟩,GR.rep h hi.2 r⟩
 |[],_::_,_,h=>h.elim
 |_::_,[],_,h=>h.elim
theorem wF.rep(h:∀x,x∈xs→∀p,β (look ren x)=some p→β' x=some p){x:SV}{v:Value}(hi:LA xs x=true)(r:(wF ren x).bI M β v):x.bI M β' v:=by
 cases x with
 |d x=>exact r
 |ptr x off=>obtain⟨b,c,e,hv⟩:=r;exact⟨b,c,h x zeD _ e,hv⟩
 |own x=>obtain⟨b,c,e,hv⟩:=r;exact⟨b,c,h x zeD _ e,hv⟩
 |mo z x=>exact⟨r.1,fun hz=>let⟨b,c,e,hv⟩:=r.2 hz;⟨b,c,h x zeD _ e,hv⟩⟩
 |rw x i s o=>obtain⟨b,c,e,hv⟩:=r;exact⟨b,c,h x zeD _ e,hv⟩
 |dZ f cs=>obtain⟨vs,e,hv⟩:=r;exact⟨vs,e,GR.rep h hi hv⟩
 |j0 x s lo n=>obtain⟨b,c,o,e,hv⟩:=r;exact⟨b,c,o,h x zeD _ e,hv⟩
 |mp x=>obtain⟨b,c,e,hv⟩:=r;exact⟨b,c,h x zeD _ e,hv⟩
theorem mC.rep(h:∀x,x∈xs→∀p,β (look ren x)=some p→β' x=some p):∀{cs:List SV} {vs:List Value},HQ xs cs=true→cV M β (mC ren cs) vs→cV M β' cs vs
 |[],[],_,_=>trivial
 |_::_,_::_,hi,⟨a,r⟩=>by simp only [HQ,Bool.and_eq_true]at hi;exact⟨wF.rep h hi.1 a,mC.rep h hi.2 r⟩
 |[],_::_,_,h=>h.elim
 |_::_,[],_,h=>h.elim
theorem oC.rep(h:∀x,x∈xs→∀p,β (look ren x)=some p→β' x=some p){x:AV}{v:Value}(hi:YH xs x=true)(r:(oC ren x).bI M β v):x.bI M β' v:=by
 cases x with
 |s x=>exact wF.rep h hi r
 |g cs=>obtain⟨vs,e,hv⟩:=r;exact⟨vs,e,mC.rep h hi hv⟩
 |t ts=>
  obtain⟨vs,e,hv⟩:=r;refine⟨vs,e,?_⟩;have:∀{ts:List TV} {vs:List Value},QM xs ts=true→rF M β (BF ren ts) vs→rF M β' ts vs:=by
   intro ts;induction ts with
   |nil=>
    intro vs _ hr
    cases vs with
    |nil=>trivial
    |cons _ _=>exact hr.elim
   |cons t r ih=>
    intro vs hi hr;simp only [QM,Bool.and_eq_true]at hi
    cases vs with
    |nil=>exact hr.elim
    |cons u us=>
     refine⟨?_,ih hi.2 hr.2⟩
     cases t with
     |s x=>exact wF.rep h hi.1 hr.1
     |g cs=>obtain⟨q,e,hq⟩:=hr.1;exact⟨q,e,mC.rep h hi.1 hq⟩
  exact this hi hv
 |_=>cases hi
theorem zG.rep(h:∀x,x∈xs→∀p,β (look ren x)=some p→β' x=some p):∀{cs:List AV} {vs:List Value},aB4 xs cs=true→gZ M β (zG ren cs) vs→gZ M β' cs vs
 |[],[],_,_=>trivial
 |_::_,_::_,hi,⟨a,r⟩=>by simp only [aB4,Bool.and_eq_true]at hi;exact⟨oC.rep h hi.1 a,zG.rep h hi.2 r⟩
 |[],_::_,_,h=>h.elim
 |_::_,[],_,h=>h.elim
theorem jX.rep(h:∀x,x∈xs→∀p,β (look ren x)=some p→β' x=some p){w:World}{x:Nat}{b:jK}(hx:x∈xs)(hi:SF xs b=true)(r:cN M β w (look ren x) (jX ren b)):cN M β' w x b:=by
 cases b with
 |cells cs=>obtain⟨k,c,vs,T,us,e,hh,hr⟩:=r;exact⟨k,c,vs,T,us,h x hx _ e,hh,mC.rep h hi hr⟩
 |row e n s f=>obtain⟨k,c,cur,e',r⟩:=r;exact⟨k,c,cur,h x hx _ e',r⟩
 |b8 e n s f=>cases hi
 |map vk l=>obtain⟨k,c,e,hh⟩:=r;exact⟨k,c,h x hx _ e,hh⟩
 |smap vk l=>obtain⟨k,c,e,hh⟩:=r;exact⟨k,c,h x hx _ e,hh⟩
 |dm l n=>obtain⟨k,c,vs,e,hh⟩:=r;exact⟨k,c,vs,h x hx _ e,hh⟩
 |fresh T vs=>obtain⟨k,c,e,hh⟩:=r;exact⟨k,c,h x hx _ e,hh⟩
 |iter m n seen=>obtain⟨k,c,bm,cm,e,em,hh⟩:=r;exact⟨k,c,bm,cm,h x hx _ e,h m (by simpa [SF]using hi) _ em,hh⟩
theorem GR.back(h:∀x,x∈xs→∀p,β' x=some p→β (look ren x)=some p):∀{cs:List CV} {vs:List Value},inC xs cs=true→vO M β' cs vs→vO M β (GP ren cs) vs
 |[],[],_,_=>trivial
 |.d _::_,_::_,hi,⟨a,r⟩=>⟨a,GR.back h (by simpa [inC]using hi) r⟩
 |.ptr x off::_,_::_,hi,⟨⟨b,c,e,hv⟩,r⟩=>by simp only [inC,Bool.and_eq_true]at hi;exact⟨⟨b,c,h x (by simpa using hi.1) _ e,hv⟩,GR.back h hi.2 r⟩
 |[],_::_,_,h=>h.elim
 |_::_,[],_,h=>h.elim
theorem wF.back(h:∀x,x∈xs→∀p,β' x=some p→β (look ren x)=some p){x:SV}{v:Value}(hi:LA xs x=true)(r:x.bI M β' v):(wF ren x).bI M β v:=by
 cases x with
 |d x=>exact r
 |ptr x off=>obtain⟨b,c,e,hv⟩:=r;exact⟨b,c,h x zeD _ e,hv⟩
 |own x=>obtain⟨b,c,e,hv⟩:=r;exact⟨b,c,h x zeD _ e,hv⟩
 |mo z x=>exact⟨r.1,fun hz=>let⟨b,c,e,hv⟩:=r.2 hz;⟨b,c,h x zeD _ e,hv⟩⟩
 |rw x i s o=>obtain⟨b,c,e,hv⟩:=r;exact⟨b,c,h x zeD _ e,hv⟩
 |dZ f cs=>obtain⟨vs,e,hv⟩:=r;exact⟨vs,e,GR.back h hi hv⟩
 |j0 x s lo n=>obtain⟨b,c,o,e,hv⟩:=r;exact⟨b,c,o,h x zeD _ e,hv⟩
 |mp x=>obtain⟨b,c,e,hv⟩:=r;exact⟨b,c,h x zeD _ e,hv⟩
theorem mC.back(h:∀x,x∈xs→∀p,β' x=some p→β (look ren x)=some p):∀{cs:List SV} {vs:List Value},HQ xs cs=true→cV M β' cs vs→cV M β (mC ren cs) vs
 |[],[],_,_=>trivial
 |_::_,_::_,hi,⟨a,r⟩=>by simp only [HQ,Bool.and_eq_true]at hi;exact⟨wF.back h hi.1 a,mC.back h hi.2 r⟩
 |[],_::_,_,h=>h.elim
 |_::_,[],_,h=>h.elim
theorem oC.back(h:∀x,x∈xs→∀p,β' x=some p→β (look ren x)=some p){x:AV}{v:Value}(hi:YH xs x=true)(r:x.bI M β' v):(oC ren x).bI M β v:=by
 cases x with
 |s x=>exact wF.back h hi r
 |g cs=>obtain⟨vs,e,hv⟩:=r;exact⟨vs,e,mC.back h hi hv⟩
 |t ts=>
  obtain⟨vs,e,hv⟩:=r;refine⟨vs,e,?_⟩;have:∀{ts:List TV} {vs:List Value},QM xs ts=true→rF M β' ts vs→rF M β (BF ren ts) vs:=by
   intro ts;induction ts with
   |nil=>
    intro vs _ hr
    cases vs with
    |nil=>trivial
    |cons _ _=>exact hr.elim
   |cons t r ih=>
    intro vs hi hr;simp only [QM,Bool.and_eq_true]at hi
    cases vs with
    |nil=>exact hr.elim
    |cons u us=>
     refine⟨?_,ih hi.2 hr.2⟩
     cases t with
     |s x=>exact wF.back h hi.1 hr.1
     |g cs=>obtain⟨q,e,hq⟩:=hr.1;exact⟨q,e,mC.back h hi.1 hq⟩
  exact this hi hv
 |_=>cases hi
theorem jX.back(h:∀x,x∈xs→∀p,β' x=some p→β (look ren x)=some p){w:World}{x:Nat}{b:jK}(hx:x∈xs)(hi:SF xs b=true)(r:cN M β' w x b):cN M β w (look ren x) (jX ren b):=by
 cases b with
 |cells cs=>obtain⟨k,c,vs,T,us,e,hh,hr⟩:=r;exact⟨k,c,vs,T,us,h x hx _ e,hh,mC.back h hi hr⟩
 |row e n s f=>obtain⟨k,c,cur,e',r⟩:=r;exact⟨k,c,cur,h x hx _ e',r⟩
 |b8 e n s f=>cases hi
 |map vk l=>obtain⟨k,c,e,hh⟩:=r;exact⟨k,c,h x hx _ e,hh⟩
 |smap vk l=>obtain⟨k,c,e,hh⟩:=r;exact⟨k,c,h x hx _ e,hh⟩
 |dm l n=>obtain⟨k,c,vs,e,hh⟩:=r;exact⟨k,c,vs,h x hx _ e,hh⟩
 |fresh T vs=>obtain⟨k,c,e,hh⟩:=r;exact⟨k,c,h x hx _ e,hh⟩
 |iter m n seen=>obtain⟨k,c,bm,cm,e,em,hh⟩:=r;exact⟨k,c,bm,cm,h x hx _ e,h m (by simpa [SF]using hi) _ em,hh⟩
end
abbrev eV:=List (Nat×jK)
def names:eV→List Nat
 |[]=>[]
 |(x,_)::r=>x::names r
theorem dG{x:Nat}{b:jK}:∀{bx:eV},(x,b)∈bx→x∈names bx
 |[],h=>by cases h
 |(y,c)::r,h=>by
  cases h with
  |head=>simp[names]
  |tail _ h=>exact List.mem_cons_of_mem _ (dG h)
theorem jT{x:Nat}:∀{bx:eV},x∈names bx→∃b,(x,b)∈bx
 |[],h=>by cases h
 |(y,c)::r,h=>by
  simp only [names,List.mem_cons]at h;rcases h with rfl|h
  ·exact⟨c,sM⟩
  obtain⟨b,hb⟩:=jT h;exact⟨b,List.mem_cons_of_mem _ hb⟩
structure sE(M:Mem)(β:Nm)(w:World)(bx:eV):Prop where
 has:∀x,x∈names bx→∃b c,β x=some (b,c)
 rep:∀x b,(x,b)∈bx→cN M β w x b
 inj:∀x y b c c',x∈names bx→y∈names bx→β x=some (b,c)→β y=some (b,c')→x=y
 apart:∀x b c,x∈names bx→β x=some (b,c)→∀o,M b o=none
def bW(P:Program)(f:FuncId)(args:List AV)(bx:eV)(r:AV)(bx':eV):Prop:=
 (∀vs w,(callFunc f vs).run P w=.ok (.enter f vs) w)∧
 ∀(M:Mem) (β:Nm) (w:World) (vs:List Value),(∃bs,CU bs w∧∀g t,(g,t)∈tE bs→∀x c,β x≠some (g,c))→gZ M β args vs→lA M w→sE M β w bx→(∀x p,β x=some p→x∈names bx)→
  Calls P f vs.toArray w fun e w'=>∃v M' β',e=.returned v∧Nm.le β β'∧r.bI M' β' v∧Grow w.heap.size M M'∧lA M' w'∧sE M' β' w' bx'∧
   (∀x b c,x∈names bx'→β' x=some (b,c)→w.heap.size≤b∨∃y c',β y=some (b,c'))∧
   w'.os=w.os∧w'.tape=w.tape∧w'.output=w.output∧w.heap.size≤w'.heap.size∧(∀k,k<w.heap.size→(∀y c,β y≠some (k,c))→w'.heap[k]? =w.heap[k]?)∧Dr w w'
def nO(ren:List (Nat×Nat))(box:aP):eV→Prop
 |[]=>True
 |(x,b)::r=>aH box (look ren x)=some (some (jX ren b))∧nO ren box r
theorem nO.get{ren:List (Nat×Nat)}{box:aP}{x:Nat}{b:jK}:∀{bx:eV},nO ren box bx→(x,b)∈bx→aH box (look ren x)=some (some (jX ren b))
 |[],_,h=>by cases h
 |(y,c)::r,⟨h,hr⟩,hm=>by
  cases hm with
  |head=>exact h
  |tail _ hm=>exact nO.get hr hm
def sU(ren:List (Nat×Nat))(box:aP):eV→aP
 |[]=>box
 |(x,b)::r=>(look ren x,some (jX ren b))::sU ren box r
def jU(ren:List (Nat×Nat))(box:aP):eV→aP
 |[]=>box
 |(x,_)::r=>(look ren x,none)::jU ren box r
theorem sU.get{ren:List (Nat×Nat)}{box:aP}{y:Nat}:∀{bx:eV},(∃x b,(x,b)∈bx∧look ren x=y∧aH (sU ren box bx) y=some (some (jX ren b)))∨((∀x,x∈names bx→look ren x≠y)∧aH (sU ren box bx) y=aH box y)
 |[]=>.inr ⟨fun x h=>zfb,rfl⟩
 |(x,b)::r=>by
  by_cases h:look ren x=y
  ·exact .inl ⟨x,b,sM,h,by simp only [sU];rw[aL,if_pos h]⟩
  rcases sU.get (ren:=ren) (box:=box) (y:=y) (bx:=r)with⟨x',b',h1,h2,h3⟩|⟨h1,h2⟩
  ·exact .inl ⟨x',b',List.mem_cons_of_mem _ h1,h2,by simp only [sU];rw[aL,if_neg h];exact h3⟩
  refine .inr ⟨fun z hz=>?_,by simp only [sU];rw[aL,if_neg h];exact h2⟩;exact zb6
theorem jU.get{ren:List (Nat×Nat)}{box:aP}{y:Nat}:∀{bx:eV},((∃x,x∈names bx∧look ren x=y)∧aH (jU ren box bx) y=some none)∨((∀x,x∈names bx→look ren x≠y)∧aH (jU ren box bx) y=aH box y)
 |[]=>.inr ⟨fun x h=>zfb,rfl⟩
 |(x,b)::r=>by
  by_cases h:look ren x=y
  ·exact .inl ⟨⟨x,by simp[names],h⟩,by simp only [jU];rw[aL,if_pos h]⟩
  rcases jU.get (ren:=ren) (box:=box) (y:=y) (bx:=r)with⟨⟨x',h1,h2⟩,h3⟩|⟨h1,h2⟩
  ·exact .inl ⟨⟨x',List.mem_cons_of_mem _ h1,h2⟩,by simp only [jU];rw[aL,if_neg h];exact h3⟩
  refine .inr ⟨fun z hz=>?_,by simp only [jU];rw[aL,if_neg h];exact h2⟩;exact zb6
def HR(xs:List Nat):eV→Bool
 |[]=>true
 |(_,b)::r=>SF xs b&&HR xs r
theorem SF.real{xs:List Nat}{b:jK}(h:SF xs b=true):b.real=true:=by
 cases b with
 |b8 e n s f=>cases h
 |_=>rfl
theorem HR.get{xs:List Nat}{x:Nat}{b:jK}:∀{bx:eV},HR xs bx=true→(x,b)∈bx→SF xs b=true
 |[],_,h=>by cases h
 |(y,c)::r,h,hm=>by
  simp only [HR,Bool.and_eq_true]at h
  cases hm with
  |head=>exact h.1
  |tail _ hm=>exact HR.get h.2 hm
def HO(ren:List (Nat×Nat))(xs:List Nat):Bool:=xs.all fun x=>xs.all fun y=>Nat.beq x y|| !(Nat.beq (look ren x) (look ren y))
def oF(ren:List (Nat×Nat))(box:aP)(xs:List Nat):List Nat→Bool
 |[]=>true
 |x::r=>(xs.contains x||(match aH box (look ren x)with|none=>true|some _=>false))&&oF ren box xs r
theorem oF.get{ren:List (Nat×Nat)}{box:aP}{xs:List Nat}{x:Nat}:∀{l:List Nat},oF ren box xs l=true→x∈l→x∉xs→aH box (look ren x)=none
 |[],_,h,_=>by cases h
 |y::r,h,hm,hx=>by
  simp only [oF,Bool.and_eq_true,Bool.or_eq_true]at h
  cases hm with
  |head=>
   rcases h.1 with h1|h1
   ·exact absurd (by simpa using h1) hx
   split at h1
   ·assumption
   cases h1
  |tail _ hm=>exact oF.get h.2 hm hx
def BH(ren:List (Nat×Nat))(box:aP)(args:List AV)(bx:eV)(r:AV)(bx':eV):Bool:=
 aB4 (names bx) args&&HR (names bx) bx&&YH (names bx') r&&HR (names bx') bx'&&HO ren (names bx++names bx')&&oF ren box (names bx) (names bx')
def aF2(P:Program)(σ:St)(f:FuncId)(ars:List AV)(K:AV→aP→Prop):Prop:=
 ∃ren args bx r bx',bW P f args bx r bx'∧ars=zG ren args∧nO ren σ.box bx∧BH ren σ.box args bx r bx'=true∧K (oC ren r) (sU ren (jU ren σ.box bx) bx')
def IX(P:Program)(σ:St)(vf:AV)(args:List AV)(K:AV→aP→Prop):Prop:=
 match vf with
 |.s (.dZ f cs)=>aF2 P σ f (args++wM cs) K
 |_=>False
theorem Inv.aDZ{P:Program}{cx:Cx}{N:Nat}{M:Mem}{β:Nm}{σ:St}{a:Act}{w:World}(i:Inv cx N M β σ a w){ren:List (Nat×Nat)}{f:FuncId}{args:List AV}{bx:eV}{r:AV}{bx':eV}
  (hc:bW P f args bx r bx') (hm:nO ren σ.box bx) (gF:BH ren σ.box args bx r bx'=true) {vs:List Value} (hv:gZ M β (zG ren args) vs):
  Calls P f vs.toArray w fun e w'=>∃v M' β',e=.returned v∧(oC ren r).bI M' β' v∧Inv cx N M' β' ⟨σ.env,sU ren (jU ren σ.box bx) bx'⟩ a w'∧Grow cx.B M M'∧cE cx w w'∧((∀x,x∈names bx'→x∈names bx)→β'=β):=by
 classical
 simp only [BH,Bool.and_eq_true]at gF
 obtain⟨⟨⟨⟨⟨k1,k2⟩,k3⟩,k4⟩,k5⟩,k6⟩:=gF
 have QY:∀x y,x∈names bx++names bx'→y∈names bx++names bx'→look ren x=look ren y→x=y:=by
  intro x y hx hy e;simp only [HO,List.all_eq_true]at k5;have:=k5 x hx y hy;simp only [Bool.or_eq_true]at this;rcases this with h|h
  ·exact Nat.eq_of_beq_eq_true h
  rw[e]at h;simp at h
 let βh:Nm:=fun x=>if x∈names bx then β (look ren x)else none
 have hβh:∀x,x∈names bx→∀p,β (look ren x)=some p→βh x=some p:=fun x hx p e=>by simp[βh,hx,e]
 have zI:∀x p,βh x=some p→x∈names bx∧β (look ren x)=some p:=fun x p e=>by
  simp only [βh]at e;split at e
  ·exact⟨by assumption,e⟩
  cases e
 have cQ:∀x,x∈names bx→∃b,aH σ.box (look ren x)=some (some b):=fun x hx=>by obtain⟨b,hb⟩:=jT hx;exact⟨_,hm.get hb⟩
 have T3:sE M βh w bx:=by
  have eD:∀x b,(x,b)∈bx→cN M βh w x b:=fun x b hb=>jX.rep hβh (dG hb) (HR.get k2 hb) (i.box _ _ (hm.get hb))
  refine⟨fun x hx=>let⟨b,hb⟩:=jT hx;(eD x b hb).exb (SF.real (HR.get k2 hb)),eD,fun x y b c c' hx hy e1 e2=>?_,fun x b c hx e o=>?_⟩
  ·obtain⟨bX,hX⟩:=cQ x hx;obtain⟨bY,hY⟩:=cQ y hy;have:=i.inj _ _ _ _ b c c' hX hY (zI x _ e1).2 (zI y _ e2).2;exact QY x y (List.mem_append_left _ hx) (List.mem_append_left _ hy) this
  obtain⟨bX,hX⟩:=cQ x hx;exact i.apart _ _ b c hX (zI x _ e).2 o
 have aPH:∃bs,CU bs w∧∀g t,(g,t)∈tE bs→∀x c,βh x≠some (g,c):=by
  obtain⟨bs,t1,t2⟩:=i.heap.tab;refine⟨bs,t1,fun g t m x c e=>?_⟩;obtain⟨hxn,e⟩:=zI x _ e;obtain⟨bX,hX⟩:=cQ x hxn;obtain⟨q1,q2⟩:=t2 g t m;rcases i.low _ _ g c hX e with h|h
  ·omega
  exact q2 h
 refine(hc.2 M βh w vs aPH (zG.rep hβh k1 hv) i.mem T3 (fun x p e=>(zI x p e).1)).mono ?_
 rintro e w' ⟨v,M',β1,rfl,hle,hr,hg,kK,YR,hblk,ho,htp,hou,mL,zJ,hdr⟩
 let β2:Nm:=fun y=>if h:∃x,x∈names bx'∧x∉names bx∧look ren x=y then β1 (Classical.choose h)else β y
 have YO:∀x,x∈names bx'→x∉names bx→β2 (look ren x)=β1 x:=by intro x hx hn;have hex:∃z,z∈names bx'∧z∉names bx∧look ren z=look ren x:=⟨x,hx,hn,rfl⟩;have hs:=Classical.choose_spec hex;have:Classical.choose hex=x:=QY _ _ (List.mem_append_right _ hs.1) (List.mem_append_right _ hx) hs.2.2;simp only [β2,dif_pos hex,this]
 have QU:∀y,(∀x,x∈names bx'→x∉names bx→look ren x≠y)→β2 y=β y:=by
  intro y hy;have:¬∃x,x∈names bx'∧x∉names bx∧look ren x=y:=fun ⟨x,h1,h2,h3⟩=>hy x h1 h2 h3
  simp only [β2,dif_neg this]
 have hβ2:Nm.le β β2:=by
  intro y p e;rw[QU y (fun x h1 h2 h3=>?_)]
  ·exact e
  obtain⟨q,hq⟩:=i.keys y p e;rw[←h3,oF.get k6 h1 h2]at hq
  cases hq
 have lC:∀x,x∈names bx'→∀p,β1 x=some p→β2 (look ren x)=some p:=by
  intro x hx p e;by_cases hn:x∈names bx
  ·obtain⟨bX,hX⟩:=jT hn;obtain⟨b,c,e'⟩:=T3.has x hn;have:=hle x _ e';rw[this]at e;cases e;exact hβ2 _ _ (zI x _ e').2
  rw[YO x hx hn];exact e
 have aMF:∀x,x∈names bx'→∀p,β2 (look ren x)=some p→β1 x=some p:=by
  intro x hx p e;by_cases hn:x∈names bx
  ·obtain⟨bX,hX⟩:=jT hn;obtain⟨b,c,e'⟩:=T3.has x hn;have h1:=hle x _ e';have h2:=hβ2 _ _ (zI x _ e').2;rw[h2]at e;cases e;exact h1
  rw[YO x hx hn]at e;exact e
 have aG5:∀y bc,aH (sU ren (jU ren σ.box bx) bx') y=some (some bc)→(∃x b,(x,b)∈bx'∧look ren x=y∧bc=jX ren b)∨
   ((∀x,x∈names bx'→look ren x≠y)∧(∀x,x∈names bx→look ren x≠y)∧aH σ.box y=some (some bc)):=by
  intro y bc e
  rcases sU.get (ren:=ren) (box:=jU ren σ.box bx) (y:=y) (bx:=bx')with⟨x,b,h1,h2,h3⟩|⟨h1,h2⟩
  ·rw[h3]at e;cases e;exact .inl ⟨x,b,h1,h2,rfl⟩
  ·rw[h2]at e;rcases jU.get (ren:=ren) (box:=σ.box) (y:=y) (bx:=bx)with⟨_,h4⟩|⟨h3,h4⟩
   ·rw[h4]at e;cases e
   rw[h4]at e;exact .inr ⟨h1,h3,e⟩
 have aI3:∀y bc b c,aH σ.box y=some (some bc)→(∀x,x∈names bx→look ren x≠y)→β y=some (b,c)→∀z c',βh z≠some (b,c'):=by intro y bc b c hy hny e z c' hz;obtain⟨hzn,hz2⟩:=zI z _ hz;obtain⟨bZ,hZ⟩:=cQ z hzn;exact hny z hzn (i.inj _ _ _ _ b c' c hZ hy hz2 e)
 have jA:∀y bc b c,aH (sU ren (jU ren σ.box bx) bx') y=some (some bc)→β2 y=some (b,c)→(∃x,x∈names bx'∧look ren x=y∧β1 x=some (b,c))∨
   ((∀x,x∈names bx→look ren x≠y)∧aH σ.box y=some (some bc)∧β y=some (b,c)):=by
  intro y bc b c e e2
  rcases aG5 y bc e with⟨x,b',h1,rfl,_⟩|⟨h1,h2,h3⟩
  ·exact .inl ⟨x,dG h1,rfl,aMF x (dG h1) _ e2⟩
  ·rw[QU y (fun x hx _=>h1 x hx)]at e2;exact .inr ⟨h2,h3,e2⟩
 have kp:cE cx w w':=⟨ho,htp,hou,mL,fun k hk hmw=>by
   refine zJ k (Nat.lt_of_lt_of_le hk i.heap.le) (fun z c hz=>?_);obtain⟨hzn,hz2⟩:=zI z _ hz;obtain⟨bZ,hZ⟩:=cQ z hzn;rcases i.low _ _ k c hZ hz2 with h|h
   ·omega
   exact hmw h,hdr⟩
 refine⟨v,M',β2,rfl,oC.back (fun x hx p e=>lC x hx p e) k3 hr,⟨i.defers,i.tmps,i.heap.keep kp,fun t=>AV.bI.mono hg.le hβ2 (i.env t),kK,?_,?_,?_,?_,?_,?_⟩,
  ⟨hg.le,fun b o u e=>(hg.new b o u e).imp id (fun h=>Nat.le_trans i.heap.le h)⟩,kp,fun fQ=>funext fun y=>QU y (fun x h1 h2 _=>h2 (fQ x h1))⟩
 ·intro y p e;rcases sU.get (ren:=ren) (box:=jU ren σ.box bx) (y:=y) (bx:=bx')with⟨x,b,h1,h2,h3⟩|⟨h1,h2⟩
  ·exact⟨_,h3⟩
  rw[QU y (fun x hx _=>h1 x hx)]at e;rcases jU.get (ren:=ren) (box:=σ.box) (y:=y) (bx:=bx)with⟨_,h4⟩|⟨_,h4⟩
  ·exact⟨_,h2.trans h4⟩
  obtain⟨q,hq⟩:=i.keys y p e;exact⟨q,h2.trans (h4.trans hq)⟩
 ·intro y bc e;rcases aG5 y bc e with⟨x,b',h1,rfl,rfl⟩|⟨h1,h2,h3⟩
  ·exact jX.back (fun z hz p e=>lC z hz p e) (dG h1) (HR.get k4 h1) (YR.rep x b' h1)
  have hrr:=i.box y bc h3;exact cN.mono hg.le hβ2 (QU y (fun x hx _=>h1 x hx)) (fun b c e'=>zJ b (i.vM h3 e') (fun z c'=>aI3 y bc b c h3 h2 e' z c')) hrr
 ·intro y z by' bz b c c' ey ez hy hz;rcases jA y by' b c ey hy with⟨x,h1,rfl,h3⟩|⟨h1,h2,h3⟩
  ·rcases jA z bz b c' ez hz with⟨x',k1',rfl,k3'⟩|⟨k1',k2',k3'⟩
   ·rw[YR.inj x x' b c c' h1 k1' h3 k3']
   exfalso;rcases hblk x b c h1 h3 with hb|⟨u,cu,hu⟩
   ·have:=i.vM k2' k3';omega
   exact aI3 z bz b c' k2' k1' k3' u cu hu
  rcases jA z bz b c' ez hz with⟨x',k1',rfl,k3'⟩|⟨k1',k2',k3'⟩
  ·exfalso;rcases hblk x' b c' k1' k3' with hb|⟨u,cu,hu⟩
   ·have:=i.vM h2 h3;omega
   exact aI3 y by' b c h2 h1 h3 u cu hu
  exact i.inj y z by' bz b c c' h2 k2' h3 k3'
 ·intro y bc b c e e2 o;rcases jA y bc b c e e2 with⟨x,h1,rfl,h3⟩|⟨h1,h2,h3⟩
  ·exact YR.apart x b c h1 h3 o
  cases hmm:M' b o with
  |none=>rfl
  |some u=>
   rcases hg.new b o u hmm with h|h
   ·rw[i.apart y bc b c h2 h3 o]at h;cases h
   have:=i.vM h2 h3;omega
 ·intro y bc b c e e2;rcases jA y bc b c e e2 with⟨x,h1,rfl,h3⟩|⟨h1,h2,h3⟩
  ·rcases hblk x b c h1 h3 with hb|⟨u,cu,hu⟩
   ·exact .inl (Nat.le_trans i.heap.le hb)
   obtain⟨V9,hu2⟩:=zI u _ hu;obtain⟨bU,hU⟩:=cQ u V9;exact i.low _ _ b cu hU hu2
  exact i.low y bc b c h2 h3
 ·intro x hx;obtain⟨h1,p,h2⟩:=i.ref x hx;have:=hβ2 x p h2;exact⟨by rw[this,←h1,h2],p,this⟩
section
variable{P:Program}{σ:St}{o:Oper}
theorem aDI.spec{fo:Operand}{l:List Operand}{K:AV→aP→Prop}(ho:∃args wR,o.op=.call {callee:=.value fo,args:=args,argTypes:=wR}∧args.toList=l)
  (h:fe none (ev σ fo) fun vf=>dY none σ l fun ars=>IX P σ vf ars K):
  ∃r bx,K r bx∧∀cx N M β a w,Inv cx N M β σ a w→∃f vs,(execOp a.eval o).run P w=.ok (.enter f vs) w∧
   Calls P f vs w fun e w'=>∃v M' β',e=.returned v∧r.bI M' β' v∧Inv cx N M' β' ⟨σ.env,bx⟩ a w'∧Grow cx.B M M'∧cE cx w w':=by
 obtain⟨args,wR,ho,rfl⟩:=ho
 replace h:=fe.ev h
 obtain⟨vf,h,hf⟩:=h
 replace h:=dY.spec h
 obtain⟨ars,h,has⟩:=h
 unfold IX at h
 split at h
 case h_2=>cases h
 rename_i f cs
 obtain⟨ren,ar,bx,r,bx',hc,he,hm,gF,hk⟩:=h
 refine⟨_,_,hk,fun cx N M β a w i=>?_⟩
 obtain⟨us,eu,SG⟩:=hf iY cx N M β a w i
 have xP:=(has iY cx N M β a w i).append (wM.rep SG)
 rw[he]at xP
 refine⟨f,(args.toList.map a.eval++us).toArray,?_,(Inv.aDZ i hc hm gF xP).mono fun e w' ⟨v,M',β',h1,h2,h3,h4,h5,_⟩=>⟨v,M',β',h1,h2,h3,h4,h5⟩⟩
 have:(args.map a.eval++us.toArray)=(args.toList.map a.eval++us).toArray:=by apply Array.ext';simp
 simp[execOp,ho,resolve,eu,Deferred.ofValue,invoke,this,hc.1]
end
def dV{α:Type}(f:α→List Nat):List α→List Nat
 |[]=>[]
 |x::r=>f x++dV f r
theorem iT{α:Type}{f:α→List Nat}{n:Nat}:∀{l:List α} {j:Nat} {c:α},l[j]? =some c→n∈f c→n∈dV f l
 |[],_,_,h,_=>by simp at h
 |x::r,0,c,h,hn=>by simp at h;subst h;exact List.mem_append_left _ hn
 |x::r,j+1,c,h,hn=>List.mem_append_right _ (iT (j:=j) zeI hn)
def reach:Nat→St→SV→List Nat
 |_,_,.d _=>[]
 |0,_,.ptr x _=>[x]
 |n+1,σ,.ptr x _=>x::match aH σ.box x with
  |some (some (.cells cs))=>dV (reach n σ) cs
  |_=>[]
 |_,_,.own x=>[x]
 |_,_,.mo _ x=>[x]
 |_,_,.rw x _ _ _=>[x]
 |0,_,.j0 x _ _ _=>[x]
 |n+1,σ,.j0 x _ _ _=>x::match aH σ.box x with
  |some (some (.cells cs))=>dV (reach n σ) cs
  |_=>[]
 |_,_,.mp x=>[x]
 |0,_,.dZ _ _=>[]
 |n+1,σ,.dZ _ cs=>dV (fun c=>match c with|.d _=>[]|.ptr x off=>reach n σ (.ptr x off)) cs
def b9(σ:St):AV→List Nat
 |.s x=>reach 4 σ x
 |.ib _ x=>reach 4 σ x
 |.g cs=>dV (reach 4 σ) cs
 |.ig _ cs=>dV (reach 4 σ) cs
 |.t _=>[]
def okK(ren:List (Nat×Nat))(args:List AV)(bx:eV):Bool:=aB4 (names bx) args&&HR (names bx) bx&&HO ren (names bx)
def CZ(P:Program)(σ:St)(f:FuncId)(ars:List AV)(r:AV):Prop:=
 ∃ren args bx,bW P f args bx r bx∧ars=zG ren args∧nO ren σ.box bx∧okK ren args bx=true∧B4 r=true∧((names bx).all fun x=>(dV (b9 σ) ars).contains (look ren x))=true
theorem aGM{ren:List (Nat×Nat)}{box:aP}{bx:eV}(hm:nO ren box bx)(y:Nat):aH (sU ren (jU ren box bx) bx) y=aH box y:=by
 rcases sU.get (ren:=ren) (box:=jU ren box bx) (y:=y) (bx:=bx)with⟨x,b,h1,rfl,h3⟩|⟨h1,h2⟩
 ·rw[h3,hm.get h1]
 rw[h2];rcases jU.get (ren:=ren) (box:=box) (y:=y) (bx:=bx)with⟨⟨x,hx,hy⟩,_⟩|⟨_,h4⟩
 ·exact absurd hy (h1 x hx)
 exact h4
theorem Inv.boxes{cx:Cx}{N:Nat}{M:Mem}{β:Nm}{E:List (Nat×AV)}{b1 b2:aP}{a:Act}{w:World}(i:Inv cx N M β ⟨E,b1⟩ a w)(h:∀y,aH b1 y=aH b2 y):Inv cx N M β ⟨E,b2⟩ a w:=
 ⟨i.defers,i.tmps,i.heap,i.env,i.mem,fun x p e=>by obtain⟨y,hy⟩:=i.keys x p e;exact⟨y,(h x).symm.trans hy⟩,fun x bc e=>i.box x bc ((h x).trans e),
  fun x y bx zB b c c' ex ey=>i.inj x y bx zB b c c' ((h x).trans ex) ((h y).trans ey),fun x bc b c e=>i.apart x bc b c ((h x).trans e),fun x bc b c e=>i.low x bc b c ((h x).trans e),i.ref⟩
theorem aB5{xs:List Nat}:∀{r:AV},B4 r=true→YH xs r=true:=by
 have h1:∀x:SV,xR x=true→LA xs x=true:=fun x h=>by cases x <;> first|rfl|cases h
 have h2:∀cs:List SV,oG cs=true→HQ xs cs=true:=by
  intro cs;induction cs with
  |nil=>intro _;rfl
  |cons c r ih=>intro h;simp only [oG,Bool.and_eq_true]at h;simp only [HQ,Bool.and_eq_true];exact⟨h1 c h.1,ih h.2⟩
 have h3:∀cs:List TV,qV cs=true→QM xs cs=true:=by
  intro cs;induction cs with
  |nil=>intro _;rfl
  |cons c r ih=>
   intro h;simp only [qV,Bool.and_eq_true]at h;simp only [QM,Bool.and_eq_true];refine⟨?_,ih h.2⟩
   cases c with
   |s x=>exact h1 x h.1
   |g l=>exact h2 l h.1
 intro r h
 cases r with
 |s x=>exact h1 x h
 |g l=>exact h2 l h
 |t l=>exact h3 l h
 |_=>cases h
theorem CZ.spec{P:Program}{cx:Cx}{N:Nat}{M:Mem}{β:Nm}{σ:St}{a:Act}{w:World}(i:Inv cx N M β σ a w){f:FuncId}{ars:List AV}{r:AV}(h:CZ P σ f ars r){vs:List Value}(hv:gZ M β ars vs):
  (∀vs w,(callFunc f vs).run P w=.ok (.enter f vs) w)∧Calls P f vs.toArray w fun e w'=>∃v M',e=.returned v∧r.bI M' β v∧Inv cx N M' β σ a w'∧Grow cx.B M M'∧cE cx w w':=by
 obtain⟨ren,args,bx,hc,rfl,hm,gF,hf,_⟩:=h
 simp only [okK,Bool.and_eq_true]at gF
 obtain⟨⟨k1,k2⟩,k3⟩:=gF
 have aPF:BH ren σ.box args bx r bx=true:=by
  simp only [BH,Bool.and_eq_true];refine⟨⟨⟨⟨⟨k1,k2⟩,aB5 hf⟩,k2⟩,?_⟩,?_⟩
  ·simp only [HO,List.all_append,Bool.and_eq_true]at k3 ⊢;have h1:((names bx).all fun x=>((names bx).all fun y=>Nat.beq x y|| !(Nat.beq (look ren x) (look ren y)))&&(names bx).all fun y=>Nat.beq x y|| !(Nat.beq (look ren x) (look ren y)))=true:=by rw[List.all_eq_true]at k3 ⊢;intro x hx;simp[k3 x hx]
   exact⟨h1,h1⟩
  have:∀l:List Nat,(∀x,x∈l→x∈names bx)→oF ren σ.box (names bx) l=true:=by
   intro l;induction l with
   |nil=>intro _;rfl
   |cons x r ih=>intro h;simp only [oF,Bool.and_eq_true,Bool.or_eq_true];exact⟨.inl (by simpa using h x sM),ih (fun y hy=>h y (List.mem_cons_of_mem _ hy))⟩
  exact this _ (fun x hx=>hx)
 refine⟨hc.1,(Inv.aDZ i hc hm aPF hv).mono ?_⟩
 rintro e w' ⟨v,M',β',h1,h2,h3,h4,h5,h6⟩
 obtain rfl:=h6 (fun x hx=>hx)
 refine⟨v,M',h1,?_,h3.boxes (aGM hm),h4,h5⟩
 have hr:oC ren r=r:=by
  have q1:∀x:SV,xR x=true→wF ren x=x:=fun x h=>by cases x <;> first|rfl|cases h
  have q2:∀cs:List SV,oG cs=true→mC ren cs=cs:=by
   intro cs;induction cs with
   |nil=>intro _;rfl
   |cons c r ih=>intro h;simp only [oG,Bool.and_eq_true]at h;simp only [mC];rw[q1 c h.1,ih h.2]
  have q3:∀cs:List TV,qV cs=true→BF ren cs=cs:=by
   intro cs;induction cs with
   |nil=>intro _;rfl
   |cons c r ih=>
    intro h;simp only [qV,Bool.and_eq_true]at h;simp only [BF];rw[ih h.2]
    cases c with
    |s x=>simp only [aA2];rw[q1 x h.1]
    |g l=>simp only [aA2];rw[q2 l h.1]
  cases r with
  |s x=>simp only [oC];rw[q1 x hf]
  |g l=>simp only [oC];rw[q2 l hf]
  |t l=>simp only [oC];rw[q3 l hf]
  |_=>cases hf
 rw[hr]at h2
 exact h2
section
variable{P:Program}{σ:St}{g:Option Bool}{K:AV→Prop}{o:Oper}
def lR(P:Program)(σ:St)(g:Option Bool)(f:FuncId)(args:List AV)(K:AV→Prop):Prop:=
 mV P σ g f args K∨∃r,imp g (CZ P σ f args r)∧K r
def mW(P:Program)(σ:St)(g:Option Bool)(vf:AV)(args:List AV)(K:AV→Prop):Prop:=
 match vf with
 |.s (.dZ f cs)=>lR P σ g f (args++wM cs) K
 |.s (.d (.dZ f k c))=>lR P σ g f (args++jF c k 0) K
 |.s (.d (.bnd f k c))=>mV P σ g f (.g (gD c k 0)::args) K
 |_=>False
theorem aNP.spec{fo:Operand}{args:Array Operand}{wR:Array TypeId}(ho:o.op=.call {callee:=.value fo,args:=args,argTypes:=wR})
  (h:fe g (ev σ fo) fun vf=>dY g σ args.toList fun ars=>mW P σ g vf ars K):
  ∃r,K r∧(act g→∀cx N M β a w,Inv cx N M β σ a w→∃f vs,(execOp a.eval o).run P w=.ok (.enter f vs) w∧
   Calls P f vs w fun e w'=>∃v M',e=.returned v∧r.bI M' β v∧Inv cx N M' β σ a w'∧Grow cx.B M M'∧cE cx w w'):=by
 replace h:=fe.ev h
 obtain⟨vf,h,hf⟩:=h
 replace h:=dY.spec h
 obtain⟨ars,h,has⟩:=h
 have key:∀(f:FuncId) (extra:List AV),lR P σ g f (ars++extra) K→
   (act g→∀cx N M β a w,Inv cx N M β σ a w→∃us:List Value,a.eval fo=.func (.func f) #[] us.toArray∧gZ M β extra us)→
   ∃r,K r∧(act g→∀cx N M β a w,Inv cx N M β σ a w→∃f vs,(execOp a.eval o).run P w=.ok (.enter f vs) w∧
   Calls P f vs w fun e w'=>∃v M',e=.returned v∧r.bI M' β v∧Inv cx N M' β σ a w'∧Grow cx.B M M'∧cE cx w w'):=by
  intro f extra hd hx
  rcases hd with hd|⟨r,hc,hk⟩
  ·exact call.key ho has hd hx
  ·refine⟨r,hk,fun ha cx N M β a w i=>?_⟩;obtain⟨us,eu,SG⟩:=hx ha cx N M β a w i;have xP:=(has ha cx N M β a w i).append SG;obtain⟨z7,eF⟩:=CZ.spec i (hc.get ha) xP;refine⟨f,(args.toList.map a.eval++us).toArray,?_,eF⟩;exact zad
 unfold mW at h
 split at h
 case h_4=>cases h
 ·rename_i f cs;refine key f _ h fun ha cx N M β a w i=>?_
  obtain⟨vs,e,hv⟩:=hf ha cx N M β a w i;exact⟨vs,e,wM.rep hv⟩
 ·rename_i f k c;refine key f _ h fun ha cx N M β a w i=>?_
  obtain⟨vs,e,hl,hv⟩:=hf ha cx N M β a w i;exact⟨vs,e,by rw[←hl];exact jF.rep (fun i u hu=>by rw[Nat.zero_add];exact hv i u hu)⟩
 ·rename_i f k c;refine call.aLT (pre:=[.g (gD c k 0)]) (extra:=[]) ho has (by rw[List.append_nil];exact h) fun ha cx N M β a w i=>?_
  obtain⟨vs,e,hl,hv⟩:=hf ha cx N M β a w i;exact⟨[.agg vs.toArray],[],e,⟨⟨vs,rfl,by rw[←hl];exact gD.rep (fun i u hu=>by rw[Nat.zero_add];exact hv i u hu)⟩,trivial⟩,trivial⟩
end
def iH(zs:List Nat):aP→aP
 |[]=>[]
 |(x,b)::r=>(x,bif zs.contains x then b else none)::iH zs r
def lW(zs:List Nat):aP→aP
 |[]=>[]
 |(x,b)::r=>(x,bif zs.contains x then none else b)::lW zs r
theorem iH.get{zs:List Nat}{x:Nat}{b:jK}:∀{box:aP},aH (iH zs box) x=some (some b)→zs.contains x=true∧aH box x=some (some b)
 |[],h=>by cases h
 |(k,c)::r,h=>by
  rw[iH,aL]at h;rw[aL];by_cases e:k=x
  ·subst e;rw[if_pos rfl]at h
   cases hz:zs.contains k with
   |true=>rw[hz]at h;exact⟨rfl,by rw[if_pos rfl];exact h⟩
   |false=>rw[hz]at h;cases h
  rw[if_neg e]at h ⊢;exact iH.get h
theorem lW.get{zs:List Nat}{x:Nat}{b:jK}:∀{box:aP},aH (lW zs box) x=some (some b)→zs.contains x=false∧aH box x=some (some b)
 |[],h=>by cases h
 |(k,c)::r,h=>by
  rw[lW,aL]at h;rw[aL];by_cases e:k=x
  ·subst e;rw[if_pos rfl]at h
   cases hz:zs.contains k with
   |true=>rw[hz]at h;cases h
   |false=>rw[hz]at h;exact⟨rfl,by rw[if_pos rfl];exact h⟩
  rw[if_neg e]at h ⊢;exact lW.get h
theorem iH.has{zs:List Nat}{x:Nat}{y:Option jK}:∀{box:aP},aH box x=some y→∃y',aH (iH zs box) x=some y'
 |[],h=>by cases h
 |(k,c)::r,h=>by
  rw[aL]at h;rw[iH,aL];by_cases e:k=x
  ·exact zb0
  rw[if_neg e]at h ⊢;exact iH.has h
theorem lW.has{zs:List Nat}{x:Nat}{y:Option jK}:∀{box:aP},aH box x=some y→∃y',aH (lW zs box) x=some y'
 |[],h=>by cases h
 |(k,c)::r,h=>by
  rw[aL]at h;rw[lW,aL];by_cases e:k=x
  ·exact zb0
  rw[if_neg e]at h ⊢;exact lW.has h
section
variable{P:Program}{cx:Cx}{N:Nat}{σ:St}{M:Mem}{β:Nm}{a:Act}{w:World}
theorem Inv.iH(i:Inv cx N M β σ a w)(zs:List Nat):Inv cx N M β ⟨σ.env,iH zs σ.box⟩ a w:=by
 refine⟨i.defers,i.tmps,i.heap,i.env,i.mem,?_,?_,?_,?_,?_,i.ref⟩
 ·intro x p e;obtain⟨y,hy⟩:=i.keys x p e;exact iH.has hy
 ·exact fun x bc h=>i.box x bc (iH.get h).2
 ·exact fun x y bx zB b c c' hx hy=>i.inj x y bx zB b c c' (iH.get hx).2 (iH.get hy).2
 ·exact fun x bc b c h=>i.apart x bc b c (iH.get h).2
 exact fun x bc b c h=>i.low x bc b c (iH.get h).2
open Classical in
noncomputable def wK (σ:St) (zs:List Nat) (β:Nm) (M:Mem) (w:World):Mem:=fun b o=>if ∃x bc c,zs.contains x=true∧aH σ.box x=some (some bc)∧β x=some (b,c)then w.cell? ⟨b,o,none⟩else M b o
theorem wK.le(i:Inv cx N M β σ a w)(zs:List Nat):Mem.le M (wK σ zs β M w):=by
 intro b o u h;unfold wK;by_cases hb:∃x bc c,zs.contains x=true∧aH σ.box x=some (some bc)∧β x=some (b,c)
 ·obtain⟨x,bc,c,_,hg,e⟩:=hb;rw[i.apart x bc b c hg e o]at h;cases h
 rw[if_neg hb];exact h
theorem wK.ok(i:Inv cx N M β σ a w)(zs:List Nat):lA (wK σ zs β M w) w:=by
 intro b o u h;unfold wK at h;by_cases hb:∃x bc c,zs.contains x=true∧aH σ.box x=some (some bc)∧β x=some (b,c)
 ·rw[if_pos hb]at h;exact h
 rw[if_neg hb]at h;exact i.mem b o u h
theorem Inv.eat(i:Inv cx N M β σ a w)(aA:cx.ref=[])(zs:List Nat):Inv cx N (wK σ zs β M w) β ⟨σ.env,lW zs σ.box⟩ a w∧Grow cx.B M (wK σ zs β M w):=by
 have hM:=wK.le i zs;refine⟨⟨i.defers,i.tmps,i.heap,fun t=>AV.bI.mono hM (Nm.le_refl β) (i.env t),wK.ok i zs,?_,?_,?_,?_,?_,i.ref⟩,⟨hM,?_⟩⟩
 ·intro x p e;obtain⟨y,hy⟩:=i.keys x p e;exact lW.has hy
 ·exact fun x bc h=>cN.mono hM (Nm.le_refl β) rfl (fun _ _ _=>rfl) (i.box x bc (lW.get h).2)
 ·exact fun x y bx zB b c c' hx hy=>i.inj x y bx zB b c c' (lW.get hx).2 (lW.get hy).2
 ·intro x bc b c h e o;obtain⟨h1,h2⟩:=lW.get h;unfold wK;have hn:¬∃x bc c,zs.contains x=true∧aH σ.box x=some (some bc)∧β x=some (b,c):=by rintro⟨y,bc',c',hy,hg,e'⟩;have:=i.inj x y bc bc' b c c' h2 hg e e';subst this;rw[h1]at hy;cases hy
  rw[if_neg hn];exact i.apart x bc b c h2 e o
 ·exact fun x bc b c h=>i.low x bc b c (lW.get h).2
 intro b o u h;unfold wK at h;by_cases hb:∃x bc c,zs.contains x=true∧aH σ.box x=some (some bc)∧β x=some (b,c)
 ·obtain⟨x,bc,c,_,hg,e⟩:=hb;rcases i.low x bc b c hg e with h1|⟨y,c',hy,_⟩
  ·exact .inr h1
  rw[aA]at hy;cases hy
 rw[if_neg hb]at h;exact .inl h
def aFY(P:Program)(σ:St)(vf:AV)(args:List AV)(K:AV→aP→Prop):Prop:=
 match vf with
 |.s (.dZ f cs)=>∃zs r,aF P f (jD ⟨σ.env,iH zs σ.box⟩ (args++wM cs)) r∧K r (lW zs σ.box)
 |_=>False
def QK(rc ref:List Nat)(σ:St)(op:Op):Option (Operand×List Operand):=
 match op with
 |.call {callee:=.value fo,args, .. }=>match ev σ fo with
  |.s (.dZ f _)=>bif rc.contains (f+2000000)&&ref.isEmpty then some (fo,args.toList)else none
  |_=>none
 |_=>none
theorem QK.op{rc ref:List Nat}{op:Op}{fo:Operand}{l:List Operand}(h:QK rc ref σ op=some (fo,l)):ref=[]∧∃args wR,op=.call {callee:=.value fo,args:=args,argTypes:=wR}∧args.toList=l:=by
 unfold QK at h;split at h
 ·split at h
  ·rename_i f cs hf
   cases hr:(rc.contains (f+2000000)&&ref.isEmpty)with
   |true=>
    rw[hr]at h
    cases h
    rw[Bool.and_eq_true]at hr;exact⟨List.isEmpty_iff.1 hr.2,_,_,rfl,rfl⟩
   |false=>rw[hr]at h;cases h
  cases h
 cases h
theorem eat.spec{o:Oper}{fo:Operand}{l:List Operand}{K:AV→aP→Prop}(ho:∃args wR,o.op=.call {callee:=.value fo,args:=args,argTypes:=wR}∧args.toList=l)
  (h:fe none (ev σ fo) fun vf=>dY none σ l fun ars=>aFY P σ vf ars K):
  ∃r bx,K r bx∧∀cx N M β a w,cx.ref=[]→Inv cx N M β σ a w→∃f vs,(execOp a.eval o).run P w=.ok (.enter f vs) w∧
   Calls P f vs w fun e w'=>∃v M' β',e=.returned v∧r.bI M' β' v∧Inv cx N M' β' ⟨σ.env,bx⟩ a w'∧Grow cx.B M M'∧cE cx w w':=by
 obtain⟨args,wR,ho,rfl⟩:=ho
 replace h:=fe.ev h
 obtain⟨vf,h,hf⟩:=h
 replace h:=dY.spec h
 obtain⟨ars,h,has⟩:=h
 unfold aFY at h
 split at h
 case h_2=>cases h
 rename_i f cs
 obtain⟨zs,r,⟨z7,eF⟩,hk⟩:=h
 refine⟨_,_,hk,fun cx N M β a w aA i=>?_⟩
 obtain⟨us,eu,SG⟩:=hf iY cx N M β a w i
 have xP:=(has iY cx N M β a w i).append (wM.rep SG)
 have hM:=wK.le i zs
 have jJ:=jD.rep (i.iH zs) hM (fun x bc b c hg e o u hu=>by obtain⟨h1,h2⟩:=iH.get hg;unfold wK;rw[if_pos ⟨x,bc,c,h1,h2,e⟩];exact hu) xP
 obtain⟨i2,g2⟩:=i.eat aA zs
 refine⟨f,(args.toList.map a.eval++us).toArray,?_,(eF _ w _ i.heap.aFU jJ (wK.ok i zs)).mono ?_⟩
 ·exact zad
 ·rintro e w' ⟨v,M',rfl,TQ,hg,hm,Q2⟩;obtain⟨i3,g3,k3⟩:=i2.after Q2 hg hm;exact⟨v,M',β,rfl,AV.bI.mono (Mem.le_refl _) (fun _ _ h=>by cases h) TQ,i3,g2.trans g3,k3⟩
def aFZ(zs:List Nat)(σ:St)(v:AV):AV:=
 match v with
 |.s (.own b)=>bif zs.contains b then pO ⟨σ.env,iH zs σ.box⟩ (.s (.own b))else .s (.own b)
 |.s (.mo z b)=>bif zs.contains b then pO ⟨σ.env,iH zs σ.box⟩ (.s (.mo z b))else .s (.mo z b)
 |v=>v
def aF0(zs:List Nat)(σ:St):List (Nat×AV)→List (Nat×AV)
 |[]=>[]
 |(t,v)::r=>(t,aFZ zs σ v)::aF0 zs σ r
def CB(zs:List Nat)(σ:St):St:=⟨aF0 zs σ σ.env,lW zs σ.box⟩
theorem Q5{zs:List Nat}{t:Nat}:∀{l:List (Nat×AV)},fL (aF0 zs σ l) t=aFZ zs σ (fL l t)
 |[]=>rfl
 |(k,v)::r=>by
  rw[aF0];unfold fL
  cases Nat.beq k t with
  |true=>rfl
  |false=>exact Q5
theorem Inv.CB(i:Inv cx N M β σ a w)(aA:cx.ref=[])(zs:List Nat):∃M',Inv cx N M' β (CB zs σ) a w∧Grow cx.B M M':=by
 obtain⟨i2,g2⟩:=i.eat aA zs;refine⟨_,⟨i2.defers,i2.tmps,i2.heap,fun t=>?_,i2.mem,i2.keys,i2.box,i2.inj,i2.apart,i2.low,i2.ref⟩,g2⟩;have hM:=wK.le i zs;have r0:=i.env t;have conv:∀x:AV,x.bI M β (a.tmps.getD t undef)→(pO ⟨σ.env,Go.Ax.iH zs σ.box⟩ x).bI (wK σ zs β M w) (fun _=>none) (a.tmps.getD t undef):=fun x hx=>
  pO.rep (i.iH zs) hM (fun x bc b c hg e o u hu=>by obtain⟨h1,h2⟩:=iH.get hg;unfold wK;rw[if_pos ⟨x,bc,c,h1,h2,e⟩];exact hu) hx
 have e0:fL (Go.Ax.CB zs σ).env t=aFZ zs σ (fL σ.env t):=Q5;rw[e0];unfold aFZ;split
 ·rename_i b hv;exact zaa
 ·rename_i z b hv;exact zaa
 exact AV.bI.mono hM (Nm.le_refl β) r0
end
def YC(rc ref:List Nat)(d:Nat):Bool:=rc.contains (d+3000000)&&ref.isEmpty
def mD(P:Program)(T:List (Nat×bV))(op:Op)(σ:St)(g:Option Bool)(K:AV→Prop):Prop:=
 match op with
 |.move x=>fe g (ev σ x) K
 |.assign x=>fe g (ev σ x) K
 |.pick c x y=>fe g (ev σ c) fun vc=>vV g vc (ev σ x) (ev σ y) K
 |.load t x=>fe g (ev σ x) fun va=>match dE T t with|some ti=>kH σ ti.agg ti.size g va K|none=>False
 |.fieldAddr s x f=>fe g (ev σ x) fun va=>sP T s f va K
 |.binOp op t x y _=>fe g (ev σ x) fun va=>fe g (ev σ y) fun vb=>bin T op t g va vb K
 |.unOp op _ x=>fe g (ev σ x) fun va=>unV op va K
 |.convert src dst x=>fe g (ev σ x) fun va=>tY T src dst va K
 |.nilCheck x=>fe g (ev σ x) fun va=>MT va K
 |.extract x k=>J3 k (ev σ x) K
 |.indexAddr t x y=>fe g (ev σ x) fun va=>fe g (ev σ y) fun vi=>qN T σ t g va vi K
 |.index t x y=>fe g (ev σ x) fun va=>fe g (ev σ y) fun vi=>C7 T t g va vi K
 |.lookup t x y ok=>fe g (ev σ x) fun va=>fe g (ev σ y) fun vi=>rX T σ t ok g va vi K
 |.slice t x lo hi none=>fe g (ev σ x) fun va=>lD T σ t g va lo hi K
 |.build t pa=>parts g σ pa.toList fun ps=>q9 T t ps K
 |.makeFunc (.func f) fs IV=>match fs.toList with
  |[]=>match qC σ IV.toList with|some cs=>K (.s (.dZ f cs))|none=>False
  |[y]=>match IV.toList with
   |[]=>fe g (ev σ y) fun va=>match va with|.g cs=>bif o5 cs then K (.s (.d (aKA f cs)))else False|_=>False
   |_=>False
  |_=>False
 |.call c=>match c.callee with
  |.value fo=>fe g (ev σ fo) fun vf=>dY g σ c.args.toList fun ars=>mW P σ g vf ars K
  |.builtin .len=>match c.args.toList,c.argTypes.toList with
   |[x],[t]=>fe g (ev σ x) fun va=>qL T σ t va K
   |_,_=>False
  |.builtin .cap=>match c.args.toList,c.argTypes.toList with
   |[x],[t]=>fe g (ev σ x) fun va=>J9 T t va K
   |_,_=>False
  |.builtin .max=>ints g σ c.args.toList fun l=>match l with|(k,n)::r=>K (mmL true k n r)|[]=>False
  |.builtin .min=>ints g σ c.args.toList fun l=>match l with|(k,n)::r=>K (mmL false k n r)|[]=>False
  |_=>False
 |_=>False
def ZY(P:Program)(o:Oper)(σ:St)(r:AV):Prop:=
 ∀cx N M β a w,Inv cx N M β σ a w→
  (∃v,(execOp a.eval o).run P w=.ok (.value v) w∧r.bI M β v)∨
  (∃f vs,(execOp a.eval o).run P w=.ok (.enter f vs) w∧
   Calls P f vs w fun e w'=>∃v M',e=.returned v∧r.bI M' β v∧Inv cx N M' β σ a w'∧Grow cx.B M M'∧cE cx w w')
theorem jW.aP0{P:Program}{o:Oper}{σ:St}{g:Option Bool}{r:AV}(h:jW P o σ g r)(ha:act g):ZY P o σ r:=
 fun cx N M β a w i=>.inl (h ha cx N M β a w i)
theorem mD.spec{P:Program}{T:List (Nat×bV)}(hT:cD P T){o:Oper}{σ:St}{g:Option Bool}{K:AV→Prop}(h:mD P T o.op σ g K):
  ∃r,K r∧(act g→ZY P o σ r):=by
 have up:(∃r,K r∧jW P o σ g r)→∃r,K r∧(act g→ZY P o σ r):=fun ⟨r,hk,hp⟩=>⟨r,hk,hp.aP0⟩
 generalize oT:o.op=op at h
 cases op with
 |move x=>exact up (move.spec (.inl oT) h)
 |assign x=>exact up (move.spec (.inr oT) h)
 |pick c x y=>exact up (pick.spec oT h)
 |load t x=>exact up (load.spec hT oT h)
 |fieldAddr s x f=>exact up (field.spec hT oT h)
 |binOp op t x y ty=>simp only [mD]at h;replace h:=fe.ev h;obtain⟨va,h,hra⟩:=h;replace h:=fe.ev h;obtain⟨vb,h,hrb⟩:=h;obtain⟨r,hk,hr⟩:=bin.spec hT oT h;exact⟨r,hk,fun ha cx N M β a w i=>.inl (hr ha M β a w (hra ha cx N M β a w i) (hrb ha cx N M β a w i))⟩
 |unOp op t x=>exact up (un.spec oT h)
 |convert src dst x=>exact up (conv.spec hT oT h)
 |nilCheck x=>exact up (nil.spec oT h)
 |extract x k=>exact up (ext.spec oT h)
 |indexAddr t x y=>exact up (idx.spec hT oT h)
 |index t x y=>exact up (str.spec hT oT h)
 |lookup t x y ok=>exact up (rX.spec hT oT h)
 |slice t x lo hi mx=>
  cases mx with
  |none=>exact up (lD.spec hT oT h)
  |some m=>exact h.elim
 |build t pa=>exact up (build.spec hT oT h)
 |makeFunc fn fs IV=>
  cases fn with
  |func f=>
   simp only [mD]at h;split at h
   ·rename_i Z6;have:fs= #[]:=by apply Array.ext';simpa using Z6
    subst this;exact up (mkf.spec oT h)
   ·split at h
    ·rename_i y Z6 _ nR;have e1:fs= #[y]:=by apply Array.ext';simpa using Z6
     have e2:IV= #[]:=by apply Array.ext';simpa using nR
     subst e1;subst e2;exact up (mkb.spec oT h)
    cases h
   cases h
  |_=>exact h.elim
 |call c=>
  obtain⟨callee,args,wR⟩:=c;simp only [mD]at h;split at h
  ·obtain⟨r,hk,hr⟩:=aNP.spec oT h;exact⟨r,hk,fun ha cx N M β a w i=>.inr (hr ha cx N M β a w i)⟩
  ·split at h
   ·rename_i x t hx ht;have e1:args= #[x]:=by apply Array.ext';simpa using hx
    have e2:wR= #[t]:=by apply Array.ext';simpa using ht
    subst e1;subst e2;exact up (len.spec hT oT h)
   cases h
  ·split at h
   ·rename_i x t hx ht;have e1:args= #[x]:=by apply Array.ext';simpa using hx
    have e2:wR= #[t]:=by apply Array.ext';simpa using ht
    subst e1;subst e2;exact up (cap.spec hT oT h)
   cases h
  ·exact up (mm.spec true oT h)
  ·exact up (mm.spec false oT h)
  cases h
 |_=>exact h.elim
def JR(T:List (Nat×bV))(ref:List Nat)(d:Nat)(op:Op)(σ:St)(K:AV→aP→Prop):Prop:=
 match op with
 |.alloc t=>x9 T σ d t K
 |.box _ x=>KB σ d x K
 |.store t x y=>o7 T σ t x y K
 |.buildSlice t len pa=>KA T σ d t len pa.toList K
 |.makeSlice t x y=>mkX T σ d t x y K
 |.makeMap t none=>G9 T σ d t K
 |.mapUpdate t x y z=>aAF T σ t x y z K
 |.range t x=>GW T σ d t x K
 |.next x false=>PU σ x K
 |.entry x=>IG σ x fun v=>K v σ.box
 |.convert t t' x=>aDK T σ t t' x K
 |.call c=>match c.callee with
  |.builtin .append=>match c.args.toList,c.argTypes.toList with
   |[x,y],[t,t']=>bif Nat.beq t t' then(match ev σ x with
    |.s (.j0 _ _ _ _)=>aDU T σ d t x y K
    |_=>x8 T σ ref d t x y K)else aDV T σ d t t' x y K
   |_,_=>False
  |.builtin .copy=>match c.args.toList,c.argTypes.toList with
   |[x,y],[t,_]=>LX T σ t x y K
   |_,_=>False
  |_=>False
 |_=>False
def aHL(P:Program)(o:Oper)(σ:St)(K:AV→aP→Prop)(cx:Cx)(N:Nat)(M:Mem)(a:Act)(w:World):Prop:=
 ∃r bx,K r bx∧∃v w' M' β',
  ((execOp a.eval o).run P w=.ok (.value v) w'∨((execOp a.eval o).run P w=.ok .skip w'∧v=undef))∧
  r.bI M' β' v∧Inv cx N M' β' ⟨σ.env,bx⟩ a w'∧Grow cx.B M M'∧cE cx w w'
theorem JR.spec{P:Program}{T:List (Nat×bV)}(hT:cD P T){ref:List Nat}{d:Nat}{o:Oper}{σ:St}{K:AV→aP→Prop}(h:JR T ref d o.op σ K)
  {cx:Cx} {N:Nat} {M:Mem} {β:Nm} {a:Act} {w:World} (aA:cx.ref=ref) (i:Inv cx N M β σ a w):aHL P o σ K cx N M a w:=by
 have up:(∃r bx,K r bx∧KI P o σ r bx)→aHL P o σ K cx N M a w:=fun ⟨r,bx,hk,hp⟩=>⟨r,bx,hk,hp cx N M β a w i⟩
 generalize oT:o.op=op at h
 cases op with
 |alloc t=>exact up (alloc.spec hT oT h)
 |box t x=>exact up (box.spec oT h)
 |store t x y=>exact up (store.spec hT oT h)
 |buildSlice t len pa=>exact up (bsl.spec hT oT h)
 |makeSlice t x y=>exact up (mk.spec hT oT h)
 |makeMap t r=>cases r with
  |none=>exact up (G9.spec oT h)
  |some x=>exact h.elim
 |mapUpdate t x y z=>exact up (aAF.spec hT oT h)
 |range t x=>exact up (GW.spec hT oT h)
 |next x s=>cases s with
  |true=>cases h
  |false=>obtain⟨r,bx,hk,v,w',h1,h2,h3,h4⟩:=PU.spec oT h i;exact⟨r,bx,hk,v,w',M,β,.inl h1,h2,h3,Grow.refl _ _,h4⟩
 |entry x=>obtain⟨r,hk,hp⟩:=IG.spec (K:=fun v=>K v σ.box) oT h;obtain⟨v,h1,h2⟩:=hp iY cx N M β a w i;exact⟨r,σ.box,hk,v,w,M,β,.inl h1,h2,i,Grow.refl _ _,cE.refl _ _⟩
 |convert t t' x=>exact up (byte.spec hT oT h)
 |call c=>
  obtain⟨callee,args,wR⟩:=c;simp only [JR]at h;split at h
  ·split at h
   ·rename_i x y t t' hx ht;have e1:args= #[x,y]:=by apply Array.ext';simpa using hx
    have e2:wR= #[t,t']:=by apply Array.ext';simpa using ht
    subst e1;subst e2
    cases ER:Nat.beq t t' with
    |false=>rw[ER]at h;exact up (aQB.spec hT oT h)
    |true=>
     rw[ER]at h;have e0:=Nat.eq_of_beq_eq_true ER;subst e0;simp only [cond_true]at h;split at h
     ·exact aQA.spec hT oT h i
     obtain⟨r,bx,hk,hs⟩:=app.spec hT oT h;exact⟨r,bx,hk,hs cx N M β a w aA i⟩
   cases h
  ·split at h
   ·rename_i x y t t' hx ht;have e1:args= #[x,y]:=by apply Array.ext';simpa using hx
    have e2:wR= #[t,t']:=by apply Array.ext';simpa using ht
    subst e1;subst e2;exact up (LX.spec hT oT h)
   cases h
  cases h
 |_=>exact h.elim
def M8:Op→Bool
 |.alloc _=>true
 |.box _ _=>true
 |.store _ _ _=>true
 |.buildSlice _ _ _=>true
 |.makeSlice _ _ _=>true
 |.makeMap _ _=>true
 |.mapUpdate _ _ _ _=>true
 |.range _ _=>true
 |.next _ _=>true
 |.entry _=>true
 |.convert _ t _=>aJ7.contains t
 |.call c=>match c.callee with
  |.builtin .append=>true
  |.builtin .copy=>true
  |_=>false
 |_=>false
def wT(b:Bool):AV→AV
 |.s x=>.ib b x
 |.g cs=>.ig b cs
 |_=>.s (.d .bL)
def o9(σ:St)(d:Nat)(v:AV):St:=⟨(d,v)::σ.env,σ.box⟩
def SE(rc:List Nat)(σ:St)(op:Op):Option (Operand×List Operand):=
 match op with
 |.call {callee:=.value fo,args, .. }=>match ev σ fo with
  |.s (.dZ f _)=>bif rc.contains f then some (fo,args.toList)else none
  |_=>none
 |_=>none
def HL(T:List (Nat×bV))(σ:St)(op:Op):Option (Nat×Bool):=
 match op with
 |.binOp bo t x y _=>match bo with
  |.eql=>match dE T t with
   |some i=>match i.j7 with
    |.slice _=>match ev σ x,ev σ y with
     |.s (.d (.fU n _ _)),.s (.d (.val (.slice none 0 0)))=>some (n,true)
     |_,_=>none
    |_=>none
   |none=>none
  |.neq=>match dE T t with
   |some i=>match i.j7 with
    |.slice _=>match ev σ x,ev σ y with
     |.s (.d (.fU n _ _)),.s (.d (.val (.slice none 0 0)))=>some (n,false)
     |_,_=>none
    |.iface=>match ev σ x,y with
     |.s (.d (.err e)),.const .nilIface=>some (1,!e)
     |_,_=>none
    |_=>none
   |none=>none
  |_=>none
 |_=>none
theorem PC{P:Program}{M:Mem}{e:Bool}{v:Value}(r:(DV.err e).bI M v)(w:World){t:TypeId}{ms}(h:P.underlying t=some (.interface ms)):(binOp .neq t v .nilIface).run P w=.ok (.bool e) w:=by
 have key:∀d,(Op.equalIn (d+1) t v .nilIface).run P w=.ok (!e) w:=by intro d;rcases r with⟨rfl,rfl⟩|⟨rfl,u,x,rfl⟩ <;> simp[Op.equalIn,run_underlying h]
 have:(binOp .neq t v .nilIface)=(do return .bool (!(←Op.equal t v .nilIface))):=by rcases r with⟨rfl,rfl⟩|⟨rfl,u,x,rfl⟩ <;> rfl
 rw[this];simp[Op.equal,Op.maxDepth,key 9999]
theorem JJ{P:Program}{M:Mem}{e:Bool}{v:Value}(r:(DV.err e).bI M v)(w:World)(t:TypeId)(x:Operand):(eqGuard .neq t x (.const .nilIface) v .nilIface).run P w=.ok () w:=by
 rcases r with⟨rfl,rfl⟩|⟨rfl,u,q,rfl⟩
 ·unfold eqGuard;simp
 unfold eqGuard;simp
theorem HL.spec{P:Program}{T:List (Nat×bV)}(hT:cD P T){o:Oper}{σ:St}{n:Nat}{p:Bool}(h:HL T σ o.op=some (n,p)){cx:Cx}{N:Nat}{M:Mem}{β:Nm}{a:Act}{w:World}(iv:Inv cx N M β σ a w):
  ∃b:Bool,(b=p→n=0)∧(execOp a.eval o).run P w=.ok (.value (.bool b)) w:=by
 have key:∀(v:Value) (m s:Nat) (f:Nat→Nat→DV),(DV.fU m s f).bI M v→∃(ad:Option Addr) (k c:Nat),v=.slice ad k c∧(ad.isNone=true→m=0):=by
  rintro v m s f ⟨ad,cap,e,_,h⟩;refine⟨ad,m,cap,e,fun h0=>?_⟩;rcases h with h|⟨b,o,h,_⟩
  ·exact h
  subst h;cases h0
 unfold HL at h
 split at h
 case h_2=>cases h
 rename_i bo t x y ty oT
 split at h
 case h_3=>cases h
 ·split at h
  case h_2=>cases h
  rename_i i hi;split at h
  case h_2=>cases h
  rename_i e hu;split at h
  case h_2=>cases h
  rename_i m s f hx hy
  cases h
  have rx:=ev.rep iv x;have ry:=ev.rep iv y;rw[hx]at rx;rw[hy]at ry;obtain⟨ad,k,c,ex,h0⟩:=key _ _ _ _ rx;have ey:a.eval y=.slice none 0 0:=ry;refine⟨ad.isNone,h0,?_⟩;simp only [execOp,oT,ex,ey,Sem.run_bind,eK BinOp.eql t x y (.slice ad k c) (.slice none 0 0) w sM sM,Result.andThen,zV w ((hT.get hi).xI hu),Sem.run_pure]
 ·split at h
  case h_2=>cases h
  rename_i i hi;split at h
  case h_3=>cases h
  case h_2=>
   rename_i hu;split at h
   case h_2=>cases h
   rename_i e hx
   cases h
   have rx:=ev.rep iv x;rw[hx]at rx;obtain⟨ds,q1,q2⟩:=(hT.get hi).j7;rw[hu]at q2;obtain⟨ms,rfl⟩:∃ms,ds=.interface ms:=by cases ds <;> first|exact⟨_,rfl⟩|cases q2
   have ey:a.eval (.const .nilIface)=.nilIface:=rfl;have rx':(DV.err e).bI M (a.eval x):=rx;refine⟨e,fun h=>(by cases e <;> cases h),?_⟩;simp only [execOp,oT,ey,Sem.run_bind,JJ rx' w t x,Result.andThen,PC rx' w q1,Sem.run_pure]
  rename_i e hu;split at h
  case h_2=>cases h
  rename_i m s f hx hy
  cases h
  have rx:=ev.rep iv x;have ry:=ev.rep iv y;rw[hx]at rx;rw[hy]at ry;obtain⟨ad,k,c,ex,h0⟩:=key _ _ _ _ rx;have ey:a.eval y=.slice none 0 0:=ry;refine⟨!ad.isNone,fun hb=>h0 (by simpa using hb),?_⟩;simp only [execOp,oT,ex,ey,Sem.run_bind,eK BinOp.neq t x y (.slice ad k c) (.slice none 0 0) w sM sM,Result.andThen,w7 w ((hT.get hi).xI hu),Sem.run_pure]
def VW(P:Program)(T:List (Nat×bV))(N:Nat)(ref rc:List Nat)(o:Oper)(σ:St)(K:St→Prop):Prop:=
 match o.dst with
 |some d=>bif Nat.blt d N then
   (bif M8 o.op then(bif YC rc ref d then ∃zs,JR T ref d o.op (CB zs σ) fun v bx=>K ⟨(d,v)::(CB zs σ).env,bx⟩else JR T ref d o.op σ fun v bx=>K ⟨(d,v)::σ.env,bx⟩)
   else match SE rc σ o.op with
    |some (fo,args)=>bif YC rc ref d then ∃zs,fe none (ev (CB zs σ) fo) fun vf=>dY none (CB zs σ) args fun ars=>IX P (CB zs σ) vf ars fun v bx=>K ⟨(d,v)::(CB zs σ).env,bx⟩
     else fe none (ev σ fo) fun vf=>dY none σ args fun ars=>IX P σ vf ars fun v bx=>K ⟨(d,v)::σ.env,bx⟩
    |none=>match QK rc ref σ o.op with
     |some (fo,args)=>fe none (ev σ fo) fun vf=>dY none σ args fun ars=>aFY P σ vf ars fun v bx=>K ⟨(d,v)::σ.env,bx⟩
     |none=>match BU T σ o.op with
      |some (l,k)=>∀r,findD l k=r→K (o9 σ d (.s (.d (aKO r))))
      |none=>match HL T σ o.op with
      |some (n,p)=>∀b:Bool,(b=p→n=0)→K (o9 σ d (kY b))
      |none=>mD P T o.op σ none fun v=>K (o9 σ d v))else False
 |none=>bif M8 o.op then JR T ref 0 o.op σ fun _ bx=>K ⟨σ.env,bx⟩else False
def A7(N:Nat)(o:Oper)(σ:St)(K:St→Prop):Prop:=
 match o.dst with
 |some d=>bif Nat.blt d N then K (o9 σ d (.s (.d .bL)))else False
 |none=>K σ
def tS(all:List Oper)(j:Nat):Option Nat:=(all[j]?).bind (·.dst)
def isS(rc:List Nat)(σ:St)(op:Op):Bool:=match M8 op with
 |true=>true
 |false=>match SE rc σ op with
  |some _=>true
  |none=>false
def rL(nY b:Bool):Bool:=match nY with|true=>b|false=> !b
def aAL(P:Program)(T:List (Nat×bV))(N:Nat)(ref rc:List Nat)(all:List Oper)(o:Oper)(next:St→(St→Prop)→Prop)(σ:St)(K:St→Prop):Prop:=
  match o.guard with
  |none=>VW P T N ref rc o σ fun σ'=>next σ' K
  |some (j,nY)=>match tS all j with
   |none=>False
   |some t=>match fL σ.env t with
    |.s (.d (.lit b))=>match b,nY with
     |true,true=>VW P T N ref rc o σ fun σ'=>next σ' K
     |false,false=>VW P T N ref rc o σ fun σ'=>next σ' K
     |_,_=>A7 N o σ fun σ'=>next σ' K
    |.s (.d (.val (.bool b)))=>match isS rc σ o.op with
     |true=>
      (b=nY→VW P T N ref rc o (o9 σ t (.s (.d (.lit nY)))) fun σ'=>next σ' K)∧
      (b= !nY→A7 N o (o9 σ t (.s (.d (.lit (!nY))))) fun σ'=>next σ' K)
     |false=>match o.dst with
      |some d=>bif Nat.blt d N then mD P T o.op σ (some (rL nY b)) fun v=>next (o9 σ d (wT (rL nY b) v)) K else False
      |none=>False
    |.ib c (.d (.val (.bool b)))=>match isS rc σ o.op with
     |true=>
      (c=true→b=nY→VW P T N ref rc o (o9 σ t (.s (.d (.lit nY)))) fun σ'=>next σ' K)∧
      (c=true→b= !nY→A7 N o (o9 σ t (.s (.d (.lit (!nY))))) fun σ'=>next σ' K)∧
      (c=false→A7 N o σ fun σ'=>next σ' K)
     |false=>match o.dst with
      |some d=>bif Nat.blt d N then mD P T o.op σ (some (c&&rL nY b)) fun v=>next (o9 σ d (wT (c&&rL nY b) v)) K else False
      |none=>False
    |_=>False
def l5(P:Program)(T:List (Nat×bV))(N:Nat)(ref rc:List Nat)(all:List Oper)(l:List Oper):St→(St→Prop)→Prop:=
 @List.rec Oper (fun _=>St→(St→Prop)→Prop) (fun σ K=>K σ) (fun o _ ih σ K=>aAL P T N ref rc all o ih σ K) l
section
variable{P:Program}{T:List (Nat×bV)}{N:Nat}{ref rc:List Nat}{cx:Cx}{M:Mem}{β:Nm}{σ:St}{a:Act}{w:World}
theorem Inv.put(i:Inv cx N M β σ a w){d:Nat}{r:AV}{v:Value}(hd:d<N)(hr:r.bI M β v):Inv cx N M β (o9 σ d r) (a.put (some d) v) w:=by
 refine⟨i.defers,by simp[Act.put,i.tmps],i.heap,fun t=>?_,i.mem,i.keys,i.box,i.inj,i.apart,i.low,i.ref⟩;simp only [o9];rw[gP];by_cases h:d=t
 ·subst h;rw[if_pos rfl];have:d<a.tmps.size:=by rw[i.tmps];exact hd
  simpa [Act.put,this]using hr
 rw[if_neg h];have:=i.env t;simpa [Act.put,Array.getElem?_setIfInBounds_ne h]using this
def KG(cx:Cx)(N:Nat)(M:Mem)(w:World)(K:St→Prop)(a':Act)(w':World):Prop:=
 ∃σ' M' β',K σ'∧Inv cx N M' β' σ' a' w'∧Grow cx.B M M'∧cE cx w w'
theorem UP{r:Option Nat}{n:Nat}{f:FuncId}{args:Array Value}{R:Ending→World→Prop}:CallsIn (FW r) n P f args w R↔Calls P f args w R:=callsIn_wide (n:=n)
theorem XN{r:Option Nat}{n:Nat}{row:String}{args:Array Value}{R:Value→World→Prop}:RowsIn (FW r) n P row args w R↔Rows P row args w R:=
 ⟨fun h c cs=>let⟨v,w',h1,h2⟩:=h c cs (room_wide _);⟨v,w',h1,h2.steps⟩,fun h c cs _=>let⟨v,w',h1,h2⟩:=h c cs;⟨v,w',h1,(stepsIn_wide (P:=P)).2 h2⟩⟩
theorem F0{o:Oper}{r:AV}{d:Nat}{K:St→Prop}{Q:Exit→Act→World→Prop}(hd:o.dst=some d)(hN:d<N)(h:ZY P o σ r)(i:Inv cx N M β σ a w)(hk:K (o9 σ d r)):
  o.wp P a w (KG cx N M w K) Q:=by
 unfold Oper.wp
 rcases h cx N M β a w i with⟨v,e,hr⟩|⟨f,vs,e,hc⟩
 ·rw[e,Oper.upon_value,hd];exact⟨_,M,β,hk,i.put hN hr,Grow.refl _ _,cE.refl _ _⟩
 ·rw[e,Oper.upon_enter];refine hc.mono ?_;rintro e' w' ⟨v,M',rfl,hr,i',hg,lB⟩;simp only [hd];exact⟨_,M',β,hk,i'.put hN hr,hg,lB⟩
theorem MQ{r:Option Nat}{o:Oper}{next:Act→World→Prop}{Q:Exit→Act→World→Prop}(YP:∀c,o.op≠.defer c)(h:o.wp P a w next Q):o.wpIn (FW r) 0 P a w next Q:=by
 refine⟨fun _ _=>trivial,?_⟩;rw[Oper.semAt_eq _ _ _ YP];unfold Oper.wp at h;generalize (execOp a.eval o).run P w=res at h ⊢;unfold Oper.upon at h;split at h
 ·exact h
 ·exact h
 ·exact h
 ·exact⟨fun e=>(by cases e),UP.2 h⟩
 ·exact⟨fun e=>(by cases e),XN.2 h⟩
 ·exact h
 cases h
theorem SE.op{rc:List Nat}{σ:St}{o:Oper}{fo:Operand}{l:List Operand}(h:SE rc σ o.op=some (fo,l)):∃args wR,o.op=.call {callee:=.value fo,args:=args,argTypes:=wR}∧args.toList=l:=by
 unfold SE at h;split at h
 ·rename_i fo' args wR oT;split at h
  ·rename_i f cs hv
   cases hc:rc.contains f with
   |false=>rw[hc]at h;cases h
   |true=>rw[hc]at h;simp only [cond_true,Option.some.injEq,Prod.mk.injEq]at h;obtain⟨rfl,rfl⟩:=h;exact⟨_,_,oT,rfl⟩
  cases h
 cases h
theorem VW.sound(hT:cD P T){o:Oper}{K:St→Prop}{Q:Exit→Act→World→Prop}(h:VW P T N ref rc o σ K)(aA:cx.ref=ref)(i:Inv cx N M β σ a w):
  o.wp P a w (KG cx N M w K) Q:=by
 unfold VW at h
 split at h
 ·rename_i d hd
  cases hN:Nat.blt d N with
  |false=>rw[hN]at h;cases h
  |true=>
   rw[hN]at h;have hN:d<N:=Nat.le_of_ble_eq_true hN;simp only [cond_true]at h
   cases hx:M8 o.op with
   |true=>
    rw[hx]at h;simp only [cond_true]at h
    cases hfz:YC rc ref d with
    |true=>
     rw[hfz]at h;simp only [cond_true]at h;obtain⟨zs,h⟩:=h;unfold YC at hfz;rw[Bool.and_eq_true]at hfz;obtain⟨M1,i1,g1⟩:=i.CB (aA.trans (List.isEmpty_iff.1 hfz.2)) zs;obtain⟨r,bx,hk,v,w',M',β',a7,hr,hi,hg,lB⟩:=JR.spec hT h aA i1;unfold Oper.wp;rcases a7 with a7|⟨a7,rfl⟩
     ·rw[a7,Oper.upon_value,hd];exact zcp
     rw[a7,Oper.upon_skip,hd];exact zcp
    |false=>
    rw[hfz]at h;simp only [cond_false]at h;obtain⟨r,bx,hk,v,w',M',β',a7,hr,hi,hg,lB⟩:=JR.spec hT h aA i;unfold Oper.wp;rcases a7 with a7|⟨a7,rfl⟩
    ·rw[a7,Oper.upon_value,hd];exact zc9
    rw[a7,Oper.upon_skip,hd];exact zc9
   |false=>
    rw[hx]at h;simp only [cond_false]at h;split at h
    ·rename_i fo args hR
     cases hfz:YC rc ref d with
     |true=>rw[hfz]at h;simp only [cond_true]at h;obtain⟨zs,h⟩:=h;unfold YC at hfz;rw[Bool.and_eq_true]at hfz;obtain⟨M1,i1,g1⟩:=i.CB (aA.trans (List.isEmpty_iff.1 hfz.2)) zs;obtain⟨v,bx,hk,hs⟩:=aDI.spec (SE.op hR) h;obtain⟨f,vs,a7,eF⟩:=hs cx N M1 β a w i1;unfold Oper.wp;rw[a7,Oper.upon_enter];refine eF.mono ?_;rintro e' w' ⟨v',M',β',rfl,hr,i',hg,lB⟩;simp only [hd];exact⟨_,M',β',hk,i'.put (σ:=⟨(CB zs σ).env,bx⟩) hN hr,g1.trans hg,lB⟩
     |false=>
     rw[hfz]at h;simp only [cond_false]at h;obtain⟨v,bx,hk,hs⟩:=aDI.spec (SE.op hR) h;obtain⟨f,vs,a7,eF⟩:=hs cx N M β a w i;exact xc
    split at h
    ·rename_i fo args hR;obtain⟨hr0,hR⟩:=QK.op hR;obtain⟨v,bx,hk,hs⟩:=eat.spec hR h;obtain⟨f,vs,a7,eF⟩:=hs cx N M β a w (by rw[aA,hr0]) i;exact xc
    split at h
    ·rename_i l k hq;obtain⟨v,a7,hv⟩:=BU.spec hT hq i;unfold Oper.wp;rw[a7,Oper.upon_value,hd];exact⟨_,M,β,h _ rfl,i.put hN hv,Grow.refl _ _,cE.refl _ _⟩
    split at h
    ·rename_i n p hq;obtain⟨b,hb,a7⟩:=HL.spec hT hq i;unfold Oper.wp;rw[a7,Oper.upon_value,hd];exact⟨_,M,β,h b hb,i.put hN rfl,Grow.refl _ _,cE.refl _ _⟩
    obtain⟨r,hk,hs⟩:=mD.spec hT h;exact F0 hd hN (hs iY) i hk
 ·rename_i hd
  cases hx:M8 o.op with
  |false=>rw[hx]at h;cases h
  |true=>
   rw[hx]at h;obtain⟨r,bx,hk,v,w',M',β',a7,hr,hi,hg,lB⟩:=JR.spec hT h aA i;unfold Oper.wp;rcases a7 with a7|⟨a7,rfl⟩
   ·rw[a7,Oper.upon_value,hd];exact⟨_,M',β',hk,hi,hg,lB⟩
   rw[a7,Oper.upon_skip,hd];exact⟨_,M',β',hk,hi,hg,lB⟩
theorem mD.nd{o:Oper}{σ:St}{g:Option Bool}{K:AV→Prop}(h:mD P T o.op σ g K):∀c,o.op≠.defer c:=by
 intro c e;rw[e]at h
 cases h
theorem VW.nd{o:Oper}{K:St→Prop}(h:VW P T N ref rc o σ K):∀c,o.op≠.defer c:=by intro c e;unfold VW at h;exact zaJ
theorem A7.sound{o:Oper}{K:St→Prop}(h:A7 N o σ K)(i:Inv cx N M β σ a w):
  KG cx N M w K (a.put o.dst undef) w:=by
 unfold A7 at h
 split at h
 ·rename_i d hd
  cases hN:Nat.blt d N with
  |false=>rw[hN]at h;cases h
  |true=>rw[hN]at h;have hN:d<N:=Nat.le_of_ble_eq_true hN;rw[hd];exact⟨_,M,β,h,i.put hN trivial,Grow.refl _ _,cE.refl _ _⟩
 ·rename_i hd;rw[hd];exact⟨_,M,β,h,i,Grow.refl _ _,cE.refl _ _⟩
theorem YU{A:Array Value}{t:Nat}{b:Bool}(h:A.getD t undef=.bool b):A[t]? =some (.bool b):=by
 by_cases ht:t<A.size
 ·simp[ht]at h ⊢;exact h
 simp[ht,undef]at h
theorem pZ{all:List Oper}{o:Oper}{j t:Nat}{nY b:Bool}(hg:o.guard=some (j,nY))(hj:tS all j=some t)(hb:a.tmps.getD t undef=.bool b):
  Region.wanted o (yielded all.toArray a.tmps)=(b==nY):=by
 have h1:((all[j]?).bind (·.dst))=some t:=hj
 simp[Region.wanted,hg,yielded,h1,YU hb]
theorem AU{all:List Oper}{o:Oper}{j t:Nat}{nY:Bool}(hg:o.guard=some (j,nY))(hj:tS all j=some t)(hb:a.tmps.getD t undef=undef):
  Region.wanted o (yielded all.toArray a.tmps)=false:=by
 have h1:((all[j]?).bind (·.dst))=some t:=hj
 have h2:∀b,a.tmps[t]? ≠some (.bool b):=by intro b e;simp[e,undef]at hb
 simp only [Region.wanted,hg,yielded]
 simp[h1]
theorem aAT{t:Nat}{b nY:Bool}(i:Inv cx N M β σ a w)(hv:fL σ.env t=.s (.d (.val (.bool b))))(hb:b=nY):Inv cx N M β (o9 σ t (.s (.d (.lit nY)))) a w:=by
 refine⟨i.defers,i.tmps,i.heap,fun u=>?_,i.mem,i.keys,i.box,i.inj,i.apart,i.low,i.ref⟩;simp only [o9];rw[gP];split
 ·rename_i h;subst h;have:=i.env t;rw[hv]at this;rw[←hb];exact this
 exact i.env u
theorem VD{t:Nat}{b nY c:Bool}(i:Inv cx N M β σ a w)(hv:fL σ.env t=.ib c (.d (.val (.bool b))))(hc:c=true)(hb:b=nY):Inv cx N M β (o9 σ t (.s (.d (.lit nY)))) a w:=by
 refine⟨i.defers,i.tmps,i.heap,fun u=>?_,i.mem,i.keys,i.box,i.inj,i.apart,i.low,i.ref⟩;simp only [o9];rw[gP];split
 ·rename_i h;subst h;have:=i.env t;rw[hv]at this;rw[←hb];exact this.1 hc
 exact i.env u
theorem KG.trans{K:St→Prop}{M1:Mem}{w1:World}{a':Act}{w':World}(hg:Grow cx.B M M1)(hk:cE cx w w1)(h:KG cx N M1 w1 K a' w'):KG cx N M w K a' w':=by obtain⟨σ',M',β',h1,h2,h3,h4⟩:=h;exact⟨σ',M',β',h1,h2,hg.trans h3,hk.trans h4⟩
theorem l5.SU(hT:cD P T){all:List Oper}{K:St→Prop}{Q:Exit→Act→World→Prop}(aA:cx.ref=ref)(l2:List Oper):∀(l:List Oper) {M:Mem} {β:Nm} {σ:St} {a:Act} {w:World},
  l5 P T N ref rc all l σ K→Inv cx N M β σ a w→(∀a' w',KG cx N M w K a' w'→wpListIn (FW cx.rd) 0 P all.toArray Q l2 a' w')→wpListIn (FW cx.rd) 0 P all.toArray Q (l++l2) a w
 |[],M,β,σ,a,w,h,i,hQ=>hQ a w ⟨σ,M,β,h,i,Grow.refl _ _,cE.refl _ _⟩
 |o::rest,M,β,σ,a,w,h,i,hQ=>by
  have next:∀{a' w'},KG cx N M w (fun σ'=>l5 P T N ref rc all rest σ' K) a' w'→wpListIn (FW cx.rd) 0 P all.toArray Q (rest++l2) a' w':=by rintro a' w' ⟨σ',M',β',h1,h2,h3,h4⟩;exact l5.SU hT aA l2 rest h1 h2 fun a2 w2 hp=>hQ a2 w2 (hp.trans h3 h4)
  have yes:∀{σ0:St},Inv cx N M β σ0 a w→VW P T N ref rc o σ0 (fun σ'=>l5 P T N ref rc all rest σ' K)→Region.wanted o (yielded all.toArray a.tmps)=true→wpListIn (FW cx.rd) 0 P all.toArray Q (o::(rest++l2)) a w:=by intro σ0 i0 h hw;unfold wpListIn;rw[if_pos hw];exact MQ (VW.nd h) (Oper.wp_mono (fun a' w' hp=>next hp) (VW.sound hT h aA i0))
  have no:∀{σ0:St},Inv cx N M β σ0 a w→A7 N o σ0 (fun σ'=>l5 P T N ref rc all rest σ' K)→Region.wanted o (yielded all.toArray a.tmps)=false→wpListIn (FW cx.rd) 0 P all.toArray Q (o::(rest++l2)) a w:=by intro σ0 i0 h hw;unfold wpListIn;rw[if_neg (by simp[hw])];exact⟨fun _ _=>trivial,next (A7.sound h i0)⟩
  have part:∀{d:Nat} {gb:Bool},o.dst=some d→d<N→mD P T o.op σ (some gb) (fun v=>l5 P T N ref rc all rest (o9 σ d (wT gb v)) K)→
    Region.wanted o (yielded all.toArray a.tmps)=gb→wpListIn (FW cx.rd) 0 P all.toArray Q (o::(rest++l2)) a w:=by
   intro d gb hd hN h hw
   obtain⟨r,hk,hs⟩:=mD.spec hT h
   unfold wpListIn
   cases hgb:gb with
   |true=>
    rw[if_pos (by rw[hw,hgb])];have H4:act (some gb):=fun c e=>by cases e;exact hgb
    have hdo:ZY P o σ (wT gb r):=by
     intro cx N M β a w i;have hwr:∀{M β v},r.bI M β v→(wT gb r).bI M β v:=by
      intro M β v hr
      cases r with
      |s x=>exact⟨fun _=>hr,fun h=>by rw[hgb]at h;cases h⟩
      |g cs=>exact⟨fun _=>hr,fun h=>by rw[hgb]at h;cases h⟩
      |_=>exact trivial
     exact kz
    exact MQ (mD.nd h) (Oper.wp_mono (fun a' w' hp=>next hp) (F0 hd hN hdo i hk))
   |false=>
    rw[if_neg (by rw[hw,hgb];simp)];refine⟨fun _ _=>trivial,next ⟨_,M,β,hk,?_,Grow.refl _ _,cE.refl _ _⟩⟩;rw[hd];refine i.put hN ?_
    cases r with
    |s x=>exact⟨fun h=>(by rw[hgb]at h;cases h),fun _=>rfl⟩
    |g cs=>exact⟨fun h=>(by rw[hgb]at h;cases h),fun _=>rfl⟩
    |_=>exact trivial
  replace h:aAL P T N ref rc all o (l5 P T N ref rc all rest) σ K:=h;unfold aAL at h;split at h
  ·rename_i hg;exact yes i h zeP
  rename_i j nY hg;split at h
  ·cases h
  rename_i t ht;split at h
  ·rename_i b hv;have hb:a.tmps.getD t undef=.bool b:=by have:=i.env t;rw[hv]at this;exact this
   have hw:=pZ hg ht hb
   cases b <;> cases nY
   ·exact yes i h hw
   ·exact no i h hw
   ·exact no i h hw
   exact yes i h hw
  ·rename_i b hv;have hb:a.tmps.getD t undef=.bool b:=by have:=i.env t;rw[hv]at this;exact this
   have hw:=pZ hg ht hb
   cases hx:isS rc σ o.op with
   |true=>
    rw[hx]at h;by_cases hbp:b=nY
    ·exact yes (aAT i hv hbp) (h.1 hbp) (by rw[hw,hbp];simp)
    have hbn:b= !nY:=by cases b <;> cases nY <;> first|rfl|exact absurd rfl hbp
    exact no (aAT i hv hbn) (h.2 hbn) (by rw[hw,hbn];cases nY <;> rfl)
   |false=>rw[hx]at h;simp only at h;exact kf
  ·rename_i c b hv;have hr:(AV.ib c (.d (.val (.bool b)))).bI M β (a.tmps.getD t undef):=by have:=i.env t;rw[hv]at this;exact this
   have hw:Region.wanted o (yielded all.toArray a.tmps)=(c&&rL nY b):=by exact zbq
   split at h
   ·obtain⟨h1,h2,h3⟩:=h
    cases c with
    |false=>exact no i (h3 rfl) (by rw[hw];rfl)
    |true=>
     by_cases hbp:b=nY
     ·exact yes (VD i hv rfl hbp) (h1 rfl hbp) (by rw[hw,hbp];cases nY <;> rfl)
     have hbn:b= !nY:=by cases b <;> cases nY <;> first|rfl|exact absurd rfl hbp
     exact no (VD i hv rfl hbn) (h2 rfl hbn) (by rw[hw,hbn];cases nY <;> rfl)
   exact xi
  cases h
theorem l5.sound(hT:cD P T){all:List Oper}{K:St→Prop}{Q:Exit→Act→World→Prop}(aA:cx.ref=ref)(l:List Oper){M:Mem}{β:Nm}{σ:St}{a:Act}{w:World}
  (h:l5 P T N ref rc all l σ K) (i:Inv cx N M β σ a w) (hQ:∀a' w',KG cx N M w K a' w'→Q .normal a' w'):wpListIn (FW cx.rd) 0 P all.toArray Q l a w:=by
 have:=l5.SU (Q:=Q) hT aA [] l h i (fun a' w' hp=>wpListIn_nil (hQ a' w' hp))
 rwa [List.append_nil]at this
end
def wS(xs:List Nat)(σ σ':St):Prop:=∀x,x∈xs→aH σ'.box x=aH σ.box x
theorem dS.congr{σ σ':St}:∀(n:Nat) (x:SV),wS (reach n σ x) σ σ'→dS n σ' x=dS n σ x:=by
 intro n;induction n with
 |zero=>
  intro x h
  cases x with
  |own x=>simp only [dS,h x zeW]
  |mo z x=>simp only [dS,h x zeW]
  |j0 x s lo m=>simp only [dS,h x zeW]
  |_=>rfl
 |succ n ih=>
  intro x h
  cases x with
  |d x=>rfl
  |ptr x off=>
   simp only [dS,h x zeW]
   cases hb:aH σ.box x with
   |none=>rfl
   |some y=>cases y with
    |none=>rfl
    |some bc=>cases bc with
     |row e n s f=>rfl
     |b8 e n s f=>rfl
     |map vk l=>rfl
     |smap vk l=>rfl
     |dm l n=>rfl
     |fresh T vs=>rfl
     |iter q n t=>rfl
     |cells cs=>
      simp only;congr 1;funext j
      cases hc:cs[off+j]? with
      |none=>rfl
      |some c=>exact ih c (fun m hm=>h m zeR)
  |own x=>simp only [dS,h x zeW]
  |mo z x=>simp only [dS,h x zeW]
  |rw x i s o=>rfl
  |mp x=>rfl
  |j0 x s lo m=>
   simp only [dS,h x zeW]
   cases hb:aH σ.box x with
   |none=>rfl
   |some y=>cases y with
    |none=>rfl
    |some bc=>cases bc with
     |row e n s f=>rfl
     |b8 e n s f=>rfl
     |map vk l=>rfl
     |smap vk l=>rfl
     |dm l n=>rfl
     |fresh T vs=>rfl
     |iter q n t=>rfl
     |cells cs=>
      simp only;congr 1;congr 1;funext i j
      cases hc:cs[(lo+i)*s+j]? with
      |none=>rfl
      |some c=>exact ih c (fun m hm=>h m zeR)
  |dZ f cs=>
   simp only [dS];congr 1;funext i
   cases hc:cs[i]? with
   |none=>rfl
   |some c=>cases c with
    |d x=>rfl
    |ptr x off=>exact ih (.ptr x off) (fun m hm=>h m (iT (f:=fun c=>match c with|.d _=>[]|.ptr x off=>reach n σ (.ptr x off)) hc hm))
theorem wS.mono{xs ys:List Nat}{σ σ':St}(h:wS xs σ σ')(hs:∀x,x∈ys→x∈xs):wS ys σ σ':=fun x hx=>h x (hs x hx)
theorem aA7{σ:St}:∀(n:Nat) (x:SV) (m:Nat),m∈reach n σ x→m∈reach (n+1) σ x:=by
 intro n;induction n with
 |zero=>
  intro x m h
  cases x with
  |ptr x off=>simp[reach]at h;subst h;simp[reach]
  |dZ f cs=>simp[reach]at h
  |j0 x s lo q=>simp[reach]at h;subst h;simp[reach]
  |_=>exact h
 |succ n ih=>
  intro x m h;have lift:∀{α:Type} {f g:α→List Nat} (_:∀c,m∈f c→m∈g c) {l:List α},m∈dV f l→m∈dV g l:=by
   intro α f g hfg l;induction l with
   |nil=>exact fun h=>h
   |cons c r ihl=>intro h;simp only [dV,List.mem_append]at h ⊢;exact h.imp (hfg c) ihl
  cases x with
  |ptr x off=>exact qe
  |j0 x s lo q=>exact qe
  |dZ f cs=>
   simp only [reach]at h ⊢;refine lift (fun c hc=>?_) h
   cases c with
   |d x=>exact hc
   |ptr x off=>exact ih _ m hc
  |_=>exact h
theorem vX.congr{σ σ':St}{x:SV}(h:wS (reach 4 σ x) σ σ'):vX σ' x=vX σ x:=by unfold vX;rw[dS.congr 3 x (h.mono (fun m hm=>aA7 3 x m hm))]
theorem kW.congr{σ σ':St}:∀{cs:List SV},wS (dV (reach 4 σ) cs) σ σ'→kW σ' cs=kW σ cs
 |[],_=>rfl
 |c::r,h=>by simp only [kW];rw[vX.congr (h.mono fun m hm=>List.mem_append_left _ hm),kW.congr (cs:=r) (h.mono fun m hm=>List.mem_append_right _ hm)]
theorem pO.congr{σ σ':St}{x:AV}(h:wS (b9 σ x) σ σ'):pO σ' x=pO σ x:=by
 cases x with
 |s x=>simp only [pO];rw[vX.congr h]
 |g cs=>simp only [pO];rw[kW.congr h]
 |_=>rfl
theorem jD.congr{σ σ':St}:∀{l:List AV},wS (dV (b9 σ) l) σ σ'→jD σ' l=jD σ l
 |[],_=>rfl
 |c::r,h=>by simp only [jD];rw[pO.congr (h.mono fun m hm=>List.mem_append_left _ hm),jD.congr (l:=r) (h.mono fun m hm=>List.mem_append_right _ hm)]
def CS(v r:AV):Prop:=v=r∨(∃b x,v=.ib b x∧r=.s x)∨(∃b cs,v=.ig b cs∧r=.g cs)
theorem CS.reach{v r:AV}(h:CS v r)(σ:St):b9 σ r=b9 σ v:=by rcases h with rfl|⟨b,x,rfl,rfl⟩|⟨b,cs,rfl,rfl⟩ <;> rfl
theorem fe.imp{g:Option Bool}{v:AV}{K K':AV→Prop}(hk:∀r,CS v r→K r→K' r)(h:fe g v K):fe g v K':=by
 cases v with
 |s x=>exact hk _ (.inl rfl) h
 |g cs=>exact hk _ (.inl rfl) h
 |t ts=>exact hk _ (.inl rfl) h
 |ib b x=>cases g with
  |none=>exact⟨h.1,hk _ (.inr (.inl ⟨b,x,rfl,rfl⟩)) h.2⟩
  |some gb=>exact⟨h.1,hk _ (.inr (.inl ⟨b,x,rfl,rfl⟩)) h.2⟩
 |ig b cs=>cases g with
  |none=>exact⟨h.1,hk _ (.inr (.inr ⟨b,cs,rfl,rfl⟩)) h.2⟩
  |some gb=>exact⟨h.1,hk _ (.inr (.inr ⟨b,cs,rfl,rfl⟩)) h.2⟩
section
variable{P:Program}{T:List (Nat×bV)}{σ σ':St}{g:Option Bool}{K:AV→Prop}
theorem kH.congr{agg:Bool}{size:Nat}{va:AV}(h:wS (b9 σ va) σ σ')(k:kH σ agg size g va K):kH σ' agg size g va K:=by
 unfold kH at*
 cases va with
 |s x=>cases x with
  |ptr x off=>simp only [h x zff];exact k
  |rw x i s o=>simp only [h x zff];exact k
  |d x=>cases x <;> exact k
  |_=>exact k
 |_=>exact k
theorem qN.congr{t:Nat}{va vi:AV}(h:wS (b9 σ va) σ σ')(k:qN T σ t g va vi K):qN T σ' t g va vi K:=by
 have e:qN T σ' t g va vi K=qN T σ t g va vi K:=by
  unfold qN
  cases va with
  |s x=>cases x with
   |own x=>exact ub
   |mo z x=>exact ub
   |j0 x s lo m=>exact ub
   |d x=>cases x <;> rfl
   |_=>rfl
  |_=>rfl
 rw[e];exact k
theorem qL.congr{t:Nat}{va:AV}(h:wS (b9 σ va) σ σ')(k:qL T σ t va K):qL T σ' t va K:=by
 have e:qL T σ' t va K=qL T σ t va K:=by
  unfold qL
  cases dE T t with
  |none=>rfl
  |some ti=>
   simp only;generalize ti.j7=u
   cases va with
   |s x=>cases x with
    |own x=>exact zcT
    |mo z x=>exact zcT
    |d x=>cases x with
     |val v=>cases v <;> cases u <;> rfl
     |_=>cases u <;> rfl
    |_=>cases u <;> rfl
   |_=>cases u <;> rfl
 rw[e];exact k
theorem mV.congr{f:FuncId}{args:List AV}(h:wS (dV (b9 σ) args) σ σ')(k:mV P σ g f args K):mV P σ' g f args K:=by unfold mV at*;rw[jD.congr h];exact k
theorem reach.congr:∀(n:Nat) (x:SV),wS (reach n σ x) σ σ'→reach n σ' x=reach n σ x:=by exact zh
theorem b9.congr(v:AV):wS (b9 σ v) σ σ'→b9 σ' v=b9 σ v:=by
 have nR:∀cs:List SV,wS (dV (reach 4 σ) cs) σ σ'→dV (reach 4 σ') cs=dV (reach 4 σ) cs:=by
  intro cs;induction cs with
  |nil=>intro _;rfl
  |cons c r ih=>intro h;simp only [dV];rw[reach.congr 4 c (h.mono fun m hm=>List.mem_append_left _ hm),ih (h.mono fun m hm=>List.mem_append_right _ hm)]
 intro h
 cases v with
 |s x=>exact reach.congr 4 x h
 |ib b x=>exact reach.congr 4 x h
 |g cs=>exact nR cs h
 |ig b cs=>exact nR cs h
 |t ts=>rfl
theorem aA8.congr:∀(l:List AV),wS (dV (b9 σ) l) σ σ'→dV (b9 σ') l=dV (b9 σ) l
 |[],_=>rfl
 |v::r,h=>by simp only [dV];rw[b9.congr v (h.mono fun m hm=>List.mem_append_left _ hm),aA8.congr r (h.mono fun m hm=>List.mem_append_right _ hm)]
theorem nO.congr{ren:List (Nat×Nat)}:∀{bx:eV},(∀x,x∈names bx→aH σ'.box (look ren x)=aH σ.box (look ren x))→nO ren σ.box bx→nO ren σ'.box bx
 |[],_,_=>trivial
 |(x,b)::r,h,⟨h1,h2⟩=>⟨(h x zeL).trans h1,nO.congr (fun y hy=>h y (by simp only [names];exact List.mem_cons_of_mem _ hy)) h2⟩
theorem CZ.congr{f:FuncId}{args:List AV}{r:AV}(h:wS (dV (b9 σ) args) σ σ')(k:CZ P σ f args r):CZ P σ' f args r:=by
 obtain⟨ren,ar,bx,hc,he,hm,gF,hf,hx⟩:=k;have QO:∀x,x∈names bx→look ren x∈dV (b9 σ) args:=fun x NC=>by rw[List.all_eq_true]at hx;simpa using hx x NC
 refine⟨ren,ar,bx,hc,he,hm.congr (fun x NC=>h _ (QO x NC)),gF,hf,?_⟩;rw[aA8.congr args h];exact hx
theorem lR.congr{f:FuncId}{args:List AV}(h:wS (dV (b9 σ) args) σ σ')(k:lR P σ g f args K):lR P σ' g f args K:=by
 rcases k with k|⟨r,h1,h2⟩
 ·exact .inl (mV.congr h k)
 refine .inr ⟨r,?_,h2⟩
 cases g with
 |none=>exact CZ.congr h h1
 |some b=>exact fun hb=>CZ.congr h (h1 hb)
theorem x6{α:Type}(f:α→List Nat):∀(a b:List α),dV f (a++b)=dV f a++dV f b
 |[],b=>rfl
 |x::a,b=>by simp only [List.cons_append,dV,x6 f a b,List.append_assoc]
theorem DD(n:Nat):∀(cs:List CV) (m:Nat),m∈dV (b9 σ) (wM cs)→n=4→m∈dV (fun c=>match c with|.d _=>[]|.ptr x off=>reach 4 σ (.ptr x off)) cs
 |[],_,h,_=>h
 |.d _::r,m,h,hn=>by simp only [wM,dV,b9,reach,List.nil_append]at h ⊢;exact DD n r m h hn
 |.ptr x off::r,m,h,hn=>by simp only [wM,dV,List.mem_append]at h ⊢;exact h.imp id (fun h=>DD n r m h hn)
theorem IW(c:Nat→DV):∀(k j m:Nat),m∈dV (b9 σ) (jF c k j)→False
 |0,_,_,h=>by simp[jF,dV]at h
 |k+1,j,m,h=>by simp only [jF,dV,b9,reach,List.nil_append]at h;exact IW c k (j+1) m h
theorem Q7(c:Nat→DV):∀(k j m:Nat),m∈dV (reach 4 σ) (gD c k j)→False
 |0,_,_,h=>by simp[gD,dV]at h
 |k+1,j,m,h=>by simp only [gD,dV,reach,List.nil_append]at h;exact Q7 c k (j+1) m h
def uQ(σ:St):AV→List Nat
 |.s (.dZ _ cs)=>dV (fun c=>match c with|.d _=>[]|.ptr x off=>reach 4 σ (.ptr x off)) cs
 |.ib _ (.dZ _ cs)=>dV (fun c=>match c with|.d _=>[]|.ptr x off=>reach 4 σ (.ptr x off)) cs
 |_=>[]
theorem CS.uQ{v r:AV}(h:CS v r)(σ:St):uQ σ r=uQ σ v:=by
 rcases h with rfl|⟨b,x,rfl,rfl⟩|⟨b,cs,rfl,rfl⟩
 ·rfl
 ·cases x <;> rfl
 rfl
theorem mW.congr{vf:AV}{args:List AV}(h:wS (uQ σ vf++dV (b9 σ) args) σ σ')(k:mW P σ g vf args K):mW P σ' g vf args K:=by
 unfold mW at*;split at k
 ·refine lR.congr (fun m hm=>h m ?_) k;rw[x6,List.mem_append]at hm;rcases hm with hm|hm
  ·exact zdy
  exact List.mem_append_left _ (DD 4 _ m hm rfl)
 ·refine lR.congr (fun m hm=>h m ?_) k;rw[x6,List.mem_append]at hm;rcases hm with hm|hm
  ·exact zdy
  exact(IW _ _ _ m hm).elim
 ·refine mV.congr (fun m hm=>h m ?_) k;simp only [dV,List.mem_append]at hm;rcases hm with hm|hm
  ·exact(Q7 _ _ _ m hm).elim
  exact zdy
 exact k.elim
def W5(xs:List Operand)(σ σ':St):Prop:=∀x,x∈xs→ev σ' x=ev σ x
theorem dY.congr:∀{l:List Operand} {K K':List AV→Prop},W5 l σ σ'→(∀ars,(∀m,m∈dV (b9 σ) ars→m∈dV (fun x=>b9 σ (ev σ x)) l)→K ars→K' ars)→dY g σ l K→dY g σ' l K'
 |[],_,_,_,hk,h=>hk [] (fun m hm=>hm) h
 |x::r,K,K',he,hk,h=>by
  simp only [dY]at*;rw[he x sM];refine fe.imp (fun va hs h=>?_) h;refine dY.congr (fun y hy=>he y (List.mem_cons_of_mem _ hy)) (fun ars hm h=>hk _ ?_ h) h;intro m NC;simp only [dV,List.mem_append]at NC ⊢;rcases NC with h1|h1
  ·rw[hs.reach σ]at h1;exact .inl h1
  exact .inr (hm m h1)
theorem ints.congr:∀{l:List Operand} {K:List (IntKind×Int)→Prop},W5 l σ σ'→ints g σ l K→ints g σ' l K
 |[],_,_,h=>h
 |x::r,K,he,h=>by
  simp only [ints]at*;rw[he x sM];refine fe.imp (fun va hs h=>?_) h;split at h
  ·exact ints.congr (fun y hy=>he y (List.mem_cons_of_mem _ hy)) h
  cases h
theorem parts.congr:∀{l:List (Nat×Operand)} {K:List (Nat×List SV)→Prop},W5 (l.map (·.2)) σ σ'→parts g σ l K→parts g σ' l K
 |[],_,_,h=>h
 |(i,x)::r,K,he,h=>by
  simp only [parts]at*;rw[he x sM];refine fe.imp (fun va hs h=>?_) h;split at h
  ·rename_i cs nR;try simp only [nR]
   cases ho:l9 cs with
   |false=>rw[ho]at h;cases h
   |true=>rw[ho]at h;exact parts.congr (fun y hy=>he y (List.mem_cons_of_mem _ hy)) h
  cases h
theorem qC.congr:∀{l:List Operand},W5 l σ σ'→qC σ' l=qC σ l
 |[],_=>rfl
 |x::r,he=>by simp only [qC];rw[he x sM,qC.congr (l:=r) (fun y hy=>he y (List.mem_cons_of_mem _ hy))]
def tJ(σ:St)(op:Op):List Nat:=
 match op with
 |.call {callee:=.value fo,args, .. }=>uQ σ (ev σ fo)++dV (fun x=>b9 σ (ev σ x)) args.toList
 |.move _=>[]
 |.assign _=>[]
 |.pick _ _ _=>[]
 |.fieldAddr _ _ _=>[]
 |.nilCheck _=>[]
 |.binOp _ _ _ _ _=>[]
 |.unOp _ _ _=>[]
 |.convert _ _ _=>[]
 |.extract _ _=>[]
 |.build _ _=>[]
 |.makeFunc _ _ _=>[]
 |.store _ _ _=>[]
 |.box _ _=>[]
 |.alloc _=>[]
 |.buildSlice _ _ _=>[]
 |op=>dV (fun x=>b9 σ (ev σ x)) op.operands.toList
theorem mD.congr{op:Op}(he:W5 op.operands.toList σ σ')(hb:wS (tJ σ op) σ σ')(h:mD P T op σ g K):mD P T op σ' g K:=by
 cases op with
 |move x=>simp only [mD]at*;rw[he x zeA];exact h
 |assign x=>simp only [mD]at*;rw[he x zeA];exact h
 |pick c x y=>simp only [mD]at*;rw[he c zeA,he x zeA,he y zeA];exact h
 |load t x=>
  simp only [mD]at*
  rw[he x zeA]
  refine fe.imp (fun va hs h=>?_) h
  split at h
  ·exact kH.congr (hb.mono (fun m hm=>by rw[hs.reach σ]at hm;simp[tJ,Op.operands,dV,hm])) h
  ·cases h
 |fieldAddr s x f=>simp only [mD]at*;rw[he x zeA];exact h
 |binOp op t x y ty=>simp only [mD]at*;rw[he x zeA,he y zeA];exact h
 |unOp op t x=>simp only [mD]at*;rw[he x zeA];exact h
 |convert src dst x=>simp only [mD]at*;rw[he x zeA];exact h
 |nilCheck x=>simp only [mD]at*;rw[he x zeA];exact h
 |extract x k=>simp only [mD]at*;rw[he x zeA];exact h
 |indexAddr t x y=>
  simp only [mD]at*
  rw[he x zeA,he y zeA]
  refine fe.imp (fun va hs h=>?_) h
  refine fe.imp (fun vi _ h=>?_) h
  exact qN.congr (hb.mono (fun m hm=>by rw[hs.reach σ]at hm;simp[tJ,Op.operands,dV,hm])) h
 |index t x y=>simp only [mD]at*;rw[he x zeA,he y zeA];exact h
 |lookup t x y ok=>
  simp only [mD]at*
  rw[he x zeA,he y zeA]
  refine fe.imp (fun va hs h1=>?_) h
  refine fe.imp (fun vi hv h2=>?_) h1
  have Z7:wS (b9 σ va) σ σ':=hb.mono (fun m hm=>by rw[hs.reach σ]at hm;simp[tJ,Op.operands,dV,hm])
  clear h h1
  unfold rX at h2 ⊢
  cases hs:YB T t with
  |true=>
   simp only [hs]at h2 ⊢
   unfold qK at h2 ⊢
   exact zbK
  |false=>
   simp only [hs]at h2 ⊢
   unfold xE at h2 ⊢
   exact zbK
 |slice t x lo hi mx=>
  cases mx with
  |some m=>exact h.elim
  |none=>
   simp only [mD]at*
   rw[he x zeA]
   refine fe.imp (fun va hs h=>?_) h
   have DR:W5 lo.toList σ σ':=fun y hy=>he y (by simp[Op.operands];exact .inr (.inl ze3))
   have TZ:W5 hi.toList σ σ':=fun y hy=>he y (by simp[Op.operands];exact .inr (.inr ze3))
   unfold lD at*
   split at h <;> try (cases h)
   rename_i ti gG
   try simp only [gG]
   split at h
   ·rename_i e hu
    try simp only [hu]
    split at h <;> try (cases h)
    rename_i te nD
    try simp only [nD]
    split at h
    case h_5=>cases h
    case h_4=>
     exact zn
    ·rename_i n s f
     exact vj
    ·rename_i x'
     have hgb:aH σ'.box x'=aH σ.box x':=hb x' (iT (j:=0) (c:=x) zeA (by have:=hs.reach σ;simp only [←this];simp[b9,reach]))
     simp only [hgb]
     split at h
     case h_2=>cases h
     rename_i e' n s f rJ
     cases hs:Nat.beq s te.size with
     |false=>rw[hs]at h;cases h
     |true=>
      rw[hs]at h
      simp only [cond_true]at*
      exact zn
    ·rename_i x' s C0 n
     exact vj
   ·rename_i hu
    try simp only [hu]
    split at h <;> try (cases h)
    rename_i s
    try simp only
    exact zn
   ·cases h
 |build t pa=>
  simp only [mD]at*
  exact parts.congr (fun y hy=>he y (by simpa [Op.operands]using hy)) h
 |makeFunc fn fs IV=>
  cases fn with
  |func f=>
   simp only [mD]at*
   split at h
   ·rename_i Z6
    try simp only [Z6]
    rw[qC.congr (l:=IV.toList) (fun y hy=>he y (by simp[Op.operands];exact .inr ze3))]
    exact h
   ·rename_i y Z6
    try simp only [Z6]
    split at h
    ·rename_i nR
     try simp only [nR]
     rw[he y (by
      have:y∈fs:=by rw[←Array.mem_toList_iff,Z6];simp
      simp[Op.operands];exact .inl this)]
     exact h
    ·cases h
   ·cases h
  |_=>exact h.elim
 |call c=>
  obtain⟨callee,args,wR⟩:=c
  simp only [mD]at*
  split at h
  ·rename_i fo
   try simp only
   rw[he fo zeB]
   refine fe.imp (fun vf hs h=>?_) h
   refine dY.congr (fun y hy=>he y zeQ) (fun ars hm h=>?_) h
   refine mW.congr (fun m NC=>hb m ?_) h
   simp only [tJ]
   rw[List.mem_append]at NC ⊢
   rcases NC with h1|h1
   ·rw[hs.uQ σ]at h1;exact .inl h1
   ·exact .inr (hm m h1)
  ·try simp only
   split at h
   ·rename_i x t hx ht
    try simp only [hx,ht]
    have hxm:x∈args.toList:=by rw[hx];simp
    rw[he x (by simp[Op.operands,Call.operands];simpa using hxm)]
    refine fe.imp (fun va hs h=>?_) h
    refine qL.congr (hb.mono (fun m hm=>?_)) h
    rw[hs.reach σ]at hm
    have:args= #[x]:=by apply Array.ext';simpa using hx
    subst this
    simp[tJ,Op.operands,Call.operands,dV,hm]
   ·cases h
  ·try simp only
   split at h
   ·rename_i x t hx ht
    try simp only [hx,ht]
    have hxm:x∈args.toList:=by rw[hx];simp
    rw[he x (by simp[Op.operands,Call.operands];simpa using hxm)]
    exact h
   ·cases h
  ·exact zb3
  ·exact zb3
  ·cases h
 |_=>exact h.elim
end
def fA{α:Type}(C:(α→Prop)→Prop)(r:α):Prop:=∀K,K r→C K
section
variable{P:Program}{T:List (Nat×bV)}{σ:St}{g:Option Bool}
theorem fe.pJ{v:AV}{K:AV→Prop}(h:fe g v K):∃r,K r∧fA (fe g v) r:=by
 cases v with
 |s x=>exact⟨_,h,fun _ k=>k⟩
 |g cs=>exact⟨_,h,fun _ k=>k⟩
 |t ts=>exact⟨_,h,fun _ k=>k⟩
 |ib b x=>cases g with
  |none=>exact⟨_,h.2,fun _ k=>⟨h.1,k⟩⟩
  |some gb=>exact⟨_,h.2,fun _ k=>⟨h.1,k⟩⟩
 |ig b cs=>cases g with
  |none=>exact⟨_,h.2,fun _ k=>⟨h.1,k⟩⟩
  |some gb=>exact⟨_,h.2,fun _ k=>⟨h.1,k⟩⟩
theorem fe.pt{α:Type}{v:AV}{C:AV→(α→Prop)→Prop}{K:α→Prop}(h:fe g v fun va=>C va K)(hC:∀va K,C va K→∃r,K r∧fA (C va) r):
  ∃r,K r∧fA (fun K=>fe g v fun va=>C va K) r:=by
 obtain⟨va,h1,h2⟩:=fe.pJ h
 obtain⟨r,h3,h4⟩:=hC va K h1
 exact⟨r,h3,fun K k=>h2 _ (h4 K k)⟩
theorem dY.pt{α:Type}:∀{l:List Operand} {C:List AV→(α→Prop)→Prop} {K:α→Prop},dY g σ l (fun ars=>C ars K)→(∀ars K,C ars K→∃r,K r∧fA (C ars) r)→
  ∃r,K r∧fA (fun K=>dY g σ l fun ars=>C ars K) r
 |[],C,K,h,hC=>by exact za7
 |x::r,C,K,h,hC=>by simp only [dY]at h ⊢;exact fe.pt (C:=fun va K=>dY g σ r fun l=>C (va::l) K) h (fun va K h=>dY.pt (C:=fun l K=>C (va::l) K) h (fun ars K h=>hC _ K h))
theorem ints.pt{α:Type}:∀{l:List Operand} {C:List (IntKind×Int)→(α→Prop)→Prop} {K:α→Prop},ints g σ l (fun ars=>C ars K)→(∀ars K,C ars K→∃r,K r∧fA (C ars) r)→
  ∃r,K r∧fA (fun K=>ints g σ l fun ars=>C ars K) r
 |[],C,K,h,hC=>by exact za7
 |x::r,C,K,h,hC=>by
  simp only [ints]at h ⊢;refine fe.pt (C:=fun va K=>match va with|.s (.d (.val (.int k n)))=>ints g σ r fun l=>C ((k,n)::l) K|_=>False) h (fun va K h=>?_);split at h
  ·exact ints.pt (C:=fun l K=>C (_::l) K) h (fun ars K h=>hC _ K h)
  cases h
theorem parts.pt{α:Type}:∀{l:List (Nat×Operand)} {C:List (Nat×List SV)→(α→Prop)→Prop} {K:α→Prop},parts g σ l (fun ars=>C ars K)→(∀ars K,C ars K→∃r,K r∧fA (C ars) r)→
  ∃r,K r∧fA (fun K=>parts g σ l fun ars=>C ars K) r
 |[],C,K,h,hC=>by exact za7
 |(i,x)::r,C,K,h,hC=>by
  simp only [parts]at h ⊢;refine fe.pt (C:=fun va K=>match pH va with|some cs=>(bif l9 cs then parts g σ r fun l=>C ((i,cs)::l) K else False)|none=>False) h (fun va K h=>?_);split at h
  ·rename_i cs nR
   cases ho:l9 cs with
   |false=>rw[ho]at h;cases h
   |true=>rw[ho]at h;obtain⟨r',h1,h2⟩:=parts.pt (C:=fun l K=>C (_::l) K) h (fun ars K h=>hC _ K h);refine⟨r',h1,fun K k=>?_⟩;simp only [cond_true];exact h2 K k
  cases h
theorem kH.pt{agg:Bool}{size:Nat}{va:AV}{K:AV→Prop}(h:kH σ agg size g va K):∃r,K r∧fA (kH σ agg size g va) r:=by
 unfold kH at h;split at h
 ·rename_i x off;split at h
  ·rename_i cs hb;split at h
   ·cases hle:Nat.ble (off+size) cs.length with
    |false=>rw[hle]at h;cases h
    |true=>rw[hle]at h;exact⟨_,h,fun K k=>by unfold kH;simp only [hb,hle,cond_true];exact k⟩
   split at h
   ·rename_i c hc;exact⟨_,h,fun K k=>by unfold kH;simp only [hb,hc];exact k⟩
   cases h
  cases h
 ·rename_i x i s o;split at h
  ·exact qj
  ·exact qj
  cases h
 ·rename_i m f;split at h
  ·cases hle:Nat.ble size m with
   |false=>rw[hle]at h;cases h
   |true=>rw[hle]at h;exact⟨_,h,fun K k=>by unfold kH;simp only [hle,cond_true];exact k⟩
  cases hle:Nat.ble 1 m with
  |false=>rw[hle]at h;cases h
  |true=>rw[hle]at h;exact⟨_,h,fun K k=>by unfold kH;simp only [hle,cond_true];exact k⟩
 cases h
theorem sP.pt{s f:Nat}{va:AV}{K:AV→Prop}(h:sP T s f va K):∃r,K r∧fA (sP T s f va) r:=by
 unfold sP at h;split at h
 case h_2=>cases h
 rename_i ti gG;split at h
 case h_2=>cases h
 rename_i off sz hf;split at h
 case h_2=>cases h
 rename_i hu
 cases hz:Nat.beq sz 0 with
 |true=>rw[hz]at h;cases h
 |false=>
  rw[hz]at h;simp only [cond_false]at h;split at h
  case h_4=>cases h
  all_goals exact⟨_,h,fun K k=>by unfold sP;simp only [gG,hf,hu,hz,cond_false];exact k⟩
theorem qN.pt{t:Nat}{va vi:AV}{K:AV→Prop}(h:qN T σ t g va vi K):∃r,K r∧fA (qN T σ t g va vi) r:=by
 unfold qN at h;split at h
 case h_2=>cases h
 rename_i ti gG;split at h
 case h_3=>cases h
 rotate_left
 ·rename_i len e hu;split at h
  case h_2=>cases h
  rename_i te nD;split at h
  case h_2=>cases h
  split at h
  case h_4=>cases h
  all_goals exact⟨_,h.2,fun K k=>by unfold qN;simp only [gG,hu,nD];exact⟨h.1,k⟩⟩
 rename_i e hu;split at h
 case h_2=>cases h
 rename_i te nD;split at h
 case h_2=>cases h
 split at h
 case h_5=>cases h
 rotate_left;rotate_left;rotate_left
 ·rename_i x' s lo m;split at h
  ·rename_i cs hb
   cases hs:Nat.beq s te.size with
   |false=>rw[hs]at h;cases h
   |true=>rw[hs]at h;exact⟨_,h.2,fun K k=>by unfold qN;simp only [gG,hu,nD,hb,hs,cond_true];exact⟨h.1,k⟩⟩
  rename_i fJ
  cases hs:Nat.beq s te.size with
  |false=>rw[hs]at h;cases h
  |true=>rw[hs]at h;refine⟨_,h.2,fun K k=>?_⟩;unfold qN;simp only [gG,hu,nD];rw[hs,cond_true];exact⟨h.1,k⟩
 ·rename_i len s f
  cases hs:Nat.beq s te.size with
  |false=>rw[hs]at h;cases h
  |true=>rw[hs]at h;exact⟨_,h.2,fun K k=>by unfold qN;simp only [gG,hu,nD,hs,cond_true];exact⟨h.1,k⟩⟩
 ·exact jv
 exact jv
theorem C7.pt{t:Nat}{va vi:AV}{K:AV→Prop}(h:C7 T t g va vi K):∃r,K r∧fA (C7 T t g va vi) r:=by
 unfold C7 at h;split at h
 case h_2=>cases h
 rename_i ti gG;split at h
 case h_3=>cases h
 ·rename_i hu;split at h
  case h_2=>cases h
  exact⟨_,h.2,fun K k=>by unfold C7;simp only [gG,hu];exact⟨h.1,k⟩⟩
 rename_i hu;split at h
 case h_2=>cases h
 rename_i te nD;split at h
 case h_2=>cases h
 rename_i cs kk n;obtain⟨jA,h⟩:=h;split at h
 ·rename_i H2
  cases hle:Nat.ble (n.toNat*te.size+te.size) cs.length with
  |false=>rw[hle]at h;cases h
  |true=>rw[hle]at h;exact⟨_,h,fun K k=>by unfold C7;simp only [gG,hu,nD,H2,hle,cond_true];exact⟨jA,k⟩⟩
 rename_i H2;split at h
 case h_2=>cases h
 rename_i c hc;exact⟨_,h,fun K k=>by unfold C7;simp only [gG,hu,nD,H2,hc];exact⟨jA,k⟩⟩
theorem J3.pt{n:Nat}{va:AV}{K:AV→Prop}(h:J3 n va K):∃r,K r∧fA (J3 n va) r:=by
 unfold J3 at h;split at h
 case h_2=>cases h
 rename_i ts;split at h
 case h_3=>cases h
 ·exact zcN
 exact zcN
theorem unV.pt{op:UnOp}{va:AV}{K:AV→Prop}(h:unV op va K):∃r,K r∧fA (unV op va) r:=by
 unfold unV at h;split at h
 case h_4=>cases h
 ·rename_i b
  cases b <;> exact⟨_,h,fun K k=>k⟩
 ·exact⟨_,h,fun K k=>k⟩
 exact⟨_,h,fun K k=>k⟩
theorem vV.pt{g:Option Bool}{vc vx vy:AV}{K:AV→Prop}(h:vV g vc vx vy K):∃r,K r∧fA (vV g vc vx vy) r:=by
 unfold vV at h;split at h
 case h_3=>cases h
 ·rename_i b
  cases b
  ·exact zdj
  exact zdj
 rename_i b;split at h
 case h_2=>cases h
 rename_i p gp q gq hp hq;obtain⟨h1,h2,h⟩:=h
 cases e1:isL false vy with
 |true=>rw[e1]at h;exact⟨_,h,fun K k=>by unfold vV;simp only [hp,hq,e1,cond_true];exact⟨h1,h2,k⟩⟩
 |false=>
  rw[e1]at h
  cases e2:isL true vx with
  |true=>rw[e2]at h;exact⟨_,h,fun K k=>by unfold vV;simp only [hp,hq,e1,e2,cond_true,cond_false];exact⟨h1,h2,k⟩⟩
  |false=>rw[e2]at h;exact⟨_,h,fun K k=>by unfold vV;simp only [hp,hq,e1,e2,cond_false];exact⟨h1,h2,k⟩⟩
theorem tY.pt{src dst:Nat}{va:AV}{K:AV→Prop}(h:tY T src dst va K):∃r,K r∧fA (tY T src dst va) r:=by
 unfold tY at h;split at h
 case h_2=>cases h
 rename_i ts td uX htd;split at h
 case h_5=>cases h
 ·exact zab
 ·exact zab
 ·exact zab
 rename_i e1 e2;obtain⟨n,h1,h⟩:=h;exact⟨_,h,fun K k=>by unfold tY;simp only [uX,htd,e1,e2];exact⟨n,h1,k⟩⟩
theorem MT.pt{va:AV}{K:AV→Prop}(h:MT va K):∃r,K r∧fA (MT va) r:=by
 unfold MT at h;split at h
 case h_6=>cases h
 all_goals exact⟨_,h,fun K k=>k⟩
theorem qL.pt{t:Nat}{va:AV}{K:AV→Prop}(h:qL T σ t va K):∃r,K r∧fA (qL T σ t va) r:=by
 unfold qL at h;split at h
 case h_2=>cases h
 rename_i ti gG;split at h
 case h_8=>cases h
 ·exact jc
 ·exact za2
 ·exact za2
 ·exact jc
 ·exact jc
 ·exact jc
 exact jc
theorem q9.pt{t:Nat}{ps:List (Nat×List SV)}{K:AV→Prop}(h:q9 T t ps K):∃r,K r∧fA (q9 T t ps) r:=by
 unfold q9 at h;split at h
 case h_2=>cases h
 rename_i ti gG;split at h
 case h_3=>cases h
 ·rename_i hu;split at h
  case h_2=>cases h
  rename_i cs nR;exact⟨_,h,fun K k=>by unfold q9;simp only [gG,hu,nR];exact k⟩
 rename_i n e hu;split at h
 case h_2=>cases h
 rename_i te nD;split at h
 case h_2=>cases h
 rename_i cs nR;exact⟨_,h,fun K k=>by unfold q9;simp only [gG,hu,nD,nR];exact k⟩
theorem KD.pt{op:BinOp}{k:IntKind}{x y:Int}{K:AV→Prop}(h:KD op k g x y K):∃r,K r∧fA (KD op k g x y) r:=by unfold KD at h;exact zbt
theorem KC.pt{op:BinOp}{x y:ByteArray}{K:AV→Prop}(h:KC op g x y K):∃r,K r∧fA (KC op g x y) r:=by unfold KC at h;exact zbt
theorem bin.pt{op:BinOp}{t:Nat}{va vb:AV}{K:AV→Prop}(h:bin T op t g va vb K):∃r,K r∧fA (bin T op t g va vb) r:=by
 unfold bin at h;split at h
 ·rename_i k a k' b;by_cases hk:k=k'
  ·subst hk;simp only [decide_true,cond_true]at h;obtain⟨r,h1,h2⟩:=KD.pt h;exact⟨r,h1,fun K k=>by unfold bin;simp only [decide_true,cond_true];exact h2 K k⟩
  exact zet
 ·obtain⟨r,h1,h2⟩:=KC.pt h;exact⟨r,h1,fun K k=>h2 K k⟩
 ·exact vr
 ·rename_i xs ys;split at h
  case h_2=>cases h
  rename_i i hi
  cases hc:(i.ints&&(gT i.zero xs&&gT i.zero ys))with
  |false=>rw[hc]at h;cases h
  |true=>
   rw[hc]at h;simp only [cond_true]at h;split at h
   case h_2=>cases h
   rename_i b hb
   cases op <;> first
    |exact h.elim
    |exact⟨_,h,fun K k=>by unfold bin;simp only [hi,hc,cond_true,hb];exact k⟩
 ·exact vr
 ·exact vr
 rename_i n1 n2 n3 n4 n5;split at h
 case h_2=>cases h
 rename_i a b ha hb;split at h
 case h_2=>cases h
 rename_i i hi;split at h
 case h_2=>cases h
 rename_i hu
 cases op <;> first
  |exact h.elim
  |exact⟨_,h,fun K k=>by unfold bin;simp only [ha,hb,hi,hu];exact k⟩
theorem gM.pt{α:Type}{x:Option Operand}{C:Option Int→(α→Prop)→Prop}{K:α→Prop}(h:gM g σ x fun r=>C r K)(hC:∀r K,C r K→∃e,K e∧fA (C r) e):
  ∃e,K e∧fA (fun K=>gM g σ x fun r=>C r K) e:=by
 cases x with
 |none=>exact hC none K h
 |some x=>
  simp only [gM]at h ⊢;refine fe.pt (C:=fun va K=>match va with|.s (.d (.val (.int _ n)))=>C (some n) K|_=>False) h (fun va K h=>?_);split at h
  ·exact hC _ K h
  cases h
theorem mV.pt{f:FuncId}{args:List AV}{K:AV→Prop}(h:mV P σ g f args K):∃r,K r∧fA (mV P σ g f args) r:=by
 obtain⟨r,h1,h2⟩:=h
 cases hb:(!B4 r&&tI args)with
 |true=>rw[hb]at h2;exact h2.elim
 |false=>rw[hb]at h2;exact⟨r,h2,fun K k=>⟨r,h1,by rw[hb];exact k⟩⟩
theorem lR.pt{f:FuncId}{args:List AV}{K:AV→Prop}(h:lR P σ g f args K):∃r,K r∧fA (lR P σ g f args) r:=by
 rcases h with h|⟨r,h1,h2⟩
 ·obtain⟨r,h1,h2⟩:=mV.pt h;exact⟨r,h1,fun K k=>.inl (h2 K k)⟩
 exact⟨r,h2,fun K k=>.inr ⟨r,h1,k⟩⟩
theorem mW.pt{vf:AV}{args:List AV}{K:AV→Prop}(h:mW P σ g vf args K):∃r,K r∧fA (mW P σ g vf args) r:=by
 unfold mW at h;split at h
 case h_4=>cases h
 ·exact zdk
 ·exact zdk
 obtain⟨r,h1,h2⟩:=mV.pt h;exact⟨r,h1,fun K k=>h2 K k⟩
theorem lD.pt{t:Nat}{vx:AV}{lo hi:Option Operand}{K:AV→Prop}(h:lD T σ t g vx lo hi K):∃r,K r∧fA (lD T σ t g vx lo hi) r:=by
 unfold lD at h;split at h
 case h_2=>cases h
 rename_i ti gG;split at h
 case h_3=>cases h
 ·rename_i e hu;split at h
  case h_2=>cases h
  rename_i te nD;split at h
  case h_5=>cases h
  case h_4=>obtain⟨r,h1,h2⟩:=gM.pt (C:=fun l (K:AV→Prop)=>gM g σ hi fun h=>Go.Ax.imp g (l.getD 0=0∧h.getD 0=0)∧K (.s (.d (.val (.slice none 0 0))))) h (fun l K h=>by refine gM.pt (C:=fun h (K:AV→Prop)=>Go.Ax.imp g (l.getD 0=0∧h.getD 0=0)∧K (.s (.d (.val (.slice none 0 0))))) h (fun hh K h=>⟨_,h.2,fun K k=>⟨h.1,k⟩⟩));refine⟨r,h1,fun K k=>?_⟩;unfold lD;simp only [gG,hu,nD];exact h2 K k
  ·rename_i n s f
   cases hs:Nat.beq s te.size with
   |false=>rw[hs]at h;cases h
   |true=>
    rw[hs]at h;simp only [cond_true]at h;obtain⟨r,h1,h2⟩:=gM.pt (C:=fun l (K:AV→Prop)=>gM g σ hi fun h=>Go.Ax.imp g (0≤l.getD 0∧l.getD 0≤h.getD n∧h.getD n≤n)∧
       (match (generalizing:=false) l with
       |none=>K (.s (.d (.fU (h.getD n).toNat s f)))
       |some l=>K (.s (.d (.fU (h.getD n - l).toNat s fun i=>f (l.toNat+i)))))) h (fun l K h=>by
     refine gM.pt (C:=fun h (K:AV→Prop)=>Go.Ax.imp g (0≤l.getD 0∧l.getD 0≤h.getD n∧h.getD n≤n)∧
       (match (generalizing:=false) l with
       |none=>K (.s (.d (.fU (h.getD n).toNat s f)))
       |some l=>K (.s (.d (.fU (h.getD n - l).toNat s fun i=>f (l.toNat+i)))))) h (fun hh K h=>?_)
     cases l with
     |none=>exact⟨_,h.2,fun K k=>⟨h.1,k⟩⟩
     |some l=>exact⟨_,h.2,fun K k=>⟨h.1,k⟩⟩)
    exact zb5
  ·rename_i x';split at h
   case h_2=>cases h
   rename_i e' n s f rJ
   cases hs:Nat.beq s te.size with
   |false=>rw[hs]at h;cases h
   |true=>rw[hs]at h;simp only [cond_true]at h;obtain⟨r,h1,h2⟩:=gM.pt (C:=fun l (K:AV→Prop)=>gM g σ hi fun h=>Go.Ax.imp g (0≤l.getD 0∧l.getD 0≤h.getD n∧h.getD n≤n)∧K (.s (.j0 x' s (l.getD 0).toNat ((h.getD n).toNat - (l.getD 0).toNat)))) h (fun l K h=>by refine gM.pt (C:=fun h (K:AV→Prop)=>Go.Ax.imp g (0≤l.getD 0∧l.getD 0≤h.getD n∧h.getD n≤n)∧K (.s (.j0 x' s (l.getD 0).toNat ((h.getD n).toNat - (l.getD 0).toNat)))) h (fun hh K h=>⟨_,h.2,fun K k=>⟨h.1,k⟩⟩));refine⟨r,h1,fun K k=>?_⟩;unfold lD;simp only [gG,hu,nD,rJ,hs,cond_true];exact h2 K k
  rename_i x' s C0 n
  cases hs:Nat.beq s te.size with
  |false=>rw[hs]at h;cases h
  |true=>rw[hs]at h;simp only [cond_true]at h;obtain⟨r,h1,h2⟩:=gM.pt (C:=fun l (K:AV→Prop)=>gM g σ hi fun h=>Go.Ax.imp g (0≤l.getD 0∧l.getD 0≤h.getD n∧h.getD n≤n)∧K (.s (.j0 x' s (C0+(l.getD 0).toNat) ((h.getD n).toNat - (l.getD 0).toNat)))) h (fun l K h=>by refine gM.pt (C:=fun h (K:AV→Prop)=>Go.Ax.imp g (0≤l.getD 0∧l.getD 0≤h.getD n∧h.getD n≤n)∧K (.s (.j0 x' s (C0+(l.getD 0).toNat) ((h.getD n).toNat - (l.getD 0).toNat)))) h (fun hh K h=>⟨_,h.2,fun K k=>⟨h.1,k⟩⟩));exact zb5
 rename_i hu;split at h
 case h_2=>cases h
 rename_i s;obtain⟨r,h1,h2⟩:=gM.pt (C:=fun l (K:AV→Prop)=>gM g σ hi fun h=>Go.Ax.imp g (0≤l.getD 0∧l.getD 0≤h.getD s.size∧h.getD s.size≤s.size)∧
     K (.s (.d (.val (.string (s.extract (l.getD 0).toNat (h.getD s.size).toNat)))))) h (fun l K h=>by
  refine gM.pt (C:=fun h (K:AV→Prop)=>Go.Ax.imp g (0≤l.getD 0∧l.getD 0≤h.getD s.size∧h.getD s.size≤s.size)∧
     K (.s (.d (.val (.string (s.extract (l.getD 0).toNat (h.getD s.size).toNat)))))) h (fun hh K h=>⟨_,h.2,fun K k=>⟨h.1,k⟩⟩))
 refine⟨r,h1,fun K k=>?_⟩;unfold lD;simp only [gG,hu];exact h2 K k
theorem J9.pt{t:Nat}{va:AV}{K:AV→Prop}(h:J9 T t va K):∃r,K r∧fA (J9 T t va) r:=by
 unfold J9 at h;split at h
 case h_2=>cases h
 rename_i ti gG;split at h
 case h_2=>cases h
 rename_i e b n c hu;exact⟨_,h,fun K k=>by unfold J9;simp only [gG,hu];exact k⟩
theorem xE.pt{t:Nat}{ok:Bool}{va vb:AV}{K:AV→Prop}(h:xE T σ t ok g va vb K):∃r,K r∧fA (xE T σ t ok g va vb) r:=by
 unfold xE at h;split at h
 case h_2=>cases h
 rename_i b k;split at h
 case h_2=>cases h
 rename_i vk l hb;split at h
 case h_2=>cases h
 rename_i ti gG;split at h
 case h_2=>cases h
 rename_i kt et hu
 cases hk:(TK T kt&&(dE T et).isSome)with
 |false=>rw[hk]at h;cases h
 |true=>
  rw[hk]at h
  cases ok with
  |true=>exact⟨_,h,fun K k=>by unfold xE;simp only [hb,gG,hu,hk,cond_true];exact k⟩
  |false=>exact⟨_,h.2,fun K k=>by unfold xE;simp only [hb,gG,hu,hk,cond_true];exact⟨h.1,k⟩⟩
theorem qK.pt{t:Nat}{ok:Bool}{va vb:AV}{K:AV→Prop}(h:qK T σ t ok g va vb K):∃r,K r∧fA (qK T σ t ok g va vb) r:=by
 unfold qK at h;split at h
 case h_2=>cases h
 rename_i b k;split at h
 case h_2=>cases h
 rename_i vk l hb;split at h
 case h_2=>cases h
 rename_i ti gG;split at h
 case h_2=>cases h
 rename_i kt et hu
 cases hk:(yZ T kt&&zOK T et vk)with
 |false=>rw[hk]at h;cases h
 |true=>
  rw[hk]at h
  cases ok with
  |true=>exact⟨_,h,fun K k=>by unfold qK;simp only [hb,gG,hu,hk,cond_true];exact k⟩
  |false=>exact⟨_,h,fun K k=>by unfold qK;simp only [hb,gG,hu,hk,cond_true];exact k⟩
theorem rX.pt{t:Nat}{ok:Bool}{va vb:AV}{K:AV→Prop}(h:rX T σ t ok g va vb K):∃r,K r∧fA (rX T σ t ok g va vb) r:=by
 cases hs:YB T t with
 |true=>unfold rX fA at*;simp only [hs]at*;exact qK.pt h
 |false=>unfold rX fA at*;simp only [hs]at*;exact xE.pt h
theorem mD.pt{op:Op}{K:AV→Prop}(h:mD P T op σ g K):∃r,K r∧fA (mD P T op σ g) r:=by
 cases op with
 |move x=>exact fe.pJ h
 |assign x=>exact fe.pJ h
 |pick c x y=>exact fe.pt (C:=fun vc K=>vV g vc (ev σ x) (ev σ y) K) h (fun _ _ h=>vV.pt h)
 |load t x=>
  refine fe.pt (C:=fun va K=>match dE T t with|some ti=>kH σ ti.agg ti.size g va K|none=>False) h (fun va K h=>?_);split at h
  ·exact kH.pt h
  cases h
 |fieldAddr s x f=>exact fe.pt (C:=fun va K=>sP T s f va K) h (fun _ _ h=>sP.pt h)
 |binOp op t x y ty=>exact fe.pt (C:=fun va K=>fe g (ev σ y) fun vb=>bin T op t g va vb K) h (fun va K h=>fe.pt (C:=fun vb K=>bin T op t g va vb K) h (fun _ _ h=>bin.pt h))
 |unOp op t x=>exact fe.pt (C:=fun va K=>unV op va K) h (fun _ _ h=>unV.pt h)
 |convert src dst x=>exact fe.pt (C:=fun va K=>tY T src dst va K) h (fun _ _ h=>tY.pt h)
 |nilCheck x=>exact fe.pt (C:=fun va K=>MT va K) h (fun _ _ h=>MT.pt h)
 |extract x k=>exact J3.pt h
 |indexAddr t x y=>exact fe.pt (C:=fun va K=>fe g (ev σ y) fun vb=>qN T σ t g va vb K) h (fun va K h=>fe.pt (C:=fun vb K=>qN T σ t g va vb K) h (fun _ _ h=>qN.pt h))
 |index t x y=>exact fe.pt (C:=fun va K=>fe g (ev σ y) fun vb=>C7 T t g va vb K) h (fun va K h=>fe.pt (C:=fun vb K=>C7 T t g va vb K) h (fun _ _ h=>C7.pt h))
 |lookup t x y ok=>exact fe.pt (C:=fun va K=>fe g (ev σ y) fun vb=>rX T σ t ok g va vb K) h (fun va K h=>fe.pt (C:=fun vb K=>rX T σ t ok g va vb K) h (fun _ _ h=>rX.pt h))
 |slice t x lo hi mx=>
  cases mx with
  |some m=>exact h.elim
  |none=>exact fe.pt (C:=fun va K=>lD T σ t g va lo hi K) h (fun _ _ h=>lD.pt h)
 |build t pa=>exact parts.pt (C:=fun ps K=>q9 T t ps K) h (fun _ _ h=>q9.pt h)
 |makeFunc fn fs IV=>
  cases fn with
  |func f=>
   simp only [mD]at h;split at h
   case h_3=>cases h
   ·rename_i Z6;split at h
    case h_2=>cases h
    rename_i cs nR;exact⟨_,h,fun K k=>by simp only [mD,Z6,nR];exact k⟩
   rename_i y Z6;split at h
   case h_2=>cases h
   rename_i nR;have hp:=fe.pt (C:=fun va (K:AV→Prop)=>match va with|.g cs=>bif o5 cs then K (.s (.d (aKA f cs)))else False|_=>False) h (fun va K h=>by
    split at h
    case h_2=>cases h
    rename_i cs
    cases hc:o5 cs with
    |false=>rw[hc]at h;cases h
    |true=>rw[hc]at h;exact⟨_,h,fun K k=>by simp only;exact k⟩)
   obtain⟨r,h1,h2⟩:=hp;exact⟨r,h1,fun K k=>by simp only [mD,Z6,nR];exact h2 K k⟩
  |_=>exact h.elim
 |call c=>
  obtain⟨callee,args,wR⟩:=c
  cases callee with
  |value fo=>exact fe.pt (C:=fun vf K=>dY g σ args.toList fun ars=>mW P σ g vf ars K) h (fun vf K h=>dY.pt (C:=fun ars K=>mW P σ g vf ars K) h (fun _ _ h=>mW.pt h))
  |invoke r m=>exact h.elim
  |builtin b=>
   cases b with
   |len=>
    simp only [mD]at h;split at h
    case h_2=>cases h
    rename_i x t hx ht;obtain⟨r,h1,h2⟩:=fe.pt (C:=fun va K=>qL T σ t va K) h (fun _ _ h=>qL.pt h);exact zdh
   |cap=>
    simp only [mD]at h;split at h
    case h_2=>cases h
    rename_i x t hx ht;obtain⟨r,h1,h2⟩:=fe.pt (C:=fun va K=>J9 T t va K) h (fun _ _ h=>J9.pt h);exact zdh
   |max=>refine ints.pt (C:=fun l K=>match l with|(k,n)::r=>K (mmL true k n r)|[]=>False) h (fun l K h=>?_);exact zd0
   |min=>refine ints.pt (C:=fun l K=>match l with|(k,n)::r=>K (mmL false k n r)|[]=>False) h (fun l K h=>?_);exact zd0
   |_=>exact h.elim
 |_=>exact h.elim
end
abbrev Ef:=Option AV×aP
def aKB:aP→aP→aP
 |[],s=>s
 |[p],s=>p::s
 |[p,q],s=>p::q::s
 |l,s=>l++s
theorem F4{u s:aP}:aKB u s=u++s:=by unfold aKB;split <;> rfl
def K1(K:AV→aP→Prop)(v:AV)(bx:aP):Prop:=
 match bx with
 |p::_=>K v [p]
 |[]=>False
def K2(K:AV→aP→Prop)(v:AV)(bx:aP):Prop:=
 match bx with
 |p::q::_=>K v [p,q]
 |_=>False
def vW(T:List (Nat×bV))(d:Nat)(op:Op)(σ:St)(K:AV→aP→Prop):Prop:=
 match op with
 |.alloc t=>x9 T σ d t (K1 K)
 |.box _ x=>KB σ d x (K1 K)
 |.store t x y=>o7 T σ t x y (K1 K)
 |.buildSlice t len pa=>KA T σ d t len pa.toList (K1 K)
 |.makeSlice t x y=>mkX T σ d t x y (K1 K)
 |.call c=>match c.callee with
  |.builtin .copy=>match c.args.toList,c.argTypes.toList with
   |[x,y],[t,_]=>bif Nat.beq (szE T t) 1 then zN T σ t x y (K1 K)else False
   |_,_=>False
  |.builtin .append=>match c.args.toList,c.argTypes.toList with
   |[x,y],[t,t']=>bif Nat.beq t t' then(match ev σ x with
    |.s (.own _)=>x8 T σ [] d t x y (K2 K)
    |.s (.mo _ _)=>x8 T σ [] d t x y (K2 K)
    |.s (.d _)=>x8 T σ [] d t x y (K1 K)
    |_=>False)else False
   |_,_=>False
  |_=>False
 |_=>False
section
variable{P:Program}{T:List (Nat×bV)}{N:Nat}{ref rc:List Nat}{σ σ':St}{d:Nat}
theorem alloc.pt{t:Nat}{C:AV→aP→Prop}(h:x9 T σ d t C):∃r b,C r ((d,some b)::σ.box)∧∀σ',aH σ'.box d=aH σ.box d→∀C':AV→aP→Prop,C' r ((d,some b)::σ'.box)→x9 T σ' d t C':=by
 unfold x9 at h;split at h
 case h_2=>cases h
 rename_i ti gG;split at h
 case h_2=>cases h
 rename_i hd;exact⟨_,_,h,fun σ' e C' k=>by unfold x9;simp only [gG,e,hd];exact k⟩
theorem KB.pt{x:Operand}{C:AV→aP→Prop}(h:KB σ d x C):∃r b,C r ((d,some b)::σ.box)∧∀σ',aH σ'.box d=aH σ.box d→ev σ' x=ev σ x→∀C':AV→aP→Prop,C' r ((d,some b)::σ'.box)→KB σ' d x C':=by
 unfold KB at h;replace h:=fe.pJ h;obtain⟨va,h,hp⟩:=h;split at h
 case h_2=>cases h
 rename_i cs nR
 cases oU:l9 cs with
 |false=>rw[oU]at h;cases h
 |true=>
  rw[oU]at h;simp only [cond_true]at h;split at h
  case h_2=>cases h
  rename_i hd;refine⟨_,_,h,fun σ' e ex C' k=>?_⟩;unfold KB;rw[ex];refine hp _ ?_;simp only [nR,oU,cond_true,e,hd];exact k
theorem o7.pt{t:Nat}{x y:Operand}{C:AV→aP→Prop}(h:o7 T σ t x y C):∃r n b,C r ((n,some b)::σ.box)∧∀σ',aH σ'.box n=aH σ.box n→ev σ' x=ev σ x→ev σ' y=ev σ y→∀C':AV→aP→Prop,C' r ((n,some b)::σ'.box)→o7 T σ' t x y C':=by
 unfold o7 at h;replace h:=fe.pJ h;obtain⟨va,h,hp⟩:=h;replace h:=fe.pJ h;obtain⟨vv,h,hp2⟩:=h;split at h
 case h_2=>cases h
 rename_i ti cs gG nR
 cases oU:(l9 cs&&Nat.beq cs.length ti.size)with
 |false=>rw[oU]at h;cases h
 |true=>
  rw[oU]at h;simp only [cond_true]at h;split at h
  case h_3=>cases h
  ·rename_i b off;split at h
   case h_2=>cases h
   rename_i Z2 hb
   cases hle:Nat.ble (off+ti.size) Z2.length with
   |false=>rw[hle]at h;cases h
   |true=>rw[hle]at h;refine⟨_,_,_,h,fun σ' e ex ey C' k=>?_⟩;unfold o7;rw[ex,ey];refine hp _ (hp2 _ ?_);simp only [gG,nR,oU,cond_true,e,hb,hle];exact k
  rename_i b ix s off;split at h
  case h_3=>cases h
  ·exact qx
  exact qx
theorem parts.pJ{g:Option Bool}{l:List (Nat×Operand)}{K:List (Nat×List SV)→Prop}(h:parts g σ l K):∃ps,K ps∧fA (parts g σ l) ps:=by obtain⟨r,h1,h2⟩:=parts.pt (α:=List (Nat×List SV)) (C:=fun ps K=>K ps) h (fun ps K h=>⟨ps,h,fun _ k=>k⟩);exact⟨r,h1,h2⟩
theorem KA.pt{t len:Nat}{pa:List (Nat×Operand)}{C:AV→aP→Prop}(h:KA T σ d t len pa C):∃r b,C r ((d,some b)::σ.box)∧∀σ',aH σ'.box d=aH σ.box d→W5 (pa.map (·.2)) σ σ'→∀C':AV→aP→Prop,C' r ((d,some b)::σ'.box)→KA T σ' d t len pa C':=by
 unfold KA at h;replace h:=parts.pJ h;obtain⟨ps,h,hp⟩:=h;split at h
 case h_2=>cases h
 rename_i ti gG;split at h
 case h_2=>cases h
 rename_i e hu;split at h
 case h_2=>cases h
 rename_i te nD;split at h
 case h_2=>cases h
 rename_i cs nR
 cases hc:(o5 cs&&Nat.ble (len*te.size) 16777216&&Nat.blt 0 te.size&&Nat.beq te.zero.length te.size)with
 |false=>rw[hc]at h;cases h
 |true=>
  rw[hc]at h;simp only [cond_true]at h;split at h
  case h_2=>cases h
  rename_i hd;refine⟨_,_,h,fun σ' e hE C' k=>?_⟩;unfold KA;refine parts.congr hE (hp _ ?_);simp only [gG,hu,nD,nR,hc,cond_true,e,hd];exact k
theorem mkX.pt{t:Nat}{x y:Operand}{C:AV→aP→Prop}(h:mkX T σ d t x y C):∃r b,C r ((d,some b)::σ.box)∧∀σ',aH σ'.box d=aH σ.box d→ev σ' x=ev σ x→ev σ' y=ev σ y→∀C':AV→aP→Prop,C' r ((d,some b)::σ'.box)→mkX T σ' d t x y C':=by
 unfold mkX at h;replace h:=fe.pJ h;obtain⟨vx,h,hp⟩:=h;replace h:=fe.pJ h;obtain⟨vy,h,hp2⟩:=h;split at h
 case h_2=>cases h
 rename_i n c;split at h
 case h_2=>cases h
 rename_i ti gG;split at h
 case h_2=>cases h
 rename_i e hu;split at h
 case h_2=>cases h
 rename_i te nD
 cases hc:(Nat.blt 0 te.size&&Nat.blt 0 te.bytes&&Nat.beq te.zero.length te.size)with
 |false=>rw[hc]at h;cases h
 |true=>
  rw[hc]at h;simp only [cond_true]at h;split at h
  case h_2=>cases h
  rename_i hd;refine⟨_,_,h.2.2.2,fun σ' e ex ey C' k=>?_⟩;unfold mkX;rw[ex,ey];refine hp _ (hp2 _ ?_);simp only [gG,hu,nD,hc,cond_true,e,hd];exact⟨h.1,h.2.1,h.2.2.1,k⟩
theorem sF.congr{va:AV}(h:wS (b9 σ va) σ σ'):sF σ' va=sF σ va:=by
 have key:∀y,y∈b9 σ va→aH σ'.box y=aH σ.box y:=fun y hy=>h y hy
 unfold sF;split
 ·rw[key _ zff]
 ·rfl
 ·rw[key _ zff]
 rfl
theorem zN.pt{t:Nat}{x y:Operand}{C:AV→aP→Prop}(h:zN T σ t x y C):∃r n b,C r ((n,some b)::σ.box)∧∀σ',aH σ'.box n=aH σ.box n→ev σ' x=ev σ x→ev σ' y=ev σ y→wS (b9 σ (ev σ y)) σ σ'→∀C':AV→aP→Prop,C' r ((n,some b)::σ'.box)→zN T σ' t x y C':=by
 unfold zN at h;replace h:=fe.pJ h;obtain⟨vx,h,hp⟩:=h;replace h:=fe.pJ (fe.imp (K':=fun r=>CS (ev σ y) r∧_) (fun r hs k=>⟨hs,k⟩) h);obtain⟨vy,⟨jO,h⟩,hp2⟩:=h;split at h
 case h_2=>cases h
 rename_i ti gG;split at h
 case h_2=>cases h
 rename_i e hu;split at h
 case h_2=>cases h
 rename_i te nD;split at h
 case h_2=>cases h
 rename_i k s' g xN;split at h
 case h_2=>cases h
 rename_i b lo m T1;split at h
 case h_2=>cases h
 rename_i e' n s f hb
 cases hc:(Nat.beq te.size 1&&Nat.beq s 1&&Nat.beq s' 1)with
 |false=>rw[hc]at h;cases h
 |true=>rw[hc]at h;refine⟨_,_,_,h.2,fun σ' e ex ey hr C' kk=>?_⟩;unfold zN;rw[ex,ey];refine hp _ (hp2 _ ?_);rw[←jO.reach σ]at hr;simp only [gG,hu,nD,sF.congr hr,xN,T1,e,hb,hc,cond_true];exact⟨h.1,kk⟩
theorem x8.pt{t:Nat}{x y:Operand}{C:AV→aP→Prop}(h:x8 T σ [] d t x y C):∃r u z,C r (u++σ.box)∧CS (ev σ x) (.s z)∧(match z with|.d _=>∃p,u=[p]|_=>∃p q,u=[p,q])∧∀σ',(∀n,n∈u.map (·.1)→aH σ'.box n=aH σ.box n)→ev σ' x=ev σ x→ev σ' y=ev σ y→wS (b9 σ (ev σ y)) σ σ'→∀C':AV→aP→Prop,C' r (u++σ'.box)→x8 T σ' [] d t x y C':=by
 unfold x8 at h;replace h:=fe.pJ (fe.imp (K':=fun r=>CS (ev σ x) r∧_) (fun r hs k=>⟨hs,k⟩) h);obtain⟨vx,⟨hsx,h⟩,hp⟩:=h;replace h:=fe.pJ (fe.imp (K':=fun r=>CS (ev σ y) r∧_) (fun r hs k=>⟨hs,k⟩) h);obtain⟨vy,⟨jO,h⟩,hp2⟩:=h;split at h
 case h_2=>cases h
 rename_i ti gG;split at h
 case h_2=>cases h
 rename_i e hu;split at h
 case h_2=>cases h
 rename_i te nD;split at h
 case h_2=>cases h
 rename_i hd;split at h
 case h_2=>cases h
 rename_i m s' g xN
 cases hc:(Nat.beq s' te.size&&Nat.blt 0 te.size&&Nat.blt 0 te.bytes&&Nat.beq te.zero.length te.size)with
 |false=>rw[hc]at h;cases h
 |true=>
  rw[hc]at h;simp only [cond_true]at h;split at h
  ·rename_i b;split at h
   case h_2=>cases h
   rename_i e' n s f hb
   cases JA:(Nat.beq e' e&&Nat.beq s te.size)with
   |false=>rw[JA]at h;cases h
   |true=>
    rw[JA]at h;simp only [cond_true]at h;refine⟨_,[(d,some (.row e (n+m) te.size (jM n f g))),(b,none)],_,h.2.2,hsx,⟨_,_,rfl⟩,fun σ' eb ex ey hr C' kk=>?_⟩;have e1:aH σ'.box d=none:=by rw[eb d sM];exact hd
    have e2:aH σ'.box b=some (some (.row e' n s f)):=by rw[eb b sM];exact hb
    unfold x8;rw[ex,ey];refine hp _ (hp2 _ ?_);rw[←jO.reach σ]at hr;simp only [gG,hu,nD,e1,sF.congr hr,xN,hc,cond_true,e2,JA];exact⟨h.1,h.2.1,kk⟩
  ·rename_i z b;split at h
   case h_2=>cases h
   rename_i e' n s f hb
   cases JA:(Nat.beq e' e&&Nat.beq s te.size)with
   |false=>rw[JA]at h;cases h
   |true=>
    rw[JA]at h;simp only [cond_true]at h;refine⟨_,[(d,some (.row e ((bif z then 0 else n)+m) te.size (jM (bif z then 0 else n) f g))),(b,none)],_,h.2.2.2,hsx,⟨_,_,rfl⟩,fun σ' eb ex ey hr C' kk=>?_⟩;have e1:aH σ'.box d=none:=by rw[eb d sM];exact hd
    have e2:aH σ'.box b=some (some (.b8 e' n s f)):=by rw[eb b sM];exact hb
    unfold x8;rw[ex,ey];refine hp _ (hp2 _ ?_);rw[←jO.reach σ]at hr;simp only [gG,hu,nD,e1,sF.congr hr,xN,hc,cond_true,e2,JA];exact⟨h.1,h.2.1,h.2.2.1,kk⟩
  ·refine⟨_,[(d,some (.row e m te.size g))],_,h.2.2,hsx,⟨_,rfl⟩,fun σ' eb ex ey hr C' kk=>?_⟩;have e1:aH σ'.box d=none:=by rw[eb d sM];exact hd
   unfold x8;rw[ex,ey];refine hp _ (hp2 _ ?_);rw[←jO.reach σ]at hr;simp only [gG,hu,nD,e1,sF.congr hr,xN,hc,cond_true];exact⟨h.1,h.2.1,kk⟩
  cases h
theorem vW.pt{op:Op}{K:AV→aP→Prop}(h:vW T d op σ K):
  ∃r u,K r u∧(∀σ',(∀n,n∈u.map (·.1)→aH σ'.box n=aH σ.box n)→W5 op.operands.toList σ σ'→wS (tJ σ op) σ σ'→∀K':AV→aP→Prop,K' r u→vW T d op σ' K')∧
   ∀ref,JR T ref d op σ fun v bx=>v=r∧bx=u++σ.box:=by
 cases op with
 |alloc t=>
  simp only [vW]at h;obtain⟨r,b,h1,h2⟩:=alloc.pt h;refine⟨r,[(d,some b)],h1,fun σ' e _ _ K' k=>?_,fun _=>?_⟩
  ·simp only [vW];exact h2 σ' (e d sM) _ k
  simp only [JR];exact h2 σ rfl _ ⟨rfl,rfl⟩
 |box t x=>
  simp only [vW]at h;obtain⟨r,b,h1,h2⟩:=KB.pt h;refine⟨r,[(d,some b)],h1,fun σ' e he _ K' k=>?_,fun _=>?_⟩
  ·simp only [vW];exact h2 σ' (e d sM) (he x zeA) _ k
  simp only [JR];exact h2 σ rfl rfl _ ⟨rfl,rfl⟩
 |store t x y=>
  simp only [vW]at h;obtain⟨r,n,b,h1,h2⟩:=o7.pt h;refine⟨r,[(n,some b)],h1,fun σ' e he _ K' k=>?_,fun _=>?_⟩
  ·simp only [vW];exact h2 σ' (e n sM) (he x zeA) (he y zeA) _ k
  exact zdt
 |buildSlice t len pa=>
  simp only [vW]at h;obtain⟨r,b,h1,h2⟩:=KA.pt h;refine⟨r,[(d,some b)],h1,fun σ' e he _ K' k=>?_,fun _=>?_⟩
  ·simp only [vW];exact h2 σ' (e d sM) (fun y hy=>he y (by simpa [Op.operands]using hy)) _ k
  simp only [JR];exact h2 σ rfl (fun _ _=>rfl) _ ⟨rfl,rfl⟩
 |makeSlice t x y=>
  simp only [vW]at h;obtain⟨r,b,h1,h2⟩:=mkX.pt h;refine⟨r,[(d,some b)],h1,fun σ' e he _ K' k=>?_,fun _=>?_⟩
  ·simp only [vW];exact h2 σ' (e d sM) (he x zeA) (he y zeA) _ k
  exact zdt
 |call c=>
  obtain⟨callee,args,wR⟩:=c;simp only [vW]at h;split at h
  ·split at h
   case h_2=>cases h
   rename_i x y t t' hx ht
   cases hz:Nat.beq (szE T t) 1 with
   |false=>rw[hz]at h;cases h
   |true=>
   rw[hz]at h;simp only [cond_true]at h;obtain⟨r,n,b,h1,h2⟩:=zN.pt h;have e1:args= #[x,y]:=by apply Array.ext';simpa using hx
   have e2:wR= #[t,t']:=by apply Array.ext';simpa using ht
   subst e1;subst e2;refine⟨r,[(n,some b)],h1,fun σ' e he hr K' k=>?_,fun _=>?_⟩
   ·simp only [vW,hz,cond_true];exact h2 σ' (e n sM) (he x zeB) (he y zeB) (hr.mono fun m hm=>by simp only [tJ];exact iT (j:=1) (c:=y) zeB hm) _ k
   simp only [JR,LX,hz];exact h2 σ rfl rfl rfl (fun _ _=>rfl) _ ⟨rfl,rfl⟩
  ·split at h
   case h_2=>cases h
   rename_i x y t t' hx ht
   cases ER:Nat.beq t t' with
   |false=>rw[ER]at h;cases h
   |true=>
    rw[ER]at h;simp only [cond_true]at h;have e1:args= #[x,y]:=by apply Array.ext';simpa using hx
    have e2:wR= #[t,t']:=by apply Array.ext';simpa using ht
    subst e1;subst e2;have two:∀{z:SV},ev σ x=.s z→(∀q,z≠.d q)→(∀i j k l,z≠.j0 i j k l)→(∀σ' (K':AV→aP→Prop),ev σ' x=.s z→x8 T σ' [] d t x y (K2 K')→vW T d (.call ⟨.builtin .append, #[x,y], #[t,t']⟩) σ' K')→x8 T σ [] d t x y (K2 K)→∃r u,K r u∧(∀σ',(∀n,n∈u.map (·.1)→aH σ'.box n=aH σ.box n)→W5 (Op.operands (.call ⟨.builtin .append, #[x,y], #[t,t']⟩)).toList σ σ'→wS (tJ σ (.call ⟨.builtin .append, #[x,y], #[t,t']⟩)) σ σ'→∀K':AV→aP→Prop,K' r u→vW T d (.call ⟨.builtin .append, #[x,y], #[t,t']⟩) σ' K')∧
      ∀ref,JR T ref d (.call ⟨.builtin .append, #[x,y], #[t,t']⟩) σ fun v bx=>v=r∧bx=u++σ.box:=by
     intro z hz YP YN oT h
     obtain⟨r,u,z',h1,jO,hu,h2⟩:=x8.pt h
     rw[hz]at jO
     have hzz:z'=z:=by exact zcs
     subst hzz
     have hu:∃p q,u=[p,q]:=by
      split at hu
      ·rename_i q;exact absurd rfl (YP q)
      exact hu
     obtain⟨p,q,rfl⟩:=hu
     refine⟨r,[p,q],h1,fun σ' e he hr K' k=>?_,fun ref=>?_⟩
     ·have ex:=he x zeB;refine oT σ' K' (ex.trans hz) ?_;exact h2 σ' e ex (he y zeB) (hr.mono fun m hm=>by simp only [tJ];exact iT (j:=1) (c:=y) zeB hm) _ k
     ·have:=h2 σ (fun _ _=>rfl) rfl rfl (fun _ _=>rfl) (fun v bx=>v=r∧bx=[p,q]++σ.box) ⟨rfl,rfl⟩;simp only [JR,ER,cond_true,hz];split
      ·rename_i e;cases e;exact absurd rfl (YN _ _ _ _)
      exact this
    split at h
    ·rename_i b hv;exact zaZ
    ·rename_i b c hv;exact zaZ
    ·rename_i q hv;obtain⟨r,u,z',h1,jO,hu,h2⟩:=x8.pt h;rw[hv]at jO;have hzz:z'=.d q:=by exact zcs
     subst hzz;obtain⟨p,rfl⟩:=hu;refine⟨r,[p],h1,fun σ' e he hr K' k=>?_,fun ref=>?_⟩
     ·have ex:=he x zeB;have:=h2 σ' e ex (he y zeB) (hr.mono fun m hm=>by simp only [tJ];exact iT (j:=1) (c:=y) zeB hm) (K1 K') k;simp only [vW,ER,cond_true,ex,hv];exact this
     have:=h2 σ (fun _ _=>rfl) rfl rfl (fun _ _=>rfl) (fun v bx=>v=r∧bx=[p]++σ.box) ⟨rfl,rfl⟩;simp only [JR,ER,cond_true,hv];exact this
    cases h
  cases h
 |_=>exact h.elim
def nP(box:aP)(x:Nat):Option jK:=match aH box x with
 |some (some b)=>some b
 |_=>none
theorem uT{box:aP}{x:Nat}{b:jK}:nP box x=some b↔aH box x=some (some b):=by
 unfold nP;split
 ·rename_i c h;rw[h];simp
 rename_i h;constructor
 ·intro h2;cases h2
 intro h2;exact absurd h2 (h b)
theorem xF{u v:aP}{x:Nat}(h:nP u x=nP v x):aH u x=aH v x∨((∀b,aH u x≠some (some b))∧∀b,aH v x≠some (some b)):=by
 cases hu:nP u x with
 |some b=>rw[hu]at h;exact .inl ((uT.1 hu).trans (uT.1 h.symm).symm)
 |none=>
  rw[hu]at h;refine .inr ⟨fun b hb=>?_,fun b hb=>?_⟩
  ·rw[uT.2 hb]at hu;cases hu
  rw[uT.2 hb]at h;cases h
theorem WQ{σ σ':St}(h:∀x,nP σ.box x=nP σ'.box x):∀(n:Nat) (x:SV),dS n σ x=dS n σ' x:=by
 have own:∀n x,dS n σ (.own x)=dS n σ' (.own x):=by intro n x;exact xb
 have mo:∀n z x,dS n σ (.mo z x)=dS n σ' (.mo z x):=by intro n z x;exact xb
 have aOU:∀x s lo m,dS 0 σ (.j0 x s lo m)=dS 0 σ' (.j0 x s lo m):=by
  intro x s lo m;simp only [dS];rcases xF (h x)with e|⟨e1,e2⟩
  ·rw[e]
  split
  ·exact zax
  split
  ·rename_i hb;exact absurd hb (e2 _)
  rfl
 intro n;induction n with
 |zero=>
  intro x
  cases x with
  |own x=>exact own _ _
  |mo z x=>exact mo _ _ _
  |j0 x s lo m=>exact aOU _ _ _ _
  |_=>rfl
 |succ n ih=>
  intro x
  cases x with
  |own x=>exact own _ _
  |mo z x=>exact mo _ _ _
  |j0 x s lo m=>
   simp only [dS];rcases xF (h x)with e|⟨e1,e2⟩
   ·rw[e];split
    ·rfl
    ·rename_i cs hb;congr 1;congr 1;funext i j;split
     ·exact ih _
     rfl
    rfl
   split
   ·exact zax
   ·exact zax
   split
   ·rename_i hb;exact absurd hb (e2 _)
   ·rename_i hb;exact absurd hb (e2 _)
   rfl
  |ptr x off=>
   simp only [dS];rcases xF (h x)with e|⟨e1,e2⟩
   ·rw[e];split
    ·rename_i cs hb;congr 1;funext j;split
     ·exact ih _
     rfl
    rfl
   split
   ·exact zax
   split
   ·rename_i hb;exact absurd hb (e2 _)
   rfl
  |dZ f cs=>
   simp only [dS];congr 1;funext i;split
   ·rfl
   ·exact ih _
   rfl
  |_=>rfl
theorem RR{σ σ':St}(h:∀x,nP σ.box x=nP σ'.box x)(l:List AV):jD σ l=jD σ' l:=by
 have hs:∀cs:List SV,kW σ cs=kW σ' cs:=by
  intro cs;induction cs with
  |nil=>rfl
  |cons c r ih=>simp only [kW,vX,ih,WQ h]
 induction l with
 |nil=>rfl
 |cons v r ih=>
  simp only [jD,ih];congr 1
  cases v with
  |s x=>simp only [pO,vX,WQ h]
  |g cs=>simp only [pO,hs]
  |_=>rfl
theorem zZ{zs:List Nat}{x:Nat}:∀{box:aP},nP (iH zs box) x=bif zs.contains x then nP box x else none
 |[]=>by cases zs.contains x <;> rfl
 |(k,b)::r=>by
  have ih:=zZ (zs:=zs) (x:=x) (box:=r);unfold nP at*;rw[iH,aL,aL];by_cases e:k=x
  ·subst e;rw[if_pos rfl,if_pos rfl]
   cases zs.contains k <;> rfl
  rw[if_neg e,if_neg e];exact ih
theorem HF{zs:List Nat}{x:Nat}:∀{box:aP},aH (lW zs box) x=match aH box x with
  |none=>none
  |some b=>some (bif zs.contains x then none else b)
 |[]=>rfl
 |(k,b)::r=>by
  rw[lW,aL,aL];by_cases e:k=x
  ·subst e;rw[if_pos rfl,if_pos rfl]
  rw[if_neg e,if_neg e];exact HF
def CF(zs:List Nat):aP:=zs.map fun z=>(z,none)
theorem Y8{zs:List Nat}{x:Nat}:aH (CF zs) x=bif zs.contains x then some none else none:=by
 induction zs with
 |nil=>rfl
 |cons z r ih=>
  show aH ((z,none)::CF r) x=_;rw[aL];by_cases e:z=x
  ·subst e;rw[if_pos rfl];simp
  rw[if_neg e,ih];have:(z::r).contains x=r.contains x:=by simp only [List.contains_cons];rw[show(x==z)=false by simpa using fun h=>e h.symm];rfl
  rw[this]
def xJ(rc:List Nat)(σ:St)(op:Op):Option (Operand×List Operand):=
 match op with
 |.call {callee:=.value fo,args, .. }=>match ev σ fo with
  |.s (.dZ f _)=>bif (rc.contains (f+1000000)||rc.contains (f+2000000))||rc.contains (f+1500000)then some (fo,args.toList)else none
  |_=>none
 |_=>none
def gU(P:Program)(rc:List Nat)(σ:St)(vf:AV)(ars:List AV)(K:AV→aP→Prop):Prop:=
 match vf with
 |.s (.dZ f cs)=>bif rc.contains (f+2000000)then
   ∃zs r,(zs.all fun z=>(nP σ.box z).isSome)=true∧aF P f (jD ⟨σ.env,iH zs σ.box⟩ (ars++wM cs)) r∧K r (CF zs)
  else bif rc.contains (f+1500000)then
   ∃ren args bx r bx',bW P f args bx r bx'∧ars++wM cs=zG ren args∧nO ren σ.box bx∧BH ren σ.box args bx r bx'=true∧K (oC ren r) (sU ren (jU ren [] bx) bx')
  else ∃ren args r y b,bW P f args [] r [(y,b)]∧ars++wM cs=zG ren args∧BH ren [] args [] r [(y,b)]=true∧aH σ.box (look ren y)=none∧K (oC ren r) [(look ren y,some (jX ren b))]
 |_=>False
theorem xJ.op{rc:List Nat}{o:Oper}{fo:Operand}{l:List Operand}(h:xJ rc σ o.op=some (fo,l)):(∃f cs,ev σ fo=.s (.dZ f cs))∧∃args wR,o.op=.call {callee:=.value fo,args:=args,argTypes:=wR}∧args.toList=l:=by
 unfold xJ at h;split at h
 ·rename_i fo' args wR oT;split at h
  ·rename_i f cs hv
   cases hc:((rc.contains (f+1000000)||rc.contains (f+2000000))||rc.contains (f+1500000))with
   |false=>rw[hc]at h;cases h
   |true=>rw[hc]at h;simp only [cond_true,Option.some.injEq,Prod.mk.injEq]at h;obtain⟨rfl,rfl⟩:=h;exact⟨⟨_,_,hv⟩,_,_,oT,rfl⟩
  cases h
 cases h
theorem xJ.congr{rc:List Nat}{op:Op}(he:W5 op.operands.toList σ σ'):xJ rc σ' op=xJ rc σ op:=by
 unfold xJ;split
 ·rw[he _ zeB]
 rfl
theorem QB{ren:List (Nat×Nat)}{x:Nat}:∀{bx:eV},x∈names bx→look ren x∈(jU ren [] bx).map (·.1)
 |[],h=>by cases h
 |(y,b)::r,h=>by simp only [names,List.mem_cons]at h;simp only [jU,List.map_cons,List.mem_cons];exact h.imp (fun e=>by rw[e]) QB
theorem F7{ren:List (Nat×Nat)}{bx:eV}{x:Nat}:∀{bx':eV},x∈names bx∨x∈names bx'→look ren x∈(sU ren (jU ren [] bx) bx').map (·.1)
 |[],h=>QB (h.resolve_right zeL)
 |(y,b)::r,h=>by
  simp only [sU,List.map_cons,List.mem_cons];rcases h with h|h
  ·exact .inr (F7 (.inl h))
  simp only [names,List.mem_cons]at h;exact h.imp (fun e=>by rw[e]) (fun h=>F7 (.inr h))
theorem K4{ren:List (Nat×Nat)}{box:aP}:∀{bx:eV},jU ren box bx=jU ren [] bx++box
 |[]=>rfl
 |(y,_)::r=>congrArg (fun l=>(look ren y,none)::l) (K4 (bx:=r))
theorem SA{ren:List (Nat×Nat)}{box:aP}{bx:eV}:∀{bx':eV},sU ren (jU ren box bx) bx'=sU ren (jU ren [] bx) bx'++box
 |[]=>K4
 |(y,b)::r=>congrArg (fun l=>(look ren y,some (jX ren b))::l) (SA (bx':=r))
theorem B2{ren:List (Nat×Nat)}{bo bo':aP}{ns:List Nat}:∀{l:List Nat},(∀y,y∈l→aH bo' (look ren y)=aH bo (look ren y))→oF ren bo ns l=true→oF ren bo' ns l=true
 |[],_,h=>h
 |y::r,hk,h=>by simp only [oF,Bool.and_eq_true]at h ⊢;refine⟨?_,B2 (fun z hz=>hk z (List.mem_cons_of_mem _ hz)) h.2⟩;have:=h.1;rw[hk y (List.mem_cons_self)];exact this
theorem gU.pt{vf:AV}{ars:List AV}{K:Ef→Prop}(h:gU P rc σ vf ars fun v u=>K (some v,u)):∃e,K e∧fA (fun K:Ef→Prop=>gU P rc σ vf ars fun v u=>K (some v,u)) e:=by
 unfold gU at h;split at h
 case h_2=>cases h
 rename_i f cs
 cases hc:rc.contains (f+2000000)with
 |true=>rw[hc]at h;simp only [cond_true]at h;obtain⟨zs,r,h1,h2,h3⟩:=h;exact⟨_,h3,fun K k=>by simp only [gU,hc,cond_true];exact⟨zs,r,h1,h2,k⟩⟩
 |false=>
  rw[hc]at h;simp only [cond_false]at h
  cases hd:rc.contains (f+1500000)with
  |true=>rw[hd]at h;simp only [cond_true]at h;obtain⟨ren,args,bx,r,bx',h1,h2,h3,h4,h5⟩:=h;exact⟨_,h5,fun K k=>by show(bif rc.contains (f+2000000)then _ else bif rc.contains (f+1500000)then _ else _);rw[hc,cond_false,hd,cond_true];exact⟨ren,args,bx,r,bx',h1,h2,h3,h4,k⟩⟩
  |false=>
  rw[hd]at h;simp only [cond_false]at h;obtain⟨ren,args,r,y,b,h1,h2,h3,h4,h5⟩:=h;exact⟨_,h5,fun K k=>by show(bif rc.contains (f+2000000)then _ else bif rc.contains (f+1500000)then _ else _);rw[hc,cond_false,hd,cond_false];exact⟨ren,args,r,y,b,h1,h2,h3,h4,k⟩⟩
theorem gU.congr{vf:AV}{ars:List AV}{K K':AV→aP→Prop}(hk:∀v u,K v u→(∀n,n∈u.map (·.1)→aH σ'.box n=aH σ.box n)∧K' v u)(h:gU P rc σ vf ars K):gU P rc σ' vf ars K':=by
 unfold gU at*;split at h
 case h_2=>cases h
 rename_i f cs
 cases hc:rc.contains (f+2000000)with
 |true=>
  rw[hc]at h;simp only [cond_true]at h;simp only [cond_true];obtain⟨zs,r,h1,h2,h3⟩:=h;obtain⟨q1,q2⟩:=hk _ _ h3;have q:∀z,z∈zs→aH σ'.box z=aH σ.box z:=fun z hz=>q1 z (by unfold CF;rw[List.map_map];exact List.mem_map.2 ⟨z,hz,rfl⟩)
  refine⟨zs,r,?_,?_,q2⟩
  ·rw[List.all_eq_true]at h1 ⊢;intro z hz;have:=h1 z hz;unfold nP at this ⊢;rw[q z hz];exact this
  rw[RR (σ':=⟨σ.env,iH zs σ.box⟩)]
  ·exact h2
  intro x;show nP (iH zs σ'.box) x=nP (iH zs σ.box) x;rw[zZ,zZ]
  cases hz:zs.contains x with
  |false=>rfl
  |true=>
   have hz:x∈zs:=by simpa using hz
   unfold nP;rw[q x hz]
 |false=>
  rw[hc]at h;simp only [cond_false]at h;simp only [cond_false]
  cases hd:rc.contains (f+1500000)with
  |true=>rw[hd]at h;simp only [cond_true]at h ⊢;obtain⟨ren,args,bx,r,bx',h1,h2,h3,h4,h5⟩:=h;obtain⟨q1,q2⟩:=hk _ _ h5;refine⟨ren,args,bx,r,bx',h1,h2,nO.congr (fun x hx=>q1 _ (F7 (.inl hx))) h3,?_,q2⟩;simp only [BH,Bool.and_eq_true]at h4 ⊢;exact⟨h4.1,B2 (fun y hy=>q1 _ (F7 (.inr hy))) h4.2⟩
  |false=>
  rw[hd]at h;simp only [cond_false]at h ⊢;obtain⟨ren,args,r,y,b,h1,h2,h3,h4,h5⟩:=h;obtain⟨q1,q2⟩:=hk _ _ h5;exact⟨ren,args,r,y,b,h1,h2,h3,(q1 _ sM).trans h4,q2⟩
theorem gU.spec{o:Oper}{fo:Operand}{l:List Operand}{K:AV→aP→Prop}{cx:Cx}(hq:xJ rc σ o.op=some (fo,l))(YK:∀f,rc.contains (f+2000000)=true→cx.ref=[])
  (h:fe none (ev σ fo) fun vf=>dY none σ l fun ars=>gU P rc σ vf ars K):
  ∃r u,K r u∧∀N M β a w,Inv cx N M β σ a w→∃f vs,(execOp a.eval o).run P w=.ok (.enter f vs) w∧
   Calls P f vs w fun e w'=>∃v M' β',e=.returned v∧r.bI M' β' v∧Inv cx N M' β' ⟨σ.env,u++σ.box⟩ a w'∧Grow cx.B M M'∧cE cx w w':=by
 obtain⟨⟨f,cs,hv⟩,ho⟩:=xJ.op hq
 have h2:dY none σ l fun ars=>gU P rc σ (.s (.dZ f cs)) ars K:=by rw[hv]at h;exact h
 cases hc:rc.contains (f+2000000)with
 |true=>
  have h3:fe none (ev σ fo) fun vf=>dY none σ l fun ars=>aFY P σ vf ars fun r bx=>∃zs,(zs.all fun z=>(nP σ.box z).isSome)=true∧K r (CF zs)∧bx=lW zs σ.box:=by rw[hv];refine dY.congr (fun _ _=>rfl) (fun ars _ h=>?_) h2;unfold gU at h;simp only [hc,cond_true]at h;obtain⟨zs,r,h1,h2,h3⟩:=h;exact⟨zs,r,h2,zs,h1,h3,rfl⟩
  obtain⟨r,bx,⟨zs,hz,hk,rfl⟩,hs⟩:=eat.spec ho h3;refine⟨r,_,hk,fun N M β a w i=>?_⟩;obtain⟨f,vs,a7,eF⟩:=hs cx N M β a w (YK _ hc) i;refine⟨f,vs,a7,eF.mono ?_⟩;rintro e w' ⟨v,M',β',e1,hr,i',hg,lB⟩;have hb:∀x,aH (CF zs++σ.box) x=aH (lW zs σ.box) x:=by
   intro x;have aPW:aH (CF zs++σ.box) x=match aH (CF zs) x with|some y=>some y|none=>aH σ.box x:=by generalize CF zs=u;exact xu
   rw[aPW,Y8,HF]
   cases hx:zs.contains x with
   |false=>cases aH σ.box x <;> rfl
   |true=>
    have hx:x∈zs:=by simpa using hx
    rw[List.all_eq_true]at hz;have:=hz x hx
    cases hg:aH σ.box x with
    |none=>unfold nP at this;rw[hg]at this;cases this
    |some b=>rfl
  refine⟨v,M',β',e1,hr,⟨i'.defers,i'.tmps,i'.heap,i'.env,i'.mem,fun x p e=>by rw[hb];exact i'.keys x p e,fun x bc e=>i'.box x bc zfl,
   fun x y bx zB b c c' ex ey=>i'.inj x y bx zB b c c' (by rw[←hb];exact ex) (by rw[←hb];exact ey),fun x bc b c e=>i'.apart x bc b c zfl,fun x bc b c e=>i'.low x bc b c zfl,i'.ref⟩,hg,lB⟩
 |false=>
  have h3:fe none (ev σ fo) fun vf=>dY none σ l fun ars=>IX P σ vf ars fun v bx=>∃u,K v u∧bx=u++σ.box:=by
   rw[hv];refine dY.congr (fun _ _=>rfl) (fun ars _ h=>?_) h2;unfold gU at h;simp only [hc,cond_false]at h
   cases hd:rc.contains (f+1500000)with
   |true=>simp only [hd,cond_true]at h;obtain⟨ren,args,bx,r,bx',h1,h2,h3,h4,h5⟩:=h;exact⟨ren,args,bx,r,bx',h1,h2,h3,h4,_,h5,SA⟩
   |false=>
   simp only [hd,cond_false]at h;obtain⟨ren,args,r,y,b,h1,h2,h3,h4,h5⟩:=h;refine⟨ren,args,[],r,[(y,b)],h1,h2,trivial,?_,_,h5,rfl⟩;simp only [BH,Bool.and_eq_true]at h3 ⊢;refine⟨h3.1,?_⟩;simp[names,oF,h4]
  obtain⟨r,bx,⟨u,hk,rfl⟩,hs⟩:=aDI.spec ho h3;exact⟨r,u,hk,fun N M β a w i=>hs cx N M β a w i⟩
def a6(P:Program)(T:List (Nat×bV))(N:Nat)(rc:List Nat)(all:List Oper)(o:Oper)(σ:St)(K:Ef→Prop):Prop:=
 let run:Prop:=match o.dst with
  |some d=>bif Nat.blt d N then
    (match M8 o.op with
    |true=>vW T d o.op σ fun v u=>K (some v,u)
    |false=>match xJ rc σ o.op with
     |some (fo,args)=>fe none (ev σ fo) fun vf=>dY none σ args fun ars=>gU P rc σ vf ars fun v u=>K (some v,u)
     |none=>mD P T o.op σ none fun v=>K (some v,[]))else False
  |none=>match M8 o.op with
    |true=>vW T 0 o.op σ fun _ u=>K (none,u)
    |false=>False
 match o.guard with
 |none=>run
 |some (j,nY)=>match tS all j with
  |none=>False
  |some t=>match fL σ.env t with
   |.s (.d (.lit b))=>match b,nY with
    |true,true=>run
    |false,false=>run
    |_,_=>match o.dst with
     |some d=>bif Nat.blt d N then K (some (.s (.d .bL)),[])else False
     |none=>K (none,[])
   |.s (.d (.val (.bool b)))=>match M8 o.op with
    |true=>b=nY∧run
    |false=>match o.dst with
     |some d=>bif Nat.blt d N then mD P T o.op σ (some (rL nY b)) fun v=>K (some (wT (rL nY b) v),[])else False
     |none=>False
   |.ib c (.d (.val (.bool b)))=>match M8 o.op with
    |true=>False
    |false=>match o.dst with
     |some d=>bif Nat.blt d N then mD P T o.op σ (some (c&&rL nY b)) fun v=>K (some (wT (c&&rL nY b) v),[])else False
     |none=>False
   |_=>False
def eU(o:Oper)(e:Ef)(σ:St):St:=
 ⟨match o.dst,e.1 with|some d,some v=>(d,v)::σ.env|_,_=>σ.env,aKB e.2 σ.box⟩
end
section
variable{P:Program}{T:List (Nat×bV)}{N:Nat}{ref rc:List Nat}{all:List Oper}
theorem a6.pt{o:Oper}{σ:St}{K:Ef→Prop}(h:a6 P T N rc all o σ K):∃e,K e∧fA (a6 P T N rc all o σ) e:=by
 have run:∀{K:Ef→Prop},(match o.dst with
  |some d=>bif Nat.blt d N then
    (match M8 o.op with
    |true=>vW T d o.op σ fun v u=>K (some v,u)
    |false=>match xJ rc σ o.op with
     |some (fo,args)=>fe none (ev σ fo) fun vf=>dY none σ args fun ars=>gU P rc σ vf ars fun v u=>K (some v,u)
     |none=>mD P T o.op σ none fun v=>K (some v,[]))else False
  |none=>match M8 o.op with
    |true=>vW T 0 o.op σ fun _ u=>K (none,u)
    |false=>False)→∃e,K e∧∀K':Ef→Prop,K' e→(match o.dst with
  |some d=>bif Nat.blt d N then
    (match M8 o.op with
    |true=>vW T d o.op σ fun v u=>K' (some v,u)
    |false=>match xJ rc σ o.op with
     |some (fo,args)=>fe none (ev σ fo) fun vf=>dY none σ args fun ars=>gU P rc σ vf ars fun v u=>K' (some v,u)
     |none=>mD P T o.op σ none fun v=>K' (some v,[]))else False
  |none=>match M8 o.op with
    |true=>vW T 0 o.op σ fun _ u=>K' (none,u)
    |false=>False):=by
  intro K h
  split at h
  ·rename_i d hd
   cases hN:Nat.blt d N with
   |false=>rw[hN]at h;cases h
   |true=>
    rw[hN]at h;simp only [cond_true]at h ⊢;split at h
    ·exact zbd
    split at h
    ·rename_i fo args hq;obtain⟨r,h1,h2⟩:=fe.pt (C:=fun vf K=>dY none σ args fun ars=>gU P rc σ vf ars fun v u=>K (some v,u)) h (fun vf K h=>dY.pt (C:=fun ars K=>gU P rc σ vf ars fun v u=>K (some v,u)) h (fun _ _ h=>gU.pt h));exact⟨r,h1,fun K' k=>h2 K' k⟩
    obtain⟨r,h1,h2⟩:=mD.pt h;exact⟨_,h1,fun K' k=>h2 _ k⟩
  ·split at h
   ·exact zbd
   cases h
 unfold a6 at h;simp only at h;split at h
 ·rename_i hg;obtain⟨e,h1,h2⟩:=run h;refine⟨e,h1,fun K' k=>?_⟩;unfold a6;simp only [hg];exact h2 K' k
 rename_i j nY hg;split at h
 ·cases h
 rename_i t ht;split at h
 ·rename_i b hv;have skip:(match o.dst with
   |some d=>bif Nat.blt d N then K (some (.s (.d .bL)),[])else False
   |none=>K (none,[]))→∃e,K e∧∀K':Ef→Prop,K' e→(match o.dst with
   |some d=>bif Nat.blt d N then K' (some (.s (.d .bL)),[])else False
   |none=>K' (none,[])):=by
   intro h
   split at h
   ·rename_i d hd
    cases hN:Nat.blt d N with
    |false=>rw[hN]at h;cases h
    |true=>rw[hN]at h;exact⟨_,h,fun K' k=>k⟩
   ·exact⟨_,h,fun K' k=>k⟩
  cases b <;> cases nY
  ·exact zby
  ·exact zbw
  ·exact zbw
  exact zby
 ·rename_i b hv;split at h
  ·rename_i hx;have run':=@run;simp only [hx]at run';obtain⟨e,h1,h2⟩:=run' h.2;refine⟨e,h1,fun K' k=>?_⟩;unfold a6;simp only [hg,ht,hv,hx];exact⟨h.1,h2 K' k⟩
  exact ji
 ·rename_i c b hv;split at h
  ·cases h
  exact ji
 cases h
abbrev fY:=List Nat×List Nat
def NN(σ:St)(o:Oper)(e:Ef):fY:=(tJ σ o.op,e.2.map (·.1))
def U6(all:List Oper)(o:Oper)(σ σ':St):Prop:=∀t,t∈o.looksAt all.toArray→fL σ'.env t=fL σ.env t
theorem U6.ev{o:Oper}{σ σ':St}(h:U6 all o σ σ'):W5 o.op.operands.toList σ σ':=by
 intro x hx
 cases x with
 |tmp t=>refine h t ?_;simp only [Oper.looksAt,List.mem_append,List.mem_filterMap];exact .inl ⟨_,hx,rfl⟩
 |_=>rfl
theorem U6.guard{o:Oper}{σ σ':St}(h:U6 all o σ σ'){j:Nat}{nY:Bool}{t:Nat}(hg:o.guard=some (j,nY))(ht:tS all j=some t):fL σ'.env t=fL σ.env t:=by
 refine h t ?_;simp only [Oper.looksAt,List.mem_append,hg];refine .inr ?_;have:((all.toArray[j]?).bind (·.dst))=some t:=by simpa [tS]using ht
 rw[this];simp
theorem tJ.congr{op:Op}{σ σ':St}(he:W5 op.operands.toList σ σ')(hb:wS (tJ σ op) σ σ'):tJ σ' op=tJ σ op:=by
 have hr:∀(n:Nat) (x:SV),wS (reach n σ x) σ σ'→reach n σ' x=reach n σ x:=by exact zh
 have hrA:∀v:AV,wS (b9 σ v) σ σ'→b9 σ' v=b9 σ v:=by
  have nR:∀cs:List SV,wS (dV (reach 4 σ) cs) σ σ'→dV (reach 4 σ') cs=dV (reach 4 σ) cs:=by
   intro cs;induction cs with
   |nil=>intro _;rfl
   |cons c r ih=>intro h;simp only [dV];rw[hr 4 c (h.mono fun m hm=>List.mem_append_left _ hm),ih (h.mono fun m hm=>List.mem_append_right _ hm)]
  intro v h
  cases v with
  |s x=>exact hr 4 x h
  |ib b x=>exact hr 4 x h
  |g cs=>exact nR cs h
  |ig b cs=>exact nR cs h
  |t ts=>rfl
 have hrF:∀v:AV,wS (uQ σ v) σ σ'→uQ σ' v=uQ σ v:=by
  have nR:∀cs:List CV,wS (dV (fun c=>match c with|.d _=>[]|.ptr x off=>reach 4 σ (.ptr x off)) cs) σ σ'→
    dV (fun c=>match c with|.d _=>[]|.ptr x off=>reach 4 σ' (.ptr x off)) cs=dV (fun c=>match c with|.d _=>[]|.ptr x off=>reach 4 σ (.ptr x off)) cs:=by
   intro cs
   induction cs with
   |nil=>intro _;rfl
   |cons c r ih=>
    intro h;simp only [dV];rw[ih (h.mono fun m hm=>List.mem_append_right _ hm)];congr 1
    cases c with
    |d x=>rfl
    |ptr x off=>exact hr 4 _ (h.mono fun m hm=>List.mem_append_left _ hm)
  intro v h
  cases v with
  |s x=>cases x with
   |dZ f cs=>exact nR cs h
   |_=>rfl
  |ib b x=>cases x with
   |dZ f cs=>exact nR cs h
   |_=>rfl
  |_=>rfl
 have hl:∀l:List Operand,W5 l σ σ'→wS (dV (fun x=>b9 σ (Ax.ev σ x)) l) σ σ'→dV (fun x=>b9 σ' (Ax.ev σ' x)) l=dV (fun x=>b9 σ (Ax.ev σ x)) l:=by
  intro l;induction l with
  |nil=>intro _ _;rfl
  |cons x r ih=>intro he h;simp only [dV];rw[he x sM,hrA _ (h.mono fun m hm=>List.mem_append_left _ hm),ih (fun y hy=>he y (List.mem_cons_of_mem _ hy)) (h.mono fun m hm=>List.mem_append_right _ hm)]
 unfold tJ at*;split at hb
 ·rename_i fo args wR;rw[he fo zeB,hrF _ (hb.mono fun m hm=>List.mem_append_left _ hm),
   hl _ (fun y hy=>he y zeQ) (hb.mono fun m hm=>List.mem_append_right _ hm)]
 all_goals first|rfl|exact hl _ he hb
structure FD(P:Program)(T:List (Nat×bV))(N:Nat)(rc:List Nat)(all:List Oper)(o:Oper)(σ:St)(e:Ef)(f:fY):Prop where
 pt:fA (a6 P T N rc all o σ) e
 rd:tJ σ o.op=f.1
 wr:e.2.map (·.1)=f.2
theorem FD.congr{o:Oper}{σ σ':St}{e:Ef}{f:fY}(h:FD P T N rc all o σ e f)(ht:U6 all o σ σ')(hr:wS f.1 σ σ')(hw:∀x,x∈f.2→aH σ'.box x=aH σ.box x):FD P T N rc all o σ' e f:=by
 have hE:=ht.ev;have hrd:wS (tJ σ o.op) σ σ':=by rw[h.rd];exact hr
 refine⟨fun K k=>?_,(tJ.congr hE hrd).trans h.rd,h.wr⟩;have hk:=h.pt (fun e'=>e'=e∧K e') ⟨rfl,k⟩;have run:(match o.dst with
  |some d=>bif Nat.blt d N then
    (match M8 o.op with
    |true=>vW T d o.op σ fun v u=>(some v,u)=e∧K (some v,u)
    |false=>match xJ rc σ o.op with
     |some (fo,args)=>fe none (Ax.ev σ fo) fun vf=>dY none σ args fun ars=>gU P rc σ vf ars fun v u=>(some v,u)=e∧K (some v,u)
     |none=>mD P T o.op σ none fun v=>(some v,[])=e∧K (some v,[]))else False
  |none=>match M8 o.op with
    |true=>vW T 0 o.op σ fun _ u=>(none,u)=e∧K (none,u)
    |false=>False)→(match o.dst with
  |some d=>bif Nat.blt d N then
    (match M8 o.op with
    |true=>vW T d o.op σ' fun v u=>K (some v,u)
    |false=>match xJ rc σ' o.op with
     |some (fo,args)=>fe none (Ax.ev σ' fo) fun vf=>dY none σ' args fun ars=>gU P rc σ' vf ars fun v u=>K (some v,u)
     |none=>mD P T o.op σ' none fun v=>K (some v,[]))else False
  |none=>match M8 o.op with
    |true=>vW T 0 o.op σ' fun _ u=>K (none,u)
    |false=>False):=by
  intro h1
  have hwr:=h.wr
  split at h1
  ·rename_i d hd
   cases hN:Nat.blt d N with
   |false=>rw[hN]at h1;exact h1.elim
   |true=>
    rw[hN]at h1;simp only [cond_true]at h1 ⊢;split at h1
    ·exact zaS
    rw[xJ.congr hE];split at h1
    ·rename_i fo args hq;obtain⟨_,args',wR,oT,hl⟩:=xJ.op hq;rw[oT]at hE;rw[hE fo zeB];refine fe.imp (fun vf _ h=>?_) h1;refine dY.congr (fun y hy=>hE y (by simp[Op.operands,Call.operands];exact .inr (by rw[←hl]at hy;simpa using hy))) (fun ars _ h=>?_) h;refine gU.congr (fun v u hk=>⟨fun n hn=>?_,hk.2⟩) h;refine hw n ?_;rw[←hwr,←hk.1];exact hn
    exact mD.congr hE hrd ((mD.pt h1).elim fun r hr=>hr.2 _ hr.1.2)
  ·split at h1
   ·exact zaS
   exact h1.elim
 unfold a6 at hk ⊢;simp only at hk ⊢;split at hk
 ·exact run hk
 rename_i j nY hg;split at hk
 ·exact hk.elim
 rename_i t ER;have hgt:=ht.guard hg ER;simp only [hgt];split at hk
 ·rename_i b hv
  cases b <;> cases nY
  ·exact run hk
  ·exact zag
  ·exact zag
  exact run hk
 ·rename_i b hv;split at hk
  ·rename_i hx;have run':=run;simp only [hx]at run' ⊢;exact⟨hk.1,run' hk.2⟩
  exact jp
 ·rename_i c b hv;split at hk
  ·exact hk.elim
  exact jp
 exact hk.elim
end
structure FP(σ σ':St):Prop where
 env:∀t,fL σ'.env t=fL σ.env t
 box:∀x,aH σ'.box x=aH σ.box x
theorem FP.refl(σ:St):FP σ σ:=⟨fun _=>rfl,fun _=>rfl⟩
theorem FP.symm{σ σ':St}(h:FP σ σ'):FP σ' σ:=⟨fun t=>(h.env t).symm,fun x=>(h.box x).symm⟩
theorem FP.trans{a b c:St}(h:FP a b)(k:FP b c):FP a c:=⟨fun t=>(k.env t).trans (h.env t),fun x=>(k.box x).trans (h.box x)⟩
theorem CP{o:Oper}{e:Ef}{σ:St}(t:Nat):fL (eU o e σ).env t=match o.dst,e.1 with|some d,some v=>if d=t then v else fL σ.env t|_,_=>fL σ.env t:=by
 unfold eU
 cases o.dst with
 |none=>rfl
 |some d=>cases e.1 with
  |none=>rfl
  |some v=>exact gP d v σ.env t
theorem aCS{u v:aP}{x:Nat}:aH (u++v) x=match aH u x with|some y=>some y|none=>aH v x:=by exact xu
theorem AD{u:aP}{x:Nat}(h:x∉u.map (·.1)):aH u x=none:=by
 induction u with
 |nil=>rfl
 |cons p r ih=>obtain⟨k,b⟩:=p;simp only [List.map_cons,List.mem_cons,not_or]at h;rw[aL,if_neg (fun e=>h.1 e.symm)];exact ih h.2
theorem CQ{o:Oper}{e:Ef}{σ:St}(x:Nat):aH (eU o e σ).box x=match aH e.2 x with|some y=>some y|none=>aH σ.box x:=by unfold eU;simp only [F4];exact aCS
theorem eU.eqv{o:Oper}{e:Ef}{σ σ':St}(h:FP σ σ'):FP (eU o e σ) (eU o e σ'):=by
 refine⟨fun t=>?_,fun x=>?_⟩
 ·rw[CP,CP,h.env]
 rw[CQ,CQ,h.box]
def iP(f h:fY):Bool:=
 (f.2.all fun x=> !(h.1.contains x)&& !(h.2.contains x))&&(h.2.all fun x=> !(f.1.contains x))
theorem iP.spec{f h:fY}(hd:iP f h=true):(∀x,x∈f.2→x∉h.1)∧(∀x,x∈f.2→x∉h.2)∧(∀x,x∈h.2→x∉f.1):=by
 simp only [iP,Bool.and_eq_true,List.all_eq_true]at hd;obtain⟨h1,h2⟩:=hd;refine⟨fun x hx=>?_,fun x hx=>?_,fun x hx=>?_⟩
 ·simpa using(h1 x hx).1
 ·simpa using(h1 x hx).2
 simpa using h2 x hx
theorem eU.comm{o p:Oper}{e u:Ef}{σ:St}(hd:∀d,o.dst=some d→p.dst≠some d)(hb:∀x,x∈e.2.map (·.1)→x∉u.2.map (·.1)):
  FP (eU o e (eU p u σ)) (eU p u (eU o e σ)):=by
 refine⟨fun t=>?_,fun x=>?_⟩
 ·simp only [CP]
  cases ho:o.dst with
  |none=>rfl
  |some d=>cases he:e.1 with
   |none=>rfl
   |some v=>cases hp:p.dst with
    |none=>rfl
    |some d'=>cases hu:u.1 with
     |none=>rfl
     |some v'=>
      have fJ:d'≠d:=fun h=>hd d ho (by rw[hp,h])
      simp only;by_cases h1:d=t
      ·subst h1;simp[fJ]
      simp[h1]
 ·simp only [CQ];by_cases h1:x∈e.2.map (·.1)
  ·rw[AD (hb x h1)]
  rw[AD h1]
section
variable{P:Program}{T:List (Nat×bV)}{N:Nat}{rc:List Nat}{all:List Oper}{md:Region.Mode}{ft:List fY}
theorem FD.eqv{o:Oper}{σ σ':St}{e:Ef}{f:fY}(h:FD P T N rc all o σ e f)(k:FP σ σ'):FD P T N rc all o σ' e f:=
 h.congr (fun t _=>k.env t) (fun x _=>k.box x) (fun x _=>k.box x)
def yE(P:Program)(T:List (Nat×bV))(N:Nat)(rc:List Nat)(all:List Oper)(md:Region.Mode)(ft:List fY)(σf:St):Nat→Array Bool→St→Prop
 |0,listed,σ=>Region.ready md all.toArray listed=[]∧FP σf σ
 |fuel+1,listed,σ=>
  (Region.ready md all.toArray listed=[]→FP σf σ)∧
  ∀i∈Region.ready md all.toArray listed,∃o e f,all[i]? =some o∧ft[i]? =some f∧FD P T N rc all o σ e f∧yE P T N rc all md ft σf fuel (listed.setIfInBounds i true) (eU o e σ)
theorem yE.eqv{σf:St}:∀(fuel:Nat) {listed:Array Bool} {σ σ':St},FP σ σ'→yE P T N rc all md ft σf fuel listed σ→yE P T N rc all md ft σf fuel listed σ'
 |0,_,_,_,k,h=>⟨h.1,h.2.trans k⟩
 |fuel+1,_,_,_,k,h=>⟨fun h0=>(h.1 h0).trans k,fun i hi=>by obtain⟨o,e,f,h1,h2,h3,h4⟩:=h.2 i hi;exact⟨o,e,f,h1,h2,h3.eqv k,yE.eqv fuel (eU.eqv k) h4⟩⟩
theorem U6.eU{oi oj:Oper}{e:Ef}{σ:St}(h:∀d,oi.dst=some d→d∉oj.looksAt all.toArray):U6 all oj σ (eU oi e σ):=by
 intro t ht;rw[CP]
 cases ho:oi.dst with
 |none=>rfl
 |some d=>cases e.1 with
  |none=>rfl
  |some v=>simp only;rw[if_neg (fun (hdt:d=t)=>h d ho (hdt▸ht))]
theorem o0{oi:Oper}{e:Ef}{σ:St}{x:Nat}(h:x∉e.2.map (·.1)):aH (eU oi e σ).box x=aH σ.box x:=by rw[CQ,AD h]
theorem FD.past{oi oj:Oper}{ei ej:Ef}{fi fj:fY}{σ:St}(hwi:ei.2.map (·.1)=fi.2)(C2:oi.apart all.toArray oj=true)(xO:iP fi fj=true)(h:FD P T N rc all oj (eU oi ei σ) ej fj):FD P T N rc all oj σ ej fj:=by
 obtain⟨h1,h2,h3⟩:=Oper.apart_spec C2;obtain⟨k1,k2,k3⟩:=iP.spec xO;have ht:U6 all oj σ (eU oi ei σ):=U6.eU h1;refine h.congr (fun t ER=>(ht t ER).symm) (fun x hx=>(o0 (fun hw=>?_)).symm) (fun x hx=>(o0 (fun hw=>?_)).symm)
 ·exact k1 x (hwi▸hw) hx
 exact k2 x (hwi▸hw) hx
theorem FD.over{oi oj:Oper}{ei ej:Ef}{fi fj:fY}{σ:St}(hwj:ej.2.map (·.1)=fj.2)(C2:oi.apart all.toArray oj=true)(xO:iP fi fj=true)(h:FD P T N rc all oi σ ei fi):FD P T N rc all oi (eU oj ej σ) ei fi:=by
 obtain⟨h1,h2,h3⟩:=Oper.apart_spec C2;obtain⟨k1,k2,k3⟩:=iP.spec xO;refine h.congr (U6.eU h3) (fun x hx=>o0 (fun hw=>?_)) (fun x hx=>o0 (fun hw=>?_))
 ·exact k3 x (hwj▸hw) hx
 exact k2 x hx (hwj▸hw)
def dep(md:Region.Mode)(ops:Array Oper)(i:Nat):Nat→Nat→Bool
 |0,_=>false
 |n+1,j=>match ops[j]? with
  |some oj=>oj.after.any fun e=>Region.binds md e&&(Nat.beq e.on i||dep md ops i n e.on)
  |none=>false
def sZ(md:Region.Mode)(all:List Oper)(listed:Array Bool):Prop:=
 ∀m om,all[m]? =some om→listed.getD m false=true→∀e∈om.after,Region.binds md e=true→listed.getD e.on false=true
theorem NL{l:Array Bool}{i:Nat}(h:l.getD i true=false):l.getD i false=false:=by
 rcases Nat.lt_or_ge i l.size with h'|h'
 ·simp[h']at h ⊢;exact h
 simp[Array.getElem?_eq_none h']at h
theorem NW{md:Region.Mode}{listed:Array Bool}{i:Nat}(hc:sZ md all listed)(hi:listed.getD i false=false):∀(n j:Nat) (oj:Oper),all[j]? =some oj→(∀e∈oj.after,Region.binds md e=true→listed.getD e.on false=true)→dep md all.toArray i n j=false
 |0,_,_,_,_=>rfl
 |n+1,j,oj,hj,h=>by
  have qR:all.toArray[j]? =some oj:=by simpa using hj
  simp only [dep,qR];rw[Bool.eq_false_iff];intro hx;obtain⟨e,he,hb⟩:=Array.any_eq_true'.1 hx;simp only [Bool.and_eq_true,Bool.or_eq_true]at hb;have hl:=h e he hb.1;rcases hb.2 with h1|h1
  ·rw[Nat.eq_of_beq_eq_true h1,hi]at hl;cases hl
  cases ho:all[e.on]? with
  |none=>
   cases n with
   |zero=>cases h1
   |succ n=>
    have:all.toArray[e.on]? =none:=by simpa using ho
    simp only [dep,this]at h1
    cases h1
  |some om=>
   rw[NW hc hi n e.on om ho (hc e.on om ho hl)]at h1
   cases h1
theorem sZ.set{md:Region.Mode}{listed:Array Bool}{j:Nat}{oj:Oper}(hc:sZ md all listed)(hj:all[j]? =some oj)(h:∀e∈oj.after,Region.binds md e=true→listed.getD e.on false=true):sZ md all (listed.setIfInBounds j true):=by
 have up:∀x,listed.getD x false=true→(listed.setIfInBounds j true).getD x false=true:=fun x hx=>by
  by_cases hjx:j=x
  ·subst hjx;rcases Nat.lt_or_ge j listed.size with h'|h'
   ·simp[h']
   simp[Array.getElem?_eq_none h']at hx
  rw[getD_set_ne false hjx];exact hx
 intro m om hm hl e he hb;by_cases hmj:j=m
 ·subst hmj;rw[hj]at hm;cases hm;exact up _ (h e he hb)
 rw[getD_set_ne false hmj]at hl;exact up _ (hc m om hm hl e he hb)
theorem yE.first{σf:St}{i:Nat}{oi:Oper}{ei:Ef}{fi:fY}(hi:all[i]? =some oi)(hfi:ft[i]? =some fi):
  ∀(fuel:Nat) (listed:Array Bool) (σ:St),
   (∀j oj fj,all[j]? =some oj→ft[j]? =some fj→j≠i→listed.getD j true=false→(∀n,dep md all.toArray i n j=false)→oi.apart all.toArray oj=true∧iP fi fj=true)→sZ md all listed→
   i∈Region.ready md all.toArray listed→FD P T N rc all oi σ ei fi→
   yE P T N rc all md ft σf fuel (listed.setIfInBounds i true) (eU oi ei σ)→yE P T N rc all md ft σf (fuel+1) listed σ:=by
 intro fuel
 induction fuel with
 |zero=>
  intro listed σ _ _ hr hy H;refine⟨fun h=>ze2,fun j hj=>?_⟩;by_cases y7:j=i
  ·subst y7;exact⟨oi,ei,fi,hi,hfi,hy,H⟩
  have:=ready_mono hj y7;rw[H.1]at this
  cases this
 |succ fuel ih=>
  intro listed σ EV vA hr hy H;refine⟨fun h=>ze2,fun j hj=>?_⟩;by_cases y7:j=i
  ·subst y7;exact⟨oi,ei,fi,hi,hfi,hy,H⟩
  obtain⟨oj,ej,fj,TS,hfj,hyj,Hj⟩:=H.2 j (ready_mono hj y7);obtain⟨QX,oj',aCI,lC⟩:=mem_ready.1 hj;have ET:all[j]? =some oj':=by simpa using aCI
  rw[TS]at ET;cases ET;have NB:∀n,dep md all.toArray i n j=false:=fun n=>NW vA (NL (mem_ready.1 hr).1) n j oj TS lC
  obtain⟨C2,xO⟩:=EV j oj fj TS hfj y7 QX NB;have aB8:FD P T N rc all oj σ ej fj:=FD.past hy.wr C2 xO hyj;have aB9:FD P T N rc all oi (eU oj ej σ) ei fi:=FD.over hyj.wr C2 xO hy;have HY:∀k ok fk,all[k]? =some ok→ft[k]? =some fk→k≠i→(listed.setIfInBounds j true).getD k true=false→
    (∀n,dep md all.toArray i n k=false)→oi.apart all.toArray ok=true∧iP fi fk=true:=fun k ok fk hk oL ON V9 YN=>by
   refine EV k ok fk hk oL ON ?_ YN
   by_cases SL:j=k
   ·subst SL;exact QX
   ·exact zc6
  refine⟨oj,ej,fj,TS,hfj,aB8,ih (listed.setIfInBounds j true) (eU oj ej σ) HY (vA.set TS lC) (ready_mono hr (Ne.symm y7)) aB9 ?_⟩;rw[Array.setIfInBounds_comm _ _ y7];refine yE.eqv fuel ?_ Hj;exact xp
def B3(md:Region.Mode)(ops:Array Oper)(ft:List fY)(listed:Array Bool)(i:Nat):Bool:=
 match ops[i]?,ft[i]? with
 |some oi,some fi=>(List.range ops.size).all fun j=>Nat.beq j i||listed.getD j true||match ops[j]?,ft[j]? with
   |some oj,some fj=>(oi.apart ops oj&&iP fi fj)||dep md ops i 6 j
   |_,_=>true
 |_,_=>false
def X6(md:Region.Mode)(ops:Array Oper)(ft:List fY):Nat→Nat→Array Bool→Bool
 |0,_,listed=>(Region.ready md ops listed).isEmpty
 |fuel+1,k,listed=>(Region.ready md ops listed).contains k&&B3 md ops ft listed k&&X6 md ops ft fuel (k+1) (listed.setIfInBounds k true)
theorem B3.spec{i:Nat}{oi:Oper}{fi:fY}{listed:Array Bool}(hi:all[i]? =some oi)(hfi:ft[i]? =some fi)(h:B3 md all.toArray ft listed i=true)(j:Nat)(oj:Oper)(fj:fY)
  (hj:all[j]? =some oj) (hfj:ft[j]? =some fj) (fJ:j≠i) (V9:listed.getD j true=false) (YN:∀n,dep md all.toArray i n j=false):oi.apart all.toArray oj=true∧iP fi fj=true:=by
 have bC:all.toArray[i]? =some oi:=by simpa using hi
 have qR:all.toArray[j]? =some oj:=by simpa using hj
 unfold B3 at h
 rw[bC,hfi]at h
 simp only [List.all_eq_true,List.mem_range]at h
 have aPL:j<all.toArray.size:=by have:=(Array.getElem?_eq_some_iff.1 qR).1;exact this
 have hx:=h j aPL
 rw[qR,hfj,V9]at hx
 have hb:Nat.beq j i=false:=UU fJ
 rw[hb,YN 6]at hx
 simp only [Bool.false_or,Bool.or_false,Bool.and_eq_true]at hx
 exact hx
def W4(P:Program)(T:List (Nat×bV))(N:Nat)(rc:List Nat)(all:List Oper):List Oper→St→List Ef→List fY→Prop
 |[],_,[],[]=>True
 |o::l,σ,e::es,f::fs=>FD P T N rc all o σ e f∧W4 P T N rc all l (eU o e σ) es fs
 |_,_,_,_=>False
def rD:List Oper→St→List Ef→St
 |o::l,σ,e::es=>rD l (eU o e σ) es
 |_,σ,_=>σ
theorem yE.lex:∀(l:List Oper) (k:Nat) (listed:Array Bool) (σ:St) (es:List Ef) (fs:List fY),(∀j,l[j]? =all[k+j]?)→(∀j,fs[j]? =ft[k+j]?)→
  sZ md all listed→X6 md all.toArray ft l.length k listed=true→W4 P T N rc all l σ es fs→yE P T N rc all md ft (rD l σ es) l.length listed σ
 |[],_,_,_,[],[],_,_,_,hB,_=>⟨by simpa [X6]using hB,FP.refl _⟩
 |o::l,k,listed,σ,e::es,f::fs,hl,hf,vA,hB,⟨h1,h2⟩=>by
  have h0:all[k]? =some o:=by simpa using(hl 0).symm
  have SO:ft[k]? =some f:=by simpa using(hf 0).symm
  simp only [List.length_cons,X6,Bool.and_eq_true]at hB;obtain⟨⟨hr,hfr⟩,hB'⟩:=hB;have C1:k∈Region.ready md all.toArray listed:=by simpa using hr
  have lC:∀e∈o.after,Region.binds md e=true→listed.getD e.on false=true:=by exact jx
  exact yE.first h0 SO l.length listed σ (B3.spec h0 SO hfr) vA C1 h1
   (yE.lex l (k+1) _ _ es fs (fun j=>by have:=hl (j+1);simpa [Nat.add_assoc,Nat.add_comm 1 j]using this) (fun j=>by have:=hf (j+1);simpa [Nat.add_assoc,Nat.add_comm 1 j]using this) (vA.set h0 lC) hB' h2)
 |[],_,_,_,_::_,_,_,_,_,_,h=>by cases ‹List fY› <;> exact h.elim
 |[],_,_,_,[],_::_,_,_,_,_,h=>h.elim
 |_::_,_,_,_,[],_,_,_,_,_,h=>by cases ‹List fY› <;> exact h.elim
 |_::_,_,_,_,_::_,[],_,_,_,_,h=>h.elim
end
section
variable{P:Program}{T:List (Nat×bV)}{N:Nat}{ref rc:List Nat}{cx:Cx}{all:List Oper}
def CT(cx:Cx)(N:Nat)(M:Mem)(w:World)(o:Oper)(σ:St)(K:Ef→Prop)(a':Act)(w':World):Prop:=
 ∃e M' β',K e∧Inv cx N M' β' (eU o e σ) a' w'∧Grow cx.B M M'∧cE cx w w'
theorem OF{o:Oper}{d:Nat}{v:AV}{σ:St}(hd:o.dst=some d):eU o (some v,[]) σ=o9 σ d v:=by unfold eU o9;rw[hd];rfl
theorem UY{o:Oper}{d:Nat}{v:AV}{u:aP}{σ:St}(hd:o.dst=some d):eU o (some v,u) σ=⟨(d,v)::σ.env,u++σ.box⟩:=by unfold eU;rw[hd];simp only [F4]
theorem aDW{o:Oper}{v:Option AV}{u:aP}{σ:St}(hd:o.dst=none):eU o (v,u) σ=⟨σ.env,u++σ.box⟩:=by unfold eU;rw[hd];simp only [F4]
theorem a6.sound(hT:cD P T)(YK:∀f,rc.contains (f+2000000)=true→cx.ref=[]){o:Oper}{σ:St}{K:Ef→Prop}{Q:Exit→Act→World→Prop}{M:Mem}{β:Nm}{a:Act}{w:World}(h:a6 P T N rc all o σ K)(i:Inv cx N M β σ a w):
  if Region.wanted o (yielded all.toArray a.tmps)then(∀c,o.op≠.defer c)∧o.wp P a w (CT cx N M w o σ K) Q else CT cx N M w o σ K (a.put o.dst undef) w:=by
 have run:(match o.dst with
  |some d=>bif Nat.blt d N then
    (match M8 o.op with
    |true=>vW T d o.op σ fun v u=>K (some v,u)
    |false=>match xJ rc σ o.op with
     |some (fo,args)=>fe none (ev σ fo) fun vf=>dY none σ args fun ars=>gU P rc σ vf ars fun v u=>K (some v,u)
     |none=>mD P T o.op σ none fun v=>K (some v,[]))else False
  |none=>match M8 o.op with
    |true=>vW T 0 o.op σ fun _ u=>K (none,u)
    |false=>False)→(∀c,o.op≠.defer c)∧o.wp P a w (CT cx N M w o σ K) Q:=by
  intro h
  refine⟨fun c e=>?_,?_⟩
  ·exact zaJ
  split at h
  ·rename_i d hd
   cases hN:Nat.blt d N with
   |false=>rw[hN]at h;cases h
   |true=>
    rw[hN]at h;have hN:d<N:=Nat.le_of_ble_eq_true hN;simp only [cond_true]at h;split at h
    ·obtain⟨r,u,hk,_,hx⟩:=vW.pt h;obtain⟨r',bx,⟨rfl,rfl⟩,v,w',M',β',a7,hr,hi,hg,lB⟩:=JR.spec hT (hx cx.ref) rfl i;unfold Oper.wp;rcases a7 with a7|⟨a7,rfl⟩
     ·rw[a7,Oper.upon_value,hd];exact zcj
     rw[a7,Oper.upon_skip,hd];exact zcj
    split at h
    ·rename_i fo args hq;obtain⟨v,u,hk,hs⟩:=gU.spec hq YK h;obtain⟨f,vs,a7,eF⟩:=hs N M β a w i;unfold Oper.wp;rw[a7,Oper.upon_enter];refine eF.mono ?_;rintro e' w' ⟨v',M',β',rfl,hr,i',hg,lB⟩;simp only [hd];exact⟨_,M',β',hk,by rw[UY hd];exact i'.put (σ:=⟨σ.env,_⟩) hN hr,hg,lB⟩
    obtain⟨r,hk,hs⟩:=mD.spec hT h;refine Oper.wp_mono ?_ (F0 (K:=fun σ'=>σ'=o9 σ d r) hd hN (hs iY) i rfl);exact zbM
  ·rename_i hd;split at h
   ·obtain⟨r,u,hk,_,hx⟩:=vW.pt h;obtain⟨r',bx,⟨rfl,rfl⟩,v,w',M',β',a7,hr,hi,hg,lB⟩:=JR.spec hT (hx cx.ref) rfl i;unfold Oper.wp;rcases a7 with a7|⟨a7,rfl⟩
    ·rw[a7,Oper.upon_value,hd];exact zdP
    rw[a7,Oper.upon_skip,hd];exact zdP
   cases h
 have skip:(match o.dst with
     |some d=>bif Nat.blt d N then K (some (.s (.d .bL)),[])else False
     |none=>K (none,[]))→CT cx N M w o σ K (a.put o.dst undef) w:=by
  intro h
  split at h
  ·rename_i d hd
   cases hN:Nat.blt d N with
   |false=>rw[hN]at h;cases h
   |true=>rw[hN]at h;have hN:d<N:=Nat.le_of_ble_eq_true hN;rw[hd];exact⟨_,M,β,h,by rw[OF hd];exact i.put hN trivial,Grow.refl _ _,cE.refl _ _⟩
  ·rename_i hd;rw[hd];exact⟨_,M,β,h,by unfold eU;rw[hd];exact i,Grow.refl _ _,cE.refl _ _⟩
 have part:∀{d:Nat} {gb:Bool},o.dst=some d→d<N→(mD P T o.op σ (some gb) fun v=>K (some (wT gb v),[]))→Region.wanted o (yielded all.toArray a.tmps)=gb→
   if Region.wanted o (yielded all.toArray a.tmps)then(∀c,o.op≠.defer c)∧o.wp P a w (CT cx N M w o σ K) Q else CT cx N M w o σ K (a.put o.dst undef) w:=by
  intro d gb hd hN h hw
  obtain⟨r,hk,hs⟩:=mD.spec hT h
  cases hgf:gb with
  |true=>
   rw[if_pos (by rw[hw,hgf])];have H4:act (some gb):=fun c e=>by cases e;exact hgf
   have hdo:ZY P o σ (wT gb r):=by
    intro cx N M β a w i;have hwr:∀{M β v},r.bI M β v→(wT gb r).bI M β v:=by
     intro M β v hr
     cases r with
     |s x=>exact⟨fun _=>hr,fun h=>by rw[hgf]at h;cases h⟩
     |g cs=>exact⟨fun _=>hr,fun h=>by rw[hgf]at h;cases h⟩
     |_=>exact trivial
    exact kz
   refine⟨mD.nd h,Oper.wp_mono ?_ (F0 (K:=fun σ'=>σ'=o9 σ d (wT gb r)) hd hN hdo i rfl)⟩;exact zbM
  |false=>
   rw[if_neg (by rw[hw,hgf];simp),hd];refine⟨_,M,β,hk,?_,Grow.refl _ _,cE.refl _ _⟩;rw[OF hd];refine i.put hN ?_
   cases r with
   |s x=>exact⟨fun h=>(by rw[hgf]at h;cases h),fun _=>rfl⟩
   |g cs=>exact⟨fun h=>(by rw[hgf]at h;cases h),fun _=>rfl⟩
   |_=>exact trivial
 unfold a6 at h
 simp only at h
 split at h
 ·rename_i hg;rw[if_pos zeP];exact run h
 ·rename_i j nY hg;split at h
  ·cases h
  rename_i t ht;split at h
  ·rename_i b hv;have hb:a.tmps.getD t undef=.bool b:=by have:=i.env t;rw[hv]at this;exact this
   have hw:=pZ hg ht hb
   cases b <;> cases nY
   ·rw[if_pos (by rw[hw];rfl)];exact run h
   ·rw[if_neg (by rw[hw];simp)];exact skip h
   ·rw[if_neg (by rw[hw];simp)];exact skip h
   rw[if_pos (by rw[hw];rfl)];exact run h
  ·rename_i b hv;have hb:a.tmps.getD t undef=.bool b:=by have:=i.env t;rw[hv]at this;exact this
   have hw:=pZ hg ht hb;split at h
   ·rename_i hx;obtain⟨hbp,h⟩:=h;subst hbp;have run':=run;simp only [hx]at run';rw[if_pos (by rw[hw];cases b <;> rfl)];exact run' h
   exact kf
  ·rename_i c b hv;have hr:(AV.ib c (.d (.val (.bool b)))).bI M β (a.tmps.getD t undef):=by have:=i.env t;rw[hv]at this;exact this
   have hw:Region.wanted o (yielded all.toArray a.tmps)=(c&&rL nY b):=by exact zbq
   split at h
   ·cases h
   exact xi
  cases h
theorem Inv.eqv{σ σ':St}{M:Mem}{β:Nm}{a:Act}{w:World}(i:Inv cx N M β σ a w)(h:FP σ σ'):Inv cx N M β σ' a w:=
 ⟨i.defers,i.tmps,i.heap,fun t=>by rw[h.env];exact i.env t,i.mem,fun x p e=>by rw[h.box];exact i.keys x p e,fun x bc e=>i.box x bc zfk,
  fun x y bx zB b c c' ex ey=>i.inj x y bx zB b c c' (by rw[←h.box];exact ex) (by rw[←h.box];exact ey),fun x bc b c e=>i.apart x bc b c zfk,fun x bc b c e=>i.low x bc b c zfk,i.ref⟩
theorem yE.sound(hT:cD P T)(YK:∀f,rc.contains (f+2000000)=true→cx.ref=[]){md:Region.Mode}{ft:List fY}{σf:St}{Q:Exit→Act→World→Prop}:∀(fuel:Nat) {listed:Array Bool} {σ:St} {M:Mem} {β:Nm} {a:Act} {w:World},
  yE P T N rc all md ft σf fuel listed σ→Inv cx N M β σ a w→(∀a' w',KG cx N M w (fun σ'=>σ'=σf) a' w'→Q .normal a' w')→wpAnyIn (FW cx.rd) 0 P md all.toArray Q fuel listed a w:=by
 intro fuel
 induction fuel with
 |zero=>intro listed σ M β a w h i hQ;exact⟨h.1,hQ a w ⟨σf,M,β,rfl,i.eqv h.2.symm,Grow.refl _ _,cE.refl _ _⟩⟩
 |succ fuel ih=>
  intro listed σ M β a w h i hQ;refine⟨fun h0=>hQ a w ⟨σf,M,β,rfl,i.eqv (h.1 h0).symm,Grow.refl _ _,cE.refl _ _⟩,fun k hk=>?_⟩;obtain⟨o,e,f,ho,hf,gF,LD⟩:=h.2 k hk;have jO:=a6.sound (cx:=cx) (Q:=Q) hT YK (gF.pt (fun e'=>e'=e) rfl) i;have sO:all.toArray[k]? =some o:=by simpa using ho
  have next:∀a' w',CT cx N M w o σ (fun e'=>e'=e) a' w'→wpAnyIn (FW cx.rd) 0 P md all.toArray Q fuel (listed.setIfInBounds k true) a' w':=by rintro a' w' ⟨e',M',β',rfl,hi,hg,lB⟩;exact ih LD hi fun a2 w2 hp=>hQ a2 w2 (hp.trans hg lB)
  exact vq
def pB(P:Program)(T:List (Nat×bV))(N:Nat)(rc:List Nat)(all:List Oper):List Oper→St→List fY→(St→List fY→Prop)→Prop
 |[],σ,fs,K=>K σ fs.reverse
 |o::rest,σ,fs,K=>a6 P T N rc all o σ fun e=>pB P T N rc all rest (eU o e σ) (NN σ o e::fs) K
theorem pB.chain:∀{l:List Oper} {σ:St} {fs:List fY} {K:St→List fY→Prop},pB P T N rc all l σ fs K→∃es gs,W4 P T N rc all l σ es gs∧K (rD l σ es) (fs.reverse++gs)
 |[],σ,fs,K,h=>⟨[],[],trivial,by have h':K σ fs.reverse:=h;simpa [rD]using h'⟩
 |o::rest,σ,fs,K,h=>by obtain⟨e,hk,hp⟩:=a6.pt h;obtain⟨es,gs,hc,hK⟩:=pB.chain hk;refine⟨e::es,NN σ o e::gs,⟨⟨hp,rfl,rfl⟩,hc⟩,?_⟩;simpa [rD]using hK
theorem AW.draw(hT:cD P T)(YK:∀f,rc.contains (f+2000000)=true→cx.ref=[])(hm:P.follows .mixedOrders=true){id:Nat}{ops:Array Oper}{σ:St}{K:Exit→St→Prop}
  (h:pB P T N rc ops.toList ops.toList σ [] fun σ' fs=>X6 .any ops.toList.toArray fs ops.toList.length 0 (Array.replicate ops.toList.length false)=true∧K .normal σ'):AW P cx N (.region id ops true) σ K:=by
 obtain⟨es,gs,hc,hl,hK⟩:=pB.chain h
 intro M β a w i
 refine wpIn_region_any hm ?_
 have T5:=yE.lex (md:=.any) (ft:=gs) ops.toList 0 (Array.replicate ops.toList.length false) σ es gs sM sM (fun m om _ h=>by simp[Array.getElem?_replicate]at h;split at h <;> simp_all) hl hc
 have hi:Inv cx N M β σ a {w with drawn:=w.drawn+1}:=
  ⟨i.defers,i.tmps,⟨i.heap.le,i.heap.tab⟩,i.env,i.mem,i.keys,i.box,i.inj,i.apart,i.low,i.ref⟩
 have:=yE.sound (cx:=cx) (Q:=fun e a' w'=>∃σ' M' β',K e σ'∧Inv cx N M' β' σ' a' w'∧Grow cx.B M M'∧cE cx w w') hT YK ops.toList.length T5 hi (by rintro a' w' ⟨σ',M',β',rfl,h2,h3,h4⟩;exact⟨_,M',β',hK,h2,h3,⟨h4.os,h4.tape,h4.output,h4.size,h4.block,trivial⟩⟩)
 simpa using this
end
def AI(σ:St)(c:Operand)(x y:Prop):Prop:=
 match ev σ c with
 |.s (.d (.lit b))=>match b with
  |true=>x
  |false=>y
 |.s (.d (.val (.bool b)))=>(b=true→x)∧(b=false→y)
 |_=>False
def aCY(P:Program)(T:List (Nat×bV))(N:Nat)(ref rc:List Nat)(ops:Array Oper)(dr:Bool)(σ:St)(K:Exit→St→Prop):Prop:=
 match dr with
 |false=>l5 P T N ref rc ops.toList ops.toList σ (K .normal)
 |true=>pB P T N (bif ref.isEmpty then rc else rc.filter fun x=>Nat.blt x 2000000) ops.toList ops.toList σ [] fun σ' fs=>X6 .any ops.toList.toArray fs ops.toList.length 0 (Array.replicate ops.toList.length false)=true∧K .normal σ'
def ex(P:Program)(T:List (Nat×bV))(N:Nat)(ref rc:List Nat)(cx:Cx)(c:Code):St→(Exit→St→Prop)→Prop:=
 @Code.rec (fun _=>St→(Exit→St→Prop)→Prop)
  (fun σ K=>K .normal σ)
  (fun _ ops dr σ K=>aCY P T N ref rc ops dr σ K)
  (fun _ _ iha ihb σ K=>iha σ (OV (fun s=>ihb s K) K))
  (fun c _ _ iha ihb σ K=>AI σ c (iha σ K) (ihb σ K))
  (fun id _ ih σ K=>ih σ (OB id K))
  (fun b _ σ K=>AW P cx N (.loop b) σ K)
  (fun f p a b _ _ σ K=>AW P cx N (.rangeFunc f p a b) σ K)
  (fun id σ K=>K (.exit id) σ)
  (fun b _ σ K=>AW P cx N (.scope b) σ K)
  (fun l σ K=>AW P cx N (.label l) σ K)
  (fun l σ K=>AW P cx N (.goto l) σ K)
  (fun σ K=>K .ret σ)
  (fun w σ K=>AW P cx N (.refuse w) σ K) c
theorem ex.sound{P:Program}{T:List (Nat×bV)}{N:Nat}{ref rc:List Nat}{cx:Cx}(hT:cD P T)(hm:P.follows .mixedOrders=true)(aA:cx.ref=ref):∀(c:Code) {σ:St} {K:Exit→St→Prop},ex P T N ref rc cx c σ K→AW P cx N c σ K:=by
 intro c;induction c with
 |skip=>exact fun h=>AW.skip h
 |ret=>exact fun h=>AW.ret h
 |exit id=>exact fun h=>AW.exit h
 |seq x y ihx ihy=>
  intro σ K h;refine AW.seq (AW.mono (ihx h) ?_);intro e s hk
  cases e with
  |normal=>exact ihy hk
  |_=>exact hk
 |block id c ih=>exact fun h=>AW.block (ih h)
 |cond c x y ihx ihy=>
  intro σ K h;replace h:AI σ c (ex P T N ref rc cx x σ K) (ex P T N ref rc cx y σ K):=h;unfold AI at h;intro M β a w i;split at h
  ·rename_i b hv;have hb:a.eval c=.bool b:=by have:=ev.rep i c;rw[hv]at this;exact this
   cases b with
   |true=>exact wpIn_cond_true hb (ihx h M β a w i)
   |false=>exact wpIn_cond_false hb (ihy h M β a w i)
  ·rename_i b hv;have hb:a.eval c=.bool b:=by have:=ev.rep i c;rw[hv]at this;exact this
   exact wpIn_cond_split hb (fun hb=>ihx (h.1 hb) M β a w i) (fun hb=>ihy (h.2 hb) M β a w i)
  cases h
 |region id ops dr=>
  intro σ K h;replace h:aCY P T N ref rc ops dr σ K:=h;unfold aCY at h
  cases dr with
  |true=>
   refine AW.draw hT (fun f hf=>?_) hm h
   cases hr:ref.isEmpty with
   |true=>rw[aA];exact List.isEmpty_iff.1 hr
   |false=>rw[hr]at hf;simp only [cond_false,List.contains_eq_mem,decide_eq_true_eq,List.mem_filter]at hf;have:=Nat.le_of_ble_eq_true hf.2;omega
  |false=>intro M β a w i;have:=l5.sound (Q:=fun e a' w'=>∃σ' M' β',K e σ'∧Inv cx N M' β' σ' a' w'∧Grow cx.B M M'∧cE cx w w') hT aA ops.toList h i (fun a' w' hp=>hp);exact zes
 |_=>exact fun h=>h
def tW:List AV→Nat→List (Nat×AV)
 |[],_=>[]
 |v::r,k=>(k,v)::tW r (k+1)
def uV(args:List AV):St:=⟨tW args 0,[]⟩
theorem tW.rep{M:Mem}{β:Nm}:∀{args:List AV} {vs:List Value} {k t:Nat} (rest:List Value),gZ M β args vs→k≤t→(fL (tW args k) t).bI M β ((vs++rest).getD (t - k) undef)
 |[],[],k,t,rest,_,_=>trivial
 |v::args,u::vs,k,t,rest,⟨h,r⟩,hk=>by
  simp only [tW,gP];by_cases he:k=t
  ·subst he;simpa using h
  rw[if_neg he];have:=tW.rep (k:=k+1) (t:=t) rest r oM;rw[show t - k=(t - (k+1))+1 by omega];simpa using this
 |[],_::_,_,_,_,h,_=>h.elim
 |_::_,[],_,_,_,h,_=>h.elim
theorem gZ.length:∀{M β} {cs:List AV} {vs:List Value},gZ M β cs vs→vs.length=cs.length
 |_,_,[],[],_=>rfl
 |_,_,_::_,_::_,⟨_,r⟩=>by simp[gZ.length r]
 |_,_,[],_::_,h=>h.elim
 |_,_,_::_,[],h=>h.elim
def XR(T:List (Nat×bV))(σ:St):ResultVar→Option TV
 |.tmp t=>match fL σ.env t with
  |.s x=>some (.s x)
  |.g cs=>some (.g cs)
  |_=>none
 |.cell a t=>match dE T t,fL σ.env a with
  |some ti,.s (.ptr x 0)=>match aH σ.box x with
   |some (some (.cells cs))=>match ti.agg with
    |true=>bif Nat.beq cs.length ti.size then some (.g cs)else none
    |false=>match cs with
     |[c]=>some (.s c)
     |_=>none
   |_=>none
  |_,_=>none
def oQ(T:List (Nat×bV))(σ:St):List ResultVar→Option (List TV)
 |[]=>some []
 |x::r=>match XR T σ x,oQ T σ r with
  |some t,some ts=>some (t::ts)
  |_,_=>none
def ofT:TV→AV
 |.s x=>.s x
 |.g cs=>.g cs
def yX:List TV→AV
 |[t]=>ofT t
 |ts=>.t ts
def aNF(σ:St):TV→TV
 |.s x=>.s (vX σ x)
 |.g cs=>.g (kW σ cs)
def nV(σ:St):List TV→List TV
 |[]=>[]
 |t::r=>aNF σ t::nV σ r
def aC(v r:AV):Prop:=∀M u,v.bI M nb u→r.bI M nb u
theorem aC.refl(v:AV):aC v v:=fun _ _ h=>h
theorem aC.of_eq{v r:AV}(h:v=r):aC v r:=h▸aC.refl v
def XP(T:List (Nat×bV))(rs:List ResultVar)(r:AV):Exit→St→Prop
 |.ret,σ=>match oQ T σ rs with
  |some ts=>aC (yX (nV σ ts)) r
  |none=>False
 |.normal,σ=>match oQ T σ rs with
  |some ts=>aC (yX (nV σ ts)) r
  |none=>False
 |_,_=>False
section
variable{P:Program}{T:List (Nat×bV)}{cx:Cx}{N:Nat}{M F:Mem}{β:Nm}{σ:St}{a:Act}{w:World}
def l6(tmps:Array Value):ResultVar→Sem Value
 |.tmp t=>pure (tmps.getD t undef)
 |.cell a t=>do loadVar t (←asAddr (tmps.getD a undef))
theorem XR.rep(hT:cD P T)(i:Inv cx N M β σ a w){x:ResultVar}{t:TV}(h:XR T σ x=some t):∃v,(l6 a.tmps x).run P w=.ok v w∧t.bI M β v:=by
 cases x with
 |tmp u=>
  simp only [XR]at h;have hr:=i.env u;refine⟨a.tmps.getD u undef,rfl,?_⟩;split at h
  ·rename_i e;cases h;rw[e]at hr;exact hr
  ·rename_i e;cases h;rw[e]at hr;exact hr
  cases h
 |cell u t'=>
  simp only [XR]at h;split at h
  ·rename_i ti x gG he;have gF:=hT.get gG;have hr:=i.env u;rw[he]at hr;obtain⟨b,c,e1,e2⟩:=hr;split at h
   ·rename_i cs hb;obtain⟨b',c',vs,ty,us,e3,hh,YJ⟩:=i.box x _ hb;rw[e1]at e3;cases e3;split at h
    ·rename_i H2
     cases hl:Nat.beq cs.length ti.size with
     |false=>rw[hl]at h;cases h
     |true=>rw[hl]at h;cases h;have hl:=Nat.eq_of_beq_eq_true hl;have SJ:=YJ.length;refine⟨_,?_,vs,rfl,YJ⟩;have hld:=run_loadCells_list (P:=P) w ⟨b,0,none⟩ vs (fun j v hv=>by rw[jV];have:=CO (us:=us) hv;simpa [World.cell?,hh]using this);have ha:=gF.BC w;rw[H2]at ha;simp[l6,e2,asAddr,loadVar,ha,gF.iE,←hl,←SJ,hld]
    rename_i H2;split at h
    ·cases h
     rename_i c0
     cases vs with
     |nil=>exact YJ.elim
     |cons v r=>
      cases r with
      |cons _ _=>exact YJ.2.elim
      |nil=>
       refine⟨v,?_,YJ.1⟩;have ha:=gF.BC w;rw[H2]at ha;have hc:w.cell? ⟨b,0,none⟩=some v:=by simp[World.cell?,hh]
       simp[l6,e2,asAddr,loadVar,ha,hc,run_load]
    cases h
   cases h
  cases h
theorem oQ.rep(hT:cD P T)(i:Inv cx N M β σ a w):∀{l:List ResultVar} {ts:List TV},oQ T σ l=some ts→∃vs:List Value,(l.mapM (l6 a.tmps)).run P w=.ok vs w∧rF M β ts vs
 |[],ts,h=>by simp[oQ]at h;subst h;exact⟨[],rfl,trivial⟩
 |x::r,ts,h=>by
  simp only [oQ]at h;split at h
  ·rename_i t ts' h1 h2
   cases h
   obtain⟨v,e1,r1⟩:=XR.rep hT i h1;obtain⟨vs,e2,r2⟩:=oQ.rep hT i h2;exact⟨v::vs,by simp[e1,e2],r1,r2⟩
  cases h
theorem nV.rep(i:Inv cx N M β σ a w)(hM:Mem.le M F)(hF:∀x bc b c,aH σ.box x=some (some bc)→β x=some (b,c)→∀o u,w.cell? ⟨b,o,none⟩=some u→F b o=some u):
  ∀{ts:List TV} {vs:List Value},rF M β ts vs→rF F nb (nV σ ts) vs
 |[],[],_=>trivial
 |t::_,_::_,⟨h,r⟩=>by
  refine⟨?_,nV.rep i hM hF r⟩
  cases t with
  |s x=>exact dS.rep i hM hF 3 _ _ h
  |g cs=>obtain⟨vs,e,hr⟩:=h;exact⟨vs,e,kW.rep i hM hF hr⟩
 |[],_::_,h=>h.elim
 |_::_,[],h=>h.elim
theorem FA{f N:Nat}{fn:Func}{c:Code}{args:List AV}{r:AV}(hf:P.funcs[f]? =some fn)(hb:fn.body=some c)(hN:fn.ntmps=N)(eF:∀vs w,(callFunc f vs).run P w=.ok (.enter f vs) w)
  (hT:cD P T) (hl:Nat.ble args.length N=true) {rs:List ResultVar} (NA:fn.results.toList=rs)
  (h:∀cx:Cx,cx.ref=[]→AW P cx N c (uV args) (XP T rs r)):aF P f args r:=by
 refine⟨eF,fun M w vs hG hr hM=>?_⟩
 refine calls_of_wp hf hb ?_
 let cx:Cx:={B:=w.heap.size,ref:=[],β0:=nb}
 have hlen:=hr.length
 have hl:=Nat.le_of_ble_eq_true hl
 have i0:Inv cx N M nb (uV args) {tmps:=vs.toArray++Array.replicate (fn.ntmps - vs.toArray.size) undef,defers:=[]} w:=by exact ue
 refine wp_mono (wpIn_wide.1 (h cx rfl M nb _ w i0)) ?_
 rintro e a' w' ⟨σ',M',β',hk,i',hg,lB⟩
 have fin:∀ts,oQ T σ' rs=some ts→aC (yX (nV σ' ts)) r→a'.defers=[]∧∃v,(results fn a'.tmps).run P w'=.ok v w'∧∃v' M',Ending.returned v=.returned v'∧r.bI M' nb v'∧Grow w.heap.size M M'∧lA M' w'∧Bel w w':=by
  intro ts uX fQ;obtain⟨AY,a7,eD⟩:=oQ.rep hT i' uX;let F:Mem:=fun b o=>if b<w.heap.size then M' b o else w'.cell? ⟨b,o,none⟩
  have hMF:Mem.le M' F:=fun b o u e=>by
   by_cases qT:b<w.heap.size
   ·simp[F,qT,e]
   simp[F,qT,i'.mem b o u e]
  have hFc:∀x bc b c,aH σ'.box x=some (some bc)→β' x=some (b,c)→∀o u,w'.cell? ⟨b,o,none⟩=some u→F b o=some u:=by
   intro x bc b c e e' o u hu;rcases i'.low x bc b c e e' with h|h
   ·have:¬b<w.heap.size:=by have:w.heap.size≤b:=h;omega
    simp[F,this,hu]
   obtain⟨_,_,hx,_⟩:=h;cases hx
  have jJ:=nV.rep i' hMF hFc eD;refine⟨i'.defers,(if h:AY.toArray.size=1 then AY.toArray[0]else .tuple AY.toArray),?_,_,F,rfl,fQ F _ ?_,⟨fun b o u e=>hMF b o u (hg.le b o u e),fun b o u e=>?_⟩,fun b o u e=>?_,⟨⟨lB.os,lB.tape,lB.output,lB.size,fun k hk=>lB.block k hk (by rintro⟨x,c,hx,_⟩;cases hx)⟩,lB.drawn⟩⟩
  ·exact zj
  ·cases QQ:nV σ' ts with
   |nil=>exact zaf
   |cons t r'=>exact zq
  ·by_cases qT:b<w.heap.size
   ·simp[F,qT]at e;exact hg.new b o u e
   exact .inr oM
  by_cases qT:b<w.heap.size
  ·simp[F,qT]at e;exact i'.mem b o u e
  simp[F,qT]at e;exact e
 cases e with
 |ret=>exact zca
 |normal=>exact zca
 |_=>exact hk.elim
theorem gI{rc:List Nat}{f N:Nat}{fn:Func}{c:Code}{args:List AV}{r:AV}(hf:P.funcs[f]? =some fn)(hb:fn.body=some c)(hN:fn.ntmps=N)(eF:∀vs w,(callFunc f vs).run P w=.ok (.enter f vs) w)
  (hT:cD P T) (hm:P.follows .mixedOrders=true) (hl:Nat.ble args.length N=true) {rs:List ResultVar} (NA:fn.results.toList=rs)
  (h:∀cx:Cx,cx.ref=[]→ex P T N [] rc cx c (uV args) (XP T rs r)):aF P f args r:=
 FA hf hb hN eF hT hl NA fun cx aA=>ex.sound hT hm aA c (h cx aA)
end
theorem MC{P:Program}{w:World}{t:TypeId}(h:(isAgg t).run P w=.ok false w){V:Array Value}{k:Nat}{v:Value}(hv:V[k]? =some v):(part t V k).run P w=.ok v w:=by simp[part,h,hv]
theorem MD{P:Program}{w:World}{t:TypeId}{m:Nat}(h:(isAgg t).run P w=.ok true w)(hs:(sizeOf t).run P w=.ok m w){V:Array Value}{k:Nat}:(part t V k).run P w=.ok (.agg ((V.toList.drop k).take m).toArray) w:=by
 have:V.extract k (k+m)=((V.toList.drop k).take m).toArray:=by apply Array.ext';simp[List.extract_eq_take_drop]
 simp[part,h,hs,this]
abbrev I4(xs:List SV)(vs:List Value):Prop:=cV (fun _ _=>none) (fun _=>none) xs vs
def mkV(agg:Bool)(vs:List Value):Value:=match agg with|true=>.agg vs.toArray|false=>vs.headD undef
structure mY(P:Program)(n:Nat)(t:TypeId)(agg:Bool)(zs:List Value):Prop where
 isAgg:∀w,(isAgg t).run P w=.ok agg w
 size:agg=true→∀w,(sizeOf t).run P w=.ok zs.length w
 one:agg=false→zs.length=1
 run:∀(d:Nat) (w:World) (xs ys:List SV) (vs us:List Value) (b:Bool),gT zs xs=true→gT zs ys=true→uG xs ys=some b→I4 xs vs→I4 ys us→
  (Op.equalIn (d+n) t (mkV agg vs) (mkV agg us)).run P w=.ok b w
theorem mY.up{P:Program}{n:Nat}{t:TypeId}{agg:Bool}{zs:List Value}(h:mY P n t agg zs):mY P (n+1) t agg zs:=
 ⟨h.isAgg,h.size,h.one,fun d w xs ys vs us b h1 h2 h3 h4 h5=>by have:=h.run (d+1) w xs ys vs us b h1 h2 h3 h4 h5;rwa [show d+1+n=d+(n+1) by omega]at this⟩
theorem V2{k:IntKind}{z:Int}{x:SV}(h:kOK (.int k z) x=true):∃k' a,xL x=some (k',a):=by
 cases hx:xL x with
 |none=>simp[kOK,hx]at h
 |some p=>exact⟨p.1,p.2,rfl⟩
theorem HI{s:ByteArray}{x:SV}(h:kOK (.string s) x=true):∃a,wC x=some a:=by
 cases hx:wC x with
 |none=>simp[kOK,hx]at h
 |some p=>exact⟨p,rfl⟩
theorem QH{s:Bool}{x:SV}(h:kOK (.bool s) x=true):∃a,nW x=some a:=by
 cases hx:nW x with
 |none=>simp[kOK,hx]at h
 |some p=>exact⟨p,rfl⟩
theorem K3{z:Value}{xs:List SV}(h:gT [z] xs=true):∃x,xs=[x]∧kOK z x=true:=by
 cases xs with
 |nil=>cases h
 |cons x r=>
  simp only [gT,Bool.and_eq_true]at h
  cases r with
  |nil=>exact⟨x,rfl,h.1⟩
  |cons _ _=>exact absurd h.2 (by simp[gT])
theorem XS{x:SV}{vs:List Value}(h:I4 [x] vs):∃v,vs=[v]∧x.bI (fun _ _=>none) (fun _=>none) v:=by
 cases vs with
 |nil=>exact h.elim
 |cons v r=>cases r with
  |nil=>exact⟨v,rfl,h.1⟩
  |cons _ _=>exact h.2.elim
theorem xL.val{x:SV}{k:IntKind}{a:Int}{M:Mem}{β:Nm}{v:Value}(h:xL x=some (k,a))(r:x.bI M β v):v=.int k a:=by
 unfold xL at h;split at h
 ·cases h;exact r
 cases h
theorem HN{x:SV}{s:ByteArray}(h:wC x=some s):xL x=none:=by
 unfold wC at h;split at h
 ·rfl
 cases h
theorem DO{x:SV}{s:Bool}(h:nW x=some s):xL x=none:=by exact zd4
theorem C8{x:SV}{s:Bool}(h:nW x=some s):wC x=none:=by exact zd4
section
variable{P:Program}{t:TypeId}
theorem cB{k:IntKind}(z:Int)(h:P.underlying t=some (.int k)):mY P 1 t false [.int k z]:=by
 refine⟨fun w=>by simp[isAgg,run_underlying h],(fun h=>by cases h),fun _=>rfl,fun d w xs ys vs us b h1 h2 e rx ry=>?_⟩;obtain⟨x,rfl,kx⟩:=K3 h1;obtain⟨y,rfl,ky⟩:=K3 h2;obtain⟨v,rfl,rx'⟩:=XS rx;obtain⟨u,rfl,ry'⟩:=XS ry;obtain⟨k1,a,hx⟩:=V2 kx;obtain⟨k2,a2,hy⟩:=V2 ky;simp only [uG,hx,hy]at e;by_cases hk:k1=k2
 ·subst hk;simp only [decide_true,cond_true,Bool.and_true,Option.some.injEq]at e;subst e;have ev:=xL.val hx rx';have eu:=xL.val hy ry';subst ev;subst eu;exact run_equalIn_int (w:=w) d t k1 k a a2 h
 simp[hk]at e
theorem gA(z:ByteArray)(h:P.underlying t=some .string):mY P 1 t false [.string z]:=by refine⟨fun w=>by simp[isAgg,run_underlying h],(fun h=>by cases h),fun _=>rfl,fun d w xs ys vs us b h1 h2 e rx ry=>?_⟩;obtain⟨x,rfl,kx⟩:=K3 h1;obtain⟨y,rfl,ky⟩:=K3 h2;obtain⟨v,rfl,rx'⟩:=XS rx;obtain⟨u,rfl,ry'⟩:=XS ry;obtain⟨a,hx⟩:=HI kx;obtain⟨a2,hy⟩:=HI ky;simp only [uG,HN hx,hx,hy,Bool.and_true,Option.some.injEq]at e;subst e;have ev:=wC.val hx rx';have eu:=wC.val hy ry';subst ev;subst eu;exact run_equalIn_string (w:=w) d t a a2 h
theorem aDG(z:Bool)(h:P.underlying t=some .bool):mY P 1 t false [.bool z]:=by refine⟨fun w=>by simp[isAgg,run_underlying h],(fun h=>by cases h),fun _=>rfl,fun d w xs ys vs us b h1 h2 e rx ry=>?_⟩;obtain⟨x,rfl,kx⟩:=K3 h1;obtain⟨y,rfl,ky⟩:=K3 h2;obtain⟨v,rfl,rx'⟩:=XS rx;obtain⟨u,rfl,ry'⟩:=XS ry;obtain⟨a,hx⟩:=QH kx;obtain⟨a2,hy⟩:=QH ky;simp only [uG,DO hx,C8 hx,hx,hy,Bool.and_true,Option.some.injEq]at e;subst e;have ev:=nW.val hx rx';have eu:=nW.val hy ry';subst ev;subst eu;exact run_equalIn_bool' (w:=w) d t a a2 h
end
def aKL(P:Program)(n:Nat):List Field→List Value→Nat→Prop
 |[],zs,_=>zs=[]
 |f::fs,zs,k=>f.name≠ "_" ∧f.offset=k∧∃agg zf rest,zs=zf++rest∧mY P n f.type agg zf∧aKL P n fs rest (k+zf.length)
theorem zX:∀{zf rest:List Value} {xs:List SV},gT (zf++rest) xs=true→gT zf (xs.take zf.length)=true∧gT rest (xs.drop zf.length)=true∧zf.length≤xs.length
 |[],_,_,h=>⟨rfl,h,Nat.zero_le _⟩
 |z::zf,rest,[],h=>by cases h
 |z::zf,rest,x::xs,h=>by simp only [List.cons_append,gT,Bool.and_eq_true]at h;obtain⟨i1,i2,i3⟩:=zX h.2;exact⟨by simp only [List.length_cons,List.take_succ_cons,gT,Bool.and_eq_true];exact⟨h.1,i1⟩,by simpa using i2,by simp;omega⟩
theorem aC0{x y:SV}{r s:List SV}(h:uG r s=none):uG (x::r) (y::s)=none:=by simp only [uG,h]
def eq1(x y:SV):Option Bool:=uG [x] [y]
theorem aC1{x y:SV}{r s:List SV}{b:Bool}(h:uG (x::r) (y::s)=some b):∃b1 b2,eq1 x y=some b1∧uG r s=some b2∧b=(b1&&b2):=by
 cases hc:uG r s with
 |none=>rw[aC0 hc]at h;cases h
 |some c=>
  simp only [uG,hc]at h;split at h
  ·rename_i k1 a k2 b' c' ha hb Q1
   cases Q1
   by_cases hk:k1=k2
   ·subst hk;simp only [decide_true,cond_true,Option.some.injEq]at h;exact⟨a==b',c,by simp[eq1,uG,ha,hb],rfl,h.symm⟩
   simp[hk]at h
  ·rename_i c' Q1 hn
   cases Q1
   split at h
   ·rename_i a b' ha hb
    cases h
    exact⟨a.toList==b'.toList,c,by simp[eq1,uG,HN ha,ha,hb],rfl,rfl⟩
   rename_i hns;split at h
   ·rename_i a b' ha hb
    cases h
    exact⟨a==b',c,by simp[eq1,uG,DO ha,C8 ha,ha,hb],rfl,rfl⟩
   cases h
  rename_i Q1
  cases Q1
theorem aJF{x y:SV}{r s:List SV}{b1 b2:Bool}(h:eq1 x y=some b1)(k:uG r s=some b2):uG (x::r) (y::s)=some (b1&&b2):=by
 simp only [eq1,uG]at h;split at h
 ·rename_i k1 a k2 b' c' ha hb Q1
  cases Q1
  by_cases hk:k1=k2
  ·subst hk;simp only [decide_true,cond_true,Option.some.injEq,Bool.and_true]at h;simp[uG,k,ha,hb,h]
  simp[hk]at h
 ·rename_i c' Q1 hn
  cases Q1
  split at h
  ·rename_i a b' ha hb;simp only [Bool.and_true,Option.some.injEq]at h;simp[uG,k,HN ha,ha,hb,h]
  split at h
  ·rename_i a b' ha hb;simp only [Bool.and_true,Option.some.injEq]at h;simp[uG,k,DO ha,C8 ha,ha,hb,h]
  cases h
 rename_i Q1
 cases Q1
theorem WI:∀(m:Nat) {xs ys:List SV} {b:Bool},uG xs ys=some b→m≤xs.length→∃b1 b2,uG (xs.take m) (ys.take m)=some b1∧uG (xs.drop m) (ys.drop m)=some b2∧b=(b1&&b2)
 |0,xs,ys,b,h,_=>⟨true,b,by simp[uG],by simpa using h,sM⟩
 |m+1,[],ys,b,h,hl=>by simp at hl
 |m+1,x::xs,[],b,h,hl=>by simp[uG]at h
 |m+1,x::xs,y::ys,b,h,hl=>by obtain⟨c1,c2,h1,h2,rfl⟩:=aC1 h;obtain⟨d1,d2,h3,h4,rfl⟩:=WI m h2 (by simpa using hl);exact⟨c1&&d1,d2,by simp only [List.take_succ_cons];exact aJF h1 h3,by simpa using h4,by rw[Bool.and_assoc]⟩
theorem aFX{xs:List SV}{b:Bool}(h:uG [] xs=some b):b=true:=by
 cases xs with
 |nil=>simp only [uG,Option.some.injEq]at h;exact h.symm
 |cons _ _=>cases h
theorem B9{P:Program}{n d:Nat}{V U:Array Value}:∀{fs:List Field} {zs:List Value} {k:Nat} {w:World} {xs ys:List SV} {b:Bool} {vs us:List Value},aKL P n fs zs k→gT zs xs=true→gT zs ys=true→uG xs ys=some b→I4 xs vs→I4 ys us→
  V.toList.drop k=vs→U.toList.drop k=us→(Op.eqFields (d+n) V U fs).run P w=.ok b w
 |[],zs,k,w,xs,ys,b,vs,us,hz,h1,h2,e,_,_,_,_=>by
  have hz:zs=[]:=hz;subst hz
  cases xs with
  |nil=>rw[aFX e];rfl
  |cons _ _=>cases h1
 |f::fs,zs,k,w,xs,ys,b,vs,us,hz,h1,h2,e,rx,ry,hv,hu=>by
  obtain⟨hn,hk,agg,zf,rest,rfl,hc,hf⟩:=hz;obtain⟨k1,k2,k3⟩:=zX h1;obtain⟨k4,k5,k6⟩:=zX h2;obtain⟨b1,b2,e1,e2,rfl⟩:=WI zf.length e k3;have lx:=rx.length;have ly:=ry.length;have ih:=B9 (w:=w) (V:=V) (U:=U) (d:=d) hf k2 k5 e2 (cV.drop zf.length rx) (cV.drop zf.length ry) (by rw[←hv,List.drop_drop]) (by rw[←hu,List.drop_drop]);have hr:=hc.run d w _ _ _ _ _ k1 k4 e1 (cV.take zf.length rx) (cV.take zf.length ry);have part:∀(W:Array Value) (ws:List Value),W.toList.drop k=ws→zf.length≤ws.length→(part f.type W k).run P w=.ok (mkV agg (ws.take zf.length)) w:=by
   intro W ws hw hl
   cases agg with
   |true=>rw[MD (hc.isAgg w) (hc.size rfl w),hw];rfl
   |false=>
    have h0:=hc.one rfl;rw[h0]at hl ⊢
    cases ws with
    |nil=>simp at hl
    |cons v r=>
     show _=Result.ok v w;refine MC (hc.isAgg w) ?_;have:(W.toList.drop k)[0]? =some v:=by rw[hw];rfl
     simpa using this
  simp only [Op.eqFields,hn,ne_eq,not_false_eq_true,if_true,Sem.run_bind,hk,part V vs hv oM,part U us hu oM,Result.andThen,hr,Sem.run_ite]
  cases b1 with
  |true=>simpa using ih
  |false=>simp
theorem dJ{P:Program}{t n:Nat}{fs:Array Field}{zs:List Value}(dB:P.underlying t=some (.struct fs))(hp:P.stoodInHeld t=false)(hs:∀w,(sizeOf t).run P w=.ok zs.length w)(hf:aKL P n fs.toList zs 0):mY P (n+1) t true zs:=by
 refine⟨fun w=>by simp[isAgg,run_underlying dB],fun _=>hs,(fun h=>by cases h),fun d w xs ys vs us b h1 h2 e rx ry=>?_⟩;have hff:P.fieldsOf t=fs:=by simp[Program.fieldsOf,dB]
 show(Op.equalIn (d+n+1) t _ _).run P w=_;simp only [mkV];rw[run_equalIn_struct w (d+n) t vs.toArray us.toArray (by rw[hff];exact dB) hp,hff];exact B9 hf h1 h2 e rx ry sM sM
theorem iK{P:Program}{t n:Nat}{ti:TypeInfo}(h:P.info? t=some ti)(hn:ti.size=n)(w:World):(sizeOf t).run P w=.ok n w:=by simp[sizeOf,typeInfo,h,hn]
theorem cX{P:Program}{t n:Nat}{zs:List Value}(h:mY P n t true zs)(hn:n≤10000):
  ∀(w:World) (xs ys:List SV) (vs us:List Value) (b:Bool),gT zs xs=true→gT zs ys=true→uG xs ys=some b→I4 xs vs→I4 ys us→
  (Op.equal t (.agg vs.toArray) (.agg us.toArray)).run P w=.ok b w:=by
 intro w xs ys vs us b h1 h2 e rx ry
 have:=h.run (10000 - n) w xs ys vs us b h1 h2 e rx ry
 rwa [show 10000 - n+n=10000 by omega]at this
def gO:eV→aP
 |[]=>[]
 |(x,b)::r=>(x,some b)::gO r
def qM(args:List AV)(bx:eV):St:=⟨tW args 0,gO bx⟩
def jG(box:aP):eV→aP
 |[]=>box
 |(x,_)::r=>(x,none)::jG box r
def jI(box:aP):eV→Prop
 |[]=>True
 |(x,b)::r=>aH box x=some (some b)∧jI box r
theorem gO.get{x:Nat}{b:jK}:∀{bx:eV},aH (gO bx) x=some (some b)→(x,b)∈bx
 |[],h=>by cases h
 |(y,c)::r,h=>by
  simp only [gO]at h;rw[aL]at h;by_cases e:y=x
  ·rw[if_pos e]at h;cases h;subst e;simp
  rw[if_neg e]at h;exact List.mem_cons_of_mem _ (gO.get h)
theorem gO.has{x:Nat}:∀{bx:eV},x∈names bx→∃y,aH (gO bx) x=some y
 |[],h=>by cases h
 |(y,c)::r,h=>by
  simp only [gO];rw[aL];by_cases e:y=x
  ·exact zb0
  rw[if_neg e];simp only [names,List.mem_cons]at h;exact gO.has (h.resolve_left (fun h=>e h.symm))
theorem jG.get{box:aP}{x:Nat}{b:jK}:∀{bx:eV},aH (jG box bx) x=some (some b)→x∉names bx∧aH box x=some (some b)
 |[],h=>⟨by simp[names],h⟩
 |(y,c)::r,h=>by
  simp only [jG]at h;rw[aL]at h;by_cases e:y=x
  ·exact zdC
  rw[if_neg e]at h;obtain⟨h1,h2⟩:=jG.get h;refine⟨?_,h2⟩;simp only [names,List.mem_cons];rintro(h|h)
  ·exact e h.symm
  exact h1 h
theorem jG.has{box:aP}{x:Nat}{y:Option jK}(h:aH box x=some y):∀{bx:eV},∃y,aH (jG box bx) x=some y
 |[]=>⟨y,h⟩
 |(z,c)::r=>by
  simp only [jG];rw[aL];by_cases e:z=x
  ·exact zb0
  rw[if_neg e];exact jG.has h
theorem jI.get{box:aP}{x:Nat}{b:jK}:∀{bx:eV},jI box bx→(x,b)∈bx→aH box x=some (some b)
 |[],_,h=>by cases h
 |(y,c)::r,⟨h,hr⟩,hm=>by
  cases hm with
  |head=>exact h
  |tail _ hm=>exact jI.get hr hm
def VL(T:List (Nat×bV))(rs:List ResultVar)(r:AV)(bx':eV):Exit→St→Prop
 |.ret,σ=>match oQ T σ rs with
  |some ts=>aC (yX (nV ⟨σ.env,jG σ.box bx'⟩ ts)) r∧jI σ.box bx'
  |none=>False
 |.normal,σ=>match oQ T σ rs with
  |some ts=>aC (yX (nV ⟨σ.env,jG σ.box bx'⟩ ts)) r∧jI σ.box bx'
  |none=>False
 |_,_=>False
section
variable{P:Program}{T:List (Nat×bV)}
theorem Inv.shut{cx:Cx}{N:Nat}{M:Mem}{β:Nm}{σ:St}{a:Act}{w:World}(i:Inv cx N M β σ a w)(bx':eV):Inv cx N M β ⟨σ.env,jG σ.box bx'⟩ a w:=by
 refine⟨i.defers,i.tmps,i.heap,i.env,i.mem,?_,?_,?_,?_,?_,i.ref⟩
 ·intro x p e;obtain⟨y,hy⟩:=i.keys x p e;exact jG.has hy
 ·exact fun x bc h=>i.box x bc (jG.get h).2
 ·exact fun x y bx zB b c c' hx hy=>i.inj x y bx zB b c c' (jG.get hx).2 (jG.get hy).2
 ·exact fun x bc b c h=>i.apart x bc b c (jG.get h).2
 exact fun x bc b c h=>i.low x bc b c (jG.get h).2
theorem AV.bI.aOW{M:Mem}{β:Nm}{r:AV}{v:Value}(h:r.bI M nb v):r.bI M β v:=AV.bI.mono (Mem.le_refl _) (fun _ _ h=>by cases h) h
theorem lH{f N:Nat}{fn:Func}{c:Code}{args:List AV}{bx:eV}{r:AV}{bx':eV}(hf:P.funcs[f]? =some fn)(hb:fn.body=some c)(hN:fn.ntmps=N)(eF:∀vs w,(callFunc f vs).run P w=.ok (.enter f vs) w)
  (hT:cD P T) (hl:Nat.ble args.length N=true) (qQ:((names bx).all fun x=>(names bx').contains x)=true) (kJ:(bx'.all fun p=>p.2.real)=true) {rs:List ResultVar} (NA:fn.results.toList=rs)
  (h:∀cx:Cx,cx.ref=names bx→AW P cx N c (qM args bx) (VL T rs r bx')):bW P f args bx r bx':=by
 classical
 refine⟨eF,fun M β w vs hG hr hM rJ hβ=>?_⟩
 refine calls_of_wp hf hb ?_
 let cx:Cx:={B:=w.heap.size,ref:=names bx,β0:=β}
 have hlen:=hr.length
 have hl:=Nat.le_of_ble_eq_true hl
 have hex:∀x,x∈names bx→∃p,β x=some p:=fun x hx=>by exact za5
 have i0:Inv cx N M β (qM args bx) {tmps:=vs.toArray++Array.replicate (fn.ntmps - vs.toArray.size) undef,defers:=[]} w:=by exact zb
 refine wp_mono (wpIn_wide.1 (h cx rfl M β _ w i0)) ?_
 rintro e a' w' ⟨σ',M',β',hk,i',hg,lB⟩
 have fin:∀ts,oQ T σ' rs=some ts→aC (yX (nV ⟨σ'.env,jG σ'.box bx'⟩ ts)) r→jI σ'.box bx'→a'.defers=[]∧∃v,(results fn a'.tmps).run P w'=.ok v w'∧∃v' M' β',Ending.returned v=.returned v'∧Nm.le β β'∧r.bI M' β' v'∧Grow w.heap.size M M'∧lA M' w'∧sE M' β' w' bx'∧
   (∀x b c,x∈names bx'→β' x=some (b,c)→w.heap.size≤b∨∃y c',β y=some (b,c'))∧
   w'.os=w.os∧w'.tape=w.tape∧w'.output=w.output∧w.heap.size≤w'.heap.size∧(∀k,k<w.heap.size→(∀y c,β y≠some (k,c))→w'.heap[k]? =w.heap[k]?)∧Dr w w':=by
  intro ts uX fQ qS
  obtain⟨AY,a7,eD⟩:=oQ.rep hT i' uX
  let isB:Nat→Prop:=fun b=>∃x c,x∈names bx'∧β' x=some (b,c)
  let F:Mem:=fun b o=>if b<w.heap.size then M' b o else if isB b then none else w'.cell? ⟨b,o,none⟩
  have cQ:∀x,x∈names bx'→∃b,aH σ'.box x=some (some b):=fun x hx=>by exact zaG
  have hMF:Mem.le M' F:=fun b o u e=>by exact ju
  have hFc:∀x bc b c,aH (jG σ'.box bx') x=some (some bc)→β' x=some (b,c)→∀o u,w'.cell? ⟨b,o,none⟩=some u→F b o=some u:=by exact uj
  have jJ:=nV.rep (i'.shut bx') hMF hFc eD
  refine⟨i'.defers,(if h:AY.toArray.size=1 then AY.toArray[0]else .tuple AY.toArray),?_,_,F,β',rfl,?_,AV.bI.aOW (fQ F _ ?_),⟨fun b o u e=>hMF b o u (hg.le b o u e),fun b o u e=>?_⟩,fun b o u e=>?_,?_,?_,lB.os,lB.tape,lB.output,lB.size,?_,lB.drawn⟩
  ·exact zj
  ·exact zaO
  ·cases QQ:nV ⟨σ'.env,jG σ'.box bx'⟩ ts with
   |nil=>exact zaf
   |cons t r'=>exact zq
  ·exact zbN
  ·exact zap
  ·exact uh
  ·exact vg
  ·exact jy
 cases e with
 |ret=>exact zbW
 |normal=>exact zbW
 |_=>exact hk.elim
theorem gH{rc:List Nat}{f N:Nat}{fn:Func}{c:Code}{args:List AV}{bx:eV}{r:AV}{bx':eV}(hf:P.funcs[f]? =some fn)(hb:fn.body=some c)(hN:fn.ntmps=N)(eF:∀vs w,(callFunc f vs).run P w=.ok (.enter f vs) w)
  (hT:cD P T) (hm:P.follows .mixedOrders=true) (hl:Nat.ble args.length N=true) (qQ:((names bx).all fun x=>(names bx').contains x)=true) (kJ:(bx'.all fun p=>p.2.real)=true) {rs:List ResultVar} (NA:fn.results.toList=rs)
  (h:∀cx:Cx,cx.ref=names bx→ex P T N (names bx) rc cx c (qM args bx) (VL T rs r bx')):bW P f args bx r bx':=
 lH hf hb hN eF hT hl qQ kJ NA fun cx aA=>ex.sound hT hm aA c (h cx aA)
end
theorem GQ:∀(cs:List CV),GP [] cs=cs
 |[]=>rfl
 |.d _::r=>by simp[GP,GR,GQ r]
 |.ptr _ _::r=>by simp[GP,GR,look,GQ r]
theorem BG(x:SV):wF [] x=x:=by
 cases x with
 |dZ f cs=>simp[wF,GQ]
 |_=>rfl
theorem tH:∀(cs:List SV),mC [] cs=cs
 |[]=>rfl
 |x::r=>by simp[mC,BG,tH r]
theorem DC:∀(cs:List TV),BF [] cs=cs
 |[]=>rfl
 |.s x::r=>by simp[BF,aA2,BG,DC r]
 |.g x::r=>by simp[BF,aA2,tH,DC r]
theorem aA4(x:AV):oC [] x=x:=by
 cases x with
 |s x=>simp[oC,BG]
 |g x=>simp[oC,tH]
 |ib b x=>simp[oC,BG]
 |ig b x=>simp[oC,tH]
 |t ts=>simp[oC,DC]
theorem aA3(b:jK):jX [] b=b:=by
 cases b with
 |cells cs=>simp[jX,tH]
 |row e n s f=>rfl
 |b8 e n s f=>rfl
 |map vk l=>rfl
 |smap vk l=>rfl
 |dm l n=>rfl
 |fresh T vs=>rfl
 |iter m n seen=>rfl
theorem YH.mono{M:Mem}{β β':Nm}{xs:List Nat}(h:∀x,x∈xs→∀p,β x=some p→β' x=some p){x:AV}{v:Value}(hi:YH xs x=true)(r:x.bI M β v):x.bI M β' v:=
 oC.rep (ren:=[]) h hi (by rw[aA4];exact r)
theorem SF.mono{M:Mem}{β β':Nm}{xs:List Nat}(h:∀x,x∈xs→∀p,β x=some p→β' x=some p){w:World}{x:Nat}{b:jK}(hx:x∈xs)(hi:SF xs b=true)(r:cN M β w x b):cN M β' w x b:=
 jX.rep (ren:=[]) h hx hi (by rw[aA3];exact r)
def cR:aP→List Nat
 |[]=>[]
 |(x,_)::r=>x::cR r
theorem cR.has{x:Nat}:∀{l:aP},x∈cR l→∃y,aH l x=some y
 |[],h=>by cases h
 |(z,v)::r,h=>by
  rw[aL];by_cases e:z=x
  ·exact zb0
  rw[if_neg e];simp only [cR,List.mem_cons]at h;exact cR.has (h.resolve_left fun h=>e h.symm)
def IC(src:List (Nat×AV))(ks:List Nat):List (Nat×AV)→Prop
 |[]=>True
 |(t,v)::r=>(YH ks v=true∧fL src t=v)∧IC src ks r
def CM(src:aP)(ks:List Nat):aP→Prop
 |[]=>True
 |(x,some b)::r=>(SF ks b=true∧aH src x=some (some b))∧CM src ks r
 |(_,none)::r=>CM src ks r
theorem IC.get{src:List (Nat×AV)}{ks:List Nat}{M:Mem}{β β':Nm}(h:∀x,x∈ks→∀p,β x=some p→β' x=some p):∀{tgt:List (Nat×AV)},IC src ks tgt→∀t v,(fL src t).bI M β v→(fL tgt t).bI M β' v
 |[],_,_,_,_=>trivial
 |(k,a)::r,⟨⟨h1,h2⟩,hr⟩,t,v,hv=>by
  rw[gP];by_cases e:k=t
  ·rw[if_pos e];subst e;rw[h2]at hv;exact YH.mono h h1 hv
  rw[if_neg e];exact IC.get h hr t v hv
theorem CM.get{src:aP}{ks:List Nat}:∀{tgt:aP},(∀x,x∈cR tgt→x∈ks)→CM src ks tgt→∀x b,aH tgt x=some (some b)→x∈ks∧SF ks b=true∧aH src x=some (some b)
 |[],_,_,_,_,h=>by cases h
 |(k,some c)::r,hk,⟨⟨h1,h2⟩,hr⟩,x,b,h=>by
  rw[aL]at h;by_cases e:k=x
  ·exact zaN
  rw[if_neg e]at h;exact CM.get (fun y hy=>hk y (by simp[cR,hy])) hr x b h
 |(k,none)::r,hk,hr,x,b,h=>by
  rw[aL]at h;by_cases e:k=x
  ·exact zdC
  rw[if_neg e]at h;exact CM.get (tgt:=r) (fun y hy=>hk y (List.mem_cons_of_mem _ hy)) hr x b h
theorem Sub.of{cx:Cx}{σ σ':St}(hr:(cx.ref.all fun x=>(cR σ'.box).contains x)=true)(hb:CM σ.box (cR σ'.box) σ'.box)(he:IC σ.env (cR σ'.box) σ'.env):Sub cx σ σ':=by
 refine⟨fun M β β' h t v hv=>IC.get (fun x hx p e=>h x p e (cR.has hx)) he t v hv,fun M β β' w h x b e=>?_,fun x hx=>?_⟩
 ·obtain⟨h0,h1,h2⟩:=CM.get (fun _ h=>h) hb x b e;exact⟨b,h2,SF.mono (fun x hx p e=>h x p e (cR.has hx)) h0 h1⟩
 rw[List.all_eq_true]at hr;exact cR.has (by simpa using hr x hx)
theorem Sub.bD{cx:Cx}{σ σ':St}(h:cx.ref=[])(hb:CM σ.box (cR σ'.box) σ'.box)(he:IC σ.env (cR σ'.box) σ'.env):Sub cx σ σ':=Sub.of zfa hb he
def aK(d e:DV):Prop:=∀M u,d.bI M u→e.bI M u
theorem aK.refl(d:DV):aK d d:=fun _ _ h=>h
theorem aK.of_eq{d e:DV}(h:d=e):aK d e:=h▸aK.refl d
theorem aK.fU{n s:Nat}{f g:Nat→Nat→DV}(h:∀i j,i<n→j<s→aK (f i j) (g i j)):aK (.fU n s f) (.fU n s g):=by rintro M u ⟨a,cap,e,hn,hc⟩;refine⟨a,cap,e,hn,hc.imp id ?_⟩;rintro⟨b,o,ea,hc⟩;exact⟨b,o,ea,fun i j hi hj=>let⟨u,hu,hr⟩:=hc i j hi hj;⟨u,hu,h i j hi hj M u hr⟩⟩
theorem aK.nil{s':Nat}{f:Nat→Nat→DV}:aK (.val (.slice none 0 0)) (.fU 0 s' f):=by
 intro M u r
 cases r
 exact⟨none,0,rfl,Nat.le_refl _,.inl rfl⟩
theorem aK.empty{s s':Nat}{f g:Nat→Nat→DV}:aK (.fU 0 s f) (.fU 0 s' g):=by rintro M u ⟨a,cap,e,hn,hc⟩;exact⟨a,cap,e,hn,.inl rfl⟩
theorem aK.rp{m:Nat}{f g:Nat→DV}(h:∀j,j<m→aK (f j) (g j)):aK (.rp m f) (.rp m g):=by rintro M u ⟨b,o,e,hc⟩;exact⟨b,o,e,fun j hj=>let⟨u,hu,hr⟩:=hc j hj;⟨u,hu,h j hj M u hr⟩⟩
theorem aK.bnd{f k:Nat}{c d:Nat→DV}(h:∀j,j<k→aK (c j) (d j)):aK (.bnd f k c) (.bnd f k d):=by exact zaB
theorem aK.dZ{f k:Nat}{c d:Nat→DV}(h:∀j,j<k→aK (c j) (d j)):aK (.dZ f k c) (.dZ f k d):=by exact zaB
def Z9:SV→SV→Prop
 |.d x,.d y=>aK x y
 |_,_=>False
def SB:List SV→List SV→Prop
 |[],[]=>True
 |x::r,y::s=>Z9 x y∧SB r s
 |_,_=>False
def LeA:AV→AV→Prop
 |.s x,.s y=>Z9 x y
 |.g x,.g y=>SB x y
 |_,_=>False
def sV:List AV→List AV→Prop
 |[],[]=>True
 |x::r,y::s=>LeA x y∧sV r s
 |_,_=>False
def U2:List TV→List TV→Prop
 |[],[]=>True
 |.s x::r,.s y::s=>Z9 x y∧U2 r s
 |.g x::r,.g y::s=>SB x y∧U2 r s
 |_,_=>False
theorem Z9.rep{M:Mem}{β:Nm}{x y:SV}{v:Value}(h:Z9 x y)(r:x.bI M β v):y.bI M β v:=by cases x <;> cases y <;> first|exact h M v r|exact h.elim
theorem SB.rep{M:Mem}{β:Nm}:∀{l m:List SV} {vs:List Value},SB l m→cV M β l vs→cV M β m vs
 |[],[],[],_,_=>trivial
 |_::_,_::_,_::_,⟨h,k⟩,⟨a,r⟩=>⟨h.rep a,SB.rep k r⟩
 |[],_::_,_,h,_=>h.elim
 |_::_,[],_,h,_=>h.elim
 |[],[],_::_,_,h=>h.elim
 |_::_,_::_,[],_,h=>h.elim
theorem LeA.rep{M:Mem}{β:Nm}{x y:AV}{v:Value}(h:LeA x y)(r:x.bI M β v):y.bI M β v:=by
 cases x <;> cases y <;> first|exact h.elim|skip
 ·exact Z9.rep h r
 obtain⟨vs,e,hr⟩:=r;exact⟨vs,e,SB.rep h hr⟩
theorem sV.rep{M:Mem}{β:Nm}:∀{l m:List AV} {vs:List Value},sV l m→gZ M β l vs→gZ M β m vs
 |[],[],[],_,_=>trivial
 |_::_,_::_,_::_,⟨h,k⟩,⟨a,r⟩=>⟨h.rep a,sV.rep k r⟩
 |[],_::_,_,h,_=>h.elim
 |_::_,[],_,h,_=>h.elim
 |[],[],_::_,_,h=>h.elim
 |_::_,_::_,[],_,h=>h.elim
theorem U2.rep{M:Mem}{β:Nm}:∀{l m:List TV} {vs:List Value},U2 l m→rF M β l vs→rF M β m vs
 |[],[],[],_,_=>trivial
 |.s _::_,.s _::_,_::_,⟨h,k⟩,⟨a,r⟩=>⟨Z9.rep h a,U2.rep k r⟩
 |.g _::_,.g _::_,_::_,⟨h,k⟩,⟨⟨vs,e,a⟩,r⟩=>⟨⟨vs,e,SB.rep h a⟩,U2.rep k r⟩
 |[],_::_,_,h,_=>h.elim
 |.s _::_,[],_,h,_=>h.elim
 |.g _::_,[],_,h,_=>h.elim
 |.s _::_,.g _::_,_,h,_=>h.elim
 |.g _::_,.s _::_,_,h,_=>h.elim
 |[],[],_::_,_,h=>h.elim
 |.s _::_,.s _::_,[],_,h=>h.elim
 |.g _::_,.g _::_,[],_,h=>h.elim
theorem aC.le{x y:AV}(h:LeA x y):aC x y:=fun _ _ r=>h.rep r
theorem aC.t{x y:List TV}(h:U2 x y):aC (.t x) (.t y):=by rintro M u ⟨vs,e,r⟩;exact⟨vs,e,h.rep r⟩
theorem aF.conv{P:Program}{f:FuncId}{args args':List AV}{r:AV}(h:aF P f args r)(k:sV args' args):aF P f args' r:=
 ⟨h.1,fun M w vs hG hr hM=>h.2 M w vs hG (k.rep hr) hM⟩
def aM(cx:Cx)(N:Nat)(σ σ':St):Prop:=∀M β a w,Inv cx N M β σ a w→∃β',Inv cx N M β' σ' a w
theorem AW.cG{P:Program}{cx:Cx}{N:Nat}{σ:St}{K:Exit→St→Prop}{S:Type}{c:Code}(UZ:S→St)(J:S→Prop)(μ:S→Nat)(s0:S)(hJ:J s0)(hs:aM cx N σ (UZ s0))
  (body:∀s,J s→AW P cx N c (UZ s) (OV (fun σ'=>∃s',J s'∧μ s'<μ s∧aM cx N σ' (UZ s')) K)):AW P cx N (.loop c) σ K:=by
 intro M β a w i
 obtain⟨β1,i1⟩:=hs M β a w i
 intro b k cs hro hb hr
 have key:∀n s,μ s=n→J s→∀M β a w,Inv cx N M β (UZ s) a w→
   ∃e a' w',(∃σ' M' β',K e σ'∧Inv cx N M' β' σ' a' w'∧Grow cx.B M M'∧cE cx w w')∧ArrivesIn (Machine.fenced P (FW cx.rd)) P (lone (b.atR a (.code c::.inLoop c::k)) cs w) b k cs e a' w':=by
  intro n
  induction n using Nat.strongRecOn with
  |_ n ih=>
   intro s hn hJ M β a w i;obtain⟨e,a₁,w₁,⟨σ',M1,β1,hq,i1,hM,hk⟩,nI⟩:=body s hJ M β a w i b (.inLoop c::k) cs hro hb hr
   cases e with
   |normal=>obtain⟨s',hJ',fZ,fQ⟩:=hq;obtain⟨β2,i2⟩:=fQ M1 β1 a₁ w₁ i1;exact jd
   |exit id=>exact⟨_,a₁,w₁,⟨σ',M1,β1,hq,i1,hM,hk⟩,.pass (x:=.inLoop c) rfl (fun _ _=>.inl sM) nI⟩
   |goto l=>exact⟨_,a₁,w₁,⟨σ',M1,β1,hq,i1,hM,hk⟩,.pass (x:=.inLoop c) rfl (fun _ _=>.inl sM) nI⟩
   |ret=>exact⟨_,a₁,w₁,⟨σ',M1,β1,hq,i1,hM,hk⟩,.pass (x:=.inLoop c) rfl (fun _ _=>.inl sM) nI⟩
   |panic ch=>exact⟨_,a₁,w₁,⟨σ',M1,β1,hq,i1,hM,hk⟩,.pass (x:=.inLoop c) rfl (fun _ _=>.inl sM) nI⟩
   |outgrown=>exact⟨_,a₁,w₁,⟨σ',M1,β1,hq,i1,hM,hk⟩,.pass (x:=.inLoop c) rfl (fun _ _=>.inl sM) nI⟩
 obtain⟨e,a',w',hq,nI⟩:=key _ s0 rfl hJ M β1 a w i1
 exact⟨e,a',w',hq,.of_steps (.one (fenced_calm hb hr rfl) stepR_loop) nI⟩
theorem AW.cond{P:Program}{cx:Cx}{N:Nat}{σ:St}{K:Exit→St→Prop}{c:Operand}{x y:Code}(h:AI σ c (AW P cx N x σ K) (AW P cx N y σ K)):AW P cx N (.cond c x y) σ K:=by
 unfold AI at h;intro M β a w i;split at h
 ·rename_i b hv;have hb:a.eval c=.bool b:=by have:=ev.rep i c;rw[hv]at this;exact this
  cases b with
  |true=>exact wpIn_cond_true hb (h M β a w i)
  |false=>exact wpIn_cond_false hb (h M β a w i)
 ·rename_i b hv;have hb:a.eval c=.bool b:=by have:=ev.rep i c;rw[hv]at this;exact this
  exact wpIn_cond_split hb (fun hb=>h.1 hb M β a w i) (fun hb=>h.2 hb M β a w i)
 cases h
theorem AW.gR{P:Program}{cx:Cx}{N:Nat}{σ σ':St}{K:Exit→St→Prop}{c:Code}(h:aM cx N σ σ')(k:AW P cx N c σ' K):AW P cx N c σ K:=by intro M β a w i;obtain⟨β',i'⟩:=h M β a w i;exact k M β' a w i'
theorem AW.cut{P:Program}{cx:Cx}{N:Nat}{σ σ':St}{K:Exit→St→Prop}{x y:Code}(h:AW P cx N x σ fun e s=>e=.normal∧aM cx N s σ')(k:AW P cx N y σ' K):AW P cx N (.seq x y) σ K:=AW.seq (AW.mono h fun _ _ ⟨he,hs⟩=>by subst he;exact AW.gR hs k)
def aU(x y:AV):Prop:=∀M β v,x.bI M β v→y.bI M β v
theorem aU.rfl{x:AV}:aU x x:=fun _ _ _ h=>h
theorem aU.of_eq{x y:AV}(h:x=y):aU x y:=h▸aU.rfl
theorem aU.mo{x:Nat}{z:Bool}(h:z=false):aU (.s (.own x)) (.s (.mo z x)):=by subst h;exact fun M β v r=>⟨fun h=>zfb,fun _=>r⟩
theorem aU.nil{x:Nat}{z:Bool}(h:z=true):aU (.s (.d (.val (.slice none 0 0)))) (.s (.mo z x)):=by subst h;exact fun M β v r=>⟨fun _=>r,fun h=>zfb⟩
theorem aU.d{x y:DV}(h:aK x y):aU (.s (.d x)) (.s (.d y)):=fun M _ v r=>h M v r
def aY(b b':jK):Prop:=∀M β w x,cN M β w x b→cN M β w x b'
theorem aY.rfl{b:jK}:aY b b:=fun _ _ _ _ h=>h
theorem aY.of_eq{x y:jK}(h:x=y):aY x y:=h▸aY.rfl
theorem aY.row{e n n' s:Nat}{f g:Nat→Nat→DV}(h:n=n')(hf:∀i j,i<n→j<s→aK (f i j) (g i j)):aY (.row e n s f) (.row e n' s g):=by subst h;rintro M β w x ⟨b,c,cur,e1,h1,h2,h3,h4,h5,h6⟩;exact⟨b,c,cur,e1,h1,h2,h3,h4,h5,fun i j hi hj=>let⟨u,hu,hr⟩:=h6 i j hi hj;⟨u,hu,hf i j hi hj M u hr⟩⟩
theorem aY.b8{e n n' s:Nat}{f g:Nat→Nat→DV}(h:n=n')(hf:∀i j,i<n→j<s→aK (f i j) (g i j)):aY (.row e n s f) (.b8 e n' s g):=by subst h;rintro M β w x ⟨b,c,cur,e1,h1,h2,h3,h4,h5,h6⟩ b' c' e2;rw[e1]at e2;cases e2;exact⟨cur,h1,h2,h3,h4,h5,fun i j hi hj=>let⟨u,hu,hr⟩:=h6 i j hi hj;⟨u,hu,hf i j hi hj M u hr⟩⟩
def ZW:List SV→List SV→Prop
 |[],[]=>True
 |x::r,y::s=>aU (.s x) (.s y)∧ZW r s
 |_,_=>False
theorem ZW.rep{M:Mem}{β:Nm}:∀{l m:List SV} {vs:List Value},ZW l m→cV M β l vs→cV M β m vs
 |[],[],[],_,_=>trivial
 |_::_,_::_,_::_,⟨h,k⟩,⟨a,r⟩=>⟨h M β _ a,ZW.rep k r⟩
 |[],_::_,_,h,_=>h.elim
 |_::_,[],_,h,_=>h.elim
 |[],[],_::_,_,h=>h.elim
 |_::_,_::_,[],_,h=>h.elim
theorem aY.cells{l m:List SV}(h:ZW l m):aY (.cells l) (.cells m):=by rintro M β w x ⟨b,c,vs,T,us,e1,h1,h2⟩;exact⟨b,c,vs,T,us,e1,h1,h.rep h2⟩
def aFR(xs:List Nat):jK→Bool
 |.cells cs=>HQ xs cs
 |.iter m _ _=>xs.contains m
 |_=>true
def NS(ren:List (Nat×Nat))(src:List (Nat×AV))(ks:List Nat):List (Nat×AV)→Prop
 |[]=>True
 |(t,v)::r=>(YH ks v=true∧aU (fL src t) (oC ren v))∧NS ren src ks r
def aHI(ren:List (Nat×Nat))(b:jK):Option (Option jK)→Prop
 |some (some b0)=>aY b0 (jX ren b)
 |some none=>False
 |none=>b.real=false
def D3(ren:List (Nat×Nat))(src:aP)(ks:List Nat):aP→Prop
 |[]=>True
 |(x,some b)::r=>(aFR ks b=true∧aHI ren b (aH src (look ren x)))∧D3 ren src ks r
 |(_,none)::r=>D3 ren src ks r
theorem NS.get{ren:List (Nat×Nat)}{src:List (Nat×AV)}{ks:List Nat}{M:Mem}{β β':Nm}(h:∀x,x∈ks→∀p,β (look ren x)=some p→β' x=some p):∀{tgt:List (Nat×AV)},NS ren src ks tgt→∀t v,(fL src t).bI M β v→(fL tgt t).bI M β' v
 |[],_,_,_,_=>trivial
 |(k,a)::r,⟨⟨h1,h2⟩,hr⟩,t,v,hv=>by
  rw[gP];by_cases e:k=t
  ·rw[if_pos e];subst e;exact oC.rep h h1 (h2 M β v hv)
  rw[if_neg e];exact NS.get h hr t v hv
theorem D3.get{ren:List (Nat×Nat)}{src:aP}{ks:List Nat}:∀{tgt:aP},(∀x,x∈cR tgt→x∈ks)→D3 ren src ks tgt→∀x b,aH tgt x=some (some b)→x∈ks∧aFR ks b=true∧aHI ren b (aH src (look ren x))
 |[],_,_,_,_,h=>by cases h
 |(k,some c)::r,hk,⟨⟨h1,h2⟩,hr⟩,x,b,h=>by
  rw[aL]at h;by_cases e:k=x
  ·exact zaN
  rw[if_neg e]at h;exact D3.get (fun y hy=>hk y (by simp[cR,hy])) hr x b h
 |(k,none)::r,hk,hr,x,b,h=>by
  rw[aL]at h;by_cases e:k=x
  ·exact zdC
  rw[if_neg e]at h;exact D3.get (tgt:=r) (fun y hy=>hk y (List.mem_cons_of_mem _ hy)) hr x b h
theorem aM.of{cx:Cx}{N:Nat}{σ σ':St}(ren:List (Nat×Nat))(hr:(cx.ref.all fun x=>(cR σ'.box).contains x&&Nat.beq (look ren x) x)=true)(hi:HO ren (cR σ'.box)=true)
  (hb:D3 ren σ.box (cR σ'.box) σ'.box) (he:NS ren σ.env (cR σ'.box) σ'.env):aM cx N σ σ':=by
 classical
 intro M β a w i
 let ks:=cR σ'.box
 let β':Nm:=fun x=>if x∈ks then β (look ren x)else none
 have jA:∀x,x∈ks→β' x=β (look ren x):=fun x hx=>by simp[β',hx]
 have hβ:∀x p,β' x=some p→x∈ks∧β (look ren x)=some p:=fun x p h=>by exact zaH
 have EP:∀x,x∈ks→∀p,β (look ren x)=some p→β' x=some p:=fun x hx p e=>by rw[jA x hx];exact e
 have QY:∀x y,x∈ks→y∈ks→look ren x=look ren y→x=y:=by exact vt
 have live:∀x b k c,aH σ'.box x=some (some b)→β' x=some (k,c)→x∈ks∧∃b0,aH σ.box (look ren x)=some (some b0)∧β (look ren x)=some (k,c):=by exact kg
 refine⟨β',i.defers,i.tmps,i.heap,fun t=>NS.get EP he t _ (i.env t),i.mem,?_,?_,?_,?_,?_,?_⟩
 ·exact zcW
 ·exact zu
 ·exact vu
 ·exact zbL
 ·exact xf
 ·exact ko
theorem aM.bD{cx:Cx}{N:Nat}{σ σ':St}(h:cx.ref=[])(ren:List (Nat×Nat))(hi:HO ren (cR σ'.box)=true)(hb:D3 ren σ.box (cR σ'.box) σ'.box)(he:NS ren σ.env (cR σ'.box) σ'.env):aM cx N σ σ':=
 aM.of ren zfa hi hb he
theorem aU.aGT{x:Nat}{z:Bool}(h:z=true):aU (.s (.mo z x)) (.s (.d (.val (.slice none 0 0)))):=fun _ _ _ r=>r.1 h
theorem aM.own{cx:Cx}{N:Nat}{σ:St}{e n s:Nat}{f:Nat→Nat→DV}{z:Bool}(t x:Nat)(ht:fL σ.env t=.s (.mo z x))(hz:z=false)(hb:aH σ.box x=some (some (.b8 e n s f))):
  aM cx N σ ⟨(t,.s (.own x))::σ.env,(x,some (.row e n s f))::σ.box⟩:=by
 intro M β a w i
 have r:=i.env t
 rw[ht]at r
 obtain⟨b,c,hx,hv,hc⟩:=r.2 hz
 obtain⟨cur,h1,h2,h3,h4,h5,h6⟩:=i.box x _ hb b c hx
 have live:∀y bc,aH ((x,some (.row e n s f))::σ.box) y=some (some bc)→∃bc,aH σ.box y=some (some bc):=by exact zbx
 refine⟨β,i.defers,i.tmps,i.heap,?_,i.mem,?_,?_,?_,?_,?_,i.ref⟩
 ·intro u;show(fL ((t,_)::σ.env) u).bI M β _;rw[gP];by_cases hu:t=u
  ·subst hu;rw[if_pos rfl];exact⟨b,c,hx,hv,hc⟩
  rw[if_neg hu];exact i.env u
 ·exact xj
 ·exact js
 ·exact zaq
 ·exact zcg
 ·exact zco
end Go.Ax
namespace Go.Ax
theorem qZ{b:Bool}{x:AV}:b=b∧aU x x:=⟨rfl,aU.rfl⟩
theorem bQ{b:Bool}{x:jK}:b=b∧aY x x:=⟨rfl,aY.rfl⟩
def pI(cx:Cx)(N:Nat)(σ σ':St):Prop:=∀M β a w,Inv cx N M β σ a w→∃M' β',Inv cx N M' β' σ' a w∧Grow cx.B M M'
theorem pI.aFD{cx:Cx}{N:Nat}{σ σ':St}(h:aM cx N σ σ'):pI cx N σ σ':=fun M β a w i=>let⟨β',i'⟩:=h M β a w i;⟨M,β',i',Grow.refl _ _⟩
theorem AW.XE{P:Program}{cx:Cx}{N:Nat}{σ σ':St}{K:Exit→St→Prop}{c:Code}(h:pI cx N σ σ')(k:AW P cx N c σ' K):AW P cx N c σ K:=by intro M β a w i;obtain⟨M',β',i',g⟩:=h M β a w i;exact wpIn_mono (k M' β' a w i') fun _ _ _ ⟨s,M2,β2,hk,i2,g2,kp⟩=>⟨s,M2,β2,hk,i2,g.trans g2,kp⟩
def Fz(box:aP)(fz:List Nat)(M:Mem)(β:Nm):Prop:=∀x,x∈fz→∀e n s f,aH box x=some (some (.row e n s f))→∀v,(SV.own x).bI M β v→(DV.fU n s f).bI M v
def b7(box:aP)(fz:List Nat)(x y:AV):Prop:=∀M β v,Fz box fz M β→x.bI M β v→y.bI M β v
theorem b7.rfl{box:aP}{fz:List Nat}{x:AV}:b7 box fz x x:=fun _ _ _ _ r=>r
theorem b7.then{box:aP}{fz:List Nat}{x y z:AV}(h:b7 box fz x y)(k:aU y z):b7 box fz x z:=fun M β v f r=>k M β v (h M β v f r)
theorem b7.own{box:aP}{fz:List Nat}{x e n s:Nat}{f:Nat→Nat→DV}(hx:x∈fz)(hb:aH box x=some (some (.row e n s f))):b7 box fz (.s (.own x)) (.s (.d (.fU n s f))):=
 fun _ _ v hf r=>hf x hx e n s f hb v r
def SC(box:aP)(fz:List Nat):List SV→List SV→Prop
 |[],[]=>True
 |x::r,y::s=>b7 box fz (.s x) (.s y)∧SC box fz r s
 |_,_=>False
theorem SC.rep{box:aP}{fz:List Nat}{M:Mem}{β:Nm}(hf:Fz box fz M β):∀{l m:List SV} {vs:List Value},SC box fz l m→cV M β l vs→cV M β m vs
 |[],[],[],_,_=>trivial
 |_::_,_::_,_::_,⟨h,k⟩,⟨a,r⟩=>⟨h M β _ hf a,SC.rep hf k r⟩
 |[],_::_,_,h,_=>h.elim
 |_::_,[],_,h,_=>h.elim
 |[],[],_::_,_,h=>h.elim
 |_::_,_::_,[],_,h=>h.elim
def hI(box:aP)(fz:List Nat)(b b':jK):Prop:=∀M β w x,Fz box fz M β→cN M β w x b→cN M β w x b'
theorem hI.rfl{box:aP}{fz:List Nat}{b:jK}:hI box fz b b:=fun _ _ _ _ _ h=>h
theorem hI.cells{box:aP}{fz:List Nat}{l m:List SV}(h:SC box fz l m):hI box fz (.cells l) (.cells m):=by rintro M β w x hf ⟨b,c,vs,T,us,e1,h1,h2⟩;exact⟨b,c,vs,T,us,e1,h1,h.rep hf h2⟩
def LP(ren:List (Nat×Nat))(fz:List Nat)(box:aP)(src:List (Nat×AV))(ks:List Nat):List (Nat×AV)→Prop
 |[]=>True
 |(t,v)::r=>(YH ks v=true∧b7 box fz (fL src t) (oC ren v))∧LP ren fz box src ks r
def aDN(ren:List (Nat×Nat))(fz:List Nat)(box:aP)(b:jK):Option (Option jK)→Prop
 |some (some b0)=>hI box fz b0 (jX ren b)
 |some none=>False
 |none=>b.real=false
def CL(ren:List (Nat×Nat))(fz:List Nat)(src:aP)(ks:List Nat):aP→Prop
 |[]=>True
 |(x,some b)::r=>(aFR ks b=true∧aDN ren fz src b (aH src (look ren x)))∧CL ren fz src ks r
 |(_,none)::r=>CL ren fz src ks r
theorem LP.get{ren:List (Nat×Nat)}{fz:List Nat}{box:aP}{src:List (Nat×AV)}{ks:List Nat}{M:Mem}{β β':Nm}(hf:Fz box fz M β)(h:∀x,x∈ks→∀p,β (look ren x)=some p→β' x=some p):∀{tgt:List (Nat×AV)},LP ren fz box src ks tgt→∀t v,(fL src t).bI M β v→(fL tgt t).bI M β' v
 |[],_,_,_,_=>trivial
 |(k,a)::r,⟨⟨h1,h2⟩,hr⟩,t,v,hv=>by
  rw[gP];by_cases e:k=t
  ·rw[if_pos e];subst e;exact oC.rep h h1 (h2 M β v hf hv)
  rw[if_neg e];exact LP.get hf h hr t v hv
theorem CL.get{ren:List (Nat×Nat)}{fz:List Nat}{src:aP}{ks:List Nat}:∀{tgt:aP},(∀x,x∈cR tgt→x∈ks)→CL ren fz src ks tgt→∀x b,aH tgt x=some (some b)→x∈ks∧aFR ks b=true∧aDN ren fz src b (aH src (look ren x))
 |[],_,_,_,_,h=>by cases h
 |(k,some c)::r,hk,⟨⟨h1,h2⟩,hr⟩,x,b,h=>by
  rw[aL]at h;by_cases e:k=x
  ·exact zaN
  rw[if_neg e]at h;exact CL.get (fun y hy=>hk y (by simp[cR,hy])) hr x b h
 |(k,none)::r,hk,hr,x,b,h=>by
  rw[aL]at h;by_cases e:k=x
  ·exact zdC
  rw[if_neg e]at h;exact CL.get (tgt:=r) (fun y hy=>hk y (List.mem_cons_of_mem _ hy)) hr x b h
def aG1:Option (Option jK)→Bool
 |some (some (.row _ _ _ _))=>true
 |_=>false
theorem pI.of{cx:Cx}{N:Nat}{σ σ':St}(aA:cx.ref=[])(ren:List (Nat×Nat))(fz:List Nat)(hi:HO ren (cR σ'.box)=true)(hz:(fz.all fun x=>aG1 (aH σ.box x))=true)(hd:((cR σ'.box).all fun x=> !fz.contains (look ren x))=true)
  (hb:CL ren fz σ.box (cR σ'.box) σ'.box) (he:LP ren fz σ.box σ.env (cR σ'.box) σ'.env):pI cx N σ σ':=by
 classical
 intro M β a w i
 let ks:=cR σ'.box
 let isZ:Nat→Prop:=fun b=>∃x c,x∈fz∧β x=some (b,c)
 let M':Mem:=fun b o=>if isZ b then w.cell? ⟨b,o,none⟩else M b o
 have cQ:∀x,x∈fz→∃e n s f,aH σ.box x=some (some (.row e n s f)):=by
  intro x hx;rw[List.all_eq_true]at hz;have:=hz x hx;unfold aG1 at this;split at this
  ·rename_i e n s f h;exact⟨e,n,s,f,h⟩
  cases this
 have hMM:Mem.le M M':=by
  intro b o u h;by_cases hb:isZ b
  ·obtain⟨x,c,hx,e⟩:=hb;obtain⟨e',n,s,f,hg⟩:=cQ x hx;rw[i.apart x _ b c hg e o]at h;cases h
  simp only [M',if_neg hb];exact h
 have hF:Fz σ.box fz M' β:=by intro x hx e n s f hg v ⟨b,c,e1,ev,hc⟩;obtain⟨b',c',cur,e2,hh,hl,mL,hn,_,cY⟩:=i.box x _ hg;rw[e1]at e2;cases e2;subst ev;refine⟨some ⟨b,0,none⟩,c.1,by rw[hl],hn,.inr ⟨b,0,rfl,fun k j hk hj=>?_⟩⟩;obtain⟨u,hu,hr⟩:=cY k j hk hj;have hZ:isZ b:=⟨x,c,hx,e1⟩;exact⟨u,by simp only [M',if_pos hZ];simp[World.cell?,hh,hu],DV.bI.mono hMM hr⟩
 let β':Nm:=fun x=>if x∈ks then β (look ren x)else none
 have jA:∀x,x∈ks→β' x=β (look ren x):=fun x hx=>by simp[β',hx]
 have hβ:∀x p,β' x=some p→x∈ks∧β (look ren x)=some p:=fun x p h=>by exact zaH
 have EP:∀x,x∈ks→∀p,β (look ren x)=some p→β' x=some p:=fun x hx p e=>by rw[jA x hx];exact e
 have QY:∀x y,x∈ks→y∈ks→look ren x=look ren y→x=y:=by exact vt
 have hnz:∀x,x∈ks→look ren x∉fz:=by intro x hx;rw[List.all_eq_true]at hd;simpa using hd x hx
 have live:∀x b k c,aH σ'.box x=some (some b)→β' x=some (k,c)→x∈ks∧∃b0,aH σ.box (look ren x)=some (some b0)∧β (look ren x)=some (k,c):=by
  intro x b k c h e;obtain⟨h1,h2,h3⟩:=CL.get (fun _ h=>h) hb x b h;have e:=(hβ x _ e).2;obtain⟨y,hy⟩:=i.keys _ _ e;rw[hy]at h3
  cases y with
  |none=>exact h3.elim
  |some b0=>exact⟨h1,b0,hy,e⟩
 refine⟨M',β',⟨i.defers,i.tmps,i.heap,fun t=>LP.get hF EP he t _ (AV.bI.mono hMM (Nm.le_refl β) (i.env t)),?_,?_,?_,?_,?_,?_,?_⟩,hMM,?_⟩
 ·intro b o u h;by_cases hb:isZ b
  ·simp only [M',if_pos hb]at h;exact h
  simp only [M',if_neg hb]at h;exact i.mem b o u h
 ·exact zcW
 ·intro x b h;obtain⟨h1,h2,h3⟩:=CL.get (fun _ h=>h) hb x b h
  cases hs:aH σ.box (look ren x)with
  |none=>
   rw[hs]at h3;have hn:β' x=none:=by
    rw[jA x h1]
    cases hb0:β (look ren x)with
    |none=>rfl
    |some p=>obtain⟨y,hy⟩:=i.keys _ _ hb0;rw[hs]at hy;cases hy
   cases b with
   |b8 e n s f=>intro k c e;rw[hn]at e;cases e
   |_=>cases h3
  |some y=>
   cases y with
   |none=>rw[hs]at h3;exact h3.elim
   |some b0=>
    rw[hs]at h3;have eD:=h3 M' β w (look ren x) hF (cN.mono hMM (Nm.le_refl β) rfl (fun _ _ _=>rfl) (i.box _ _ hs))
    cases b with
    |cells cs=>exact jX.rep EP h1 h2 eD
    |row e n s f=>exact jX.rep EP h1 rfl eD
    |b8 e n s f=>intro k c e;rw[jA x h1]at e;exact eD k c e
    |map vk l=>exact jX.rep EP h1 rfl eD
    |smap vk l=>exact jX.rep EP h1 rfl eD
    |dm l n=>exact jX.rep EP h1 rfl eD
    |fresh T vs=>exact jX.rep EP h1 rfl eD
    |iter m n seen=>exact jX.rep EP h1 h2 eD
 ·exact vu
 ·intro x bx b c ex hx o;obtain⟨kx,b0,g0,e0⟩:=live x bx b c ex hx;have:¬isZ b:=by rintro⟨z,c',hz',e'⟩;obtain⟨e2,n,s,f,hg⟩:=cQ z hz';have:=i.inj _ _ _ _ b c' c hg g0 e' e0;subst this;exact hnz x kx hz'
  simp only [M',if_neg this];exact i.apart _ b0 b c g0 e0 o
 ·exact xf
 ·intro x hx;rw[aA]at hx;cases hx
 ·intro b o u h;by_cases hb:isZ b
  ·obtain⟨x,c,hx,e⟩:=hb;obtain⟨e',n,s,f,hg⟩:=cQ x hx;rcases i.low x _ b c hg e with h|⟨y,c',hy,_⟩
   ·exact .inr h
   rw[aA]at hy;cases hy
  simp only [M',if_neg hb]at h;exact .inl h
def HH(xs:List Nat)(σ:St)(x:SV):SV:=bif LA xs x then x else vX σ x
def DM(xs:List Nat)(σ:St):List SV→List SV
 |[]=>[]
 |x::r=>HH xs σ x::DM xs σ r
def aLU(xs:List Nat)(σ:St):TV→TV
 |.s x=>.s (HH xs σ x)
 |.g cs=>.g (DM xs σ cs)
def sN(xs:List Nat)(σ:St):List TV→List TV
 |[]=>[]
 |t::r=>aLU xs σ t::sN xs σ r
section
variable{cx:Cx}{N:Nat}{M F:Mem}{β:Nm}{σ:St}{a:Act}{w:World}
theorem HH.rep(xs:List Nat)(i:Inv cx N M β σ a w)(hM:Mem.le M F)(hF:∀x bc b c,aH σ.box x=some (some bc)→β x=some (b,c)→∀o u,w.cell? ⟨b,o,none⟩=some u→F b o=some u){x:SV}{v:Value}(r:x.bI M β v):(HH xs σ x).bI F β v:=by
 unfold HH
 cases LA xs x with
 |true=>exact SV.bI.mono hM (Nm.le_refl β) r
 |false=>exact dS.rep i hM hF 3 _ _ r
theorem DM.rep(xs:List Nat)(i:Inv cx N M β σ a w)(hM:Mem.le M F)(hF:∀x bc b c,aH σ.box x=some (some bc)→β x=some (b,c)→∀o u,w.cell? ⟨b,o,none⟩=some u→F b o=some u):∀{cs:List SV} {vs:List Value},cV M β cs vs→cV F β (DM xs σ cs) vs
 |[],[],_=>trivial
 |_::_,_::_,⟨h,r⟩=>⟨HH.rep xs i hM hF h,DM.rep xs i hM hF r⟩
 |[],_::_,h=>h.elim
 |_::_,[],h=>h.elim
theorem sN.rep(xs:List Nat)(i:Inv cx N M β σ a w)(hM:Mem.le M F)(hF:∀x bc b c,aH σ.box x=some (some bc)→β x=some (b,c)→∀o u,w.cell? ⟨b,o,none⟩=some u→F b o=some u):∀{ts:List TV} {vs:List Value},rF M β ts vs→rF F β (sN xs σ ts) vs
 |[],[],_=>trivial
 |.s _::_,_::_,⟨h,r⟩=>⟨HH.rep xs i hM hF h,sN.rep xs i hM hF r⟩
 |.g _::_,_::_,⟨⟨vs,e,h⟩,r⟩=>⟨⟨vs,e,DM.rep xs i hM hF h⟩,sN.rep xs i hM hF r⟩
 |[],_::_,h=>h.elim
 |_::_,[],h=>h.elim
end
def MF(T:List (Nat×bV))(rs:List ResultVar)(r:AV)(bx':eV):Exit→St→Prop
 |.ret,σ=>match oQ T σ rs with
  |some ts=>aU (yX (sN (names bx') ⟨σ.env,jG σ.box bx'⟩ ts)) r∧jI σ.box bx'
  |none=>False
 |.normal,σ=>match oQ T σ rs with
  |some ts=>aU (yX (sN (names bx') ⟨σ.env,jG σ.box bx'⟩ ts)) r∧jI σ.box bx'
  |none=>False
 |_,_=>False
section
variable{P:Program}{T:List (Nat×bV)}
theorem gJ{f N:Nat}{fn:Func}{c:Code}{args:List AV}{bx:eV}{r:AV}{bx':eV}(hf:P.funcs[f]? =some fn)(hb:fn.body=some c)(hN:fn.ntmps=N)(eF:∀vs w,(callFunc f vs).run P w=.ok (.enter f vs) w)
  (hT:cD P T) (hl:Nat.ble args.length N=true) (qQ:((names bx).all fun x=>(names bx').contains x)=true) (kJ:(bx'.all fun p=>p.2.real)=true) {rs:List ResultVar} (NA:fn.results.toList=rs)
  (h:∀cx:Cx,cx.ref=names bx→AW P cx N c (qM args bx) (MF T rs r bx')):bW P f args bx r bx':=by
 classical
 refine⟨eF,fun M β w vs hG hr hM rJ hβ=>?_⟩
 refine calls_of_wp hf hb ?_
 let cx:Cx:={B:=w.heap.size,ref:=names bx,β0:=β}
 have hlen:=hr.length
 have hl:=Nat.le_of_ble_eq_true hl
 have hex:∀x,x∈names bx→∃p,β x=some p:=fun x hx=>by exact za5
 have i0:Inv cx N M β (qM args bx) {tmps:=vs.toArray++Array.replicate (fn.ntmps - vs.toArray.size) undef,defers:=[]} w:=by exact zb
 refine wp_mono (wpIn_wide.1 (h cx rfl M β _ w i0)) ?_
 rintro e a' w' ⟨σ',M',β',hk,i',hg,lB⟩
 have fin:∀ts,oQ T σ' rs=some ts→aU (yX (sN (names bx') ⟨σ'.env,jG σ'.box bx'⟩ ts)) r→jI σ'.box bx'→a'.defers=[]∧∃v,(results fn a'.tmps).run P w'=.ok v w'∧∃v' M' β',Ending.returned v=.returned v'∧Nm.le β β'∧r.bI M' β' v'∧Grow w.heap.size M M'∧lA M' w'∧sE M' β' w' bx'∧
   (∀x b c,x∈names bx'→β' x=some (b,c)→w.heap.size≤b∨∃y c',β y=some (b,c'))∧
   w'.os=w.os∧w'.tape=w.tape∧w'.output=w.output∧w.heap.size≤w'.heap.size∧(∀k,k<w.heap.size→(∀y c,β y≠some (k,c))→w'.heap[k]? =w.heap[k]?)∧Dr w w':=by
  intro ts uX fQ qS
  obtain⟨AY,a7,eD⟩:=oQ.rep hT i' uX
  let isB:Nat→Prop:=fun b=>∃x c,x∈names bx'∧β' x=some (b,c)
  let F:Mem:=fun b o=>if b<w.heap.size then M' b o else if isB b then none else w'.cell? ⟨b,o,none⟩
  have cQ:∀x,x∈names bx'→∃b,aH σ'.box x=some (some b):=fun x hx=>by exact zaG
  have hMF:Mem.le M' F:=fun b o u e=>by exact ju
  have hFc:∀x bc b c,aH (jG σ'.box bx') x=some (some bc)→β' x=some (b,c)→∀o u,w'.cell? ⟨b,o,none⟩=some u→F b o=some u:=by exact uj
  have jJ:=sN.rep (names bx') (i'.shut bx') hMF hFc eD
  refine⟨i'.defers,(if h:AY.toArray.size=1 then AY.toArray[0]else .tuple AY.toArray),?_,_,F,β',rfl,?_,fQ F β' _ ?_,⟨fun b o u e=>hMF b o u (hg.le b o u e),fun b o u e=>?_⟩,fun b o u e=>?_,?_,?_,lB.os,lB.tape,lB.output,lB.size,?_,lB.drawn⟩
  ·exact zj
  ·exact zaO
  ·cases QQ:sN (names bx') ⟨σ'.env,jG σ'.box bx'⟩ ts with
   |nil=>exact zaf
   |cons t r'=>exact zq
  ·exact zbN
  ·exact zap
  ·exact uh
  ·exact vg
  ·exact jy
 cases e with
 |ret=>exact zbV
 |normal=>exact zbV
 |_=>exact hk.elim
theorem eG{rc:List Nat}{f N:Nat}{fn:Func}{c:Code}{args:List AV}{bx:eV}{r:AV}{bx':eV}(hf:P.funcs[f]? =some fn)(hb:fn.body=some c)(hN:fn.ntmps=N)(eF:∀vs w,(callFunc f vs).run P w=.ok (.enter f vs) w)
  (hT:cD P T) (hm:P.follows .mixedOrders=true) (hl:Nat.ble args.length N=true) (qQ:((names bx).all fun x=>(names bx').contains x)=true) (kJ:(bx'.all fun p=>p.2.real)=true) {rs:List ResultVar} (NA:fn.results.toList=rs)
  (h:∀cx:Cx,cx.ref=names bx→ex P T N (names bx) rc cx c (qM args bx) (MF T rs r bx')):bW P f args bx r bx':=
 gJ hf hb hN eF hT hl qQ kJ NA fun cx aA=>ex.sound hT hm aA c (h cx aA)
end
theorem sk{p q:Prop}(h:q):(p→p)∧q:=⟨id,h⟩
theorem st{q:Prop}(h:q):True∧q:=⟨trivial,h⟩
theorem sg{b:Bool}{q:Prop}(h:q):Q3 (b=false) (some (rL false b))∧q:=⟨fun h=>by simpa [rL]using h,h⟩
theorem sn1{b c:Bool}{q:Prop}(h:q):imp (some c) (Q3 (b=true) (some (c&&rL true b)))∧q:=⟨fun h1 h2=>by simp[h1,h2,rL],h⟩
theorem sn0{b c:Bool}{q:Prop}(h:q):imp (some c) (Q3 (b=false) (some (c&&rL false b)))∧q:=⟨fun h1 h2=>by simp[h1,h2,rL],h⟩
theorem su{c:Bool}{p q:Prop}(h:q):imp (some c) (Q3 p none)∧q:=⟨fun _=>trivial,h⟩
theorem ob{p q:Prop}(h:p)(k:q):p∧q:=⟨h,k⟩
theorem oi{p q:Prop}(h:p)(k:q):imp none p∧q:=⟨h,k⟩
theorem og{p q:Prop}{b:Bool}(h:b=true→p)(k:q):(b=true→p)∧q:=⟨h,k⟩
theorem bR{P:Program}{f:FuncId}{args:List AV}{r:AV}{K:AV→Prop}{b:Bool}{X:Prop}(h:aF P f args r)(k:K r):(∃r,(b=true→aF P f args r)∧K r)∨X:=.inl ⟨r,fun _=>h,k⟩
theorem aB{P:Program}{f:FuncId}{args:List AV}{r:AV}{K:AV→Prop}{X:Prop}(h:aF P f args r)(k:K r):(∃r,aF P f args r∧K r)∨X:=.inl ⟨r,h,k⟩
theorem aK.wE{n m s:Nat}{f g:Nat→Nat→DV}(e:n=m)(h:∀i j,i<n→j<s→aK (f i j) (g i j)):aK (.fU n s f) (.fU m s g):=by subst e;exact aK.fU h
theorem sV.jF{σ:St}{c:Nat→DV}:∀{k j:Nat},sV (jD σ (jF c k j)) (jF c k j)
 |0,_=>trivial
 |_+1,_=>⟨aK.refl _,sV.jF⟩
abbrev aW(n:Int):Int:=IntKind.i64.wrap n
abbrev dI(x:Int):DV:=.val (.int .i64 x)
abbrev vI(x:Int):AV:=.s (.d (.val (.int .i64 x)))
abbrev vB(b:Bool):AV:=.s (.d (.val (.bool b)))
theorem aC.lit{b c:Bool}(h:b=c):aC (.s (.d (.lit b))) (vB c):=by subst h;exact fun _ _ r=>r
theorem aG{n:Int}(h: -9223372036854775808≤n)(k:n≤9223372036854775807):aW n=n:=by unfold aW;exact IntWalk.i64_in n ⟨h,k⟩
def cP(l:List Int):Nat→Nat→DV:=fun i _=>dI (l.getD i 0)
def b5(l:List Int):DV:=.fU l.length 1 (cP l)
abbrev iR(l:List Int):AV:=.s (.d (b5 l))
end Go.Ax
namespace Go.Ax
open Go.RowKit
theorem dK{α:Type}(l:List α):(bif l.isEmpty then 0 else l.length)=l.length:=by cases l <;> rfl
theorem cA{α:Type}(l:List α)(x:α):(l++ [x]).isEmpty=false:=by cases l <;> rfl
theorem aY.snoc{α:Type} [Inhabited α] {e s:Nat}{l:List α}{x:α}{el:α→Nat→DV}{g:Nat→Nat→DV}(hg:∀j,j<s→g 0 j=el x j):
  aY (.row e ((bif l.isEmpty then 0 else l.length)+1) s (jM (bif l.isEmpty then 0 else l.length) (fun i=>el (l.getD i default)) g)) (.b8 e (l++ [x]).length s (fun i=>el ((l++ [x]).getD i default))):=by
 rw[dK]
 refine aY.b8 sM fun i j hi hj=>aK.of_eq ?_
 unfold jM
 by_cases h:i<l.length
 ·exact zcq
 ·have:i=l.length:=oM;subst this;rw[if_neg h,Nat.sub_self,hg j hj];exact zcc
theorem AS{p:Nat→Prop}(h:p 0):∀j,j<1→p j:=fun j hj=>by match j,hj with|0,_=>exact h
theorem lt2{p:Nat→Prop}(h:p 0)(h1:p 1):∀j,j<2→p j:=fun j hj=>by match j,hj with|0,_=>exact h|1,_=>exact h1
theorem lt3{p:Nat→Prop}(h:p 0)(h1:p 1)(h2:p 2):∀j,j<3→p j:=fun j hj=>by match j,hj with|0,_=>exact h|1,_=>exact h1|2,_=>exact h2
theorem lt4{p:Nat→Prop}(h:p 0)(h1:p 1)(h2:p 2)(h3:p 3):∀j,j<4→p j:=fun j hj=>by match j,hj with|0,_=>exact h|1,_=>exact h1|2,_=>exact h2|3,_=>exact h3
theorem nJ{s:Nat}{g:Nat→Nat→DV}(h:∀j,j<s→(g 0 j).fit=true):fitAll 1 s g:=fun k j hk hj=>by have:k=0:=oM;subst this;exact h j hj
end Go.Ax
namespace Go.Ax
theorem aC.mo{α:Type}{l:List α}{s:Nat}{f:Nat→Nat→DV}:aC (.s (.d (.fU (bif l.isEmpty then 0 else l.length) s f))) (.s (.d (.fU l.length s f))):=aC.of_eq (by rw[dK])
theorem c8{β:Type}(f:Nat→Option β)(n:Nat):(List.range (n+1)).filterMap f=(List.range n).filterMap f++(f n).toList:=by
 rw[List.range_succ,List.filterMap_append]
 cases h:f n <;> simp[h]
end Go.Ax
namespace Go.Ax
def iJ{α:Type} [Inhabited α] (s n:Nat)(f:Nat→Nat→DV)(el:α→Nat→DV)(l:List α):Prop:=n=l.length∧∀i j,i<n→j<s→f i j=el (l.getD i default) j
section
variable{α:Type} [Inhabited α] {s n e:Nat}{f g:Nat→Nat→DV}{el:α→Nat→DV}{l:List α}{x:α}
theorem iJ.refl:iJ s l.length (fun i=>el (l.getD i default)) el l:=⟨rfl,fun _ _ _ _=>rfl⟩
theorem iJ.snoc(h:iJ s n f el l)(hg:∀j,j<s→g 0 j=el x j):iJ s (n+1) (jM n f g) el (l++ [x]):=by
 obtain⟨rfl,h⟩:=h;refine⟨sM,fun i j hi hj=>?_⟩;unfold jM;by_cases hl:i<l.length
 ·rw[if_pos hl,h i j hl hj];simp only [List.getD_eq_getElem?_getD,List.getElem?_append_left hl]
 have:i=l.length:=oM;subst this;rw[if_neg hl,Nat.sub_self,hg j hj];exact zcc
theorem iJ.one(hg:∀j,j<s→g 0 j=el x j):iJ s 1 g el [x]:=by refine⟨rfl,fun i j hi hj=>?_⟩;have:i=0:=oM;subst this;exact hg j hj
theorem iJ.row(h:iJ s n f el l):aY (.row e n s f) (.row e l.length s (fun i=>el (l.getD i default))):=
 aY.row h.1 fun i j hi hj=>aK.of_eq (h.2 i j hi hj)
theorem iJ.fU(h:iJ s n f el l):aK (.fU n s f) (.fU l.length s (fun i=>el (l.getD i default))):=
 aK.wE h.1 fun i j hi hj=>aK.of_eq (h.2 i j hi hj)
end
theorem aU.lit{b c:Bool}(h:b=c):aU (.s (.d (.lit b))) (.s (.d (.val (.bool c)))):=by subst h;exact fun _ _ _ r=>r
theorem aU.int{x y:Int}(h:x=y):aU (.s (.d (.val (.int .i64 x)))) (vI y):=by subst h;exact aU.rfl
theorem aU.bool{x y:Bool}(h:x=y):aU (.s (.d (.val (.bool x)))) (vB y):=by subst h;exact aU.rfl
end Go.Ax
namespace Go.Ax
theorem aR{p q:Prop}(h:q)(hp:p:=by first|exact id|exact trivial|exact (sg trivial).1|exact (sh trivial).1|exact (su trivial).1|exact (sn1 trivial).1|exact (sn0 trivial).1):p∧q:=⟨hp,h⟩
theorem aD{p q:Prop}(h:q)(hp:p:=by kernel_rfl):p∧q:=⟨hp,h⟩
theorem aI{p q:Prop}(h:p)(k:q):p∧q:=⟨h,k⟩
theorem rQ.{u,v}{α:Sort u}{β:Sort v}{a:α}{b:β}:a=a∧b=b:=⟨rfl,rfl⟩
theorem oO:True:=trivial
def Rd(P:Program)(t:TypeId)(k:Nat){α:Type}(rep:α→List SV)(ok:α→Prop):Prop:=
 P.cellsOf t=k∧∀(H:Type) (enc:TypeId×Value→H) (W:World) (base:Nat) (spare:Nat→Bool) (held:Bool) (fuel:Nat) (cs:List Value) (x:DataW H×List MemPlace),
  DataW.trod enc P W base spare held fuel t cs=some x→cs.length=k∧∃a,ok a∧cV (full W) nb (rep a) cs
theorem aH7{P:Program}{t:TypeId}{k:IntKind}(ht:P.underlying t=some (.int k))(hc:P.cellsOf t=1):
  Rd P t 1 (fun n:Int=>[.d (.val (.int k n))]) (fun n=>(Lit.int k n).wf=true):=by
 refine⟨hc,fun H enc W base spare held fuel cs x h=>?_⟩
 obtain⟨n,rfl,_,hw⟩:=DataW.trod_int ht h
 exact⟨rfl,n,hw,rfl,trivial⟩
theorem aH6{P:Program}{t:TypeId}(ht:P.underlying t=some .string)(hc:P.cellsOf t=1):
  Rd P t 1 (fun s:ByteArray=>[.d (.val (.string s))]) (fun s=>s.size≤9223372036854775807):=by
 refine⟨hc,fun H enc W base spare held fuel cs x h=>?_⟩
 obtain⟨n,rfl,_,hs⟩:=DataW.trod_string ht h
 exact⟨rfl,n,hs,rfl,trivial⟩
theorem Rd.to{P:Program}{t:TypeId}{k:Nat}{α β:Type}{rep:α→List SV}{ok:α→Prop}{aA1:β→List SV}{ok':β→Prop}(h:Rd P t k rep ok)(g:α→β)(hr:∀a,aA1 (g a)=rep a)(ho:∀a,ok a→ok' (g a)):Rd P t k aA1 ok':=by refine⟨h.1,fun H enc W base spare held fuel cs x e=>?_⟩;obtain⟨hl,a,ha,eD⟩:=h.2 H enc W base spare held fuel cs x e;exact⟨hl,g a,ho a ha,by rw[hr];exact eD⟩
theorem aA0{M:Mem}{β:Nm}{el:Nat→DV}:∀{cs:List SV} {vs:List Value},cV M β cs vs→(∀j,j<cs.length→cs[j]? =some (.d (el j)))→∀j,j<cs.length→∃u,vs[j]? =some u∧(el j).bI M u:=by intro cs vs hr he j hj;obtain⟨u,hu,r⟩:=hr.get (he j hj);exact⟨u,hu,r⟩
theorem kF{P:Program}{t e:TypeId}{s:Nat}{α:Type} [Inhabited α] {rep:α→List SV}{ok:α→Prop}(ht:P.underlying t=some (.slice e))(hc:P.cellsOf t=1)(h:Rd P e s rep ok)(hs:0<s)
  (el:α→Nat→DV) (hl:∀a,(rep a).length=s) (hel:∀a j,j<s→(rep a)[j]? =some (.d (el a j))):
  Rd P t 1 (fun l:List α=>[.d (.fU l.length s fun i=>el (l.getD i default))]) (fun l=>l.length≤9223372036854775807∧∀a∈l,ok a):=by
 refine⟨hc,fun H enc W base spare held fuel cs x hx=>?_⟩
 rcases Go.Deep.open_slice ht hx with⟨rfl,_⟩|⟨a,len,cap,m,n,D,Pl,rfl,hb,hle,hm,hmm,_,cY⟩
 ·exact⟨rfl,[],⟨sM,sM⟩,⟨none,0,rfl,Nat.le_refl _,.inl rfl⟩,trivial⟩
 ·have hlm:len≤m:=by rw[hmm];split <;> omega
  have key:∀i,i<len→∃v:α,ok v∧∀j,j<s→∃u,W.cell? (a.add (i*s+j))=some u∧(el v j).bI (full W) u:=by intro i hi;obtain⟨cs',h1,h2⟩:=cY i oM;obtain⟨hlen,v,hv,hr⟩:=h.2 H enc W base spare held n cs' _ h2;refine⟨v,hv,fun j hj=>?_⟩;obtain⟨u,hu,r⟩:=aA0 (el:=el v) hr (fun j hj=>hel v j (by rw[hl]at hj;exact hj)) j (by rw[hl];exact hj);obtain⟨_,_,h3⟩:=World.cells?_some h1;have:=h3 j (by rw[h.1];exact hj);rw[hu,Go.Deep.add_add,h.1]at this;exact⟨u,this,r⟩
  obtain⟨F,hF⟩:=Go.Deep.choose_lt key;refine⟨rfl,(List.range len).map F,⟨by have:maxLen=9223372036854775807:=rfl;simp;omega,?_⟩,⟨some a,cap,sM,by simpa using hle,?_⟩,trivial⟩
  ·intro v hv;simp only [List.mem_map,List.mem_range]at hv;obtain⟨i,hi,rfl⟩:=hv;exact(hF i hi).1
  by_cases h0:len=0
  ·exact .inl (by simp[h0])
  right;obtain⟨u0,hu0,_⟩:=(hF 0 oM).2 0 hs;obtain⟨b,o,spot⟩:=a;have aLZ:spot=none:=by have:=World.cell?_spot hu0;simpa [Addr.add]using this
  subst aLZ;refine⟨b,o,rfl,fun i j hi hj=>?_⟩;simp only [List.length_map,List.length_range]at hi;obtain⟨u,hu,r⟩:=(hF i hi).2 j hj;refine⟨u,?_,?_⟩
  ·rw[jV,←Nat.add_assoc]at hu;exact hu
  show(el (((List.range len).map F).getD i default) j).bI (full W) u;rw[show((List.range len).map F).getD i default=F i by simp[hi]];exact r
def RdF(P:Program)(fs:List Field)(off k:Nat){α:Type}(rep:α→List SV)(ok:α→Prop):Prop:=
 ∀(H:Type) (enc:TypeId×Value→H) (W:World) (base:Nat) (spare:Nat→Bool) (held:Bool) (n:Nat) (cs:List Value),cs.length=k→
  (∀f∈fs,∃x,DataW.trod enc P W base spare held n f.type ((cs.drop f.offset).take (P.cellsOf f.type))=some x)→∃a,ok a∧cV (full W) nb (rep a) (cs.drop off)
theorem jN{P:Program}{k:Nat}:RdF P [] k k (fun _:Unit=>[]) (fun _=>True):=by intro H enc W base spare held n cs hk _;rw[List.drop_eq_nil_of_le oM];exact⟨(),trivial,trivial⟩
theorem aS{P:Program}{f:Field}{fs:List Field}{off k s:Nat}{α β:Type}{rep:α→List SV}{ok:α→Prop}{aA1:β→List SV}{ok':β→Prop}
  (ho:f.offset=off) (h:Rd P f.type s rep ok) (r:RdF P fs (off+s) k aA1 ok'):RdF P (f::fs) off k (fun a:α×β=>rep a.1++aA1 a.2) (fun a=>ok a.1∧ok' a.2):=by
 intro H enc W base spare held n cs hk hf
 obtain⟨x,hx⟩:=hf f sM
 obtain⟨hlen,a,ha,hr⟩:=h.2 H enc W base spare held n _ x hx
 obtain⟨b,hb,C1⟩:=r H enc W base spare held n cs hk (fun g hg=>hf g (by simp[hg]))
 refine⟨(a,b),⟨ha,hb⟩,?_⟩
 rw[h.1,ho]at hr
 have:=hr.append C1
 rw[←List.drop_drop,List.take_append_drop]at this
 exact this
theorem fI{P:Program}{t:TypeId}{fs:Array Field}{l:List Field}{k:Nat}{α:Type}{rep:α→List SV}{ok:α→Prop}(ht:P.underlying t=some (.struct fs))(hl:fs.toList=l)(hc:P.cellsOf t=k)(h:RdF P l 0 k rep ok):
  Rd P t k rep ok:=by
 refine⟨hc,fun H enc W base spare held fuel cs x hx=>?_⟩
 obtain⟨xs,n,_,_,hlen,hxl,hf⟩:=DataW.trod_struct ht hx
 obtain⟨a,ha,hr⟩:=h H enc W base spare held n cs (by rw[hlen,hc]) (fun f hfm=>by
  rw[←hl]at hfm;obtain⟨i,hi,e⟩:=List.getElem_of_mem hfm;have h1:fs[i]? =some f:=by rw[←Array.getElem?_toList,List.getElem?_eq_getElem hi,e]
  have:=hf i f h1;rw[List.getElem?_eq_getElem (by rw[hxl];simpa using hi)]at this;exact⟨_,this⟩)
 exact⟨by rw[hlen,hc],a,ha,by simpa using hr⟩
def RdA(P:Program)(t:TypeId){α:Type}(rep:α→AV)(ok:α→Prop):Prop:=
 ∀(H:Type) (enc:TypeId×Value→H) (W:World) (b0 base:Nat) (spare:Nat→Bool) (held:Bool) (v:Value) (d:DataW H) (ps:List MemPlace),
  Value.okWide P W .any b0 t v→DataW.Trod enc P W base spare held t v d ps→∃a,ok a∧(rep a).bI (full W) nb v
theorem VN{P:Program}{t:TypeId}{fs:Array Field}{k:Nat}{α:Type}{rep:α→List SV}{ok:α→Prop}(ht:P.underlying t=some (.struct fs))(h:Rd P t k rep ok):RdA P t (fun a=>.g (rep a)) ok:=by intro H enc W b0 base spare held v d ps hv ⟨fuel,hx⟩;simp only [Value.okWide,ht]at hv;obtain⟨cs,rfl,_⟩:=hv;obtain⟨_,a,ha,hr⟩:=h.2 H enc W base spare held fuel _ _ hx;exact⟨a,ha,cs.toList,sM,hr⟩
def aBH:TypeDesc→Bool
 |.bool=>true
 |.int _=>true
 |.string=>true
 |.slice _=>true
 |_=>false
theorem aN1{P:Program}{t:TypeId}{td:TypeDesc}{α:Type}{rep:α→SV}{ok:α→Prop}(ht:P.underlying t=some td)(hp:aBH td=true)(h:Rd P t 1 (fun a=>[rep a]) ok):RdA P t (fun a=>.s (rep a)) ok:=by
 intro H enc W b0 base spare held v d ps hv ⟨fuel,hx⟩;obtain⟨_,a,ha,hr⟩:=h.2 H enc W base spare held fuel _ _ hx;have hc:v.cells.toList=[v]:=by
  cases v <;> first
   |rfl
   |(simp only [Value.okWide,ht]at hv
     cases td <;> simp_all [Cell.okWide,Cell.ok,aBH])
 rw[hc]at hr;exact⟨a,ha,hr.1⟩
end Go.Ax
namespace Go.Ax.aNY
open Ieee
theorem XM(r:Nat)(h:r<double.infRung):∃m i,double.read r=.number false m i∧m<2^53∧(i=double.leastPlace∨i=double.leastPlace+((r / 4503599627370496 - 1:Nat):Int)):=by
 have e1:double.signWeight=9223372036854775808:=by decide
 have e2:double.binade=4503599627370496:=by decide
 have e3:double.infRung=9218868437227405312:=by decide
 have e53:(2:Nat)^53=9007199254740992:=by decide
 rw[e53];have fZ:r<9223372036854775808:=by omega
 have hq:r / 9223372036854775808=0:=Nat.div_eq_of_lt fZ;have hm:r%9223372036854775808=r:=Nat.mod_eq_of_lt fZ;unfold Format.read;rw[e1,hq,hm,e2];by_cases hs:r<4503599627370496
 ·rw[if_pos hs];exact⟨r,_,rfl,by omega,.inl rfl⟩
 rw[if_neg hs,if_pos h];refine⟨_,_,rfl,?_,.inr rfl⟩;have:=Nat.mod_lt r (show 0<4503599627370496 by decide);omega
theorem aJM(n drop:Nat)(h:n<2^53*2^drop):Toward.even.cut false n drop≤2^53:=by
 unfold Toward.cut;simp only;have hb:∀b:Bool,b.toNat≤1:=fun b=>by cases b <;> decide
 have hg:n / 1<<<min drop (n.log2+2)<2^53:=by
  rw[Nat.shiftLeft_eq,Nat.one_mul];by_cases hd:drop≤n.log2+2
  ·rw[Nat.min_eq_left hd];exact Nat.div_lt_of_lt_mul (by rw[Nat.mul_comm];exact h)
  rw[Nat.min_eq_right (by omega)];have:n<2^(n.log2+2):=Nat.lt_trans Nat.lt_log2_self (Nat.pow_lt_pow_right (by decide) (by omega));rw[Nat.div_eq_of_lt this];decide
 have:=hb (decide (1<<<min drop (n.log2+2)<2*(n%1<<<min drop (n.log2+2)))||(1<<<min drop (n.log2+2)==2*(n%1<<<min drop (n.log2+2))&&n / 1<<<min drop (n.log2+2)%2==1));omega
theorem BM(tA:Nat)(place:Int)(h0:tA≠0)(DR:double.leastPlace≤place+tA.log2 - 52)(TZ:place+tA.log2≤900):
  ∃m i,double.read (double.nearest false tA place)=.number false m i∧m<2^53∧i≤place+tA.log2 - 51∧ -1074≤i:=by
 have e0:double.fractionBits=52:=rfl
 have e2:double.binade=4503599627370496:=by decide
 have e3:double.infRung=9218868437227405312:=by decide
 have e4:double.leastPlace= -1074:=by decide
 have qP:max (place+(tA.log2:Int) - (double.fractionBits:Int)) double.leastPlace=place+tA.log2 - 52:=by rw[e0];exact Int.max_eq_left DR
 have aG3:Toward.even.cut false (tA<<<(place - (place+tA.log2 - 52)).toNat) ((place+(tA.log2:Int) - 52) - place).toNat≤2^53:=by
  apply aJM;rw[Nat.shiftLeft_eq];have hm:tA<2^(tA.log2+1):=Nat.lt_log2_self;by_cases hk:52≤tA.log2
  ·have h1:(place - (place+tA.log2 - 52)).toNat=0:=by omega
   have h2:((place+(tA.log2:Int) - 52) - place).toNat=tA.log2 - 52:=by omega
   rw[h1,h2,Nat.pow_zero,Nat.mul_one,←Nat.pow_add];rw[show 53+(tA.log2 - 52)=tA.log2+1 by omega];exact hm
  have h1:(place - (place+tA.log2 - 52)).toNat=52 - tA.log2:=by omega
  have h2:((place+(tA.log2:Int) - 52) - place).toNat=0:=by omega
  rw[h1,h2,Nat.pow_zero,Nat.mul_one]
  calc tA*2^(52 - tA.log2)<2^(tA.log2+1)*2^(52 - tA.log2):=Nat.mul_lt_mul_of_pos_right hm (Nat.two_pow_pos _)
   _=2^53:=by rw[←Nat.pow_add];congr 1;omega
 unfold Format.nearest
 rw[if_neg h0,qP]
 simp only [Format.word,Bool.false_eq_true,if_false]
 have e53:(2:Nat)^53=9007199254740992:=by decide
 rw[e53]at aG3
 generalize Toward.even.cut false (tA<<<(place - (place+tA.log2 - 52)).toNat) ((place+(tA.log2:Int) - 52) - place).toNat=kept at aG3 ⊢
 rw[e2,e3,e4]
 have hA:(place+(tA.log2:Int) - 52 - -1074).toNat=(place+tA.log2+1022).toNat:=by congr 1;omega
 rw[hA]
 generalize hAe:(place+(tA.log2:Int)+1022).toNat=A
 rw[e4]at DR
 have hAi:(A:Int)=place+tA.log2+1022:=by omega
 have hA1:A≤1922:=by omega
 have aIY:min (A*4503599627370496+kept) 9218868437227405312=A*4503599627370496+kept:=by apply Nat.min_eq_left;omega
 rw[aIY]
 have fZ:A*4503599627370496+kept<double.infRung:=by rw[e3];clear aIY DR TZ hAi qP hA;omega
 obtain⟨m,i,hr,hm,hi⟩:=XM _ fZ
 rw[e4]at hi
 refine⟨m,i,hr,hm,?_⟩
 have hdiv:(A*4503599627370496+kept) / 4503599627370496≤A+2:=by
  have h1:A*4503599627370496+kept≤(A+2)*4503599627370496:=by rw[Nat.add_mul];clear aIY DR TZ hAi qP hA fZ hr hi;omega
  have h2:=Nat.div_le_div_right (c:=4503599627370496) h1;rw[Nat.mul_div_cancel _ (by decide)]at h2;exact h2
 generalize (A*4503599627370496+kept) / 4503599627370496=D at hdiv hi
 rcases hi with rfl|rfl
 ·exact⟨by omega,by omega⟩
 ·exact⟨by omega,by omega⟩
theorem EC(n:Nat):∀(todo root:Nat),root*root≤n→Datum.rootFrom n todo root*Datum.rootFrom n todo root≤n
 |0,_,h=>h
 |todo+1,root,h=>by
  unfold Datum.rootFrom;simp only;apply EC n todo;split
  ·assumption
  exact h
theorem MY{a b:Nat}(h0:a≠0)(h:a<2^(b+1)):a.log2≤b:=by have:=Nat.log2_self_le h0;exact Nat.le_of_lt_succ ((Nat.pow_lt_pow_iff_right (by decide:1<2)).1 (Nat.lt_of_le_of_lt this h))
theorem SS(s:Int)(h0:0≤s)(hs:s<2^43):∃r n,FloatKind.f64.format.sqrt (FloatKind.f64.nearest s)=some r∧(FloatKind.f64.decode r).toInt .zero=some n∧0≤n∧n<2^24:=by
 have e4:double.leastPlace= -1074:=by decide
 have e0:double.fractionBits=52:=rfl;have hf:FloatKind.f64.format=double:=rfl;by_cases hz:s=0
 ·subst hz;exact⟨0,0,by decide+kernel,by decide+kernel,by decide,by decide⟩
 obtain⟨k,rfl⟩:=Int.eq_ofNat_of_zero_le h0;have QW:k≠0:=by intro h;exact hz (by simp[h])
 have hk:k<2^43:=by exact_mod_cast hs
 have hlk:k.log2≤42:=MY QW hk;have hn:FloatKind.f64.nearest (k:Int)=double.nearest false k 0:=by
  unfold FloatKind.nearest FloatKind.encode;rw[hf];have:decide ((k:Int)<0)=false:=by simp
  simp only [this,Int.natAbs_natCast,Format.write]
 obtain⟨m,i,hr,hm,hi,hi2⟩:=BM k 0 QW (by rw[e4];omega) (by omega);obtain⟨d,hd,hdn⟩:∃d,(Datum.number false m i).root 54=some d∧∃tA p,d=.number false tA p∧(tA=0∨(tA≠0∧p+tA.log2≤22∧ -1022≤p+tA.log2)):=by
  by_cases hm0:m=0
  ·subst hm0;exact⟨_,rfl,0,i,rfl,.inl rfl⟩
  unfold Datum.root;simp only [hm0,if_false];have hlm:m.log2≤52:=MY hm0 hm;have aQN:((2*54 - m.log2:Nat):Int)=108 - m.log2:=by omega
  obtain⟨q,hq,hq2⟩:∃q:Nat,((i - ((2*54 - m.log2:Nat):Int))%2).toNat=q∧q≤1:=⟨_,rfl,by omega⟩;rw[hq];have hn0:(m<<<(2*54 - m.log2+q))<2^110:=by
   rw[Nat.shiftLeft_eq]
   calc m*2^(2*54 - m.log2+q)<2^(m.log2+1)*2^(2*54 - m.log2+q):=Nat.mul_lt_mul_of_pos_right Nat.lt_log2_self (Nat.two_pow_pos _)
    _=2^(109+q):=by rw[←Nat.pow_add];congr 1;omega
    _≤2^110:=Nat.pow_le_pow_right (by decide) (by omega)
  have hn1:1≤m<<<(2*54 - m.log2+q):=by rw[Nat.shiftLeft_eq];exact Nat.mul_pos (Nat.pos_of_ne_zero hm0) (Nat.two_pow_pos _)
  generalize hN:m<<<(2*54 - m.log2+q)=N at hn0 hn1 ⊢;have hsq:=EC N (N.log2 / 2+1) 0 (by omega);generalize Datum.rootFrom N (N.log2 / 2+1) 0=root at hsq ⊢;have aQI:root<2^55:=by
   rcases Nat.lt_or_ge root (2^55)with h|h
   ·exact h
   have:=Nat.mul_le_mul h h;have e:(2:Nat)^55*2^55=2^110:=by decide
   omega
  have hb:(root*root !=N).toNat≤1:=by cases(root*root !=N) <;> decide
  generalize (root*root !=N).toNat=bb at hb;refine⟨_,rfl,2*root+bb,_,rfl,?_⟩;by_cases hz2:2*root+bb=0
  ·exact .inl hz2
  right;have hl:(2*root+bb).log2≤55:=MY hz2 (by omega);refine⟨hz2,?_,?_⟩
  ·omega
  omega
 obtain⟨tA,p,rfl,hmp⟩:=hdn;have hsq:FloatKind.f64.format.sqrt (FloatKind.f64.nearest (k:Int))=some (double.nearest false tA p):=by rw[hf,hn];unfold Format.sqrt;rw[hr,e0,hd];rfl
 rcases hmp with rfl|⟨h1,h2,h3⟩
 ·refine⟨_,0,hsq,?_,by decide,by decide⟩;have:double.nearest false 0 p=0:=rfl;rw[this];decide+kernel
 obtain⟨m',i',C1,NC,bC,aQP⟩:=BM tA p h1 (by rw[e4];omega) (by omega);have hg:FloatKind.f64.decode (double.nearest false tA p)=.number false m' i':=C1;refine⟨_,_,hsq,by rw[hg];rfl,?_⟩;simp only [signed,Bool.false_eq_true,if_false,Nat.shiftLeft_zero];have TY:i'.toNat=0:=by omega
 rw[TY,Nat.shiftLeft_zero];unfold Toward.cut;simp only [Bool.toNat_false,Nat.add_zero];refine⟨Int.natCast_nonneg _,?_⟩;have:m' / 1<<<min (-i').toNat (m'.log2+2)<2^24:=by
  rw[Nat.shiftLeft_eq,Nat.one_mul];by_cases hd:(-i').toNat≤m'.log2+2
  ·rw[Nat.min_eq_left hd];apply Nat.div_lt_of_lt_mul
   calc m'<2^53:=NC
    _=2^29*2^24:=by decide
    _≤2^(-i').toNat*2^24:=Nat.mul_le_mul_right _ (Nat.pow_le_pow_right (by decide) (by omega))
  rw[Nat.min_eq_right (by omega)];have:m'<2^(m'.log2+2):=Nat.lt_trans Nat.lt_log2_self (Nat.pow_lt_pow_right (by decide) (by omega));rw[Nat.div_eq_of_lt this];decide
 exact_mod_cast this
end Go.Ax.aNY
