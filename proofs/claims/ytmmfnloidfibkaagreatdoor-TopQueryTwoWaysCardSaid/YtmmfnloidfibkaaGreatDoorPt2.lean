/- Part 2: lemmas that the proofs of this seat share; by itself it claims nothing. -/
import Derived.Scope
import Derived.ProofKit
import Derived.OpenShut
import Derived.Deep.Slices
import Derived.Test.YtmmfnloidfibkaaGreatDoorPt1
set_option linter.defProp false
namespace Go.Ax
open Go.RowKit
open Go.ChangeMaps (setBlock)
def bytes_beq(a b:ta):(a==b)=decide (a=b):=by
 cases a with|mk a=>cases b with|mk b=>
 show(a==b)=_;rw[Ff];simp
instance:LawfulBEq ta where
 eq_of_beq:=λ{a b} h=>by rw[bytes_beq]at h;simpa using h
 rfl:=λ{a}=>by rw[bytes_beq];simp
def nS:List (ta×Int)->ta->Da Int
 |[],_=>none
 |(a,v)::r,k=>bif k==a then some v else nS r k
def WD(l:List (ta×Int))(k:ta):Bool:=(nS l k).isSome
def gW(l:List (ta×Int))(k:ta):Int:=(nS l k).getD 0
def jR:List (ta×Int)->ta->Int->List (ta×Int)
 |[],k,v=>[(k,v)]
 |(a,u)::r,k,v=>bif k==a then(a,v)::r else(a,u)::jR r k v
def yZ(T:List (Nat×bV))(k:Nat):Bool:=match dE T k with
 |some tk=>match tk.j7 with
  |.string=>true
  |_=>false
 |none=>false
def As{P:Ba}{T:List (Nat×bV)}(hT:cD P T){k:Nat}(h:yZ T k=true):P.underlying k=some .string:=by
 unfold yZ at h;split at h
 ·rename_i tk hk;split at h
  ·rename_i hu;exact(hT.get hk).isString hu
  cases h
 cases h
def k9(vk:VK):List (ta×Int)->ta->Nat->Da (Nat×wa)
 |[],_,_=>none
 |(a,v)::r,k,i=>bif k==a then some (i,vk.val v)else k9 vk r k (i+1)
def zL(vk:VK)(k:ta):∀(l:List (ta×Int)) (i:Nat),Instr.findNow .string (.string k) (eL vk l i) i=some (k9 vk l k i)
 |[],_=>rfl
 |(a,v)::r,i=>by
  simp only[eL,Instr.findNow,Instr.sameNow,k9]
  cases h:k==a with
  |true=>rfl
  |false=>simp only[Ua];exact zL vk k r (i+1)
def BB{P:Ba}(w:Aa){kt:Ea}(hk:P.underlying kt=some .string)(vk:VK)(k:ta)(l:List (ta×Int)):
  (Instr.findKey kt (.string k) (eL vk l 0)).run P w=.ok (k9 vk l k 0) w:=by
 simp[Instr.findKey,Bb hk,zL]
def jC{P:Ba}(w:Aa){kt:Ea}(hk:P.underlying kt=some .string)(b:Bool)(k:ta)(n:Nat):(Instr.checkKey b (n+1) kt (.string k)).run P w=.ok () w:=by simp[Instr.checkKey,Bb hk]
def B6(vk:VK)(k:ta):∀(l:List (ta×Int)) (i:Nat),(k9 vk l k i).map (·.2)=(nS l k).map vk.val
 |[],_=>rfl
 |(a,v)::r,i=>by
  simp only[k9,nS]
  cases h:k==a with
  |true=>rfl
  |false=>simp only[Ua];exact B6 vk k r (i+1)
def vG(vk:VK):∀(l:List (ta×Int)) (i:Nat),(eL vk l i).length=l.length
 |[],_=>rfl
 |(_,_)::r,i=>by simp[eL,vG vk r (i+1)]
def ID(vk:VK):∀(l:List (ta×Int)) (i:Nat),(eL vk l i).map (·.born)=List.range' i l.length
 |[],_=>rfl
 |(_,_)::r,i=>by simp[eL,ID vk r (i+1),List.range'_succ]
def tX(vk:VK):∀(l:List (ta×Int)) (i j:Nat) (e:MapEntry),(eL vk l i)[j]? =some e->j<l.length/\e= {key:=.string (l.getD j (⟨#[]⟩,0)).1,val:=vk.val (l.getD j (⟨#[]⟩,0)).2,born:=i+j}
 |[],_,_,_,h=>by simp[eL]at h
 |(a,v)::r,i,0,e,h=>by simp[eL]at h;exact⟨sM,by rw[<-h];rfl⟩
 |(a,v)::r,i,j+1,e,h=>by
  have h:(eL vk r (i+1))[j]? =some e:=by simpa[eL]using h
  obtain⟨h1,h2⟩:=tX vk r (i+1) j e h;exact zea
def KR(vk:VK)(k:ta)(v:Int):∀(l:List (ta×Int)) (i j:Nat) (u:wa),k9 vk l k i=some (i+j,u)->(∃e,(eL vk l i)[j]? =some e/\e.key=.string k)/\
   (eL vk l i).modify j (λe=>{e with key:=.string k,val:=vk.val v})=eL vk (jR l k v) i/\(jR l k v).length=l.length
 |[],_,_,_,h=>by cases h
 |(a,b)::r,i,j,u,h=>by
  simp only[k9]at h
  cases hk:k==a with
  |true=>
   rw[hk]at h;simp only[cond_true,Je,Aj]at h;obtain rfl:j=0:=O;have:k=a:=by simpa using hk
   subst this;simp[eL,jR]
  |false=>
   rw[hk]at h;simp only[Ua]at h;have hj:∃q,j=q+1:=by
    cases j with
    |zero=>
     exfalso;have:∀(l:List (ta×Int)) (i p:Nat) (u:wa),k9 vk l k i=some (p,u)->i<=p:=by
      intro l;induction l with
      |nil=>intro i p u h;cases h
      |cons x r ih=>intro i p u h;obtain⟨a,b⟩:=x;simp only[k9]at h;exact zaj
     have:=this r (i+1) _ u h;omega
    |succ q=>exact⟨q,rfl⟩
   obtain⟨q,rfl⟩:=hj;obtain⟨⟨e,h1,JX⟩,h2,h3⟩:=KR vk k v r (i+1) q u ze7;refine⟨⟨e,by simpa[eL]using h1,JX⟩,?_,by simp[jR,hk,h3]⟩;simp[eL,jR,hk,h2]
def KS(vk:VK)(k:ta)(v:Int):∀(l:List (ta×Int)) (i:Nat),k9 vk l k i=none->eL vk l i++ [{key:=.string k,val:=vk.val v,born:=i+l.length}]=eL vk (jR l k v) i/\(jR l k v).length=l.length+1
 |[],i,_=>by simp[eL,jR]
 |(a,b)::r,i,h=>by
  simp only[k9]at h
  cases hk:k==a with
  |true=>rw[hk]at h;cases h
  |false=>rw[hk]at h;obtain⟨h1,h2⟩:=KS vk k v r (i+1) h;have e:i+(r.length+1)=i+1+r.length:=O;simp[eL,jR,hk,h2,<-h1,e]
section
variable{P:Ba}{I:St}{K:AV->aP->Prop}{o:Oper}
def MV(T:List (Nat×bV))(I:St)(d t:Nat)(K:AV->aP->Prop):Prop:=
 match dE T t with
 |some ti=>match ti.j7 with
  |.map k e=>match aKM T e with
   |some vk=>bif yZ T k then match aH I.box d with
    |none=>K (.s (.mp d)) ((d,some (.smap vk []))::I.box)
    |some _=>False
    else False
   |none=>False
  |_=>False
 |none=>False
def aIP.spec{T:List (Nat×bV)}{d t:Nat}(ho:o.op=.makeMap t none)(h:MV T I d t K):∃r bx,K r bx/\KI P o I r bx:=by
 unfold MV at h;split at h
 case h_2=>cases h
 split at h
 case h_2=>cases h
 split at h
 case h_2=>cases h
 rename_i vk hvk
 cases hk:yZ T _ with
 |false=>rw[hk]at h;cases h
 |true=>
  rw[hk]at h;simp only[cond_true]at h;split at h
  case h_2=>cases h
  rename_i hd;refine⟨_,_,h,λR N M V a w i=>?_⟩;have a7:(execOp a.eval o).run P w=.ok (.value (.map (some w.heap.size))) (w.alloc (.map #[] 0)):=by exact Xs
  obtain⟨V',h1,h2,h3,h4⟩:=i.new (w':=w.alloc (.map #[] 0)) (c:=(0,0)) hd (ob:=.map #[] 0) rfl rfl rfl rfl (bc:=.smap vk []) (by intro V' e _;exact⟨_,_,e,Ke w _⟩);exact vw
def Et(T:List (Nat×bV))(I:St)(t:Nat)(x y z:Ca)(K:AV->aP->Prop):Prop:=
 fe none (ev I x) λvx=>fe none (ev I y) λvy=>fe none (ev I z) λvz=>match vx,vy with
  |.s (.mp b),.s (.d (.val (.string k)))=>match aH I.box b with
   |some (some (.smap vk l))=>match dE T t with
    |some ti=>match ti.j7 with
     |.map kt _=>bif yZ T kt then match UF vk vz with
      |some n=>K (.s (.d .bL)) ((b,some (.smap vk (jR l k n)))::I.box)
      |none=>False
      else False
     |_=>False
    |none=>False
   |_=>False
  |_,_=>False
def aN6.spec{T:List (Nat×bV)}(hT:cD P T){t:Nat}{x y z:Ca}(ho:o.op=.mapUpdate t x y z)(h:Et T I t x y z K):∃r bx,K r bx/\KI P o I r bx:=by
 unfold Et at h;replace h:=Db h;obtain⟨vx,h,tB⟩:=h;replace h:=Db h;obtain⟨vy,h,JV⟩:=h;replace h:=Db h;obtain⟨vz,h,hrz⟩:=h;split at h
 case h_2=>cases h
 rename_i b k;split at h
 case h_2=>cases h
 rename_i vk l hb;split at h
 case h_2=>cases h
 rename_i ti gG;split at h
 case h_2=>cases h
 rename_i kt et hu
 cases hk:yZ T kt with
 |false=>rw[hk]at h;cases h
 |true=>
  rw[hk]at h;simp only[cond_true]at h;split at h
  case h_2=>cases h
  rename_i n hn;have SK:=As hT hk;have dB:=(hT.get gG).EM hu;refine⟨_,_,h,λR N M V a w i=>?_⟩;obtain⟨bb,c,e1,ex⟩:=tB iY R N M V a w i;obtain⟨b',c',e2,hh⟩:=i.box b _ hb;rw[e1]at e2;cases e2;have ey:a.eval y=.string k:=JV iY R N M V a w i;have ez:a.eval z=vk.val n:=Nw hn (hrz iY R N M V a w i);have jL:(Instr.checkKey false 10000 kt (.string k)).run P w=.ok () w:=jC w SK false k 9999;have oL:=BB (P:=P) w SK vk k l;have YQ:(Instr.mapUpdate t (.map (some bb)) (.string k) (vk.val n)).run P w=.ok () (setBlock w bb (.map (eL vk (jR l k n) 0).toArray (jR l k n).length)):=by
   cases hf:k9 vk l k 0 with
   |none=>
    rw[hf]at oL;obtain⟨q1,q2⟩:=KS vk k n l 0 hf;have e3:((eL vk l 0).toArray.push {key:=.string k,val:=vk.val n,born:=l.length})=(eL vk (jR l k n) 0).toArray:=by rw[<-q1];simp
    exact zcb
   |some pr=>
    obtain⟨p,u⟩:=pr;rw[hf]at oL;obtain⟨⟨e,q0,q0'⟩,q1,q2⟩:=KR vk k n l 0 p u (by rw[Ec];exact hf);have HU:(Instr.keyThatStays (.string k) (.string k)).run P w=.ok (.string k) w:=by simp[Instr.keyThatStays,Instr.sameBits]
    have e3:(eL vk l 0).modify p (λe=>{key:=.string k,val:=vk.val n,born:=e.born})=eL vk (jR l k n) 0:=q1;have e4:(((eL vk l 0).toArray[p]?).map (·.key)).getD (.string k)=.string k:=by simp[q0,q0']
    exact zaK
  have a7:(execOp a.eval o).run P w=.ok .skip (setBlock w bb (.map (eL vk (jR l k n) 0).toArray (jR l k n).length)):=by simp[execOp,ho,ex,ey,ez,YQ]
  have hw:=i.write (bc':=.smap vk (jR l k n)) hb e1 (w':=setBlock w bb (.map (eL vk (jR l k n) 0).toArray (jR l k n).length)) (gC _ _ _) (λj hj=>fD _ _ _ hj) rfl rfl rfl
   ⟨bb,c,e1,iS hh⟩
  exact jf
def MJ(T:List (Nat×bV))(I:St)(d t:Nat)(x:Ca)(K:AV->aP->Prop):Prop:=
 fe none (ev I x) λvx=>match vx with
  |.s (.mp b)=>match aH I.box b with
   |some (some (.smap _ l))=>match dE T t with
    |some ti=>match ti.j7 with
     |.map _ _=>match aH I.box d with
      |none=>K (.s (.ptr d 0)) ((d,some (.iter b l.length []))::I.box)
      |some _=>False
     |_=>False
    |none=>False
   |_=>False
  |_=>False
def aH8.spec{T:List (Nat×bV)}(hT:cD P T){d t:Nat}{x:Ca}(ho:o.op=.range t x)(h:MJ T I d t x K):∃r bx,K r bx/\KI P o I r bx:=by unfold MJ at h;exact zo
def TD(I:St)(x:Ca)(K:AV->aP->Prop):Prop:=
 fe none (ev I x) λvx=>match vx with
  |.s (.ptr b 0)=>match aH I.box b with
   |some (some (.iter m n seen))=>match aH I.box m with
    |some (some (.smap vk l))=>l.length=n/\((∀i,i<n->i∈seen)->K (.t [.s (.d (.lit false))]) I.box)/\
      (∀i,i<n->i∉seen->K (.t [.s (.d (.lit true)),.s (.d (.val (.string (l.getD i (⟨#[]⟩,0)).1))),.s (.d (vk.dv (l.getD i (⟨#[]⟩,0)).2))]) ((b,some (.iter m n (i::seen)))::I.box))
    |_=>False
   |_=>False
  |_=>False
def aLG.spec{x:Ca}(ho:o.op=.next x false)(h:TD I x K){R:Cx}{N:Nat}{M:Mem}{V:Nm}{a:Act}{w:Aa}(i:Inv R N M V I a w):
  ∃r bx,K r bx/\∃v w',(execOp a.eval o).run P w=.ok (.value v) w'/\r.bI M V v/\Inv R N M V ⟨I.env,bx⟩ a w'/\cE R w w':=by
 unfold TD at h
 replace h:=Db h
 obtain⟨vx,h,tB⟩:=h
 split at h
 case h_2=>cases h
 rename_i b
 split at h
 case h_2=>cases h
 rename_i m n seen hb
 split at h
 case h_2=>cases h
 rename_i vk l hm
 obtain⟨hl,h1,h2⟩:=h
 subst hl
 obtain⟨bb,c,e1,ex⟩:=tB iY R N M V a w i
 obtain⟨b',c',bm,cm,e2,em,hh⟩:=i.box b _ hb
 rw[e1]at e2;cases e2
 obtain⟨bm',cm',RG,hhm⟩:=i.box m _ hm
 rw[em]at RG;cases RG
 have hold:∀x∈(eL vk l 0).toArray.toList,x.born<l.length:=by intro x hx;obtain⟨j,hj⟩:=dd hx;obtain⟨k1,k2⟩:=tX vk l 0 j x Zp;rw[k2];simpa using k1
 have kK:∀e,e∈(leftOf (eL vk l 0).toArray seen.reverse.toArray).toList↔∃j,j<l.length/\j∉seen/\e= {key:=.string (l.getD j (⟨#[]⟩,0)).1,val:=vk.val (l.getD j (⟨#[]⟩,0)).2,born:=j}:=by
  intro e;unfold leftOf;simp only[Yv,rf];constructor
  ·rintro⟨hx,hs⟩;obtain⟨j,hj⟩:=dd hx;obtain⟨k1,k2⟩:=tX vk l 0 j e Zp;exact zcL
  rintro⟨j,hj,hs,rfl⟩;refine⟨?_,by simpa using hs⟩;have fZ:j<(eL vk l 0).length:=by rw[vG];exact hj
  have hg:=List.getElem?_eq_getElem fZ;obtain⟨_,k2⟩:=tX vk l 0 j _ hg;exact zdr
 rcases Cr (P:=P) w o.type bb bm l.length l.length seen.reverse.toArray (eL vk l 0).toArray l.length hh hhm hold (mb _)with⟨hz,a7⟩|⟨e,he,w1,V7,a7⟩
 ·refine⟨_,_,h1 (λj hj=>?_),_,w,by simp[execOp,ho,ex,a7],⟨[.bool false],rfl,rfl,trivial⟩,i,lc _ _⟩;refine Classical.byContradiction λhs=>?_
  have:=(kK _).2 ⟨j,hj,hs,rfl⟩;have TT:(leftOf (eL vk l 0).toArray seen.reverse.toArray).toList=[]:=fh Gq;exact Dq
 ·obtain⟨j,hj,hs,rfl⟩:=(kK e).1 he;obtain⟨q1,q2,q3,q4⟩:=vK V7;have hh1:w1.heap[bb]? =some (.mapIter (some bm) l.length seen.reverse.toArray l.length):=by rw[q1];exact hh
  have qO:seen.reverse.toArray.push j=(j::seen).reverse.toArray:=sM;have QR:(execOp a.eval o).run P w=.ok (.value (.tuple #[.bool true,.string (l.getD j (⟨#[]⟩,0)).1,vk.val (l.getD j (⟨#[]⟩,0)).2])) (setBlock w1 bb (.mapIter (some bm) l.length (j::seen).reverse.toArray l.length)):=by exact Jt
  exact qn
end
section
variable{P:Ba}{I:St}{g:Da Bool}{K:AV->Prop}{o:Oper}
def NT(I:St)(va:AV)(K:AV->Prop):Prop:=match va with
 |.s (.ptr b 0)=>match aH I.box b with
  |some (some (.iter m n (i::_)))=>match aH I.box m with
   |some (some (.smap vk l))=>l.length=n/\i<l.length/\K (.t [.s (.d (.val (.string (l.getD i (⟨#[]⟩,0)).1))),.s (.d (vk.dv (l.getD i (⟨#[]⟩,0)).2))])
   |_=>False
  |_=>False
 |_=>False
def qK(T:List (Nat×bV))(I:St)(t:Nat)(ok:Bool)(_g:Da Bool)(vx vy:AV)(K:AV->Prop):Prop:=match vx,vy with
 |.s (.mp b),.s (.d (.val (.string k)))=>match aH I.box b with
  |some (some (.smap vk l))=>match dE T t with
   |some ti=>match ti.j7 with
    |.map kt et=>bif yZ T kt&&Zh T et vk then match ok with
     |true=>K (.t [.s (.d (vk.dv (gW l k))),.s (.d (.val (.bool (WD l k))))])
     |false=>K (.s (.d (vk.dv (gW l k))))
     else False
    |_=>False
   |none=>False
  |_=>False
 |_,_=>False
def aLK.spec{T:List (Nat×bV)}(hT:cD P T){t:Nat}{x y:Ca}{ok:Bool}(ho:o.op=.lookup t x y ok)(h:fe g (ev I x) λva=>fe g (ev I y) λvb=>qK T I t ok g va vb K):
  ∃r,K r/\jW P o I g r:=by
 replace h:=Db h
 obtain⟨vx,h,tB⟩:=h
 replace h:=Db h
 obtain⟨vy,h,JV⟩:=h
 unfold qK at h
 split at h
 case h_2=>cases h
 rename_i b k
 split at h
 case h_2=>cases h
 rename_i vk l hb
 split at h
 case h_2=>cases h
 rename_i ti gG
 split at h
 case h_2=>cases h
 rename_i kt et hu
 cases hk:(yZ T kt&&Zh T et vk)with
 |false=>rw[hk]at h;cases h
 |true=>
  rw[hk]at h;simp only[cond_true]at h;simp only[Bool.and_eq_true]at hk;have SK:=As hT hk.1;have dB:=(hT.get gG).EM hu;have key:∀(ha:act g) R N M V a w,Inv R N M V I a w->(execOp a.eval o).run P w=.ok (.value (if ok=true then .tuple #[vk.val (gW l k),.bool (WD l k)]else vk.val (gW l k))) w:=by
   intro ha R N M V a w i;obtain⟨bb,c,e1,ex⟩:=tB ha R N M V a w i;obtain⟨b',c',e2,hh⟩:=i.box b _ hb;rw[e1]at e2;cases e2;have ey:a.eval y=.string k:=JV ha R N M V a w i;have hz:=Sw hT hk.2 w;have jL:(Instr.checkKey (eL vk l 0).toArray.isEmpty 10000 kt (.string k)).run P w=.ok () w:=jC w SK _ k 9999;have oL:=BB (P:=P) w SK vk k l;have hf:=B6 vk k l 0
   cases hfa:k9 vk l k 0 with
   |none=>
    rw[hfa]at oL hf;have hf:(nS l k).map vk.val=none:=hf.symm;have hn:nS l k=none:=by simpa using hf
    simp only[Vv]at jL;simp only[execOp,ho,ex,ey]
    cases ok <;> simp[Instr.lookup,Bb dB,MapKept.run_getObj_map hh,jL,oL,hz,hn,WD,gW]
   |some pr=>
    obtain⟨p,u⟩:=pr;rw[hfa]at oL hf;have hf:(nS l k).map vk.val=some u:=hf.symm;obtain⟨n,hn,WA⟩:=Iz.1 hf;simp only[Vv]at jL;simp only[execOp,ho,ex,ey]
    cases ok <;> simp[Instr.lookup,Bb dB,MapKept.run_getObj_map hh,jL,oL,hn,WA,WD,gW]
  cases ok with
  |true=>exact⟨_,h,λha R N M V a w i=>⟨_,key ha R N M V a w i,_,rfl,Zi vk _ M,rfl,trivial⟩⟩
  |false=>exact⟨_,h,λha R N M V a w i=>⟨_,key ha R N M V a w i,Zi vk _ M⟩⟩
def aJG.spec{x:Ca}(ho:o.op=.entry x)(h:fe g (ev I x) λva=>NT I va K):∃r,K r/\jW P o I g r:=by
 replace h:=Db h;obtain⟨vx,h,tB⟩:=h;unfold NT at h;split at h
 case h_2=>cases h
 rename_i b;split at h
 case h_2=>cases h
 rename_i m n j seen hb;split at h
 case h_2=>cases h
 rename_i vk l hm;obtain⟨hl,hj,h⟩:=h;subst hl;refine⟨_,h,λha R N M V a w i=>?_⟩;obtain⟨bb,c,e1,ex⟩:=tB ha R N M V a w i;obtain⟨b',c',bm,cm,e2,em,hh⟩:=i.box b _ hb;rw[e1]at e2;cases e2;obtain⟨bm',cm',RG,hhm⟩:=i.box m _ hm;rw[em]at RG;cases RG;have fZ:j<(eL vk l 0).length:=by rw[vG];exact hj
 have hg:=List.getElem?_eq_getElem fZ;obtain⟨_,k2⟩:=tX vk l 0 j _ hg;rw[Ec]at k2;have kK:=Ce fZ;generalize (eL vk l 0)[j]=e at*;subst k2;have qO:(j::seen).reverse.toArray=seen.reverse.toArray.push j:=sM;rw[qO]at hh;have a7:=yr (P:=P) w bb bm l.length seen.reverse.toArray (eL vk l 0).toArray l.length {key:=.string (l.getD j (⟨#[]⟩,0)).1,val:=vk.val (l.getD j (⟨#[]⟩,0)).2,born:=j} hh hhm (by simpa using kK) (by rw[show(eL vk l 0).toArray.toList=eL vk l 0 from rfl,ID];exact List.nodup_range');exact⟨.tuple #[.string (l.getD j (⟨#[]⟩,0)).1,vk.val (l.getD j (⟨#[]⟩,0)).2],by simp[execOp,ho,ex,a7],[.string (l.getD j (⟨#[]⟩,0)).1,vk.val (l.getD j (⟨#[]⟩,0)).2],rfl,rfl,Zi _ _ _,trivial⟩
end
def wO.len{M:Mem}:∀{l:List (ta×Nat×DV)} {vs:List wa},wO M l vs->l.length=vs.length
 |[],[],_=>rfl
 |(_,_,_)::_,_::_,h=>Na (· +1) (wO.len h.2)
 |[],_::_,h=>h.elim
 |(_,_,_)::_,[],h=>h.elim
def DU{M:Mem}:∀{l:List (ta×Nat×DV)} {vs:List wa},wO M l vs->∀e,e∈lY l vs↔∃(j:Nat) (q:ta×Nat×DV) (v:wa),l[j]? =some q/\vs[j]? =some v/\e= {key:=.string q.1,val:=v,born:=q.2.1}
 |[],[],_,e=>by simp[lY]
 |(k,b,x)::r,v::vs,h,e=>by
  simp only[lY,wb,DU h.2 e];constructor
  ·rintro(rfl|⟨j,q,u,h1,h2,h3⟩)
   ·exact⟨0,(k,b,x),v,rfl,rfl,rfl⟩
   exact⟨j+1,q,u,h1,h2,h3⟩
  rintro⟨j,q,u,h1,h2,h3⟩
  cases j with
  |zero=>cases h1;cases h2;exact .inl h3
  |succ j=>exact .inr ⟨j,q,u,h1,h2,h3⟩
 |[],_::_,h,_=>h.elim
 |(_,_,_)::_,[],h,_=>h.elim
def wO.get{M:Mem}:∀{l:List (ta×Nat×DV)} {vs:List wa} {j:Nat} {q:ta×Nat×DV} {v:wa},wO M l vs->l[j]? =some q->vs[j]? =some v->q.2.2.bI M v
 |(k,b,x)::r,v::vs,0,q,u,h,h1,h2=>by cases h1;cases h2;exact h.1
 |(k,b,x)::r,v::vs,j+1,q,u,h,h1,h2=>wO.get (l:=r) (vs:=vs) (j:=j) h.2 h1 h2
 |[],[],_,_,_,_,h1,_=>by simp at h1
 |[],_::_,_,_,_,h,_,_=>h.elim
 |(_,_,_)::_,[],_,_,_,h,_,_=>h.elim
def IF{M:Mem}:∀{l:List (ta×Nat×DV)} {vs:List wa},wO M l vs->(lY l vs).map (·.born)=l.map (·.2.1)
 |[],[],_=>rfl
 |(k,b,x)::r,v::vs,h=>by simp only[lY,Le,IF h.2]
 |[],_::_,h=>h.elim
 |(_,_,_)::_,[],h=>h.elim
def ah:List (ta×Nat×DV)->ta->Da DV
 |[],_=>none
 |(a,_,v)::r,k=>bif k==a then some v else ah r k
def LK{M:Mem}(k:ta):∀(l:List (ta×Nat×DV)) (vs:List wa) (i:Nat),wO M l vs->∃r,Instr.findNow .string (.string k) (lY l vs) i=some r/\match ah l k with
  |none=>r=none
  |some x=>∃j v,r=some (j,v)/\x.bI M v
 |[],[],_,_=>⟨none,rfl,rfl⟩
 |(a,b,x)::r,v::vs,i,h=>by
  simp only[lY,Instr.findNow,Instr.sameNow,ah]
  cases hk:k==a with
  |true=>exact⟨_,rfl,_,_,rfl,h.1⟩
  |false=>exact LK k r vs (i+1) h.2
 |[],_::_,_,h=>h.elim
 |(_,_,_)::_,[],_,h=>h.elim
section
variable{P:Ba}{I:St}{K:AV->aP->Prop}{o:Oper}
def MK(T:List (Nat×bV))(I:St)(d t:Nat)(x:Ca)(K:AV->aP->Prop):Prop:=
 fe none (ev I x) λvx=>match vx with
  |.s (.mp b)=>match aH I.box b with
   |some (some (.dm _ n))=>match dE T t with
    |some ti=>match ti.j7 with
     |.map _ _=>match aH I.box d with
      |none=>K (.s (.ptr d 0)) ((d,some (.iter b n []))::I.box)
      |some _=>False
     |_=>False
    |none=>False
   |_=>False
  |_=>False
def aH9.spec{T:List (Nat×bV)}(hT:cD P T){d t:Nat}{x:Ca}(ho:o.op=.range t x)(h:MK T I d t x K):∃r bx,K r bx/\KI P o I r bx:=by
 unfold MK at h;replace h:=Db h;obtain⟨vx,h,tB⟩:=h;split at h
 case h_2=>cases h
 rename_i b;split at h
 case h_2=>cases h
 rename_i l n hb;split at h
 case h_2=>cases h
 rename_i ti gG;split at h
 case h_2=>cases h
 rename_i kt et hu;have dB:=(hT.get gG).EM hu;split at h
 case h_2=>cases h
 rename_i hd;refine⟨_,_,h,λR N M V a w i=>?_⟩;obtain⟨bb,c,e1,ex⟩:=tB iY R N M V a w i;obtain⟨b',c',vs,e2,hh,hr⟩:=i.box b _ hb;rw[e1]at e2;cases e2;have a7:(execOp a.eval o).run P w=.ok (.value (.pointer (some ⟨w.heap.size,0,none⟩))) (w.alloc (.mapIter (some bb) n #[] n)):=by simp[execOp,ho,ex,Bw w t kt et bb _ _ dB hh]
 obtain⟨V',h1,h2,h3,h4⟩:=i.new (w':=w.alloc (.mapIter (some bb) n #[] n)) (c:=(0,0)) hd (ob:=.mapIter (some bb) n #[] n) rfl rfl rfl rfl (bc:=.iter b n []) (by intro V' e hle;exact⟨_,_,_,_,e,hle _ _ e1,Ke w _⟩);exact vw
def TE(I:St)(x:Ca)(K:AV->aP->Prop):Prop:=
 fe none (ev I x) λvx=>match vx with
  |.s (.ptr b 0)=>match aH I.box b with
   |some (some (.iter m n seen))=>match aH I.box m with
    |some (some (.dm l c))=>c=n/\(∀q∈l,q.2.1<n)/\((∀q∈l,q.2.1∈seen)->K (.t [.s (.d (.lit false))]) I.box)/\
      (∀q∈l,q.2.1∉seen->K (.t [.s (.d (.lit true)),.s (.d (.val (.string q.1))),.s (.d q.2.2)]) ((b,some (.iter m n (q.2.1::seen)))::I.box))
    |_=>False
   |_=>False
  |_=>False
def aLH.spec{x:Ca}(ho:o.op=.next x false)(h:TE I x K){R:Cx}{N:Nat}{M:Mem}{V:Nm}{a:Act}{w:Aa}(i:Inv R N M V I a w):
  ∃r bx,K r bx/\∃v w',(execOp a.eval o).run P w=.ok (.value v) w'/\r.bI M V v/\Inv R N M V ⟨I.env,bx⟩ a w'/\cE R w w':=by
 unfold TE at h
 replace h:=Db h
 obtain⟨vx,h,tB⟩:=h
 split at h
 case h_2=>cases h
 rename_i b
 split at h
 case h_2=>cases h
 rename_i m n seen hb
 split at h
 case h_2=>cases h
 rename_i l c0 hm
 obtain⟨rfl,fZ,h1,h2⟩:=h
 obtain⟨bb,c,e1,ex⟩:=tB iY R N M V a w i
 obtain⟨b',c',bm,cm,e2,em,hh⟩:=i.box b _ hb
 rw[e1]at e2;cases e2
 obtain⟨bm',cm',vs,RG,hhm,WB⟩:=i.box m _ hm
 rw[em]at RG;cases RG
 have hmm:=DU WB
 have hold:∀x∈(lY l vs).toArray.toList,x.born<c0:=by intro x hx;obtain⟨j,q,v,k1,_,k2⟩:=(hmm x).1 hx;rw[k2];exact fZ q (Dd k1)
 have kK:∀e,e∈(leftOf (lY l vs).toArray seen.reverse.toArray).toList↔∃(j:Nat) (q:ta×Nat×DV) (v:wa),l[j]? =some q/\vs[j]? =some v/\q.2.1∉seen/\e= {key:=.string q.1,val:=v,born:=q.2.1}:=by
  intro e;unfold leftOf;simp only[Yv,rf];constructor
  ·rintro⟨hx,hs⟩;obtain⟨j,q,v,k1,k2,k3⟩:=(hmm e).1 hx;refine⟨j,q,v,k1,k2,?_,k3⟩;rw[k3]at hs;simpa using hs
  rintro⟨j,q,v,k1,k2,k3,rfl⟩;exact⟨(hmm _).2 ⟨j,q,v,k1,k2,rfl⟩,by simpa using k3⟩
 rcases Cr (P:=P) w o.type bb bm c0 c0 seen.reverse.toArray (lY l vs).toArray c0 hh hhm hold (mb _)with⟨hz,a7⟩|⟨e,he,w1,V7,a7⟩
 ·refine⟨_,_,h1 (λq hq=>?_),_,w,by simp[execOp,ho,ex,a7],⟨[.bool false],rfl,rfl,trivial⟩,i,lc _ _⟩;refine Classical.byContradiction λhs=>?_
  obtain⟨j,hj⟩:=dd hq;have tC:j<vs.length:=by rw[<-WB.len];exact(Ue.1 hj).1
  have:=(kK _).2 ⟨j,q,vs[j],hj,List.getElem?_eq_getElem tC,hs,rfl⟩;have TT:(leftOf (lY l vs).toArray seen.reverse.toArray).toList=[]:=fh Gq;exact Dq
 ·obtain⟨j,q,v,k1,k2,k3,rfl⟩:=(kK e).1 he;obtain⟨q1,q2,q3,q4⟩:=vK V7;have hh1:w1.heap[bb]? =some (.mapIter (some bm) c0 seen.reverse.toArray c0):=by rw[q1];exact hh
  have qO:seen.reverse.toArray.push q.2.1=(q.2.1::seen).reverse.toArray:=sM;have QR:(execOp a.eval o).run P w=.ok (.value (.tuple #[.bool true,.string q.1,v])) (setBlock w1 bb (.mapIter (some bm) c0 (q.2.1::seen).reverse.toArray c0)):=by exact Jt
  have hw:=i.write (bc':=.iter m c0 (q.2.1::seen)) hb e1 (w':=setBlock w1 bb (.mapIter (some bm) c0 (q.2.1::seen).reverse.toArray c0)) (by rw[gC,q1]) (λk hk=>by rw[fD _ _ _ hk,q1]) q2 q3 q4
   ⟨bb,c,bm,cm,e1,em,iS hh1⟩ trivial
  exact⟨_,_,h2 q (Dd k1) k3,_,_,QR,⟨_,rfl,rfl,rfl,WB.get k1 k2,trivial⟩,hw.1,hw.2⟩
end
section
variable{P:Ba}{I:St}{g:Da Bool}{K:AV->Prop}{o:Oper}
def NU(I:St)(va:AV)(K:AV->Prop):Prop:=match va with
 |.s (.ptr b 0)=>match aH I.box b with
  |some (some (.iter m n (i::_)))=>match aH I.box m with
   |some (some (.dm l c))=>c=n/\(l.map (·.2.1)).Nodup/\∃q,q∈l/\q.2.1=i/\K (.t [.s (.d (.val (.string q.1))),.s (.d q.2.2)])
   |_=>False
  |_=>False
 |_=>False
def aJH.spec{x:Ca}(ho:o.op=.entry x)(h:fe g (ev I x) λva=>NU I va K):∃r,K r/\jW P o I g r:=by
 replace h:=Db h;obtain⟨vx,h,tB⟩:=h;unfold NU at h;split at h
 case h_2=>cases h
 rename_i b;split at h
 case h_2=>cases h
 rename_i m n j seen hb;split at h
 case h_2=>cases h
 rename_i l c0 hm;obtain⟨rfl,YP,q,hq,rfl,h⟩:=h;refine⟨_,h,λha R N M V a w i=>?_⟩;obtain⟨bb,c,e1,ex⟩:=tB ha R N M V a w i;obtain⟨b',c',bm,cm,e2,em,hh⟩:=i.box b _ hb;rw[e1]at e2;cases e2;obtain⟨bm',cm',vs,RG,hhm,WB⟩:=i.box m _ hm;rw[em]at RG;cases RG;obtain⟨j,hj⟩:=dd hq;have tC:j<vs.length:=by rw[<-WB.len];exact(Ue.1 hj).1
 have hv:=List.getElem?_eq_getElem tC;have kK:=(DU WB {key:=.string q.1,val:=vs[j],born:=q.2.1}).2 ⟨j,q,vs[j],hj,hv,rfl⟩;have qO:(q.2.1::seen).reverse.toArray=seen.reverse.toArray.push q.2.1:=sM;rw[qO]at hh;have a7:=yr (P:=P) w bb bm c0 seen.reverse.toArray (lY l vs).toArray c0 {key:=.string q.1,val:=vs[j],born:=q.2.1} hh hhm (by simpa using kK) (by rw[show(lY l vs).toArray.toList=lY l vs from rfl,IF WB];exact YP);exact⟨.tuple #[.string q.1,vs[j]],by simp[execOp,ho,ex,a7],[.string q.1,vs[j]],rfl,rfl,WB.get hj hv,trivial⟩
def BU(T:List (Nat×bV))(I:St)(op:Op):Da (List (ta×Nat×DV)×ta):=match op with
 |.lookup t x y false=>match ev I x,ev I y with
  |.s (.mp b),.s (.d (.val (.string k)))=>match aH I.box b with
   |some (some (.dm l _))=>match dE T t with
    |some ti=>match ti.j7 with
     |.map kt et=>bif yZ T kt&&(match dE T et with|some te=>(match te.zero with|[.slice none 0 0]=> !te.agg|_=>false)|none=>false)then some (l,k)else none
     |_=>none
    |none=>none
   |_=>none
  |_,_=>none
 |_=>none
def aKO:Da DV->DV
 |some x=>x
 |none=>.val (.slice none 0 0)
def BU.spec{T:List (Nat×bV)}(hT:cD P T){l:List (ta×Nat×DV)}{k:ta}(h:BU T I o.op=some (l,k)){R:Cx}{N:Nat}{M:Mem}{V:Nm}{a:Act}{w:Aa}(i:Inv R N M V I a w):
  ∃v,(execOp a.eval o).run P w=.ok (.value v) w/\(aKO (ah l k)).bI M v:=by
 unfold BU at h
 split at h
 case h_2=>cases h
 rename_i t x y oT
 split at h
 case h_2=>cases h
 rename_i b k' hx hy
 split at h
 case h_2=>cases h
 rename_i l' n hb
 split at h
 case h_2=>cases h
 rename_i ti gG
 split at h
 case h_2=>cases h
 rename_i kt et hu
 cases hc:(yZ T kt&&(match dE T et with|some te=>(match te.zero with|[.slice none 0 0]=> !te.agg|_=>false)|none=>false))with
 |false=>rw[hc]at h;cases h
 |true=>
  rw[hc]at h;simp only[cond_true,Je,Aj]at h;obtain⟨rfl,rfl⟩:=h;simp only[Bool.and_eq_true]at hc;have SK:=As hT hc.1;have dB:=(hT.get gG).EM hu;have hz:(zeroValue et).run P w=.ok (.slice none 0 0) w:=by
   have h2:=hc.2;split at h2
   case h_2=>cases h2
   rename_i te nD;split at h2
   case h_2=>cases h2
   rename_i hzz;obtain⟨ti,z,q1,q2,q3⟩:=(hT.get nD).one (by simpa using h2);rw[hzz]at q3
   cases q3
   simp[zeroValue,typeInfo,q1,q2]
  have rx:=Yb i x;have ry:=Yb i y;rw[hx]at rx;rw[hy]at ry;obtain⟨bb,c,e1,ex⟩:=rx;have ey:a.eval y=.string k':=ry;obtain⟨b',c',vs,e2,hh,WB⟩:=i.box b _ hb;rw[e1]at e2;cases e2;have jL:∀b,(Instr.checkKey b 10000 kt (.string k')).run P w=.ok () w:=λb=>jC w SK b k' 9999
  obtain⟨r,hr1,YL⟩:=LK k' l' vs 0 WB;have oL:(Instr.findKey kt (.string k') (lY l' vs)).run P w=.ok r w:=by simp[Instr.findKey,Bb SK,hr1]
  cases hf:ah l' k' with
  |none=>rw[hf]at YL;subst YL;refine⟨.slice none 0 0,?_,rfl⟩;simp only[execOp,oT,ex,ey];simp[Instr.lookup,Bb dB,MapKept.run_getObj_map hh,jL,oL,hz]
  |some xv=>rw[hf]at YL;obtain⟨j,v,rfl,hv⟩:=YL;refine⟨v,?_,hv⟩;simp only[execOp,oT,ex,ey];simp[Instr.lookup,Bb dB,MapKept.run_getObj_map hh,jL,oL]
end
def YB(T:List (Nat×bV))(t:Nat):Bool:=match dE T t with
 |some ti=>match ti.j7 with
  |.map k _=>yZ T k
  |_=>false
 |none=>false
def aLV(I:St)(x:Ca):Bool:=match ev I x with
 |.s (.ptr b 0)=>match aH I.box b with
  |some (some (.iter m _ _))=>match aH I.box m with
   |some (some (.smap _ _))=>true
   |_=>false
  |_=>false
 |_=>false
def aO6(I:St)(x:Ca):Bool:=match ev I x with
 |.s (.mp b)=>match aH I.box b with
  |some (some (.dm _ _))=>true
  |_=>false
 |_=>false
def aLW(I:St)(x:Ca):Bool:=match ev I x with
 |.s (.ptr b 0)=>match aH I.box b with
  |some (some (.iter m _ _))=>match aH I.box m with
   |some (some (.dm _ _))=>true
   |_=>false
  |_=>false
 |_=>false
def G9(T:List (Nat×bV))(I:St)(d t:Nat)(K:AV->aP->Prop):Prop:=match YB T t with
 |true=>MV T I d t K
 |false=>TF T I d t K
def nm(T:List (Nat×bV))(I:St)(t:Nat)(x y z:Ca)(K:AV->aP->Prop):Prop:=match YB T t with
 |true=>Et T I t x y z K
 |false=>Fv T I t x y z K
def GW(T:List (Nat×bV))(I:St)(d t:Nat)(x:Ca)(K:AV->aP->Prop):Prop:=match aO6 I x with
 |true=>MK T I d t x K
 |false=>match YB T t with
  |true=>MJ T I d t x K
  |false=>S6 T I d t x K
def PU(I:St)(x:Ca)(K:AV->aP->Prop):Prop:=match aLW I x with
 |true=>TE I x K
 |false=>match aLV I x with
  |true=>TD I x K
  |false=>tu I x K
def IG(I:St)(x:Ca)(K:AV->Prop):Prop:=match aLW I x with
 |true=>fe none (ev I x) λva=>NU I va K
 |false=>match aLV I x with
  |true=>fe none (ev I x) λva=>NT I va K
  |false=>fe none (ev I x) λva=>UE I va K
def rX(T:List (Nat×bV))(I:St)(t:Nat)(ok:Bool)(g:Da Bool)(va vb:AV)(K:AV->Prop):Prop:=match YB T t with
 |true=>qK T I t ok g va vb K
 |false=>xE T I t ok g va vb K
section
variable{P:Ba}{T:List (Nat×bV)}{I:St}{o:Oper}
def G9.spec{K:AV->aP->Prop}{d t:Nat}(ho:o.op=.makeMap t none)(h:G9 T I d t K):∃r bx,K r bx/\KI P o I r bx:=by
 unfold G9 at h;split at h
 ·exact aIP.spec ho h
 exact mkMap.spec ho h
def nm.spec{K:AV->aP->Prop}(hT:cD P T){t:Nat}{x y z:Ca}(ho:o.op=.mapUpdate t x y z)(h:nm T I t x y z K):∃r bx,K r bx/\KI P o I r bx:=by
 unfold nm at h;split at h
 ·exact aN6.spec hT ho h
 exact dh.spec hT ho h
def GW.spec{K:AV->aP->Prop}(hT:cD P T){d t:Nat}{x:Ca}(ho:o.op=.range t x)(h:GW T I d t x K):∃r bx,K r bx/\KI P o I r bx:=by
 unfold GW at h;split at h
 ·exact aH9.spec hT ho h
 split at h
 ·exact aH8.spec hT ho h
 exact range.spec hT ho h
def PU.spec{K:AV->aP->Prop}{x:Ca}(ho:o.op=.next x false)(h:PU I x K){R:Cx}{N:Nat}{M:Mem}{V:Nm}{a:Act}{w:Aa}(i:Inv R N M V I a w):
  ∃r bx,K r bx/\∃v w',(execOp a.eval o).run P w=.ok (.value v) w'/\r.bI M V v/\Inv R N M V ⟨I.env,bx⟩ a w'/\cE R w w':=by
 unfold PU at h
 split at h
 ·exact aLH.spec ho h i
 split at h
 ·exact aLG.spec ho h i
 ·exact next.spec ho h i
def IG.spec{K:AV->Prop}{x:Ca}(ho:o.op=.entry x)(h:IG I x K):∃r,K r/\jW P o I none r:=by
 unfold IG at h;split at h
 ·exact aJH.spec ho h
 split at h
 ·exact aJG.spec ho h
 exact entry.spec ho h
def rX.spec{g:Da Bool}{K:AV->Prop}(hT:cD P T){t:Nat}{x y:Ca}{ok:Bool}(ho:o.op=.lookup t x y ok)(h:fe g (ev I x) λva=>fe g (ev I y) λvb=>rX T I t ok g va vb K):
  ∃r,K r/\jW P o I g r:=by
 unfold rX at h
 split at h
 ·exact aLK.spec hT ho h
 ·exact look.spec hT ho h
end
end Go.Ax
namespace Go.Ax
open Go.RowKit
def zW(P:Ba)(w:Aa)(t ty e:Ea)(i:TypeInfo)(ht:P.underlying t=some (.slice e))(hi:P.info? e=some i)
  (g o DB S0:Nat) (cur:Array wa) (hg:w.heap[g]? =some (.cells cur e (0,0)))
  (a:Addr) (m c:Nat) (news:List wa) (hl:news.length=m*i.size) (aL5:∀j u,news[j]? =some u->w.cell? (a.add j)=some u) (h1:∀u∈news,u.oneCell'=true)
  (rY:DB+m<=S0) (oW:o+DB*i.size+news.length<=cur.size):
  (Builtin.append_ #[t,t] ty #[.slice (some ⟨g,o,none⟩) DB S0,.slice (some a) m c]).run P w=
   .ok (.slice (some ⟨g,o,none⟩) (DB+m) S0) (w.setRow g (cur.toList.take (o+DB*i.size)++news++cur.toList.drop (o+DB*i.size+news.length)).toArray):=by
 have hf:=run_firstCells_some (P:=P) w i.size m a m c news hl aL5
 have jO:=wy P g (o+DB*i.size) e news 0 cur w hg (by simpa using oW) h1
 simp only[nh]at jO
 simp[Builtin.append_,Bb ht,sizeOf,typeInfo,hi,Builtin.lenOf,rY,hf,jV,jO]
section
variable{P:Ba}{I:St}{K:AV->aP->Prop}{o:Oper}
def Ot(T:List (Nat×bV))(I:St)(d t:Nat)(x y:Ca)(K:AV->aP->Prop):Prop:=
 fe none (ev I x) λvx=>fe none (ev I y) λvy=>match dE T t with
  |some ti=>match ti.j7 with
   |.slice e=>match dE T e with
    |some te=>match aH I.box d with
     |none=>match sF I vy with
      |some (m,s',g)=>bif Nat.beq s' te.size&&Nat.blt 0 te.size&&Nat.blt 0 te.bytes&&Nat.beq te.zero.length te.size then
       match vx with
       |.s (.j0 b s2 lo n)=>match aH I.box b with
        |some (some (.row e' _ s f))=>bif Nat.beq e' e&&Nat.beq s te.size&&Nat.beq s2 te.size then
          0<=m/\(lo+n+m)*te.bytes<=140737488355328/\fitAll m s' g/\
          K (.s (.j0 d te.size lo (n+m))) ((d,some (.row e (lo+n+m) te.size (jM (lo+n) f g)))::(b,none)::I.box)/\
          K (.s (.j0 d te.size 0 (n+m))) ((d,some (.row e (n+m) te.size (jM n (λi=>f (lo+i)) g)))::(b,none)::I.box)
          else False
        |_=>False
       |_=>False
       else False
      |none=>False
     |some _=>False
    |none=>False
   |_=>False
  |none=>False
def aQA.spec{T:List (Nat×bV)}(hT:cD P T){d t:Nat}{x y:Ca}(ho:o.op=.call {callee:=.builtin .append,args:= #[x,y],argTypes:= #[t,t]})
  (h:Ot T I d t x y K) {R:Cx} {N:Nat} {M:Mem} {V:Nm} {a:Act} {w:Aa} (i:Inv R N M V I a w):∃r bx,K r bx/\OI P o I R N M a w r bx:=by
 unfold Ot at h
 replace h:=Db h
 obtain⟨vx,h,tB⟩:=h
 replace h:=Db h
 obtain⟨vy,h,JV⟩:=h
 split at h
 case h_2=>cases h
 rename_i ti gG
 have gF:=hT.get gG
 split at h
 case h_2=>cases h
 rename_i e hu
 have dB:P.underlying t=some (.slice e):=gF.isSlice hu
 split at h
 case h_2=>cases h
 rename_i te nD
 have mS:=hT.get nD
 split at h
 case h_2=>cases h
 rename_i hd
 split at h
 case h_2=>cases h
 rename_i m s' g xN
 cases hc:(Nat.beq s' te.size&&Nat.blt 0 te.size&&Nat.blt 0 te.bytes&&Nat.beq te.zero.length te.size)with
 |false=>rw[hc]at h;cases h
 |true=>
  rw[hc]at h
  simp only[cond_true]at h
  simp only[Bool.and_eq_true]at hc
  have c1:=Mb hc.1.1.1
  have c2:0<te.size:=Dc hc.1.1.2
  have c3:0<te.bytes:=Dc hc.1.2
  have c4:=Mb hc.2
  subst c1
  obtain⟨ie,z,EU,y8,QZ,SM,LB⟩:=mS.K8
  have JU:z.cells.size=te.size:=by rw[<-Array.length_toList,LB,c4]
  have run:∀(w':Aa) (r:wa),(Builtin.append_ #[t,t] o.type #[a.eval x,a.eval y]).run P w=.ok r w'->(execOp a.eval o).run P w=.ok (.value r) w':=by
   exact Ou
  split at h
  case h_2=>cases h
  rename_i b s2 lo n
  split at h
  case h_2=>cases h
  rename_i e' n0 s f hb
  cases pV:(Nat.beq e' e&&Nat.beq s te.size&&Nat.beq s2 te.size)with
  |false=>rw[pV]at h;cases h
  |true=>
   rw[pV]at h
   simp only[cond_true]at h
   simp only[Bool.and_eq_true]at pV
   have k1:=(Mb pV.1.1).symm
   have k2:=Mb pV.1.2
   have k3:=Mb pV.2
   subst k1;subst k2;subst k3
   obtain⟨_,mT,oW,hK1,hK2⟩:=h
   obtain⟨k,c,o',e1,ex,hoo,hln,wI⟩:=tB iY R N M V a w i
   obtain⟨k',c',cur,e2,hh,hlen,mL,hn0,I9,cY⟩:=i.box b _ hb
   rw[e1]at e2;cases e2
   obtain⟨ad,cap,ey,hy⟩:=Ak i xN (JV iY R N M V a w i)
   by_cases hm0:m=0
   ·subst hm0
    have ES:(Builtin.append_ #[t,t] o.type #[a.eval x,a.eval y]).run P w=.ok (.slice (some ⟨k,o',none⟩) (n+0) (c.1-lo)) w:=by
     have hf:(Builtin.firstCells te.size 0 (.slice ad 0 cap)).run P w=.ok #[] w:=by
      exact zdg
     have hn:n<=c.1-lo:=O
     rw[ex,ey]
     exact zbP
    obtain⟨V',iX,HT,hinv,qQ⟩:=i.move (c':=(c.1,lo+n+0)) (bc':=.row e (lo+n+0) te.size (jM (lo+n) f g)) hb e1 hd
     (w':=w) rfl (λj hj=>rfl) rfl rfl rfl (by
      intro V' iX _
      refine⟨k,_,_,iX,hh,rfl,mL,by show lo+n+0<=c.1;omega,I9,λp j hp hj=>?_⟩
      obtain⟨u,hu,hr⟩:=cY p j O hj
      exact⟨u,hu,by unfold jM;rw[La O];exact hr⟩)
    exact⟨_,_,hK1,_,_,M,V',.inl (run _ _ ES),⟨k,_,o',iX,rfl,hoo,by show lo+(n+0)<=lo+n+0;omega,by show lo+n+0<=c.1;omega⟩,hinv,fb _ _,qQ⟩
   have hm:0<m:=O
   obtain⟨bad,news,rfl,hl,kB,pL⟩:=DI c2 hm hy
   have hnm:lo+n+m<=140737488355328:=Xb (Sq _ c3) mT
   have h1:∀u∈news,u.oneCell'=true:=by
    exact ui
   by_cases rY:lo+n+m<=c.1
   ·
    have DR:lo<c.1:=O
    have sO:=hoo DR
    subst sO
    have aLY:(lo+n)*te.size+m*te.size<=cur.size:=by rw[mL,<-Nat.add_mul];exact Vc _ rY
    have hmul:lo*te.size+n*te.size=(lo+n)*te.size:=(de _ _ _).symm
    have ES:=zW P w t o.type e ie dB EU k (lo*te.size) n (c.1-lo) cur hh bad m cap news Sm kB h1 O (by rw[y8,hl,hmul];exact aLY)
    rw[y8,hmul,<-ex,<-ey]at ES
    have TP:(cur.toList.take ((lo+n)*te.size)).length=(lo+n)*te.size:=by simp;omega
    obtain⟨V',iX,HT,hinv,qQ⟩:=i.move (c':=(c.1,lo+n+m)) (bc':=.row e (lo+n+m) te.size (jM (lo+n) f g)) hb e1 hd
     (w':=w.setRow k (cur.toList.take ((lo+n)*te.size)++news++cur.toList.drop ((lo+n)*te.size+news.length)).toArray) sM (λj hj=>Nl w k j _ hj) rfl rfl rfl (by
      intro V' iX _
      refine⟨k,_,_,iX,Rl w k cur _ e _ hh,rfl,by simp;omega,rY,I9,λp j hp hj=>?_⟩
      simp only[Jl,jM]
      by_cases QT:p<lo+n
      ·obtain⟨u,hu,hr⟩:=cY p j O hj
       have fZ:p*te.size+j<(lo+n)*te.size:=by
        have:(p+1)*te.size<=(lo+n)*te.size:=Vc _ QT
        exact qp
       exact zaw
      ·obtain⟨u,hu,hr⟩:=pL (p-(lo+n)) j O hj
       refine⟨u,?_,by rw[Ka QT];exact hr⟩
       have hpe:p*te.size+j=(lo+n)*te.size+((p-(lo+n))*te.size+j):=by
        have:p=lo+n+(p-(lo+n)):=O
        rw[<-Nat.add_assoc,<-Nat.add_mul,<-this]
       have fZ:(p-(lo+n))*te.size+j<m*te.size:=by
        have:(p-(lo+n)+1)*te.size<=m*te.size:=Vc _ O
        exact qp
       rw[hpe,Ti,Gd O,TP,Tq,Jc O]
       exact hu)
    exact⟨_,_,hK1,_,_,M,V',.inl (run _ _ ES),⟨k,_,_,iX,rfl,λ_=>rfl,by show lo+(n+m)<=lo+n+m;omega,rY⟩,hinv,fb _ _,qQ⟩
   ·
    have aCH:((cur.toList.drop (lo*te.size)).take (n*te.size)).length=n*te.size:=by
     have:(lo+n)*te.size<=c.1*te.size:=Vc _ O
     rw[de]at this
     simp;omega
    have SN:=run_append_grow (P:=P) w t o.type e ie z dB EU SM ⟨k,o',none⟩ n (c.1-lo) ((cur.toList.drop (lo*te.size)).take (n*te.size)) (by rw[y8];exact aCH) (by
     intro j v hv
     rw[iy]at hv
     split at hv
     ·rename_i hj
      have aQJ:0<n:=by
       rcases fy n with h0|h0
       ·rw[h0]at hj;simp at hj
       ·exact h0
      rw[hoo O,jV]
      rw[Ri]at hv
      simp[World.cell?,hh];simpa using hv
     ·cases hv) bad m cap news Sm kB O O (by
     rw[QZ];exact growslice_fits O (Xb (Vc _ O) mT))
    rw[<-ex,<-ey]at SN
    have FK:=Vn w (n+m) (c.1-lo) e
    have T2:=Yq w (n+m) (c.1-lo) e Lm
    have ik:=i.kill hb
    have hd':aH ((b,none)::I.box) d=none:=by
     exact Dv
    obtain⟨V',q1,q2,q3,q4⟩:=ik.new (I:=⟨I.env,(b,none)::I.box⟩) (c:=(grownCap w (n+m) (c.1-lo) e,n+m)) (w':=w.drew.alloc (.cells (((cur.toList.drop (lo*te.size)).take (n*te.size)).toArray++news.toArray++Builtin.zeroCells z.cells (grownCap w (n+m) (c.1-lo) e-(n+m))) e)) hd' rfl rfl rfl rfl (bc:=.row e (n+m) te.size (jM n (λi=>f (lo+i)) g)) (by
     intro V' iX _
     refine⟨_,_,_,iX,Ke w.drew _,rfl,?_,FK,T2,λp j hp hj=>?_⟩
     ·simp only[br,Ln,sr,JU,hl,aCH,<-Nat.add_mul]
      congr 1;omega
     ·have nI:(((cur.toList.drop (lo*te.size)).take (n*te.size)).toArray++news.toArray++Builtin.zeroCells z.cells (grownCap w (n+m) (c.1-lo) e-(n+m)))[p*te.size+j]? =((cur.toList.drop (lo*te.size)).take (n*te.size)++(news++(Builtin.zeroCells z.cells (grownCap w (n+m) (c.1-lo) e-(n+m))).toList))[p*te.size+j]? :=by
       rw[<-Array.getElem?_toList]
       simp
      rw[nI]
      simp only[jM]
      by_cases QT:p<n
      ·obtain⟨u,hu,hr⟩:=cY (lo+p) j O hj
       have fZ:p*te.size+j<n*te.size:=by
        exact xr
       refine⟨u,?_,by rw[La QT];exact hr⟩
       rw[Jc O,Ni fZ,Ri]
       rw[show lo*te.size+(p*te.size+j)=(lo+p)*te.size+j by rw[de];omega]
       simpa using hu
      ·obtain⟨u,hu,hr⟩:=pL (p-n) j O hj
       refine⟨u,?_,by rw[Ka QT];exact hr⟩
       have hpe:p*te.size+j=n*te.size+((p-n)*te.size+j):=by
        exact Ut
       have fZ:(p-n)*te.size+j<m*te.size:=by
        exact xg
       rw[hpe,Gd O,aCH,Tq,Jc O]
       exact hu)
    exact⟨_,_,hK2,_,_,M,V',.inl (run _ _ SN),⟨_,_,0,q1,rfl,λ_=>by simp,by show 0+(n+m)<=n+m;omega,FK⟩,q3,fb _ _,q4⟩
def Bu(T:List (Nat×bV))(I:St)(d t t':Nat)(x y:Ca)(K:AV->aP->Prop):Prop:=
 fe none (ev I x) λvx=>fe none (ev I y) λvy=>match vx,vy with
  |.s (.d (.val (.slice none 0 0))),.s (.d (.val (.int .i64 n)))=>match dE T t with
   |some ti=>match ti.j7 with
    |.slice e=>match dE T e with
     |some te=>bif TK T t'&&Nat.beq te.size 1&&Nat.blt 0 te.bytes&&Nat.beq te.zero.length 1 then match aH I.box d with
      |none=>0<n/\n*te.bytes<=140737488355328/\K (.s (.own d)) ((d,some (.row e n.toNat 1 λ_ j=>match (iB te.zero)[j]? with|some c=>OP c|none=>.bL))::I.box)
      |some _=>False
      else False
     |none=>False
    |_=>False
   |none=>False
  |_,_=>False
def aQB.spec{T:List (Nat×bV)}(hT:cD P T){d t t':Nat}{x y:Ca}(ho:o.op=.call {callee:=.builtin .append,args:= #[x,y],argTypes:= #[t,t']})
  (h:Bu T I d t t' x y K):∃r bx,K r bx/\KI P o I r bx:=by
 unfold Bu at h
 replace h:=Db h
 obtain⟨vx,h,tB⟩:=h
 replace h:=Db h
 obtain⟨vy,h,JV⟩:=h
 split at h
 case h_2=>cases h
 rename_i n
 split at h
 case h_2=>cases h
 rename_i ti gG
 split at h
 case h_2=>cases h
 rename_i e hu
 have dB:=(hT.get gG).isSlice hu
 split at h
 case h_2=>cases h
 rename_i te nD
 have mS:=hT.get nD
 cases hc:(TK T t'&&Nat.beq te.size 1&&Nat.blt 0 te.bytes&&Nat.beq te.zero.length 1)with
 |false=>rw[hc]at h;cases h
 |true=>
  rw[hc]at h;simp only[cond_true]at h;simp only[Bool.and_eq_true]at hc;have ht':=Zr hT hc.1.1.1;have c2:=Mb hc.1.1.2;have c3:0<te.bytes:=Dc hc.1.2;have c4:=Mb hc.2;split at h
  case h_2=>cases h
  rename_i hd;obtain⟨h0,hb,h⟩:=h;refine⟨_,_,h,λR N M V a w i=>?_⟩;obtain⟨m,rfl⟩:=Tx (Int.le_of_lt h0);have hm:0<m:=O;have ex:a.eval x=.slice none 0 0:=tB iY R N M V a w i;have ey:a.eval y=.int .i64 m:=JV iY R N M V a w i;obtain⟨ie,z,EU,y8,QZ,SM,LB⟩:=mS.K8;have hzs:z.cells.size=1:=by rw[<-Array.length_toList,LB,c4]
  have hmb:m*te.bytes<=140737488355328:=Int.ofNat_le.1 (by rw[Int.natCast_mul];exact hb);have hml:m<=140737488355328:=Xb (Sq _ c3) hmb;have hw:IntKind.i64.wrap (m:Int)=m:=Aw m Ha;have aCD:(Builtin.append_ #[t,t'] o.type #[.slice none 0 0,.int .i64 m]).run P w=.ok (.slice (some ⟨w.heap.size,0,none⟩) m (grownCap w m 0 e)) (w.drew.alloc (.cells (Builtin.zeroCells z.cells m++Builtin.zeroCells z.cells (grownCap w m 0 e-m)) e)):=by
   have t1:¬((m:Int)<0):=O;have t2:¬((281474976710656:Int)<(m:Int)*te.bytes):=Int.not_lt.2 (Tn hb dC);have t3:¬m=0:=O;have t4:¬((9223372036854775807:Int)<(m:Int)):=O;have t5:¬(281474976710656<Builtin.nextslicecap m 0*te.bytes):=by rw[nextslicecap_zero hm];omega
   simp[Builtin.append_,Bb dB,Bb ht',asInt,asIntOf,sizeOf,typeInfo,zeroValue,EU,QZ,y8,c2,SM,hw,t1,t2,t3,t4,t5,Question.forced,run_firstCells_none,newRow,grownCap]
  have a7:(execOp a.eval o).run P w=.ok (.value (.slice (some ⟨w.heap.size,0,none⟩) m (grownCap w m 0 e))) (w.drew.alloc (.cells (Builtin.zeroCells z.cells m++Builtin.zeroCells z.cells (grownCap w m 0 e-m)) e)):=by simp[execOp,ho,resolve,invoke,builtin,ex,ey,aCD]
  have FK:=Vn w m 0 e;have T2:=Yq w m 0 e Lm;have kB:∀q,q<m->(Builtin.zeroCells z.cells m++Builtin.zeroCells z.cells (grownCap w m 0 e-m))[q]? =some z.cells[0]:=by
   intro q hq;have mL:(Builtin.zeroCells z.cells m).size=m:=by rw[sr,hzs,oh]
   rw[Bz (by rw[mL];exact hq)];unfold Builtin.zeroCells;simp only[Array.getElem?_map,Array.getElem?_range,hzs,oh,hq,Xi,lr,Nat.mod_one,Sf z.cells 0 O]
  obtain⟨V',b1,b2,b3,b4⟩:=i.new (w':=w.drew.alloc (.cells (Builtin.zeroCells z.cells m++Builtin.zeroCells z.cells (grownCap w m 0 e-m)) e)) (c:=(grownCap w m 0 e,m)) hd (ob:=.cells (Builtin.zeroCells z.cells m++Builtin.zeroCells z.cells (grownCap w m 0 e-m)) e) rfl rfl rfl rfl
   (bc:=.row e m 1 λ_ j=>match (iB te.zero)[j]? with|some c=>OP c|none=>.bL) (by
   intro V' iX _
   refine⟨_,_,_,iX,Ke w.drew _,rfl,?_,FK,T2,λk j hk hj=>?_⟩
   ·simp only[br,sr,hzs];omega
   obtain rfl:j=0:=O
   refine⟨z.cells[0],by rw[oh,nh];exact kB k hk,?_⟩
   have tC:0<te.zero.length:=by rw[c4];omega
   have hzj:z.cells[0]=te.zero[0]:=by
    have:z.cells.toList[0]? =te.zero[0]? :=by rw[LB]
    have hz0:0<z.cells.size:=O;simpa[hz0,tC]using this
   have hlen:(iB te.zero).length=te.zero.length:=by have:=(Wh M V te.zero).length;omega
   obtain⟨u,hu,hr⟩:=(Wh M V te.zero).get (List.getElem?_eq_getElem (by rw[hlen];exact tC:0<(iB te.zero).length))
   rw[List.getElem?_eq_getElem tC]at hu
   cases hu
   simp only[List.getElem?_eq_getElem (by rw[hlen];exact tC:0<(iB te.zero).length)]
   rw[hzj]
   have had:∀l:List wa,o5 (iB l)=true:=zcS
   have:=Ek (had te.zero) (List.getElem?_eq_getElem (by rw[hlen];exact tC:0<(iB te.zero).length))
   rw[this]at hr
   exact hr)
  exact⟨_,_,M,V',.inl a7,⟨_,_,b1,rfl,FK⟩,b3,fb _ _,b4⟩
end
def look(ren:List (Nat×Nat))(x:Nat):Nat:=
 match ren with
 |[]=>x
 |(a,b)::r=>bif Nat.beq a x then b else look r x
def GR(ren:List (Nat×Nat)):CV->CV
 |.d x=>.d x
 |.ptr x off=>.ptr (look ren x) off
def GP(ren:List (Nat×Nat)):List CV->List CV
 |[]=>[]
 |x::r=>GR ren x::GP ren r
def wF(ren:List (Nat×Nat)):SV->SV
 |.d x=>.d x
 |.ptr x off=>.ptr (look ren x) off
 |.own x=>.own (look ren x)
 |.mo z x=>.mo z (look ren x)
 |.rw x i s o=>.rw (look ren x) i s o
 |.dZ f cs=>.dZ f (GP ren cs)
 |.j0 x s lo n=>.j0 (look ren x) s lo n
 |.mp x=>.mp (look ren x)
def mC(ren:List (Nat×Nat)):List SV->List SV
 |[]=>[]
 |x::r=>wF ren x::mC ren r
def Vm(ren:List (Nat×Nat)):TV->TV
 |.s x=>.s (wF ren x)
 |.g cs=>.g (mC ren cs)
def BF(ren:List (Nat×Nat)):List TV->List TV
 |[]=>[]
 |x::r=>Vm ren x::BF ren r
def oC(ren:List (Nat×Nat)):AV->AV
 |.s x=>.s (wF ren x)
 |.g cs=>.g (mC ren cs)
 |.ib b x=>.ib b (wF ren x)
 |.ig b cs=>.ig b (mC ren cs)
 |.t ts=>.t (BF ren ts)
def zG(ren:List (Nat×Nat)):List AV->List AV
 |[]=>[]
 |x::r=>oC ren x::zG ren r
def jX(ren:List (Nat×Nat)):jK->jK
 |.cells cs=>.cells (mC ren cs)
 |.row e n s f=>.row e n s f
 |.b8 e n s f=>.b8 e n s f
 |.map vk l=>.map vk l
 |.smap vk l=>.smap vk l
 |.dm l n=>.dm l n
 |.fresh T vs=>.fresh T vs
 |.iter m n seen=>.iter (look ren m) n seen
def Fi(xs:List Nat):List CV->Bool
 |[]=>true
 |.d _::r=>Fi xs r
 |.ptr x _::r=>xs.contains x&&Fi xs r
def LA(xs:List Nat):SV->Bool
 |.d _=>true
 |.ptr x _=>xs.contains x
 |.own x=>xs.contains x
 |.mo _ x=>xs.contains x
 |.rw x _ _ _=>xs.contains x
 |.dZ _ cs=>Fi xs cs
 |.j0 x _ _ _=>xs.contains x
 |.mp x=>xs.contains x
def HQ(xs:List Nat):List SV->Bool
 |[]=>true
 |x::r=>LA xs x&&HQ xs r
def inT(xs:List Nat):TV->Bool
 |.s x=>LA xs x
 |.g cs=>HQ xs cs
def QM(xs:List Nat):List TV->Bool
 |[]=>true
 |x::r=>inT xs x&&QM xs r
def YH(xs:List Nat):AV->Bool
 |.s x=>LA xs x
 |.g cs=>HQ xs cs
 |.t ts=>QM xs ts
 |_=>false
def en(xs:List Nat):List AV->Bool
 |[]=>true
 |x::r=>YH xs x&&en xs r
def SF(xs:List Nat):jK->Bool
 |.cells cs=>HQ xs cs
 |.row _ _ _ _=>true
 |.b8 _ _ _ _=>false
 |.map _ _=>true
 |.smap _ _=>true
 |.dm _ _=>true
 |.fresh _ _=>true
 |.iter m _ _=>xs.contains m
section
variable{M:Mem}{ren:List (Nat×Nat)}{xs:List Nat}{V V':Nm}
def GR.rep(h:∀x,x∈xs->∀p,V (look ren x)=some p->V' x=some p):∀{cs:List CV} {vs:List wa},Fi xs cs=true->vO M V (GP ren cs) vs->vO M V' cs vs
 |[],[],_,_=>trivial
 |.d _::_,_::_,hi,⟨a,r⟩=>⟨a,GR.rep h (by simpa[Fi]using hi) r⟩
 |.ptr x off::_,_::_,hi,⟨⟨b,c,e,hv⟩,r⟩=>by simp only[Fi,Bool.and_eq_true]at hi;exact⟨⟨b,c,h x (by simpa using hi.1) _ e,hv⟩,GR.rep h hi.2 r⟩
 |[],_::_,_,h=>h.elim
 |_::_,[],_,h=>h.elim
def wF.rep(h:∀x,x∈xs->∀p,V (look ren x)=some p->V' x=some p){x:SV}{v:wa}(hi:LA xs x=true)(r:(wF ren x).bI M V v):x.bI M V' v:=by
 cases x with
 |d x=>exact r
 |ptr x off=>obtain⟨b,c,e,hv⟩:=r;exact⟨b,c,h x Lg _ e,hv⟩
 |own x=>obtain⟨b,c,e,hv⟩:=r;exact⟨b,c,h x Lg _ e,hv⟩
 |mo z x=>exact⟨r.1,λhz=>let⟨b,c,e,hv⟩:=r.2 hz;⟨b,c,h x Lg _ e,hv⟩⟩
 |rw x i s o=>obtain⟨b,c,e,hv⟩:=r;exact⟨b,c,h x Lg _ e,hv⟩
 |dZ f cs=>obtain⟨vs,e,hv⟩:=r;exact⟨vs,e,GR.rep h hi hv⟩
 |j0 x s lo n=>obtain⟨b,c,o,e,hv⟩:=r;exact⟨b,c,o,h x Lg _ e,hv⟩
 |mp x=>obtain⟨b,c,e,hv⟩:=r;exact⟨b,c,h x Lg _ e,hv⟩
def mC.rep(h:∀x,x∈xs->∀p,V (look ren x)=some p->V' x=some p):∀{cs:List SV} {vs:List wa},HQ xs cs=true->cV M V (mC ren cs) vs->cV M V' cs vs
 |[],[],_,_=>trivial
 |_::_,_::_,hi,⟨a,r⟩=>by simp only[HQ,Bool.and_eq_true]at hi;exact⟨wF.rep h hi.1 a,mC.rep h hi.2 r⟩
 |[],_::_,_,h=>h.elim
 |_::_,[],_,h=>h.elim
def yo:=@mC.rep
def oC.rep(h:∀x,x∈xs->∀p,V (look ren x)=some p->V' x=some p){x:AV}{v:wa}(hi:YH xs x=true)(r:(oC ren x).bI M V v):x.bI M V' v:=by
 cases x with
 |s x=>exact wF.rep h hi r
 |g cs=>obtain⟨vs,e,hv⟩:=r;exact⟨vs,e,yo h hi hv⟩
 |t ts=>
  obtain⟨vs,e,hv⟩:=r;refine⟨vs,e,?_⟩;have:∀{ts:List TV} {vs:List wa},QM xs ts=true->rF M V (BF ren ts) vs->rF M V' ts vs:=by
   intro ts;induction ts with
   |nil=>
    intro vs _ hr
    cases vs with
    |nil=>trivial
    |cons _ _=>exact hr.elim
   |cons t r ih=>
    intro vs hi hr;simp only[QM,Bool.and_eq_true]at hi
    cases vs with
    |nil=>exact hr.elim
    |cons u us=>
     refine⟨?_,ih hi.2 hr.2⟩
     cases t with
     |s x=>exact wF.rep h hi.1 hr.1
     |g cs=>obtain⟨q,e,hq⟩:=hr.1;exact⟨q,e,yo h hi.1 hq⟩
  exact this hi hv
 |_=>cases hi
def Lo:=@oC.rep
def zG.rep(h:∀x,x∈xs->∀p,V (look ren x)=some p->V' x=some p):∀{cs:List AV} {vs:List wa},en xs cs=true->gZ M V (zG ren cs) vs->gZ M V' cs vs
 |[],[],_,_=>trivial
 |_::_,_::_,hi,⟨a,r⟩=>by simp only[en,Bool.and_eq_true]at hi;exact⟨Lo h hi.1 a,zG.rep h hi.2 r⟩
 |[],_::_,_,h=>h.elim
 |_::_,[],_,h=>h.elim
def jX.rep(h:∀x,x∈xs->∀p,V (look ren x)=some p->V' x=some p){w:Aa}{x:Nat}{b:jK}(hx:x∈xs)(hi:SF xs b=true)(r:cN M V w (look ren x) (jX ren b)):cN M V' w x b:=by
 cases b with
 |cells cs=>obtain⟨k,c,vs,T,us,e,hh,hr⟩:=r;exact⟨k,c,vs,T,us,h x hx _ e,hh,yo h hi hr⟩
 |row e n s f=>obtain⟨k,c,cur,e',r⟩:=r;exact⟨k,c,cur,h x hx _ e',r⟩
 |b8 e n s f=>cases hi
 |map vk l=>obtain⟨k,c,e,hh⟩:=r;exact⟨k,c,h x hx _ e,hh⟩
 |smap vk l=>obtain⟨k,c,e,hh⟩:=r;exact⟨k,c,h x hx _ e,hh⟩
 |dm l n=>obtain⟨k,c,vs,e,hh⟩:=r;exact⟨k,c,vs,h x hx _ e,hh⟩
 |fresh T vs=>obtain⟨k,c,e,hh⟩:=r;exact⟨k,c,h x hx _ e,hh⟩
 |iter m n seen=>obtain⟨k,c,bm,cm,e,em,hh⟩:=r;exact⟨k,c,bm,cm,h x hx _ e,h m (by simpa[SF]using hi) _ em,hh⟩
def tf:=@jX.rep
def Cs(h:∀x,x∈xs->∀p,V' x=some p->V (look ren x)=some p):∀{cs:List CV} {vs:List wa},Fi xs cs=true->vO M V' cs vs->vO M V (GP ren cs) vs
 |[],[],_,_=>trivial
 |.d _::_,_::_,hi,⟨a,r⟩=>⟨a,Cs h (by simpa[Fi]using hi) r⟩
 |.ptr x off::_,_::_,hi,⟨⟨b,c,e,hv⟩,r⟩=>by simp only[Fi,Bool.and_eq_true]at hi;exact⟨⟨b,c,h x (by simpa using hi.1) _ e,hv⟩,Cs h hi.2 r⟩
 |[],_::_,_,h=>h.elim
 |_::_,[],_,h=>h.elim
def Tr(h:∀x,x∈xs->∀p,V' x=some p->V (look ren x)=some p){x:SV}{v:wa}(hi:LA xs x=true)(r:x.bI M V' v):(wF ren x).bI M V v:=by
 cases x with
 |d x=>exact r
 |ptr x off=>obtain⟨b,c,e,hv⟩:=r;exact⟨b,c,h x Lg _ e,hv⟩
 |own x=>obtain⟨b,c,e,hv⟩:=r;exact⟨b,c,h x Lg _ e,hv⟩
 |mo z x=>exact⟨r.1,λhz=>let⟨b,c,e,hv⟩:=r.2 hz;⟨b,c,h x Lg _ e,hv⟩⟩
 |rw x i s o=>obtain⟨b,c,e,hv⟩:=r;exact⟨b,c,h x Lg _ e,hv⟩
 |dZ f cs=>obtain⟨vs,e,hv⟩:=r;exact⟨vs,e,Cs h hi hv⟩
 |j0 x s lo n=>obtain⟨b,c,o,e,hv⟩:=r;exact⟨b,c,o,h x Lg _ e,hv⟩
 |mp x=>obtain⟨b,c,e,hv⟩:=r;exact⟨b,c,h x Lg _ e,hv⟩
def Ko(h:∀x,x∈xs->∀p,V' x=some p->V (look ren x)=some p):∀{cs:List SV} {vs:List wa},HQ xs cs=true->cV M V' cs vs->cV M V (mC ren cs) vs
 |[],[],_,_=>trivial
 |_::_,_::_,hi,⟨a,r⟩=>by simp only[HQ,Bool.and_eq_true]at hi;exact⟨Tr h hi.1 a,Ko h hi.2 r⟩
 |[],_::_,_,h=>h.elim
 |_::_,[],_,h=>h.elim
def oC.back(h:∀x,x∈xs->∀p,V' x=some p->V (look ren x)=some p){x:AV}{v:wa}(hi:YH xs x=true)(r:x.bI M V' v):(oC ren x).bI M V v:=by
 cases x with
 |s x=>exact Tr h hi r
 |g cs=>obtain⟨vs,e,hv⟩:=r;exact⟨vs,e,Ko h hi hv⟩
 |t ts=>
  obtain⟨vs,e,hv⟩:=r;refine⟨vs,e,?_⟩;have:∀{ts:List TV} {vs:List wa},QM xs ts=true->rF M V' ts vs->rF M V (BF ren ts) vs:=by
   intro ts;induction ts with
   |nil=>
    intro vs _ hr
    cases vs with
    |nil=>trivial
    |cons _ _=>exact hr.elim
   |cons t r ih=>
    intro vs hi hr;simp only[QM,Bool.and_eq_true]at hi
    cases vs with
    |nil=>exact hr.elim
    |cons u us=>
     refine⟨?_,ih hi.2 hr.2⟩
     cases t with
     |s x=>exact Tr h hi.1 hr.1
     |g cs=>obtain⟨q,e,hq⟩:=hr.1;exact⟨q,e,Ko h hi.1 hq⟩
  exact this hi hv
 |_=>cases hi
def jX.back(h:∀x,x∈xs->∀p,V' x=some p->V (look ren x)=some p){w:Aa}{x:Nat}{b:jK}(hx:x∈xs)(hi:SF xs b=true)(r:cN M V' w x b):cN M V w (look ren x) (jX ren b):=by
 cases b with
 |cells cs=>obtain⟨k,c,vs,T,us,e,hh,hr⟩:=r;exact⟨k,c,vs,T,us,h x hx _ e,hh,Ko h hi hr⟩
 |row e n s f=>obtain⟨k,c,cur,e',r⟩:=r;exact⟨k,c,cur,h x hx _ e',r⟩
 |b8 e n s f=>cases hi
 |map vk l=>obtain⟨k,c,e,hh⟩:=r;exact⟨k,c,h x hx _ e,hh⟩
 |smap vk l=>obtain⟨k,c,e,hh⟩:=r;exact⟨k,c,h x hx _ e,hh⟩
 |dm l n=>obtain⟨k,c,vs,e,hh⟩:=r;exact⟨k,c,vs,h x hx _ e,hh⟩
 |fresh T vs=>obtain⟨k,c,e,hh⟩:=r;exact⟨k,c,h x hx _ e,hh⟩
 |iter m n seen=>obtain⟨k,c,bm,cm,e,em,hh⟩:=r;exact⟨k,c,bm,cm,h x hx _ e,h m (by simpa[SF]using hi) _ em,hh⟩
end
abbrev eV:=List (Nat×jK)
def names:eV->List Nat
 |[]=>[]
 |(x,_)::r=>x::names r
def dG{x:Nat}{b:jK}:∀{bx:eV},(x,b)∈bx->x∈names bx
 |[],h=>by cases h
 |(y,c)::r,h=>by
  cases h with
  |head=>simp[names]
  |tail _ h=>exact oc _ (dG h)
def jT{x:Nat}:∀{bx:eV},x∈names bx->∃b,(x,b)∈bx
 |[],h=>by cases h
 |(y,c)::r,h=>by
  simp only[names,wb]at h;rcases h with rfl|h
  ·exact⟨c,sM⟩
  obtain⟨b,hb⟩:=jT h;exact⟨b,oc _ hb⟩
structure sE(M:Mem)(V:Nm)(w:Aa)(bx:eV):Prop where
 has:∀x,x∈names bx->∃b c,V x=some (b,c)
 rep:∀x b,(x,b)∈bx->cN M V w x b
 inj:∀x y b c c',x∈names bx->y∈names bx->V x=some (b,c)->V y=some (b,c')->x=y
 apart:∀x b c,x∈names bx->V x=some (b,c)->∀o,M b o=none
def bW(P:Ba)(f:FuncId)(args:List AV)(bx:eV)(r:AV)(bx':eV):Prop:=
 (∀vs w,(callFunc f vs).run P w=.ok (.enter f vs) w)/\
 ∀(M:Mem) (V:Nm) (w:Aa) (vs:List wa),(∃bs,CU bs w/\∀g t,(g,t)∈tE bs->∀x c,V x≠some (g,c))->gZ M V args vs->lA M w->sE M V w bx->(∀x p,V x=some p->x∈names bx)->
  Calls P f vs.toArray w λe w'=>∃v M' V',e=.returned v/\Nm.le V V'/\r.bI M' V' v/\Grow w.heap.size M M'/\lA M' w'/\sE M' V' w' bx'/\
   (∀x b c,x∈names bx'->V' x=some (b,c)->w.heap.size<=b\/∃y c',V y=some (b,c'))/\
   w'.os=w.os/\w'.tape=w.tape/\w'.output=w.output/\w.heap.size<=w'.heap.size/\(∀k,k<w.heap.size->(∀y c,V y≠some (k,c))->w'.heap[k]? =w.heap[k]?)/\Dr w w'
def nO(ren:List (Nat×Nat))(box:aP):eV->Prop
 |[]=>True
 |(x,b)::r=>aH box (look ren x)=some (some (jX ren b))/\nO ren box r
def nO.get{ren:List (Nat×Nat)}{box:aP}{x:Nat}{b:jK}:∀{bx:eV},nO ren box bx->(x,b)∈bx->aH box (look ren x)=some (some (jX ren b))
 |[],_,h=>by cases h
 |(y,c)::r,⟨h,hr⟩,hm=>by
  cases hm with
  |head=>exact h
  |tail _ hm=>exact nO.get hr hm
def sU(ren:List (Nat×Nat))(box:aP):eV->aP
 |[]=>box
 |(x,b)::r=>(look ren x,some (jX ren b))::sU ren box r
def jU(ren:List (Nat×Nat))(box:aP):eV->aP
 |[]=>box
 |(x,_)::r=>(look ren x,none)::jU ren box r
def sU.get{ren:List (Nat×Nat)}{box:aP}{y:Nat}:∀{bx:eV},(∃x b,(x,b)∈bx/\look ren x=y/\aH (sU ren box bx) y=some (some (jX ren b)))\/((∀x,x∈names bx->look ren x≠y)/\aH (sU ren box bx) y=aH box y)
 |[]=>.inr ⟨λx h=>Kp,rfl⟩
 |(x,b)::r=>by
  by_cases h:look ren x=y
  ·exact .inl ⟨x,b,sM,h,by simp only[sU];rw[aL,La h]⟩
  rcases sU.get (ren:=ren) (box:=box) (y:=y) (bx:=r)with⟨x',b',h1,h2,h3⟩|⟨h1,h2⟩
  ·exact .inl ⟨x',b',oc _ h1,h2,by simp only[sU];rw[aL,Ka h];exact h3⟩
  refine .inr ⟨λz hz=>?_,by simp only[sU];rw[aL,Ka h];exact h2⟩;exact zb6
def Qo:=@sU.get
def jU.get{ren:List (Nat×Nat)}{box:aP}{y:Nat}:∀{bx:eV},((∃x,x∈names bx/\look ren x=y)/\aH (jU ren box bx) y=some none)\/((∀x,x∈names bx->look ren x≠y)/\aH (jU ren box bx) y=aH box y)
 |[]=>.inr ⟨λx h=>Kp,rfl⟩
 |(x,b)::r=>by
  by_cases h:look ren x=y
  ·exact .inl ⟨⟨x,by simp[names],h⟩,by simp only[jU];rw[aL,La h]⟩
  rcases jU.get (ren:=ren) (box:=box) (y:=y) (bx:=r)with⟨⟨x',h1,h2⟩,h3⟩|⟨h1,h2⟩
  ·exact .inl ⟨⟨x',oc _ h1,h2⟩,by simp only[jU];rw[aL,Ka h];exact h3⟩
  refine .inr ⟨λz hz=>?_,by simp only[jU];rw[aL,Ka h];exact h2⟩;exact zb6
def wo:=@jU.get
def HR(xs:List Nat):eV->Bool
 |[]=>true
 |(_,b)::r=>SF xs b&&HR xs r
def SF.real{xs:List Nat}{b:jK}(h:SF xs b=true):b.real=true:=by
 cases b with
 |b8 e n s f=>cases h
 |_=>rfl
def HR.get{xs:List Nat}{x:Nat}{b:jK}:∀{bx:eV},HR xs bx=true->(x,b)∈bx->SF xs b=true
 |[],_,h=>by cases h
 |(y,c)::r,h,hm=>by
  simp only[HR,Bool.and_eq_true]at h
  cases hm with
  |head=>exact h.1
  |tail _ hm=>exact HR.get h.2 hm
def qo:=@HR.get
def HO(ren:List (Nat×Nat))(xs:List Nat):Bool:=xs.all λx=>xs.all λy=>Nat.beq x y|| !(Nat.beq (look ren x) (look ren y))
def oF(ren:List (Nat×Nat))(box:aP)(xs:List Nat):List Nat->Bool
 |[]=>true
 |x::r=>(xs.contains x||(match aH box (look ren x)with|none=>true|some _=>false))&&oF ren box xs r
def oF.get{ren:List (Nat×Nat)}{box:aP}{xs:List Nat}{x:Nat}:∀{l:List Nat},oF ren box xs l=true->x∈l->x∉xs->aH box (look ren x)=none
 |[],_,h,_=>by cases h
 |y::r,h,hm,hx=>by
  simp only[oF,Bool.and_eq_true,Sh]at h
  cases hm with
  |head=>
   rcases h.1 with h1|h1
   ·exact absurd (by simpa using h1) hx
   split at h1
   ·assumption
   cases h1
  |tail _ hm=>exact oF.get h.2 hm hx
def BH(ren:List (Nat×Nat))(box:aP)(args:List AV)(bx:eV)(r:AV)(bx':eV):Bool:=
 en (names bx) args&&HR (names bx) bx&&YH (names bx') r&&HR (names bx') bx'&&HO ren (names bx++names bx')&&oF ren box (names bx) (names bx')
def aF2(P:Ba)(I:St)(f:FuncId)(ars:List AV)(K:AV->aP->Prop):Prop:=
 ∃ren args bx r bx',bW P f args bx r bx'/\ars=zG ren args/\nO ren I.box bx/\BH ren I.box args bx r bx'=true/\K (oC ren r) (sU ren (jU ren I.box bx) bx')
def IX(P:Ba)(I:St)(vf:AV)(args:List AV)(K:AV->aP->Prop):Prop:=
 match vf with
 |.s (.dZ f cs)=>aF2 P I f (args++wM cs) K
 |_=>False
def Jw{P:Ba}{R:Cx}{N:Nat}{M:Mem}{V:Nm}{I:St}{a:Act}{w:Aa}(i:Inv R N M V I a w){ren:List (Nat×Nat)}{f:FuncId}{args:List AV}{bx:eV}{r:AV}{bx':eV}
  (hc:bW P f args bx r bx') (hm:nO ren I.box bx) (gF:BH ren I.box args bx r bx'=true) {vs:List wa} (hv:gZ M V (zG ren args) vs):
  Calls P f vs.toArray w λe w'=>∃v M' V',e=.returned v/\(oC ren r).bI M' V' v/\Inv R N M' V' ⟨I.env,sU ren (jU ren I.box bx) bx'⟩ a w'/\Grow R.B M M'/\cE R w w'/\((∀x,x∈names bx'->x∈names bx)->V'=V):=by
 classical
 simp only[BH,Bool.and_eq_true]at gF
 obtain⟨⟨⟨⟨⟨k1,k2⟩,k3⟩,k4⟩,k5⟩,k6⟩:=gF
 have QY:∀x y,x∈names bx++names bx'->y∈names bx++names bx'->look ren x=look ren y->x=y:=by
  intro x y hx hy e;simp only[HO,Hd]at k5;have:=k5 x hx y hy;simp only[Sh]at this;rcases this with h|h
  ·exact Mb h
  rw[e]at h;simp at h
 let Vh:Nm:=λx=>if x∈names bx then V (look ren x)else none
 have hβh:∀x,x∈names bx->∀p,V (look ren x)=some p->Vh x=some p:=λx hx p e=>by simp[Vh,hx,e]
 have zI:∀x p,Vh x=some p->x∈names bx/\V (look ren x)=some p:=λx p e=>by
  simp only[Vh]at e;split at e
  ·exact⟨by assumption,e⟩
  cases e
 have cQ:∀x,x∈names bx->∃b,aH I.box (look ren x)=some (some b):=λx hx=>by obtain⟨b,hb⟩:=jT hx;exact⟨_,hm.get hb⟩
 have T3:sE M Vh w bx:=by
  have eD:∀x b,(x,b)∈bx->cN M Vh w x b:=λx b hb=>tf hβh (dG hb) (qo k2 hb) (i.box _ _ (hm.get hb))
  refine⟨λx hx=>let⟨b,hb⟩:=jT hx;(eD x b hb).Qj (SF.real (qo k2 hb)),eD,λx y b c c' hx hy e1 e2=>?_,λx b c hx e o=>?_⟩
  ·obtain⟨bX,hX⟩:=cQ x hx;obtain⟨bY,hY⟩:=cQ y hy;have:=i.inj _ _ _ _ b c c' hX hY (zI x _ e1).2 (zI y _ e2).2;exact QY x y (Ag _ hx) (Ag _ hy) this
  obtain⟨bX,hX⟩:=cQ x hx;exact i.apart _ _ b c hX (zI x _ e).2 o
 have aPH:∃bs,CU bs w/\∀g t,(g,t)∈tE bs->∀x c,Vh x≠some (g,c):=by
  obtain⟨bs,t1,t2⟩:=i.heap.tab;refine⟨bs,t1,λg t m x c e=>?_⟩;obtain⟨hxn,e⟩:=zI x _ e;obtain⟨bX,hX⟩:=cQ x hxn;obtain⟨q1,q2⟩:=t2 g t m;rcases i.low _ _ g c hX e with h|h
  ·omega
  exact q2 h
 refine(hc.2 M Vh w vs aPH (zG.rep hβh k1 hv) i.mem T3 (λx p e=>(zI x p e).1)).mono ?_
 rintro e w' ⟨v,M',na,rfl,hle,hr,hg,kK,YR,hblk,ho,htp,hou,mL,zJ,hdr⟩
 let la:Nm:=λy=>if h:∃x,x∈names bx'/\x∉names bx/\look ren x=y then na (Classical.choose h)else V y
 have YO:∀x,x∈names bx'->x∉names bx->la (look ren x)=na x:=by intro x hx hn;have hex:∃z,z∈names bx'/\z∉names bx/\look ren z=look ren x:=⟨x,hx,hn,rfl⟩;have hs:=Classical.choose_spec hex;have:Classical.choose hex=x:=QY _ _ (gh _ hs.1) (gh _ hx) hs.2.2;simp only[la,dif_pos hex,this]
 have QU:∀y,(∀x,x∈names bx'->x∉names bx->look ren x≠y)->la y=V y:=by
  intro y hy;have:¬∃x,x∈names bx'/\x∉names bx/\look ren x=y:=λ⟨x,h1,h2,h3⟩=>hy x h1 h2 h3
  simp only[la,Gr this]
 have hβ2:Nm.le V la:=by
  intro y p e;rw[QU y (λx h1 h2 h3=>?_)]
  ·exact e
  obtain⟨q,hq⟩:=i.keys y p e;rw[<-h3,oF.get k6 h1 h2]at hq
  cases hq
 have lC:∀x,x∈names bx'->∀p,na x=some p->la (look ren x)=some p:=by
  intro x hx p e;by_cases hn:x∈names bx
  ·obtain⟨bX,hX⟩:=jT hn;obtain⟨b,c,e'⟩:=T3.has x hn;have:=hle x _ e';rw[this]at e;cases e;exact hβ2 _ _ (zI x _ e').2
  rw[YO x hx hn];exact e
 have aMF:∀x,x∈names bx'->∀p,la (look ren x)=some p->na x=some p:=by
  intro x hx p e;by_cases hn:x∈names bx
  ·obtain⟨bX,hX⟩:=jT hn;obtain⟨b,c,e'⟩:=T3.has x hn;have h1:=hle x _ e';have h2:=hβ2 _ _ (zI x _ e').2;rw[h2]at e;cases e;exact h1
  rw[YO x hx hn]at e;exact e
 have aG5:∀y bc,aH (sU ren (jU ren I.box bx) bx') y=some (some bc)->(∃x b,(x,b)∈bx'/\look ren x=y/\bc=jX ren b)\/
   ((∀x,x∈names bx'->look ren x≠y)/\(∀x,x∈names bx->look ren x≠y)/\aH I.box y=some (some bc)):=by
  intro y bc e
  rcases Qo (ren:=ren) (box:=jU ren I.box bx) (y:=y) (bx:=bx')with⟨x,b,h1,h2,h3⟩|⟨h1,h2⟩
  ·rw[h3]at e;cases e;exact .inl ⟨x,b,h1,h2,rfl⟩
  ·rw[h2]at e;rcases wo (ren:=ren) (box:=I.box) (y:=y) (bx:=bx)with⟨_,h4⟩|⟨h3,h4⟩
   ·rw[h4]at e;cases e
   rw[h4]at e;exact .inr ⟨h1,h3,e⟩
 have aI3:∀y bc b c,aH I.box y=some (some bc)->(∀x,x∈names bx->look ren x≠y)->V y=some (b,c)->∀z c',Vh z≠some (b,c'):=by intro y bc b c hy hny e z c' hz;obtain⟨hzn,hz2⟩:=zI z _ hz;obtain⟨bZ,hZ⟩:=cQ z hzn;exact hny z hzn (i.inj _ _ _ _ b c' c hZ hy hz2 e)
 have jA:∀y bc b c,aH (sU ren (jU ren I.box bx) bx') y=some (some bc)->la y=some (b,c)->(∃x,x∈names bx'/\look ren x=y/\na x=some (b,c))\/
   ((∀x,x∈names bx->look ren x≠y)/\aH I.box y=some (some bc)/\V y=some (b,c)):=by
  intro y bc b c e e2
  rcases aG5 y bc e with⟨x,b',h1,rfl,_⟩|⟨h1,h2,h3⟩
  ·exact .inl ⟨x,dG h1,rfl,aMF x (dG h1) _ e2⟩
  ·rw[QU y (λx hx _=>h1 x hx)]at e2;exact .inr ⟨h2,h3,e2⟩
 have kp:cE R w w':=⟨ho,htp,hou,mL,λk hk hmw=>by
   refine zJ k (aw hk i.heap.le) (λz c hz=>?_);obtain⟨hzn,hz2⟩:=zI z _ hz;obtain⟨bZ,hZ⟩:=cQ z hzn;rcases i.low _ _ k c hZ hz2 with h|h
   ·omega
   exact hmw h,hdr⟩
 refine⟨v,M',la,rfl,oC.back (λx hx p e=>lC x hx p e) k3 hr,⟨i.defers,i.tmps,i.heap.keep kp,λt=>Vf hg.le hβ2 (i.env t),kK,?_,?_,?_,?_,?_,?_⟩,
  ⟨hg.le,λb o u e=>(hg.new b o u e).imp id (λh=>Xb i.heap.le h)⟩,kp,λfQ=>funext λy=>QU y (λx h1 h2 _=>h2 (fQ x h1))⟩
 ·intro y p e;rcases Qo (ren:=ren) (box:=jU ren I.box bx) (y:=y) (bx:=bx')with⟨x,b,h1,h2,h3⟩|⟨h1,h2⟩
  ·exact⟨_,h3⟩
  rw[QU y (λx hx _=>h1 x hx)]at e;rcases wo (ren:=ren) (box:=I.box) (y:=y) (bx:=bx)with⟨_,h4⟩|⟨_,h4⟩
  ·exact⟨_,h2.trans h4⟩
  obtain⟨q,hq⟩:=i.keys y p e;exact⟨q,h2.trans (h4.trans hq)⟩
 ·intro y bc e;rcases aG5 y bc e with⟨x,b',h1,rfl,rfl⟩|⟨h1,h2,h3⟩
  ·exact jX.back (λz hz p e=>lC z hz p e) (dG h1) (qo k4 h1) (YR.rep x b' h1)
  have hrr:=i.box y bc h3;exact xh hg.le hβ2 (QU y (λx hx _=>h1 x hx)) (λb c e'=>zJ b (i.vM h3 e') (λz c'=>aI3 y bc b c h3 h2 e' z c')) hrr
 ·intro y z by' bz b c c' ey ez hy hz;rcases jA y by' b c ey hy with⟨x,h1,rfl,h3⟩|⟨h1,h2,h3⟩
  ·rcases jA z bz b c' ez hz with⟨x',k1',rfl,k3'⟩|⟨k1',k2',k3'⟩
   ·rw[YR.inj x x' b c c' h1 k1' h3 k3']
   exfalso;rcases hblk x b c h1 h3 with hb|⟨u,cu,hu⟩
   ·have:=i.vM k2' k3';omega
   exact aI3 z bz b c' k2' k1' k3' u cu hu
  rcases jA z bz b c' ez hz with⟨x',k1',rfl,k3'⟩|⟨k1',k2',k3'⟩
  ·exfalso;rcases hblk x' b c' k1' k3' with hb|⟨u,cu,hu⟩
   ·have:=i.vM h2 h3;omega
   exact aI3 y by' b c h2 h1 h3 u cu hu
  exact i.inj y z by' bz b c c' h2 k2' h3 k3'
 ·intro y bc b c e e2 o;rcases jA y bc b c e e2 with⟨x,h1,rfl,h3⟩|⟨h1,h2,h3⟩
  ·exact YR.apart x b c h1 h3 o
  cases hmm:M' b o with
  |none=>rfl
  |some u=>
   rcases hg.new b o u hmm with h|h
   ·rw[i.apart y bc b c h2 h3 o]at h;cases h
   have:=i.vM h2 h3;omega
 ·intro y bc b c e e2;rcases jA y bc b c e e2 with⟨x,h1,rfl,h3⟩|⟨h1,h2,h3⟩
  ·rcases hblk x b c h1 h3 with hb|⟨u,cu,hu⟩
   ·exact .inl (Xb i.heap.le hb)
   obtain⟨V9,hu2⟩:=zI u _ hu;obtain⟨bU,hU⟩:=cQ u V9;exact i.low _ _ b cu hU hu2
  exact i.low y bc b c h2 h3
 ·intro x hx;obtain⟨h1,p,h2⟩:=i.ref x hx;have:=hβ2 x p h2;exact⟨by rw[this,<-h1,h2],p,this⟩
section
variable{P:Ba}{I:St}{o:Oper}
def Is{fo:Ca}{l:List Ca}{K:AV->aP->Prop}(ho:∃args wR,o.op=.call {callee:=.value fo,args:=args,argTypes:=wR}/\args.toList=l)
  (h:fe none (ev I fo) λvf=>dY none I l λars=>IX P I vf ars K):
  ∃r bx,K r bx/\∀R N M V a w,Inv R N M V I a w->∃f vs,(execOp a.eval o).run P w=.ok (.enter f vs) w/\
   Calls P f vs w λe w'=>∃v M' V',e=.returned v/\r.bI M' V' v/\Inv R N M' V' ⟨I.env,bx⟩ a w'/\Grow R.B M M'/\cE R w w':=by
 obtain⟨args,wR,ho,rfl⟩:=ho
 replace h:=Db h
 obtain⟨vf,h,hf⟩:=h
 replace h:=lk h
 obtain⟨ars,h,has⟩:=h
 unfold IX at h
 split at h
 case h_2=>cases h
 rename_i f cs
 obtain⟨ren,ar,bx,r,bx',hc,he,hm,gF,hk⟩:=h
 refine⟨_,_,hk,λR N M V a w i=>?_⟩
 obtain⟨us,eu,SG⟩:=hf iY R N M V a w i
 have xP:=(has iY R N M V a w i).append (pk SG)
 rw[he]at xP
 refine⟨f,(args.toList.map a.eval++us).toArray,?_,(Jw i hc hm gF xP).mono λe w' ⟨v,M',V',h1,h2,h3,h4,h5,_⟩=>⟨v,M',V',h1,h2,h3,h4,h5⟩⟩
 have:(args.map a.eval++us.toArray)=(args.toList.map a.eval++us).toArray:=by apply Jd;simp
 simp[execOp,ho,resolve,eu,Deferred.ofValue,invoke,this,hc.1]
end
def dV{α:Type}(f:α->List Nat):List α->List Nat
 |[]=>[]
 |x::r=>f x++dV f r
def iT{α:Type}{f:α->List Nat}{n:Nat}:∀{l:List α} {j:Nat} {c:α},l[j]? =some c->n∈f c->n∈dV f l
 |[],_,_,h,_=>by simp at h
 |x::r,0,c,h,hn=>by simp at h;subst h;exact Ag _ hn
 |x::r,j+1,c,h,hn=>gh _ (iT (j:=j) ai hn)
def reach:Nat->St->SV->List Nat
 |_,_,.d _=>[]
 |0,_,.ptr x _=>[x]
 |n+1,I,.ptr x _=>x::match aH I.box x with
  |some (some (.cells cs))=>dV (reach n I) cs
  |_=>[]
 |_,_,.own x=>[x]
 |_,_,.mo _ x=>[x]
 |_,_,.rw x _ _ _=>[x]
 |0,_,.j0 x _ _ _=>[x]
 |n+1,I,.j0 x _ _ _=>x::match aH I.box x with
  |some (some (.cells cs))=>dV (reach n I) cs
  |_=>[]
 |_,_,.mp x=>[x]
 |0,_,.dZ _ _=>[]
 |n+1,I,.dZ _ cs=>dV (λc=>match c with|.d _=>[]|.ptr x off=>reach n I (.ptr x off)) cs
def b9(I:St):AV->List Nat
 |.s x=>reach 4 I x
 |.ib _ x=>reach 4 I x
 |.g cs=>dV (reach 4 I) cs
 |.ig _ cs=>dV (reach 4 I) cs
 |.t _=>[]
def Eu(ren:List (Nat×Nat))(args:List AV)(bx:eV):Bool:=en (names bx) args&&HR (names bx) bx&&HO ren (names bx)
def CZ(P:Ba)(I:St)(f:FuncId)(ars:List AV)(r:AV):Prop:=
 ∃ren args bx,bW P f args bx r bx/\ars=zG ren args/\nO ren I.box bx/\Eu ren args bx=true/\B4 r=true/\((names bx).all λx=>(dV (b9 I) ars).contains (look ren x))=true
def aGM{ren:List (Nat×Nat)}{box:aP}{bx:eV}(hm:nO ren box bx)(y:Nat):aH (sU ren (jU ren box bx) bx) y=aH box y:=by
 rcases Qo (ren:=ren) (box:=jU ren box bx) (y:=y) (bx:=bx)with⟨x,b,h1,rfl,h3⟩|⟨h1,h2⟩
 ·rw[h3,hm.get h1]
 rw[h2];rcases wo (ren:=ren) (box:=box) (y:=y) (bx:=bx)with⟨⟨x,hx,hy⟩,_⟩|⟨_,h4⟩
 ·exact absurd hy (h1 x hx)
 exact h4
def Inv.boxes{R:Cx}{N:Nat}{M:Mem}{V:Nm}{E:List (Nat×AV)}{b1 b2:aP}{a:Act}{w:Aa}(i:Inv R N M V ⟨E,b1⟩ a w)(h:∀y,aH b1 y=aH b2 y):Inv R N M V ⟨E,b2⟩ a w:=
 ⟨i.defers,i.tmps,i.heap,i.env,i.mem,λx p e=>by obtain⟨y,hy⟩:=i.keys x p e;exact⟨y,(h x).symm.trans hy⟩,λx bc e=>i.box x bc ((h x).trans e),
  λx y bx zB b c c' ex ey=>i.inj x y bx zB b c c' ((h x).trans ex) ((h y).trans ey),λx bc b c e=>i.apart x bc b c ((h x).trans e),λx bc b c e=>i.low x bc b c ((h x).trans e),i.ref⟩
def aB5{xs:List Nat}:∀{r:AV},B4 r=true->YH xs r=true:=by
 have h1:∀x:SV,xR x=true->LA xs x=true:=λx h=>by cases x <;> first|rfl|cases h
 have h2:∀cs:List SV,oG cs=true->HQ xs cs=true:=by
  intro cs;induction cs with
  |nil=>intro _;rfl
  |cons c r ih=>intro h;simp only[oG,Bool.and_eq_true]at h;simp only[HQ,Bool.and_eq_true];exact⟨h1 c h.1,ih h.2⟩
 have h3:∀cs:List TV,qV cs=true->QM xs cs=true:=by
  intro cs;induction cs with
  |nil=>intro _;rfl
  |cons c r ih=>
   intro h;simp only[qV,Bool.and_eq_true]at h;simp only[QM,Bool.and_eq_true];refine⟨?_,ih h.2⟩
   cases c with
   |s x=>exact h1 x h.1
   |g l=>exact h2 l h.1
 intro r h
 cases r with
 |s x=>exact h1 x h
 |g l=>exact h2 l h
 |t l=>exact h3 l h
 |_=>cases h
def CZ.spec{P:Ba}{R:Cx}{N:Nat}{M:Mem}{V:Nm}{I:St}{a:Act}{w:Aa}(i:Inv R N M V I a w){f:FuncId}{ars:List AV}{r:AV}(h:CZ P I f ars r){vs:List wa}(hv:gZ M V ars vs):
  (∀vs w,(callFunc f vs).run P w=.ok (.enter f vs) w)/\Calls P f vs.toArray w λe w'=>∃v M',e=.returned v/\r.bI M' V v/\Inv R N M' V I a w'/\Grow R.B M M'/\cE R w w':=by
 obtain⟨ren,args,bx,hc,rfl,hm,gF,hf,_⟩:=h
 simp only[Eu,Bool.and_eq_true]at gF
 obtain⟨⟨k1,k2⟩,k3⟩:=gF
 have aPF:BH ren I.box args bx r bx=true:=by
  simp only[BH,Bool.and_eq_true];refine⟨⟨⟨⟨⟨k1,k2⟩,aB5 hf⟩,k2⟩,?_⟩,?_⟩
  ·simp only[HO,List.all_append,Bool.and_eq_true]at k3⊢;have h1:((names bx).all λx=>((names bx).all λy=>Nat.beq x y|| !(Nat.beq (look ren x) (look ren y)))&&(names bx).all λy=>Nat.beq x y|| !(Nat.beq (look ren x) (look ren y)))=true:=by rw[Hd]at k3⊢;intro x hx;simp[k3 x hx]
   exact⟨h1,h1⟩
  have:∀l:List Nat,(∀x,x∈l->x∈names bx)->oF ren I.box (names bx) l=true:=by
   intro l;induction l with
   |nil=>intro _;rfl
   |cons x r ih=>intro h;simp only[oF,Bool.and_eq_true,Sh];exact⟨.inl (by simpa using h x sM),ih (λy hy=>h y (oc _ hy))⟩
  exact this _ (λx hx=>hx)
 refine⟨hc.1,(Jw i hc hm aPF hv).mono ?_⟩
 rintro e w' ⟨v,M',V',h1,h2,h3,h4,h5,h6⟩
 obtain rfl:=h6 (λx hx=>hx)
 refine⟨v,M',h1,?_,h3.boxes (aGM hm),h4,h5⟩
 have hr:oC ren r=r:=by
  have q1:∀x:SV,xR x=true->wF ren x=x:=λx h=>by cases x <;> first|rfl|cases h
  have q2:∀cs:List SV,oG cs=true->mC ren cs=cs:=by
   intro cs;induction cs with
   |nil=>intro _;rfl
   |cons c r ih=>intro h;simp only[oG,Bool.and_eq_true]at h;simp only[mC];rw[q1 c h.1,ih h.2]
  have q3:∀cs:List TV,qV cs=true->BF ren cs=cs:=by
   intro cs;induction cs with
   |nil=>intro _;rfl
   |cons c r ih=>
    intro h;simp only[qV,Bool.and_eq_true]at h;simp only[BF];rw[ih h.2]
    cases c with
    |s x=>simp only[Vm];rw[q1 x h.1]
    |g l=>simp only[Vm];rw[q2 l h.1]
  cases r with
  |s x=>simp only[oC];rw[q1 x hf]
  |g l=>simp only[oC];rw[q2 l hf]
  |t l=>simp only[oC];rw[q3 l hf]
  |_=>cases hf
 rw[hr]at h2
 exact h2
section
variable{P:Ba}{I:St}{g:Da Bool}{K:AV->Prop}{o:Oper}
def lR(P:Ba)(I:St)(g:Da Bool)(f:FuncId)(args:List AV)(K:AV->Prop):Prop:=
 mV P I g f args K\/∃r,imp g (CZ P I f args r)/\K r
def mW(P:Ba)(I:St)(g:Da Bool)(vf:AV)(args:List AV)(K:AV->Prop):Prop:=
 match vf with
 |.s (.dZ f cs)=>lR P I g f (args++wM cs) K
 |.s (.d (.dZ f k c))=>lR P I g f (args++jF c k 0) K
 |.s (.d (.Xg f k c))=>mV P I g f (.g (gD c k 0)::args) K
 |_=>False
def aNP.spec{fo:Ca}{args:Array Ca}{wR:Array Ea}(ho:o.op=.call {callee:=.value fo,args:=args,argTypes:=wR})
  (h:fe g (ev I fo) λvf=>dY g I args.toList λars=>mW P I g vf ars K):
  ∃r,K r/\(act g->∀R N M V a w,Inv R N M V I a w->∃f vs,(execOp a.eval o).run P w=.ok (.enter f vs) w/\
   Calls P f vs w λe w'=>∃v M',e=.returned v/\r.bI M' V v/\Inv R N M' V I a w'/\Grow R.B M M'/\cE R w w'):=by
 replace h:=Db h
 obtain⟨vf,h,hf⟩:=h
 replace h:=lk h
 obtain⟨ars,h,has⟩:=h
 have key:∀(f:FuncId) (extra:List AV),lR P I g f (ars++extra) K->
   (act g->∀R N M V a w,Inv R N M V I a w->∃us:List wa,a.eval fo=.func (.func f) #[] us.toArray/\gZ M V extra us)->
   ∃r,K r/\(act g->∀R N M V a w,Inv R N M V I a w->∃f vs,(execOp a.eval o).run P w=.ok (.enter f vs) w/\
   Calls P f vs w λe w'=>∃v M',e=.returned v/\r.bI M' V v/\Inv R N M' V I a w'/\Grow R.B M M'/\cE R w w'):=by
  intro f extra hd hx
  rcases hd with hd|⟨r,hc,hk⟩
  ·exact call.key ho has hd hx
  ·refine⟨r,hk,λha R N M V a w i=>?_⟩;obtain⟨us,eu,SG⟩:=hx ha R N M V a w i;have xP:=(has ha R N M V a w i).append SG;obtain⟨z7,eF⟩:=CZ.spec i (hc.get ha) xP;refine⟨f,(args.toList.map a.eval++us).toArray,?_,eF⟩;exact zad
 unfold mW at h
 split at h
 case h_4=>cases h
 ·rename_i f cs;refine key f _ h λha R N M V a w i=>?_
  obtain⟨vs,e,hv⟩:=hf ha R N M V a w i;exact⟨vs,e,pk hv⟩
 ·rename_i f k c;refine key f _ h λha R N M V a w i=>?_
  obtain⟨vs,e,hl,hv⟩:=hf ha R N M V a w i;exact⟨vs,e,by rw[<-hl];exact jF.rep (λi u hu=>by rw[Ec];exact hv i u hu)⟩
 ·rename_i f k c;refine Ds (pre:=[.g (gD c k 0)]) (extra:=[]) ho has (by rw[mh];exact h) λha R N M V a w i=>?_
  obtain⟨vs,e,hl,hv⟩:=hf ha R N M V a w i;exact⟨[.agg vs.toArray],[],e,⟨⟨vs,rfl,by rw[<-hl];exact gD.rep (λi u hu=>by rw[Ec];exact hv i u hu)⟩,trivial⟩,trivial⟩
end
def iH(zs:List Nat):aP->aP
 |[]=>[]
 |(x,b)::r=>(x,bif zs.contains x then b else none)::iH zs r
def lW(zs:List Nat):aP->aP
 |[]=>[]
 |(x,b)::r=>(x,bif zs.contains x then none else b)::lW zs r
def iH.get{zs:List Nat}{x:Nat}{b:jK}:∀{box:aP},aH (iH zs box) x=some (some b)->zs.contains x=true/\aH box x=some (some b)
 |[],h=>by cases h
 |(k,c)::r,h=>by
  rw[iH,aL]at h;rw[aL];by_cases e:k=x
  ·subst e;rw[La rfl]at h
   cases hz:zs.contains k with
   |true=>rw[hz]at h;exact⟨rfl,by rw[La rfl];exact h⟩
   |false=>rw[hz]at h;cases h
  rw[Ka e]at h⊢;exact iH.get h
def aj:=@iH.get
def lW.get{zs:List Nat}{x:Nat}{b:jK}:∀{box:aP},aH (lW zs box) x=some (some b)->zs.contains x=false/\aH box x=some (some b)
 |[],h=>by cases h
 |(k,c)::r,h=>by
  rw[lW,aL]at h;rw[aL];by_cases e:k=x
  ·subst e;rw[La rfl]at h
   cases hz:zs.contains k with
   |true=>rw[hz]at h;cases h
   |false=>rw[hz]at h;exact⟨rfl,by rw[La rfl];exact h⟩
  rw[Ka e]at h⊢;exact lW.get h
def Dk:=@lW.get
def iH.has{zs:List Nat}{x:Nat}{y:Da jK}:∀{box:aP},aH box x=some y->∃y',aH (iH zs box) x=some y'
 |[],h=>by cases h
 |(k,c)::r,h=>by
  rw[aL]at h;rw[iH,aL];by_cases e:k=x
  ·exact tm
  rw[Ka e]at h⊢;exact iH.has h
def lW.has{zs:List Nat}{x:Nat}{y:Da jK}:∀{box:aP},aH box x=some y->∃y',aH (lW zs box) x=some y'
 |[],h=>by cases h
 |(k,c)::r,h=>by
  rw[aL]at h;rw[lW,aL];by_cases e:k=x
  ·exact tm
  rw[Ka e]at h⊢;exact lW.has h
section
variable{P:Ba}{R:Cx}{N:Nat}{I:St}{M:Mem}{V:Nm}{a:Act}{w:Aa}
def Inv.iH(i:Inv R N M V I a w)(zs:List Nat):Inv R N M V ⟨I.env,iH zs I.box⟩ a w:=by
 refine⟨i.defers,i.tmps,i.heap,i.env,i.mem,?_,?_,?_,?_,?_,i.ref⟩
 ·intro x p e;obtain⟨y,hy⟩:=i.keys x p e;exact iH.has hy
 ·exactλx bc h=>i.box x bc (aj h).2
 ·exactλx y bx zB b c c' hx hy=>i.inj x y bx zB b c c' (aj hx).2 (aj hy).2
 ·exactλx bc b c h=>i.apart x bc b c (aj h).2
 exactλx bc b c h=>i.low x bc b c (aj h).2
open Classical in
noncomputable def wK (I:St) (zs:List Nat) (V:Nm) (M:Mem) (w:Aa):Mem:=λb o=>if ∃x bc c,zs.contains x=true/\aH I.box x=some (some bc)/\V x=some (b,c)then w.cell? ⟨b,o,none⟩else M b o
def wK.le(i:Inv R N M V I a w)(zs:List Nat):Mem.le M (wK I zs V M w):=by
 intro b o u h;unfold wK;by_cases hb:∃x bc c,zs.contains x=true/\aH I.box x=some (some bc)/\V x=some (b,c)
 ·obtain⟨x,bc,c,_,hg,e⟩:=hb;rw[i.apart x bc b c hg e o]at h;cases h
 rw[Ka hb];exact h
def wK.ok(i:Inv R N M V I a w)(zs:List Nat):lA (wK I zs V M w) w:=by
 intro b o u h;unfold wK at h;by_cases hb:∃x bc c,zs.contains x=true/\aH I.box x=some (some bc)/\V x=some (b,c)
 ·rw[La hb]at h;exact h
 rw[Ka hb]at h;exact i.mem b o u h
def Inv.dn(i:Inv R N M V I a w)(J:R.ref=[])(zs:List Nat):Inv R N (wK I zs V M w) V ⟨I.env,lW zs I.box⟩ a w/\Grow R.B M (wK I zs V M w):=by
 have hM:=wK.le i zs;refine⟨⟨i.defers,i.tmps,i.heap,λt=>Vf hM (Kf V) (i.env t),wK.ok i zs,?_,?_,?_,?_,?_,i.ref⟩,⟨hM,?_⟩⟩
 ·intro x p e;obtain⟨y,hy⟩:=i.keys x p e;exact lW.has hy
 ·exactλx bc h=>xh hM (Kf V) rfl (λ_ _ _=>rfl) (i.box x bc (Dk h).2)
 ·exactλx y bx zB b c c' hx hy=>i.inj x y bx zB b c c' (Dk hx).2 (Dk hy).2
 ·intro x bc b c h e o;obtain⟨h1,h2⟩:=Dk h;unfold wK;have hn:¬∃x bc c,zs.contains x=true/\aH I.box x=some (some bc)/\V x=some (b,c):=by rintro⟨y,bc',c',hy,hg,e'⟩;have:=i.inj x y bc bc' b c c' h2 hg e e';subst this;rw[h1]at hy;cases hy
  rw[Ka hn];exact i.apart x bc b c h2 e o
 ·exactλx bc b c h=>i.low x bc b c (Dk h).2
 intro b o u h;unfold wK at h;by_cases hb:∃x bc c,zs.contains x=true/\aH I.box x=some (some bc)/\V x=some (b,c)
 ·obtain⟨x,bc,c,_,hg,e⟩:=hb;rcases i.low x bc b c hg e with h1|⟨y,c',hy,_⟩
  ·exact .inr h1
  rw[J]at hy;cases hy
 rw[Ka hb]at h;exact .inl h
def Hq(P:Ba)(I:St)(vf:AV)(args:List AV)(K:AV->aP->Prop):Prop:=
 match vf with
 |.s (.dZ f cs)=>∃zs r,aF P f (jD ⟨I.env,iH zs I.box⟩ (args++wM cs)) r/\K r (lW zs I.box)
 |_=>False
def QK(rc ref:List Nat)(I:St)(op:Op):Da (Ca×List Ca):=
 match op with
 |.call {callee:=.value fo,args, .. }=>match ev I fo with
  |.s (.dZ f _)=>bif rc.contains (f+2000000)&&ref.isEmpty then some (fo,args.toList)else none
  |_=>none
 |_=>none
def QK.op{rc ref:List Nat}{op:Op}{fo:Ca}{l:List Ca}(h:QK rc ref I op=some (fo,l)):ref=[]/\∃args wR,op=.call {callee:=.value fo,args:=args,argTypes:=wR}/\args.toList=l:=by
 unfold QK at h;split at h
 ·split at h
  ·rename_i f cs hf
   cases hr:(rc.contains (f+2000000)&&ref.isEmpty)with
   |true=>
    rw[hr]at h
    cases h
    rw[Bool.and_eq_true]at hr;exact⟨qw.1 hr.2,_,_,rfl,rfl⟩
   |false=>rw[hr]at h;cases h
  cases h
 cases h
def Uw{o:Oper}{fo:Ca}{l:List Ca}{K:AV->aP->Prop}(ho:∃args wR,o.op=.call {callee:=.value fo,args:=args,argTypes:=wR}/\args.toList=l)
  (h:fe none (ev I fo) λvf=>dY none I l λars=>Hq P I vf ars K):
  ∃r bx,K r bx/\∀R N M V a w,R.ref=[]->Inv R N M V I a w->∃f vs,(execOp a.eval o).run P w=.ok (.enter f vs) w/\
   Calls P f vs w λe w'=>∃v M' V',e=.returned v/\r.bI M' V' v/\Inv R N M' V' ⟨I.env,bx⟩ a w'/\Grow R.B M M'/\cE R w w':=by
 obtain⟨args,wR,ho,rfl⟩:=ho
 replace h:=Db h
 obtain⟨vf,h,hf⟩:=h
 replace h:=lk h
 obtain⟨ars,h,has⟩:=h
 unfold Hq at h
 split at h
 case h_2=>cases h
 rename_i f cs
 obtain⟨zs,r,⟨z7,eF⟩,hk⟩:=h
 refine⟨_,_,hk,λR N M V a w J i=>?_⟩
 obtain⟨us,eu,SG⟩:=hf iY R N M V a w i
 have xP:=(has iY R N M V a w i).append (pk SG)
 have hM:=wK.le i zs
 have jJ:=jD.rep (i.iH zs) hM (λx bc b c hg e o u hu=>by obtain⟨h1,h2⟩:=aj hg;unfold wK;rw[La ⟨x,bc,c,h1,h2,e⟩];exact hu) xP
 obtain⟨i2,g2⟩:=i.dn J zs
 refine⟨f,(args.toList.map a.eval++us).toArray,?_,(eF _ w _ i.heap.Kq jJ (wK.ok i zs)).mono ?_⟩
 ·exact zad
 ·rintro e w' ⟨v,M',rfl,TQ,hg,hm,Q2⟩;obtain⟨i3,g3,k3⟩:=i2.after Q2 hg hm;exact⟨v,M',V,rfl,Vf (Xe _) (λ_ _ h=>by cases h) TQ,i3,g2.trans g3,k3⟩
def cq(zs:List Nat)(I:St)(v:AV):AV:=
 match v with
 |.s (.own b)=>bif zs.contains b then pO ⟨I.env,iH zs I.box⟩ (.s (.own b))else .s (.own b)
 |.s (.mo z b)=>bif zs.contains b then pO ⟨I.env,iH zs I.box⟩ (.s (.mo z b))else .s (.mo z b)
 |v=>v
def Yp(zs:List Nat)(I:St):List (Nat×AV)->List (Nat×AV)
 |[]=>[]
 |(t,v)::r=>(t,cq zs I v)::Yp zs I r
def CB(zs:List Nat)(I:St):St:=⟨Yp zs I I.env,lW zs I.box⟩
def Q5{zs:List Nat}{t:Nat}:∀{l:List (Nat×AV)},fL (Yp zs I l) t=cq zs I (fL l t)
 |[]=>rfl
 |(k,v)::r=>by
  rw[Yp];unfold fL
  cases Nat.beq k t with
  |true=>rfl
  |false=>exact Q5
def Inv.CB(i:Inv R N M V I a w)(J:R.ref=[])(zs:List Nat):∃M',Inv R N M' V (CB zs I) a w/\Grow R.B M M':=by
 obtain⟨i2,g2⟩:=i.dn J zs;refine⟨_,⟨i2.defers,i2.tmps,i2.heap,λt=>?_,i2.mem,i2.keys,i2.box,i2.inj,i2.apart,i2.low,i2.ref⟩,g2⟩;have hM:=wK.le i zs;have r0:=i.env t;have conv:∀x:AV,x.bI M V (a.tmps.getD t undef)->(pO ⟨I.env,Go.Ax.iH zs I.box⟩ x).bI (wK I zs V M w) (λ_=>none) (a.tmps.getD t undef):=λx hx=>
  pO.rep (i.iH zs) hM (λx bc b c hg e o u hu=>by obtain⟨h1,h2⟩:=aj hg;unfold wK;rw[La ⟨x,bc,c,h1,h2,e⟩];exact hu) hx
 have e0:fL (Go.Ax.CB zs I).env t=cq zs I (fL I.env t):=Q5;rw[e0];unfold cq;split
 ·rename_i b hv;exact zaa
 ·rename_i z b hv;exact zaa
 exact Vf hM (Kf V) r0
end
def YC(rc ref:List Nat)(d:Nat):Bool:=rc.contains (d+3000000)&&ref.isEmpty
def mD(P:Ba)(T:List (Nat×bV))(op:Op)(I:St)(g:Da Bool)(K:AV->Prop):Prop:=
 match op with
 |.move x=>fe g (ev I x) K
 |.assign x=>fe g (ev I x) K
 |.pick c x y=>fe g (ev I c) λvc=>vV g vc (ev I x) (ev I y) K
 |.load t x=>fe g (ev I x) λva=>match dE T t with|some ti=>kH I ti.agg ti.size g va K|none=>False
 |.fieldAddr s x f=>fe g (ev I x) λva=>sP T s f va K
 |.binOp op t x y _=>fe g (ev I x) λva=>fe g (ev I y) λvb=>bin T op t g va vb K
 |.unOp op _ x=>fe g (ev I x) λva=>ri op va K
 |.convert src dst x=>fe g (ev I x) λva=>tY T src dst va K
 |.nilCheck x=>fe g (ev I x) λva=>MT va K
 |.extract x k=>J3 k (ev I x) K
 |.indexAddr t x y=>fe g (ev I x) λva=>fe g (ev I y) λvi=>qN T I t g va vi K
 |.index t x y=>fe g (ev I x) λva=>fe g (ev I y) λvi=>C7 T t g va vi K
 |.lookup t x y ok=>fe g (ev I x) λva=>fe g (ev I y) λvi=>rX T I t ok g va vi K
 |.slice t x lo hi none=>fe g (ev I x) λva=>lD T I t g va lo hi K
 |.build t pa=>parts g I pa.toList λps=>q9 T t ps K
 |.makeFunc (.func f) Y IV=>match Y.toList with
  |[]=>match qC I IV.toList with|some cs=>K (.s (.dZ f cs))|none=>False
  |[y]=>match IV.toList with
   |[]=>fe g (ev I y) λva=>match va with|.g cs=>bif o5 cs then K (.s (.d (qv f cs)))else False|_=>False
   |_=>False
  |_=>False
 |.call c=>match c.callee with
  |.value fo=>fe g (ev I fo) λvf=>dY g I c.args.toList λars=>mW P I g vf ars K
  |.builtin .len=>match c.args.toList,c.argTypes.toList with
   |[x],[t]=>fe g (ev I x) λva=>qL T I t va K
   |_,_=>False
  |.builtin .cap=>match c.args.toList,c.argTypes.toList with
   |[x],[t]=>fe g (ev I x) λva=>J9 T t va K
   |_,_=>False
  |.builtin .max=>ints g I c.args.toList λl=>match l with|(k,n)::r=>K (Ih true k n r)|[]=>False
  |.builtin .min=>ints g I c.args.toList λl=>match l with|(k,n)::r=>K (Ih false k n r)|[]=>False
  |_=>False
 |_=>False
def ZY(P:Ba)(o:Oper)(I:St)(r:AV):Prop:=
 ∀R N M V a w,Inv R N M V I a w->
  (∃v,(execOp a.eval o).run P w=.ok (.value v) w/\r.bI M V v)\/
  (∃f vs,(execOp a.eval o).run P w=.ok (.enter f vs) w/\
   Calls P f vs w λe w'=>∃v M',e=.returned v/\r.bI M' V v/\Inv R N M' V I a w'/\Grow R.B M M'/\cE R w w')
def jW.aP0{P:Ba}{o:Oper}{I:St}{g:Da Bool}{r:AV}(h:jW P o I g r)(ha:act g):ZY P o I r:=
 λR N M V a w i=>.inl (h ha R N M V a w i)
def Zn{P:Ba}{T:List (Nat×bV)}(hT:cD P T){o:Oper}{I:St}{g:Da Bool}{K:AV->Prop}(h:mD P T o.op I g K):
  ∃r,K r/\(act g->ZY P o I r):=by
 have up:(∃r,K r/\jW P o I g r)->∃r,K r/\(act g->ZY P o I r):=λ⟨r,hk,hp⟩=>⟨r,hk,hp.aP0⟩
 generalize oT:o.op=op at h
 cases op with
 |move x=>exact up (Ex (.inl oT) h)
 |assign x=>exact up (Ex (.inr oT) h)
 |pick c x y=>exact up (pick.spec oT h)
 |load t x=>exact up (load.spec hT oT h)
 |fieldAddr s x f=>exact up (field.spec hT oT h)
 |binOp op t x y ty=>simp only[mD]at h;replace h:=Db h;obtain⟨va,h,hra⟩:=h;replace h:=Db h;obtain⟨vb,h,hrb⟩:=h;obtain⟨r,hk,hr⟩:=bin.spec hT oT h;exact⟨r,hk,λha R N M V a w i=>.inl (hr ha M V a w (hra ha R N M V a w i) (hrb ha R N M V a w i))⟩
 |unOp op t x=>exact up (un.spec oT h)
 |convert src dst x=>exact up (conv.spec hT oT h)
 |nilCheck x=>exact up (nil.spec oT h)
 |extract x k=>exact up (ext.spec oT h)
 |indexAddr t x y=>exact up (idx.spec hT oT h)
 |index t x y=>exact up (str.spec hT oT h)
 |lookup t x y ok=>exact up (rX.spec hT oT h)
 |slice t x lo hi mx=>
  cases mx with
  |none=>exact up (lD.spec hT oT h)
  |some m=>exact h.elim
 |build t pa=>exact up (build.spec hT oT h)
 |makeFunc fn Y IV=>
  cases fn with
  |func f=>
   simp only[mD]at h;split at h
   ·rename_i Z6;have:Y= #[]:=by apply Jd;simpa using Z6
    subst this;exact up (mkf.spec oT h)
   ·split at h
    ·rename_i y Z6 _ nR;have e1:Y= #[y]:=by apply Jd;simpa using Z6
     have e2:IV= #[]:=by apply Jd;simpa using nR
     subst e1;subst e2;exact up (mkb.spec oT h)
    cases h
   cases h
  |_=>exact h.elim
 |call c=>
  obtain⟨callee,args,wR⟩:=c;simp only[mD]at h;split at h
  ·obtain⟨r,hk,hr⟩:=aNP.spec oT h;exact⟨r,hk,λha R N M V a w i=>.inr (hr ha R N M V a w i)⟩
  ·split at h
   ·rename_i x t hx ht;have e1:args= #[x]:=by apply Jd;simpa using hx
    have e2:wR= #[t]:=by apply Jd;simpa using ht
    subst e1;subst e2;exact up (len.spec hT oT h)
   cases h
  ·split at h
   ·rename_i x t hx ht;have e1:args= #[x]:=by apply Jd;simpa using hx
    have e2:wR= #[t]:=by apply Jd;simpa using ht
    subst e1;subst e2;exact up (cap.spec hT oT h)
   cases h
  ·exact up (Ow true oT h)
  ·exact up (Ow false oT h)
  cases h
 |_=>exact h.elim
def JR(T:List (Nat×bV))(ref:List Nat)(d:Nat)(op:Op)(I:St)(K:AV->aP->Prop):Prop:=
 match op with
 |.alloc t=>x9 T I d t K
 |.box _ x=>KB I d x K
 |.store t x y=>o7 T I t x y K
 |.buildSlice t len pa=>KA T I d t len pa.toList K
 |.makeSlice t x y=>Jh T I d t x y K
 |.makeMap t none=>G9 T I d t K
 |.mapUpdate t x y z=>nm T I t x y z K
 |.range t x=>GW T I d t x K
 |.next x false=>PU I x K
 |.entry x=>IG I x λv=>K v I.box
 |.convert t t' x=>wu T I t t' x K
 |.call c=>match c.callee with
  |.builtin .append=>match c.args.toList,c.argTypes.toList with
   |[x,y],[t,t']=>bif Nat.beq t t' then(match ev I x with
    |.s (.j0 _ _ _ _)=>Ot T I d t x y K
    |_=>x8 T I ref d t x y K)else Bu T I d t t' x y K
   |_,_=>False
  |.builtin .copy=>match c.args.toList,c.argTypes.toList with
   |[x,y],[t,_]=>LX T I t x y K
   |_,_=>False
  |_=>False
 |_=>False
def aHL(P:Ba)(o:Oper)(I:St)(K:AV->aP->Prop)(R:Cx)(N:Nat)(M:Mem)(a:Act)(w:Aa):Prop:=
 ∃r bx,K r bx/\∃v w' M' V',
  ((execOp a.eval o).run P w=.ok (.value v) w'\/((execOp a.eval o).run P w=.ok .skip w'/\v=undef))/\
  r.bI M' V' v/\Inv R N M' V' ⟨I.env,bx⟩ a w'/\Grow R.B M M'/\cE R w w'
def Wl{P:Ba}{T:List (Nat×bV)}(hT:cD P T){ref:List Nat}{d:Nat}{o:Oper}{I:St}{K:AV->aP->Prop}(h:JR T ref d o.op I K)
  {R:Cx} {N:Nat} {M:Mem} {V:Nm} {a:Act} {w:Aa} (J:R.ref=ref) (i:Inv R N M V I a w):aHL P o I K R N M a w:=by
 have up:(∃r bx,K r bx/\KI P o I r bx)->aHL P o I K R N M a w:=λ⟨r,bx,hk,hp⟩=>⟨r,bx,hk,hp R N M V a w i⟩
 generalize oT:o.op=op at h
 cases op with
 |alloc t=>exact up (alloc.spec hT oT h)
 |box t x=>exact up (box.spec oT h)
 |store t x y=>exact up (store.spec hT oT h)
 |buildSlice t len pa=>exact up (bsl.spec hT oT h)
 |makeSlice t x y=>exact up (mk.spec hT oT h)
 |makeMap t r=>cases r with
  |none=>exact up (G9.spec oT h)
  |some x=>exact h.elim
 |mapUpdate t x y z=>exact up (nm.spec hT oT h)
 |range t x=>exact up (GW.spec hT oT h)
 |next x s=>cases s with
  |true=>cases h
  |false=>obtain⟨r,bx,hk,v,w',h1,h2,h3,h4⟩:=PU.spec oT h i;exact⟨r,bx,hk,v,w',M,V,.inl h1,h2,h3,fb _ _,h4⟩
 |entry x=>obtain⟨r,hk,hp⟩:=IG.spec (K:=λv=>K v I.box) oT h;obtain⟨v,h1,h2⟩:=hp iY R N M V a w i;exact⟨r,I.box,hk,v,w,M,V,.inl h1,h2,i,fb _ _,lc _ _⟩
 |convert t t' x=>exact up (byte.spec hT oT h)
 |call c=>
  obtain⟨callee,args,wR⟩:=c;simp only[JR]at h;split at h
  ·split at h
   ·rename_i x y t t' hx ht;have e1:args= #[x,y]:=by apply Jd;simpa using hx
    have e2:wR= #[t,t']:=by apply Jd;simpa using ht
    subst e1;subst e2
    cases ER:Nat.beq t t' with
    |false=>rw[ER]at h;exact up (aQB.spec hT oT h)
    |true=>
     rw[ER]at h;have e0:=Mb ER;subst e0;simp only[cond_true]at h;split at h
     ·exact aQA.spec hT oT h i
     obtain⟨r,bx,hk,hs⟩:=app.spec hT oT h;exact⟨r,bx,hk,hs R N M V a w J i⟩
   cases h
  ·split at h
   ·rename_i x y t t' hx ht;have e1:args= #[x,y]:=by apply Jd;simpa using hx
    have e2:wR= #[t,t']:=by apply Jd;simpa using ht
    subst e1;subst e2;exact up (LX.spec hT oT h)
   cases h
  cases h
 |_=>exact h.elim
def M8:Op->Bool
 |.alloc _=>true
 |.box _ _=>true
 |.store _ _ _=>true
 |.buildSlice _ _ _=>true
 |.makeSlice _ _ _=>true
 |.makeMap _ _=>true
 |.mapUpdate _ _ _ _=>true
 |.range _ _=>true
 |.next _ _=>true
 |.entry _=>true
 |.convert _ t _=>aJ7.contains t
 |.call c=>match c.callee with
  |.builtin .append=>true
  |.builtin .copy=>true
  |_=>false
 |_=>false
def wT(b:Bool):AV->AV
 |.s x=>.ib b x
 |.g cs=>.ig b cs
 |_=>.s (.d .bL)
def o9(I:St)(d:Nat)(v:AV):St:=⟨(d,v)::I.env,I.box⟩
def SE(rc:List Nat)(I:St)(op:Op):Da (Ca×List Ca):=
 match op with
 |.call {callee:=.value fo,args, .. }=>match ev I fo with
  |.s (.dZ f _)=>bif rc.contains f then some (fo,args.toList)else none
  |_=>none
 |_=>none
def HL(T:List (Nat×bV))(I:St)(op:Op):Da (Nat×Bool):=
 match op with
 |.binOp bo t x y _=>match bo with
  |.eql=>match dE T t with
   |some i=>match i.j7 with
    |.slice _=>match ev I x,ev I y with
     |.s (.d (.fU n _ _)),.s (.d (.val (.slice none 0 0)))=>some (n,true)
     |_,_=>none
    |_=>none
   |none=>none
  |.neq=>match dE T t with
   |some i=>match i.j7 with
    |.slice _=>match ev I x,ev I y with
     |.s (.d (.fU n _ _)),.s (.d (.val (.slice none 0 0)))=>some (n,false)
     |_,_=>none
    |.iface=>match ev I x,y with
     |.s (.d (.err e)),.const .nilIface=>some (1,!e)
     |_,_=>none
    |_=>none
   |none=>none
  |_=>none
 |_=>none
def PC{P:Ba}{M:Mem}{e:Bool}{v:wa}(r:(DV.err e).bI M v)(w:Aa){t:Ea}{ms}(h:P.underlying t=some (.interface ms)):(binOp .neq t v .nilIface).run P w=.ok (.bool e) w:=by
 have key:∀d,(Op.equalIn (d+1) t v .nilIface).run P w=.ok (!e) w:=by intro d;rcases r with⟨rfl,rfl⟩|⟨rfl,u,x,rfl⟩ <;> simp[Op.equalIn,Bb h]
 have:(binOp .neq t v .nilIface)=(do return .bool (!(<-Op.equal t v .nilIface))):=by rcases r with⟨rfl,rfl⟩|⟨rfl,u,x,rfl⟩ <;> rfl
 rw[this];simp[Op.equal,Op.maxDepth,key 9999]
def JJ{P:Ba}{M:Mem}{e:Bool}{v:wa}(r:(DV.err e).bI M v)(w:Aa)(t:Ea)(x:Ca):(eqGuard .neq t x (.const .nilIface) v .nilIface).run P w=.ok () w:=by
 rcases r with⟨rfl,rfl⟩|⟨rfl,u,q,rfl⟩
 ·unfold eqGuard;simp
 unfold eqGuard;simp
def HL.spec{P:Ba}{T:List (Nat×bV)}(hT:cD P T){o:Oper}{I:St}{n:Nat}{p:Bool}(h:HL T I o.op=some (n,p)){R:Cx}{N:Nat}{M:Mem}{V:Nm}{a:Act}{w:Aa}(iv:Inv R N M V I a w):
  ∃b:Bool,(b=p->n=0)/\(execOp a.eval o).run P w=.ok (.value (.bool b)) w:=by
 have key:∀(v:wa) (m s:Nat) (f:Nat->Nat->DV),(DV.fU m s f).bI M v->∃(ad:Da Addr) (k c:Nat),v=.slice ad k c/\(ad.isNone=true->m=0):=by
  rintro v m s f ⟨ad,cap,e,_,h⟩;refine⟨ad,m,cap,e,λh0=>?_⟩;rcases h with h|⟨b,o,h,_⟩
  ·exact h
  subst h;cases h0
 unfold HL at h
 split at h
 case h_2=>cases h
 rename_i bo t x y ty oT
 split at h
 case h_3=>cases h
 ·split at h
  case h_2=>cases h
  rename_i i hi;split at h
  case h_2=>cases h
  rename_i e hu;split at h
  case h_2=>cases h
  rename_i m s f hx hy
  cases h
  have rx:=Yb iv x;have ry:=Yb iv y;rw[hx]at rx;rw[hy]at ry;obtain⟨ad,k,c,ex,h0⟩:=key _ _ _ _ rx;have ey:a.eval y=.slice none 0 0:=ry;refine⟨ad.isNone,h0,?_⟩;simp only[execOp,oT,ex,ey,Ic,eK BinOp.eql t x y (.slice ad k c) (.slice none 0 0) w sM sM,Result.andThen,zV w ((hT.get hi).xI hu),Wc]
 ·split at h
  case h_2=>cases h
  rename_i i hi;split at h
  case h_3=>cases h
  case h_2=>
   rename_i hu;split at h
   case h_2=>cases h
   rename_i e hx
   cases h
   have rx:=Yb iv x;rw[hx]at rx;obtain⟨ds,q1,q2⟩:=(hT.get hi).j7;rw[hu]at q2;obtain⟨ms,rfl⟩:∃ms,ds=.interface ms:=by cases ds <;> first|exact⟨_,rfl⟩|cases q2
   have ey:a.eval (.const .nilIface)=.nilIface:=rfl;have rx':(DV.err e).bI M (a.eval x):=rx;refine⟨e,λh=>(by cases e <;> cases h),?_⟩;simp only[execOp,oT,ey,Ic,JJ rx' w t x,Result.andThen,PC rx' w q1,Wc]
  rename_i e hu;split at h
  case h_2=>cases h
  rename_i m s f hx hy
  cases h
  have rx:=Yb iv x;have ry:=Yb iv y;rw[hx]at rx;rw[hy]at ry;obtain⟨ad,k,c,ex,h0⟩:=key _ _ _ _ rx;have ey:a.eval y=.slice none 0 0:=ry;refine⟨!ad.isNone,λhb=>h0 (by simpa using hb),?_⟩;simp only[execOp,oT,ex,ey,Ic,eK BinOp.neq t x y (.slice ad k c) (.slice none 0 0) w sM sM,Result.andThen,w7 w ((hT.get hi).xI hu),Wc]
def VW(P:Ba)(T:List (Nat×bV))(N:Nat)(ref rc:List Nat)(o:Oper)(I:St)(K:St->Prop):Prop:=
 match o.dst with
 |some d=>bif Nat.blt d N then
   (bif M8 o.op then(bif YC rc ref d then ∃zs,JR T ref d o.op (CB zs I) λv bx=>K ⟨(d,v)::(CB zs I).env,bx⟩else JR T ref d o.op I λv bx=>K ⟨(d,v)::I.env,bx⟩)
   else match SE rc I o.op with
    |some (fo,args)=>bif YC rc ref d then ∃zs,fe none (ev (CB zs I) fo) λvf=>dY none (CB zs I) args λars=>IX P (CB zs I) vf ars λv bx=>K ⟨(d,v)::(CB zs I).env,bx⟩
     else fe none (ev I fo) λvf=>dY none I args λars=>IX P I vf ars λv bx=>K ⟨(d,v)::I.env,bx⟩
    |none=>match QK rc ref I o.op with
     |some (fo,args)=>fe none (ev I fo) λvf=>dY none I args λars=>Hq P I vf ars λv bx=>K ⟨(d,v)::I.env,bx⟩
     |none=>match BU T I o.op with
      |some (l,k)=>∀r,ah l k=r->K (o9 I d (.s (.d (aKO r))))
      |none=>match HL T I o.op with
      |some (n,p)=>∀b:Bool,(b=p->n=0)->K (o9 I d (kY b))
      |none=>mD P T o.op I none λv=>K (o9 I d v))else False
 |none=>bif M8 o.op then JR T ref 0 o.op I λ_ bx=>K ⟨I.env,bx⟩else False
def A7(N:Nat)(o:Oper)(I:St)(K:St->Prop):Prop:=
 match o.dst with
 |some d=>bif Nat.blt d N then K (o9 I d (.s (.d .bL)))else False
 |none=>K I
def tS(all:List Oper)(j:Nat):Da Nat:=(all[j]?).bind (·.dst)
def Tk(rc:List Nat)(I:St)(op:Op):Bool:=match M8 op with
 |true=>true
 |false=>match SE rc I op with
  |some _=>true
  |none=>false
def rL(nY b:Bool):Bool:=match nY with|true=>b|false=> !b
def lu(P:Ba)(T:List (Nat×bV))(N:Nat)(ref rc:List Nat)(all:List Oper)(o:Oper)(next:St->(St->Prop)->Prop)(I:St)(K:St->Prop):Prop:=
  match o.guard with
  |none=>VW P T N ref rc o I λI'=>next I' K
  |some (j,nY)=>match tS all j with
   |none=>False
   |some t=>match fL I.env t with
    |.s (.d (.lit b))=>match b,nY with
     |true,true=>VW P T N ref rc o I λI'=>next I' K
     |false,false=>VW P T N ref rc o I λI'=>next I' K
     |_,_=>A7 N o I λI'=>next I' K
    |.s (.d (.val (.bool b)))=>match Tk rc I o.op with
     |true=>
      (b=nY->VW P T N ref rc o (o9 I t (.s (.d (.lit nY)))) λI'=>next I' K)/\
      (b= !nY->A7 N o (o9 I t (.s (.d (.lit (!nY))))) λI'=>next I' K)
     |false=>match o.dst with
      |some d=>bif Nat.blt d N then mD P T o.op I (some (rL nY b)) λv=>next (o9 I d (wT (rL nY b) v)) K else False
      |none=>False
    |.ib c (.d (.val (.bool b)))=>match Tk rc I o.op with
     |true=>
      (c=true->b=nY->VW P T N ref rc o (o9 I t (.s (.d (.lit nY)))) λI'=>next I' K)/\
      (c=true->b= !nY->A7 N o (o9 I t (.s (.d (.lit (!nY))))) λI'=>next I' K)/\
      (c=false->A7 N o I λI'=>next I' K)
     |false=>match o.dst with
      |some d=>bif Nat.blt d N then mD P T o.op I (some (c&&rL nY b)) λv=>next (o9 I d (wT (c&&rL nY b) v)) K else False
      |none=>False
    |_=>False
def l5(P:Ba)(T:List (Nat×bV))(N:Nat)(ref rc:List Nat)(all:List Oper)(l:List Oper):St->(St->Prop)->Prop:=
 @List.rec Oper (λ_=>St->(St->Prop)->Prop) (λI K=>K I) (λo _ ih I K=>lu P T N ref rc all o ih I K) l
section
variable{P:Ba}{T:List (Nat×bV)}{N:Nat}{ref rc:List Nat}{R:Cx}{M:Mem}{V:Nm}{I:St}{a:Act}{w:Aa}
def Inv.put(i:Inv R N M V I a w){d:Nat}{r:AV}{v:wa}(hd:d<N)(hr:r.bI M V v):Inv R N M V (o9 I d r) (a.put (some d) v) w:=by
 refine⟨i.defers,by simp[Act.put,i.tmps],i.heap,λt=>?_,i.mem,i.keys,i.box,i.inj,i.apart,i.low,i.ref⟩;simp only[o9];rw[gP];by_cases h:d=t
 ·subst h;rw[La rfl];have:d<a.tmps.size:=by rw[i.tmps];exact hd
  simpa[Act.put,this]using hr
 rw[Ka h];have:=i.env t;simpa[Act.put,tz h]using this
def KG(R:Cx)(N:Nat)(M:Mem)(w:Aa)(K:St->Prop)(a':Act)(w':Aa):Prop:=
 ∃I' M' V',K I'/\Inv R N M' V' I' a' w'/\Grow R.B M M'/\cE R w w'
def UP{r:Da Nat}{n:Nat}{f:FuncId}{args:Array wa}{qa:Ending->Aa->Prop}:CallsIn (FW r) n P f args w qa↔Calls P f args w qa:=callsIn_wide (n:=n)
def XN{r:Da Nat}{n:Nat}{row:String}{args:Array wa}{qa:wa->Aa->Prop}:RowsIn (FW r) n P row args w qa↔Rows P row args w qa:=
 ⟨λh c cs=>let⟨v,w',h1,h2⟩:=h c cs (room_wide _);⟨v,w',h1,h2.steps⟩,λh c cs _=>let⟨v,w',h1,h2⟩:=h c cs;⟨v,w',h1,(stepsIn_wide (P:=P)).2 h2⟩⟩
def F0{o:Oper}{r:AV}{d:Nat}{K:St->Prop}{Q:Exit->Act->Aa->Prop}(hd:o.dst=some d)(hN:d<N)(h:ZY P o I r)(i:Inv R N M V I a w)(hk:K (o9 I d r)):
  o.wp P a w (KG R N M w K) Q:=by
 unfold Oper.wp
 rcases h R N M V a w i with⟨v,e,hr⟩|⟨f,vs,e,hc⟩
 ·rw[e,Wd,hd];exact⟨_,M,V,hk,i.put hN hr,fb _ _,lc _ _⟩
 ·rw[e,mr];apply hc.mono;rintro e' w' ⟨v,M',rfl,hr,i',hg,lB⟩;simp only[hd];exact⟨_,M',V,hk,i'.put hN hr,hg,lB⟩
def MQ{r:Da Nat}{o:Oper}{next:Act->Aa->Prop}{Q:Exit->Act->Aa->Prop}(YP:∀c,o.op≠.defer c)(h:o.wp P a w next Q):o.wpIn (FW r) 0 P a w next Q:=by
 refine⟨λ_ _=>trivial,?_⟩;rw[Oper.semAt_eq _ _ _ YP];unfold Oper.wp at h;generalize (execOp a.eval o).run P w=res at h⊢;unfold Oper.upon at h;split at h
 ·exact h
 ·exact h
 ·exact h
 ·exact⟨λe=>(by cases e),UP.2 h⟩
 ·exact⟨λe=>(by cases e),XN.2 h⟩
 ·exact h
 cases h
def SE.op{rc:List Nat}{I:St}{o:Oper}{fo:Ca}{l:List Ca}(h:SE rc I o.op=some (fo,l)):∃args wR,o.op=.call {callee:=.value fo,args:=args,argTypes:=wR}/\args.toList=l:=by
 unfold SE at h;split at h
 ·rename_i fo' args wR oT;split at h
  ·rename_i f cs hv
   cases hc:rc.contains f with
   |false=>rw[hc]at h;cases h
   |true=>rw[hc]at h;simp only[cond_true,Je,Aj]at h;obtain⟨rfl,rfl⟩:=h;exact⟨_,_,oT,rfl⟩
  cases h
 cases h
def Vr(hT:cD P T){o:Oper}{K:St->Prop}{Q:Exit->Act->Aa->Prop}(h:VW P T N ref rc o I K)(J:R.ref=ref)(i:Inv R N M V I a w):
  o.wp P a w (KG R N M w K) Q:=by
 unfold VW at h
 split at h
 ·rename_i d hd
  cases hN:Nat.blt d N with
  |false=>rw[hN]at h;cases h
  |true=>
   rw[hN]at h;have hN:d<N:=Dc hN;simp only[cond_true]at h
   cases hx:M8 o.op with
   |true=>
    rw[hx]at h;simp only[cond_true]at h
    cases hfz:YC rc ref d with
    |true=>
     rw[hfz]at h;simp only[cond_true]at h;obtain⟨zs,h⟩:=h;unfold YC at hfz;rw[Bool.and_eq_true]at hfz;obtain⟨M1,i1,g1⟩:=i.CB (J.trans (qw.1 hfz.2)) zs;obtain⟨r,bx,hk,v,w',M',V',a7,hr,hi,hg,lB⟩:=Wl hT h J i1;unfold Oper.wp;rcases a7 with a7|⟨a7,rfl⟩
     ·rw[a7,Wd,hd];exact zcp
     rw[a7,yj,hd];exact zcp
    |false=>
    rw[hfz]at h;simp only[Ua]at h;obtain⟨r,bx,hk,v,w',M',V',a7,hr,hi,hg,lB⟩:=Wl hT h J i;unfold Oper.wp;rcases a7 with a7|⟨a7,rfl⟩
    ·rw[a7,Wd,hd];exact zc9
    rw[a7,yj,hd];exact zc9
   |false=>
    rw[hx]at h;simp only[Ua]at h;split at h
    ·rename_i fo args hR
     cases hfz:YC rc ref d with
     |true=>rw[hfz]at h;simp only[cond_true]at h;obtain⟨zs,h⟩:=h;unfold YC at hfz;rw[Bool.and_eq_true]at hfz;obtain⟨M1,i1,g1⟩:=i.CB (J.trans (qw.1 hfz.2)) zs;obtain⟨v,bx,hk,hs⟩:=Is (SE.op hR) h;obtain⟨f,vs,a7,eF⟩:=hs R N M1 V a w i1;unfold Oper.wp;rw[a7,mr];apply eF.mono;rintro e' w' ⟨v',M',V',rfl,hr,i',hg,lB⟩;simp only[hd];exact⟨_,M',V',hk,i'.put (I:=⟨(CB zs I).env,bx⟩) hN hr,g1.trans hg,lB⟩
     |false=>
     rw[hfz]at h;simp only[Ua]at h;obtain⟨v,bx,hk,hs⟩:=Is (SE.op hR) h;obtain⟨f,vs,a7,eF⟩:=hs R N M V a w i;exact xc
    split at h
    ·rename_i fo args hR;obtain⟨hr0,hR⟩:=QK.op hR;obtain⟨v,bx,hk,hs⟩:=Uw hR h;obtain⟨f,vs,a7,eF⟩:=hs R N M V a w (by rw[J,hr0]) i;exact xc
    split at h
    ·rename_i l k hq;obtain⟨v,a7,hv⟩:=BU.spec hT hq i;unfold Oper.wp;rw[a7,Wd,hd];exact⟨_,M,V,h _ rfl,i.put hN hv,fb _ _,lc _ _⟩
    split at h
    ·rename_i n p hq;obtain⟨b,hb,a7⟩:=HL.spec hT hq i;unfold Oper.wp;rw[a7,Wd,hd];exact⟨_,M,V,h b hb,i.put hN rfl,fb _ _,lc _ _⟩
    obtain⟨r,hk,hs⟩:=Zn hT h;exact F0 hd hN (hs iY) i hk
 ·rename_i hd
  cases hx:M8 o.op with
  |false=>rw[hx]at h;cases h
  |true=>
   rw[hx]at h;obtain⟨r,bx,hk,v,w',M',V',a7,hr,hi,hg,lB⟩:=Wl hT h J i;unfold Oper.wp;rcases a7 with a7|⟨a7,rfl⟩
   ·rw[a7,Wd,hd];exact⟨_,M',V',hk,hi,hg,lB⟩
   rw[a7,yj,hd];exact⟨_,M',V',hk,hi,hg,lB⟩
def mD.nd{o:Oper}{I:St}{g:Da Bool}{K:AV->Prop}(h:mD P T o.op I g K):∀c,o.op≠.defer c:=by
 intro c e;rw[e]at h
 cases h
def VW.nd{o:Oper}{K:St->Prop}(h:VW P T N ref rc o I K):∀c,o.op≠.defer c:=by intro c e;unfold VW at h;exact zaJ
def A7.sound{o:Oper}{K:St->Prop}(h:A7 N o I K)(i:Inv R N M V I a w):
  KG R N M w K (a.put o.dst undef) w:=by
 unfold A7 at h
 split at h
 ·rename_i d hd
  cases hN:Nat.blt d N with
  |false=>rw[hN]at h;cases h
  |true=>rw[hN]at h;have hN:d<N:=Dc hN;rw[hd];exact⟨_,M,V,h,i.put hN trivial,fb _ _,lc _ _⟩
 ·rename_i hd;rw[hd];exact⟨_,M,V,h,i,fb _ _,lc _ _⟩
def YU{A:Array wa}{t:Nat}{b:Bool}(h:A.getD t undef=.bool b):A[t]? =some (.bool b):=by
 by_cases ht:t<A.size
 ·simp[ht]at h⊢;exact h
 simp[ht,undef]at h
def pZ{all:List Oper}{o:Oper}{j t:Nat}{nY b:Bool}(hg:o.guard=some (j,nY))(hj:tS all j=some t)(hb:a.tmps.getD t undef=.bool b):
  Region.wanted o (yielded all.toArray a.tmps)=(b==nY):=by
 have h1:((all[j]?).bind (·.dst))=some t:=hj
 simp[Region.wanted,hg,yielded,h1,YU hb]
def AU{all:List Oper}{o:Oper}{j t:Nat}{nY:Bool}(hg:o.guard=some (j,nY))(hj:tS all j=some t)(hb:a.tmps.getD t undef=undef):
  Region.wanted o (yielded all.toArray a.tmps)=false:=by
 have h1:((all[j]?).bind (·.dst))=some t:=hj
 have h2:∀b,a.tmps[t]? ≠some (.bool b):=by intro b e;simp[e,undef]at hb
 simp only[Region.wanted,hg,yielded]
 simp[h1]
def aAT{t:Nat}{b nY:Bool}(i:Inv R N M V I a w)(hv:fL I.env t=.s (.d (.val (.bool b))))(hb:b=nY):Inv R N M V (o9 I t (.s (.d (.lit nY)))) a w:=by
 refine⟨i.defers,i.tmps,i.heap,λu=>?_,i.mem,i.keys,i.box,i.inj,i.apart,i.low,i.ref⟩;simp only[o9];rw[gP];split
 ·rename_i h;subst h;have:=i.env t;rw[hv]at this;rw[<-hb];exact this
 exact i.env u
def VD{t:Nat}{b nY c:Bool}(i:Inv R N M V I a w)(hv:fL I.env t=.ib c (.d (.val (.bool b))))(hc:c=true)(hb:b=nY):Inv R N M V (o9 I t (.s (.d (.lit nY)))) a w:=by
 refine⟨i.defers,i.tmps,i.heap,λu=>?_,i.mem,i.keys,i.box,i.inj,i.apart,i.low,i.ref⟩;simp only[o9];rw[gP];split
 ·rename_i h;subst h;have:=i.env t;rw[hv]at this;rw[<-hb];exact this.1 hc
 exact i.env u
def KG.trans{K:St->Prop}{M1:Mem}{w1:Aa}{a':Act}{w':Aa}(hg:Grow R.B M M1)(hk:cE R w w1)(h:KG R N M1 w1 K a' w'):KG R N M w K a' w':=by obtain⟨I',M',V',h1,h2,h3,h4⟩:=h;exact⟨I',M',V',h1,h2,hg.trans h3,hk.trans h4⟩
def Ks(hT:cD P T){all:List Oper}{K:St->Prop}{Q:Exit->Act->Aa->Prop}(J:R.ref=ref)(l2:List Oper):∀(l:List Oper) {M:Mem} {V:Nm} {I:St} {a:Act} {w:Aa},
  l5 P T N ref rc all l I K->Inv R N M V I a w->(∀a' w',KG R N M w K a' w'->wpListIn (FW R.rd) 0 P all.toArray Q l2 a' w')->wpListIn (FW R.rd) 0 P all.toArray Q (l++l2) a w
 |[],M,V,I,a,w,h,i,hQ=>hQ a w ⟨I,M,V,h,i,fb _ _,lc _ _⟩
 |o::rest,M,V,I,a,w,h,i,hQ=>by
  have next:∀{a' w'},KG R N M w (λI'=>l5 P T N ref rc all rest I' K) a' w'->wpListIn (FW R.rd) 0 P all.toArray Q (rest++l2) a' w':=by rintro a' w' ⟨I',M',V',h1,h2,h3,h4⟩;exact Ks hT J l2 rest h1 h2 λa2 w2 hp=>hQ a2 w2 (hp.trans h3 h4)
  have yes:∀{ba:St},Inv R N M V ba a w->VW P T N ref rc o ba (λI'=>l5 P T N ref rc all rest I' K)->Region.wanted o (yielded all.toArray a.tmps)=true->wpListIn (FW R.rd) 0 P all.toArray Q (o::(rest++l2)) a w:=by intro ba i0 h hw;unfold wpListIn;rw[La hw];exact MQ (VW.nd h) (Hf (λa' w' hp=>next hp) (Vr hT h J i0))
  have no:∀{ba:St},Inv R N M V ba a w->A7 N o ba (λI'=>l5 P T N ref rc all rest I' K)->Region.wanted o (yielded all.toArray a.tmps)=false->wpListIn (FW R.rd) 0 P all.toArray Q (o::(rest++l2)) a w:=by intro ba i0 h hw;unfold wpListIn;rw[Ka (by simp[hw])];exact⟨λ_ _=>trivial,next (A7.sound h i0)⟩
  have part:∀{d:Nat} {gb:Bool},o.dst=some d->d<N->mD P T o.op I (some gb) (λv=>l5 P T N ref rc all rest (o9 I d (wT gb v)) K)->
    Region.wanted o (yielded all.toArray a.tmps)=gb->wpListIn (FW R.rd) 0 P all.toArray Q (o::(rest++l2)) a w:=by
   intro d gb hd hN h hw
   obtain⟨r,hk,hs⟩:=Zn hT h
   unfold wpListIn
   cases hgb:gb with
   |true=>
    rw[La (by rw[hw,hgb])];have H4:act (some gb):=λc e=>by cases e;exact hgb
    have hdo:ZY P o I (wT gb r):=by
     intro R N M V a w i;have hwr:∀{M V v},r.bI M V v->(wT gb r).bI M V v:=by
      intro M V v hr
      cases r with
      |s x=>exact⟨λ_=>hr,λh=>by rw[hgb]at h;cases h⟩
      |g cs=>exact⟨λ_=>hr,λh=>by rw[hgb]at h;cases h⟩
      |_=>exact trivial
     exact kz
    exact MQ (mD.nd h) (Hf (λa' w' hp=>next hp) (F0 hd hN hdo i hk))
   |false=>
    rw[Ka (by rw[hw,hgb];simp)];refine⟨λ_ _=>trivial,next ⟨_,M,V,hk,?_,fb _ _,lc _ _⟩⟩;rw[hd];apply i.put hN
    cases r with
    |s x=>exact⟨λh=>(by rw[hgb]at h;cases h),λ_=>rfl⟩
    |g cs=>exact⟨λh=>(by rw[hgb]at h;cases h),λ_=>rfl⟩
    |_=>exact trivial
  replace h:lu P T N ref rc all o (l5 P T N ref rc all rest) I K:=h;unfold lu at h;split at h
  ·rename_i hg;exact yes i h tn
  rename_i j nY hg;split at h
  ·cases h
  rename_i t ht;split at h
  ·rename_i b hv;have hb:a.tmps.getD t undef=.bool b:=by have:=i.env t;rw[hv]at this;exact this
   have hw:=pZ hg ht hb
   cases b <;> cases nY
   ·exact yes i h hw
   ·exact no i h hw
   ·exact no i h hw
   exact yes i h hw
  ·rename_i b hv;have hb:a.tmps.getD t undef=.bool b:=by have:=i.env t;rw[hv]at this;exact this
   have hw:=pZ hg ht hb
   cases hx:Tk rc I o.op with
   |true=>
    rw[hx]at h;by_cases hbp:b=nY
    ·exact yes (aAT i hv hbp) (h.1 hbp) (by rw[hw,hbp];simp)
    have hbn:b= !nY:=by cases b <;> cases nY <;> first|rfl|exact absurd rfl hbp
    exact no (aAT i hv hbn) (h.2 hbn) (by rw[hw,hbn];cases nY <;> rfl)
   |false=>rw[hx]at h;simp only at h;exact kf
  ·rename_i c b hv;have hr:(AV.ib c (.d (.val (.bool b)))).bI M V (a.tmps.getD t undef):=by have:=i.env t;rw[hv]at this;exact this
   have hw:Region.wanted o (yielded all.toArray a.tmps)=(c&&rL nY b):=zbq
   split at h
   ·obtain⟨h1,h2,h3⟩:=h
    cases c with
    |false=>exact no i (h3 rfl) (by rw[hw];rfl)
    |true=>
     by_cases hbp:b=nY
     ·exact yes (VD i hv rfl hbp) (h1 rfl hbp) (by rw[hw,hbp];cases nY <;> rfl)
     have hbn:b= !nY:=by cases b <;> cases nY <;> first|rfl|exact absurd rfl hbp
     exact no (VD i hv rfl hbn) (h2 rfl hbn) (by rw[hw,hbn];cases nY <;> rfl)
   exact xi
  cases h
def l5.sound(hT:cD P T){all:List Oper}{K:St->Prop}{Q:Exit->Act->Aa->Prop}(J:R.ref=ref)(l:List Oper){M:Mem}{V:Nm}{I:St}{a:Act}{w:Aa}
  (h:l5 P T N ref rc all l I K) (i:Inv R N M V I a w) (hQ:∀a' w',KG R N M w K a' w'->Q .normal a' w'):wpListIn (FW R.rd) 0 P all.toArray Q l a w:=by
 have:=Ks (Q:=Q) hT J [] l h i (λa' w' hp=>wpListIn_nil (hQ a' w' hp))
 rwa [mh]at this
end
def wS(xs:List Nat)(I I':St):Prop:=∀x,x∈xs->aH I'.box x=aH I.box x
def dS.congr{I I':St}:∀(n:Nat) (x:SV),wS (reach n I x) I I'->dS n I' x=dS n I x:=by
 intro n;induction n with
 |zero=>
  intro x h
  cases x with
  |own x=>simp only[dS,h x Jj]
  |mo z x=>simp only[dS,h x Jj]
  |j0 x s lo m=>simp only[dS,h x Jj]
  |_=>rfl
 |succ n ih=>
  intro x h
  cases x with
  |d x=>rfl
  |ptr x off=>
   simp only[dS,h x Jj]
   cases hb:aH I.box x with
   |none=>rfl
   |some y=>cases y with
    |none=>rfl
    |some bc=>cases bc with
     |row e n s f=>rfl
     |b8 e n s f=>rfl
     |map vk l=>rfl
     |smap vk l=>rfl
     |dm l n=>rfl
     |fresh T vs=>rfl
     |iter q n t=>rfl
     |cells cs=>
      simp only;congr 1;funext j
      cases hc:cs[off+j]? with
      |none=>rfl
      |some c=>exact ih c (λm hm=>h m zeR)
  |own x=>simp only[dS,h x Jj]
  |mo z x=>simp only[dS,h x Jj]
  |rw x i s o=>rfl
  |mp x=>rfl
  |j0 x s lo m=>
   simp only[dS,h x Jj]
   cases hb:aH I.box x with
   |none=>rfl
   |some y=>cases y with
    |none=>rfl
    |some bc=>cases bc with
     |row e n s f=>rfl
     |b8 e n s f=>rfl
     |map vk l=>rfl
     |smap vk l=>rfl
     |dm l n=>rfl
     |fresh T vs=>rfl
     |iter q n t=>rfl
     |cells cs=>
      simp only;congr 1;congr 1;funext i j
      cases hc:cs[(lo+i)*s+j]? with
      |none=>rfl
      |some c=>exact ih c (λm hm=>h m zeR)
  |dZ f cs=>
   simp only[dS];congr 1;funext i
   cases hc:cs[i]? with
   |none=>rfl
   |some c=>cases c with
    |d x=>rfl
    |ptr x off=>exact ih (.ptr x off) (λm hm=>h m (iT (f:=λc=>match c with|.d _=>[]|.ptr x off=>reach n I (.ptr x off)) hc hm))
def wS.mono{xs ys:List Nat}{I I':St}(h:wS xs I I')(hs:∀x,x∈ys->x∈xs):wS ys I I':=λx hx=>h x (hs x hx)
def aA7{I:St}:∀(n:Nat) (x:SV) (m:Nat),m∈reach n I x->m∈reach (n+1) I x:=by
 intro n;induction n with
 |zero=>
  intro x m h
  cases x with
  |ptr x off=>simp[reach]at h;subst h;simp[reach]
  |dZ f cs=>simp[reach]at h
  |j0 x s lo q=>simp[reach]at h;subst h;simp[reach]
  |_=>exact h
 |succ n ih=>
  intro x m h;have lift:∀{α:Type} {f g:α->List Nat} (_:∀c,m∈f c->m∈g c) {l:List α},m∈dV f l->m∈dV g l:=by
   intro α f g hfg l;induction l with
   |nil=>exactλh=>h
   |cons c r ihl=>intro h;simp only[dV,ic]at h⊢;exact h.imp (hfg c) ihl
  cases x with
  |ptr x off=>exact qe
  |j0 x s lo q=>exact qe
  |dZ f cs=>
   simp only[reach]at h⊢;refine lift (λc hc=>?_) h
   cases c with
   |d x=>exact hc
   |ptr x off=>exact ih _ m hc
  |_=>exact h
def vX.congr{I I':St}{x:SV}(h:wS (reach 4 I x) I I'):vX I' x=vX I x:=by unfold vX;rw[dS.congr 3 x (h.mono (λm hm=>aA7 3 x m hm))]
def kW.congr{I I':St}:∀{cs:List SV},wS (dV (reach 4 I) cs) I I'->kW I' cs=kW I cs
 |[],_=>rfl
 |c::r,h=>by simp only[kW];rw[vX.congr (h.mono λm hm=>Ag _ hm),kW.congr (cs:=r) (h.mono λm hm=>gh _ hm)]
def pO.congr{I I':St}{x:AV}(h:wS (b9 I x) I I'):pO I' x=pO I x:=by
 cases x with
 |s x=>simp only[pO];rw[vX.congr h]
 |g cs=>simp only[pO];rw[kW.congr h]
 |_=>rfl
def jD.congr{I I':St}:∀{l:List AV},wS (dV (b9 I) l) I I'->jD I' l=jD I l
 |[],_=>rfl
 |c::r,h=>by simp only[jD];rw[pO.congr (h.mono λm hm=>Ag _ hm),jD.congr (l:=r) (h.mono λm hm=>gh _ hm)]
def CS(v r:AV):Prop:=v=r\/(∃b x,v=.ib b x/\r=.s x)\/(∃b cs,v=.ig b cs/\r=.g cs)
def CS.reach{v r:AV}(h:CS v r)(I:St):b9 I r=b9 I v:=by rcases h with rfl|⟨b,x,rfl,rfl⟩|⟨b,cs,rfl,rfl⟩ <;> rfl
def fe.imp{g:Da Bool}{v:AV}{K K':AV->Prop}(hk:∀r,CS v r->K r->K' r)(h:fe g v K):fe g v K':=by
 cases v with
 |s x=>exact hk _ (.inl rfl) h
 |g cs=>exact hk _ (.inl rfl) h
 |t ts=>exact hk _ (.inl rfl) h
 |ib b x=>cases g with
  |none=>exact⟨h.1,hk _ (.inr (.inl ⟨b,x,rfl,rfl⟩)) h.2⟩
  |some gb=>exact⟨h.1,hk _ (.inr (.inl ⟨b,x,rfl,rfl⟩)) h.2⟩
 |ig b cs=>cases g with
  |none=>exact⟨h.1,hk _ (.inr (.inr ⟨b,cs,rfl,rfl⟩)) h.2⟩
  |some gb=>exact⟨h.1,hk _ (.inr (.inr ⟨b,cs,rfl,rfl⟩)) h.2⟩
def Mf:=@fe.imp
section
variable{P:Ba}{T:List (Nat×bV)}{I I':St}{g:Da Bool}{K:AV->Prop}
def kH.congr{agg:Bool}{size:Nat}{va:AV}(h:wS (b9 I va) I I')(k:kH I agg size g va K):kH I' agg size g va K:=by
 unfold kH at*
 cases va with
 |s x=>cases x with
  |ptr x off=>simp only[h x Vp];exact k
  |rw x i s o=>simp only[h x Vp];exact k
  |d x=>cases x <;> exact k
  |_=>exact k
 |_=>exact k
def qN.congr{t:Nat}{va vi:AV}(h:wS (b9 I va) I I')(k:qN T I t g va vi K):qN T I' t g va vi K:=by
 have e:qN T I' t g va vi K=qN T I t g va vi K:=by
  unfold qN
  cases va with
  |s x=>cases x with
   |own x=>exact ub
   |mo z x=>exact ub
   |j0 x s lo m=>exact ub
   |d x=>cases x <;> rfl
   |_=>rfl
  |_=>rfl
 rw[e];exact k
def qL.congr{t:Nat}{va:AV}(h:wS (b9 I va) I I')(k:qL T I t va K):qL T I' t va K:=by
 have e:qL T I' t va K=qL T I t va K:=by
  unfold qL
  cases dE T t with
  |none=>rfl
  |some ti=>
   simp only;generalize ti.j7=u
   cases va with
   |s x=>cases x with
    |own x=>exact zcT
    |mo z x=>exact zcT
    |d x=>cases x with
     |val v=>cases v <;> cases u <;> rfl
     |_=>cases u <;> rfl
    |_=>cases u <;> rfl
   |_=>cases u <;> rfl
 rw[e];exact k
def mV.congr{f:FuncId}{args:List AV}(h:wS (dV (b9 I) args) I I')(k:mV P I g f args K):mV P I' g f args K:=by unfold mV at*;rw[jD.congr h];exact k
def reach.congr:∀(n:Nat) (x:SV),wS (reach n I x) I I'->reach n I' x=reach n I x:=zh
def Yr:=@reach.congr
def b9.congr(v:AV):wS (b9 I v) I I'->b9 I' v=b9 I v:=by
 have nR:∀cs:List SV,wS (dV (reach 4 I) cs) I I'->dV (reach 4 I') cs=dV (reach 4 I) cs:=by
  intro cs;induction cs with
  |nil=>intro _;rfl
  |cons c r ih=>intro h;simp only[dV];rw[Yr 4 c (h.mono λm hm=>Ag _ hm),ih (h.mono λm hm=>gh _ hm)]
 intro h
 cases v with
 |s x=>exact Yr 4 x h
 |ib b x=>exact Yr 4 x h
 |g cs=>exact nR cs h
 |ig b cs=>exact nR cs h
 |t ts=>rfl
def aA8.congr:∀(l:List AV),wS (dV (b9 I) l) I I'->dV (b9 I') l=dV (b9 I) l
 |[],_=>rfl
 |v::r,h=>by simp only[dV];rw[b9.congr v (h.mono λm hm=>Ag _ hm),aA8.congr r (h.mono λm hm=>gh _ hm)]
def nO.congr{ren:List (Nat×Nat)}:∀{bx:eV},(∀x,x∈names bx->aH I'.box (look ren x)=aH I.box (look ren x))->nO ren I.box bx->nO ren I'.box bx
 |[],_,_=>trivial
 |(x,b)::r,h,⟨h1,h2⟩=>⟨(h x Dh).trans h1,nO.congr (λy hy=>h y (by simp only[names];exact oc _ hy)) h2⟩
def CZ.congr{f:FuncId}{args:List AV}{r:AV}(h:wS (dV (b9 I) args) I I')(k:CZ P I f args r):CZ P I' f args r:=by
 obtain⟨ren,ar,bx,hc,he,hm,gF,hf,hx⟩:=k;have QO:∀x,x∈names bx->look ren x∈dV (b9 I) args:=λx NC=>by rw[Hd]at hx;simpa using hx x NC
 refine⟨ren,ar,bx,hc,he,hm.congr (λx NC=>h _ (QO x NC)),gF,hf,?_⟩;rw[aA8.congr args h];exact hx
def lR.congr{f:FuncId}{args:List AV}(h:wS (dV (b9 I) args) I I')(k:lR P I g f args K):lR P I' g f args K:=by
 rcases k with k|⟨r,h1,h2⟩
 ·exact .inl (mV.congr h k)
 refine .inr ⟨r,?_,h2⟩
 cases g with
 |none=>exact CZ.congr h h1
 |some b=>exactλhb=>CZ.congr h (h1 hb)
def x6{α:Type}(f:α->List Nat):∀(a b:List α),dV f (a++b)=dV f a++dV f b
 |[],b=>rfl
 |x::a,b=>by simp only[We,dV,x6 f a b,Ti]
def DD(n:Nat):∀(cs:List CV) (m:Nat),m∈dV (b9 I) (wM cs)->n=4->m∈dV (λc=>match c with|.d _=>[]|.ptr x off=>reach 4 I (.ptr x off)) cs
 |[],_,h,_=>h
 |.d _::r,m,h,hn=>by simp only[wM,dV,b9,reach,wj]at h⊢;exact DD n r m h hn
 |.ptr x off::r,m,h,hn=>by simp only[wM,dV,ic]at h⊢;exact h.imp id (λh=>DD n r m h hn)
def IW(c:Nat->DV):∀(k j m:Nat),m∈dV (b9 I) (jF c k j)->False
 |0,_,_,h=>by simp[jF,dV]at h
 |k+1,j,m,h=>by simp only[jF,dV,b9,reach,wj]at h;exact IW c k (j+1) m h
def Q7(c:Nat->DV):∀(k j m:Nat),m∈dV (reach 4 I) (gD c k j)->False
 |0,_,_,h=>by simp[gD,dV]at h
 |k+1,j,m,h=>by simp only[gD,dV,reach,wj]at h;exact Q7 c k (j+1) m h
def uQ(I:St):AV->List Nat
 |.s (.dZ _ cs)=>dV (λc=>match c with|.d _=>[]|.ptr x off=>reach 4 I (.ptr x off)) cs
 |.ib _ (.dZ _ cs)=>dV (λc=>match c with|.d _=>[]|.ptr x off=>reach 4 I (.ptr x off)) cs
 |_=>[]
def CS.uQ{v r:AV}(h:CS v r)(I:St):uQ I r=uQ I v:=by
 rcases h with rfl|⟨b,x,rfl,rfl⟩|⟨b,cs,rfl,rfl⟩
 ·rfl
 ·cases x <;> rfl
 rfl
def mW.congr{vf:AV}{args:List AV}(h:wS (uQ I vf++dV (b9 I) args) I I')(k:mW P I g vf args K):mW P I' g vf args K:=by
 unfold mW at*;split at k
 ·refine lR.congr (λm hm=>h m ?_) k;rw[x6,ic]at hm;rcases hm with hm|hm
  ·exact Tt
  exact Ag _ (DD 4 _ m hm rfl)
 ·refine lR.congr (λm hm=>h m ?_) k;rw[x6,ic]at hm;rcases hm with hm|hm
  ·exact Tt
  exact(IW _ _ _ m hm).elim
 ·refine mV.congr (λm hm=>h m ?_) k;simp only[dV,ic]at hm;rcases hm with hm|hm
  ·exact(Q7 _ _ _ m hm).elim
  exact Tt
 exact k.elim
def W5(xs:List Ca)(I I':St):Prop:=∀x,x∈xs->ev I' x=ev I x
def dY.congr:∀{l:List Ca} {K K':List AV->Prop},W5 l I I'->(∀ars,(∀m,m∈dV (b9 I) ars->m∈dV (λx=>b9 I (ev I x)) l)->K ars->K' ars)->dY g I l K->dY g I' l K'
 |[],_,_,_,hk,h=>hk [] (λm hm=>hm) h
 |x::r,K,K',he,hk,h=>by
  simp only[dY]at*;rw[he x sM];refine Mf (λva hs h=>?_) h;refine dY.congr (λy hy=>he y (oc _ hy)) (λars hm h=>hk _ ?_ h) h;intro m NC;simp only[dV,ic]at NC⊢;rcases NC with h1|h1
  ·rw[hs.reach I]at h1;exact .inl h1
  exact .inr (hm m h1)
def lm:=@dY.congr
def ints.congr:∀{l:List Ca} {K:List (IntKind×Int)->Prop},W5 l I I'->ints g I l K->ints g I' l K
 |[],_,_,h=>h
 |x::r,K,he,h=>by
  simp only[ints]at*;rw[he x sM];refine Mf (λva hs h=>?_) h;split at h
  ·exact ints.congr (λy hy=>he y (oc _ hy)) h
  cases h
def Xw:=@ints.congr
def parts.congr:∀{l:List (Nat×Ca)} {K:List (Nat×List SV)->Prop},W5 (l.map (·.2)) I I'->parts g I l K->parts g I' l K
 |[],_,_,h=>h
 |(i,x)::r,K,he,h=>by
  simp only[parts]at*;rw[he x sM];refine Mf (λva hs h=>?_) h;split at h
  ·rename_i cs nR;try simp only[nR]
   cases ho:l9 cs with
   |false=>rw[ho]at h;cases h
   |true=>rw[ho]at h;exact parts.congr (λy hy=>he y (oc _ hy)) h
  cases h
def Xr:=@parts.congr
def qC.congr:∀{l:List Ca},W5 l I I'->qC I' l=qC I l
 |[],_=>rfl
 |x::r,he=>by simp only[qC];rw[he x sM,qC.congr (l:=r) (λy hy=>he y (oc _ hy))]
def tJ(I:St)(op:Op):List Nat:=
 match op with
 |.call {callee:=.value fo,args, .. }=>uQ I (ev I fo)++dV (λx=>b9 I (ev I x)) args.toList
 |.move _=>[]
 |.assign _=>[]
 |.pick _ _ _=>[]
 |.fieldAddr _ _ _=>[]
 |.nilCheck _=>[]
 |.binOp _ _ _ _ _=>[]
 |.unOp _ _ _=>[]
 |.convert _ _ _=>[]
 |.extract _ _=>[]
 |.build _ _=>[]
 |.makeFunc _ _ _=>[]
 |.store _ _ _=>[]
 |.box _ _=>[]
 |.alloc _=>[]
 |.buildSlice _ _ _=>[]
 |op=>dV (λx=>b9 I (ev I x)) op.operands.toList
def mD.congr{op:Op}(he:W5 op.operands.toList I I')(hb:wS (tJ I op) I I')(h:mD P T op I g K):mD P T op I' g K:=by
 cases op with
 |move x=>simp only[mD]at*;rw[he x Ad];exact h
 |assign x=>simp only[mD]at*;rw[he x Ad];exact h
 |pick c x y=>simp only[mD]at*;rw[he c Ad,he x Ad,he y Ad];exact h
 |load t x=>
  simp only[mD]at*
  rw[he x Ad]
  refine Mf (λva hs h=>?_) h
  split at h
  ·exact kH.congr (hb.mono (λm hm=>by rw[hs.reach I]at hm;simp[tJ,Op.operands,dV,hm])) h
  ·cases h
 |fieldAddr s x f=>simp only[mD]at*;rw[he x Ad];exact h
 |binOp op t x y ty=>simp only[mD]at*;rw[he x Ad,he y Ad];exact h
 |unOp op t x=>simp only[mD]at*;rw[he x Ad];exact h
 |convert src dst x=>simp only[mD]at*;rw[he x Ad];exact h
 |nilCheck x=>simp only[mD]at*;rw[he x Ad];exact h
 |extract x k=>simp only[mD]at*;rw[he x Ad];exact h
 |indexAddr t x y=>
  simp only[mD]at*
  rw[he x Ad,he y Ad]
  refine Mf (λva hs h=>?_) h
  refine Mf (λvi _ h=>?_) h
  exact qN.congr (hb.mono (λm hm=>by rw[hs.reach I]at hm;simp[tJ,Op.operands,dV,hm])) h
 |index t x y=>simp only[mD]at*;rw[he x Ad,he y Ad];exact h
 |lookup t x y ok=>
  simp only[mD]at*
  rw[he x Ad,he y Ad]
  refine Mf (λva hs h1=>?_) h
  refine Mf (λvi hv h2=>?_) h1
  have Z7:wS (b9 I va) I I':=hb.mono (λm hm=>by rw[hs.reach I]at hm;simp[tJ,Op.operands,dV,hm])
  clear h h1
  unfold rX at h2⊢
  cases hs:YB T t with
  |true=>
   simp only[hs]at h2⊢
   unfold qK at h2⊢
   exact zbK
  |false=>
   simp only[hs]at h2⊢
   unfold xE at h2⊢
   exact zbK
 |slice t x lo hi mx=>
  cases mx with
  |some m=>exact h.elim
  |none=>
   simp only[mD]at*
   rw[he x Ad]
   refine Mf (λva hs h=>?_) h
   have DR:W5 lo.toList I I':=λy hy=>he y (by simp[Op.operands];exact .inr (.inl Nt))
   have TZ:W5 hi.toList I I':=λy hy=>he y (by simp[Op.operands];exact .inr (.inr Nt))
   unfold lD at*
   split at h <;> try (cases h)
   rename_i ti gG
   try simp only[gG]
   split at h
   ·rename_i e hu
    try simp only[hu]
    split at h <;> try (cases h)
    rename_i te nD
    try simp only[nD]
    split at h
    case h_5=>cases h
    case h_4=>
     exact zn
    ·rename_i n s f
     exact vj
    ·rename_i x'
     have hgb:aH I'.box x'=aH I.box x':=hb x' (iT (j:=0) (c:=x) Ad (by have:=hs.reach I;simp only[<-this];simp[b9,reach]))
     simp only[hgb]
     split at h
     case h_2=>cases h
     rename_i e' n s f rJ
     cases hs:Nat.beq s te.size with
     |false=>rw[hs]at h;cases h
     |true=>
      rw[hs]at h
      simp only[cond_true]at*
      exact zn
    ·rename_i x' s C0 n
     exact vj
   ·rename_i hu
    try simp only[hu]
    split at h <;> try (cases h)
    rename_i s
    try simp only
    exact zn
   ·cases h
 |build t pa=>
  simp only[mD]at*
  exact Xr (λy hy=>he y (by simpa[Op.operands]using hy)) h
 |makeFunc fn Y IV=>
  cases fn with
  |func f=>
   simp only[mD]at*
   split at h
   ·rename_i Z6
    try simp only[Z6]
    rw[qC.congr (l:=IV.toList) (λy hy=>he y (by simp[Op.operands];exact .inr Nt))]
    exact h
   ·rename_i y Z6
    try simp only[Z6]
    split at h
    ·rename_i nR
     try simp only[nR]
     rw[he y (by
      have:y∈Y:=by rw[<-Array.mem_toList_iff,Z6];simp
      simp[Op.operands];exact .inl this)]
     exact h
    ·cases h
   ·cases h
  |_=>exact h.elim
 |call c=>
  obtain⟨callee,args,wR⟩:=c
  simp only[mD]at*
  split at h
  ·rename_i fo
   try simp only
   rw[he fo yg]
   refine Mf (λvf hs h=>?_) h
   refine lm (λy hy=>he y zeQ) (λars hm h=>?_) h
   refine mW.congr (λm NC=>hb m ?_) h
   simp only[tJ]
   rw[ic]at NC⊢
   rcases NC with h1|h1
   ·rw[hs.uQ I]at h1;exact .inl h1
   ·exact .inr (hm m h1)
  ·try simp only
   split at h
   ·rename_i x t hx ht
    try simp only[hx,ht]
    have hxm:x∈args.toList:=by rw[hx];simp
    rw[he x (by simp[Op.operands,Call.operands];simpa using hxm)]
    refine Mf (λva hs h=>?_) h
    refine qL.congr (hb.mono (λm hm=>?_)) h
    rw[hs.reach I]at hm
    have:args= #[x]:=by apply Jd;simpa using hx
    subst this
    simp[tJ,Op.operands,Call.operands,dV,hm]
   ·cases h
  ·try simp only
   split at h
   ·rename_i x t hx ht
    try simp only[hx,ht]
    have hxm:x∈args.toList:=by rw[hx];simp
    rw[he x (by simp[Op.operands,Call.operands];simpa using hxm)]
    exact h
   ·cases h
  ·exact zb3
  ·exact zb3
  ·cases h
 |_=>exact h.elim
end
def fA{α:Type}(C:(α->Prop)->Prop)(r:α):Prop:=∀K,K r->C K
section
variable{P:Ba}{T:List (Nat×bV)}{I:St}{g:Da Bool}
def cg{v:AV}{K:AV->Prop}(h:fe g v K):∃r,K r/\fA (fe g v) r:=by
 cases v with
 |s x=>exact⟨_,h,λ_ k=>k⟩
 |g cs=>exact⟨_,h,λ_ k=>k⟩
 |t ts=>exact⟨_,h,λ_ k=>k⟩
 |ib b x=>cases g with
  |none=>exact⟨_,h.2,λ_ k=>⟨h.1,k⟩⟩
  |some gb=>exact⟨_,h.2,λ_ k=>⟨h.1,k⟩⟩
 |ig b cs=>cases g with
  |none=>exact⟨_,h.2,λ_ k=>⟨h.1,k⟩⟩
  |some gb=>exact⟨_,h.2,λ_ k=>⟨h.1,k⟩⟩
def fe.pt{α:Type}{v:AV}{C:AV->(α->Prop)->Prop}{K:α->Prop}(h:fe g v λva=>C va K)(hC:∀va K,C va K->∃r,K r/\fA (C va) r):
  ∃r,K r/\fA (λK=>fe g v λva=>C va K) r:=by
 obtain⟨va,h1,h2⟩:=cg h
 obtain⟨r,h3,h4⟩:=hC va K h1
 exact⟨r,h3,λK k=>h2 _ (h4 K k)⟩
def Md:=@fe.pt
def dY.pt{α:Type}:∀{l:List Ca} {C:List AV->(α->Prop)->Prop} {K:α->Prop},dY g I l (λars=>C ars K)->(∀ars K,C ars K->∃r,K r/\fA (C ars) r)->
  ∃r,K r/\fA (λK=>dY g I l λars=>C ars K) r
 |[],C,K,h,hC=>by exact Nv
 |x::r,C,K,h,hC=>by simp only[dY]at h⊢;exact Md (C:=λva K=>dY g I r λl=>C (va::l) K) h (λva K h=>dY.pt (C:=λl K=>C (va::l) K) h (λars K h=>hC _ K h))
def ints.pt{α:Type}:∀{l:List Ca} {C:List (IntKind×Int)->(α->Prop)->Prop} {K:α->Prop},ints g I l (λars=>C ars K)->(∀ars K,C ars K->∃r,K r/\fA (C ars) r)->
  ∃r,K r/\fA (λK=>ints g I l λars=>C ars K) r
 |[],C,K,h,hC=>by exact Nv
 |x::r,C,K,h,hC=>by
  simp only[ints]at h⊢;refine Md (C:=λva K=>match va with|.s (.d (.val (.int k n)))=>ints g I r λl=>C ((k,n)::l) K|_=>False) h (λva K h=>?_);split at h
  ·exact ints.pt (C:=λl K=>C (_::l) K) h (λars K h=>hC _ K h)
  cases h
def Hs:=@ints.pt
def parts.pt{α:Type}:∀{l:List (Nat×Ca)} {C:List (Nat×List SV)->(α->Prop)->Prop} {K:α->Prop},parts g I l (λars=>C ars K)->(∀ars K,C ars K->∃r,K r/\fA (C ars) r)->
  ∃r,K r/\fA (λK=>parts g I l λars=>C ars K) r
 |[],C,K,h,hC=>by exact Nv
 |(i,x)::r,C,K,h,hC=>by
  simp only[parts]at h⊢;refine Md (C:=λva K=>match pH va with|some cs=>(bif l9 cs then parts g I r λl=>C ((i,cs)::l) K else False)|none=>False) h (λva K h=>?_);split at h
  ·rename_i cs nR
   cases ho:l9 cs with
   |false=>rw[ho]at h;cases h
   |true=>rw[ho]at h;obtain⟨r',h1,h2⟩:=parts.pt (C:=λl K=>C (_::l) K) h (λars K h=>hC _ K h);refine⟨r',h1,λK k=>?_⟩;simp only[cond_true];exact h2 K k
  cases h
def Kr:=@parts.pt
def kH.pt{agg:Bool}{size:Nat}{va:AV}{K:AV->Prop}(h:kH I agg size g va K):∃r,K r/\fA (kH I agg size g va) r:=by
 unfold kH at h;split at h
 ·rename_i x off;split at h
  ·rename_i cs hb;split at h
   ·cases hle:Nat.ble (off+size) cs.length with
    |false=>rw[hle]at h;cases h
    |true=>rw[hle]at h;exact⟨_,h,λK k=>by unfold kH;simp only[hb,hle,cond_true];exact k⟩
   split at h
   ·rename_i c hc;exact⟨_,h,λK k=>by unfold kH;simp only[hb,hc];exact k⟩
   cases h
  cases h
 ·rename_i x i s o;split at h
  ·exact qj
  ·exact qj
  cases h
 ·rename_i m f;split at h
  ·cases hle:Nat.ble size m with
   |false=>rw[hle]at h;cases h
   |true=>rw[hle]at h;exact⟨_,h,λK k=>by unfold kH;simp only[hle,cond_true];exact k⟩
  cases hle:Nat.ble 1 m with
  |false=>rw[hle]at h;cases h
  |true=>rw[hle]at h;exact⟨_,h,λK k=>by unfold kH;simp only[hle,cond_true];exact k⟩
 cases h
def sP.pt{s f:Nat}{va:AV}{K:AV->Prop}(h:sP T s f va K):∃r,K r/\fA (sP T s f va) r:=by
 unfold sP at h;split at h
 case h_2=>cases h
 rename_i ti gG;split at h
 case h_2=>cases h
 rename_i off sz hf;split at h
 case h_2=>cases h
 rename_i hu
 cases hz:Nat.beq sz 0 with
 |true=>rw[hz]at h;cases h
 |false=>
  rw[hz]at h;simp only[Ua]at h;split at h
  case h_4=>cases h
  all_goals exact⟨_,h,λK k=>by unfold sP;simp only[gG,hf,hu,hz,Ua];exact k⟩
def qN.pt{t:Nat}{va vi:AV}{K:AV->Prop}(h:qN T I t g va vi K):∃r,K r/\fA (qN T I t g va vi) r:=by
 unfold qN at h;split at h
 case h_2=>cases h
 rename_i ti gG;split at h
 case h_3=>cases h
 rotate_left
 ·rename_i len e hu;split at h
  case h_2=>cases h
  rename_i te nD;split at h
  case h_2=>cases h
  split at h
  case h_4=>cases h
  all_goals exact⟨_,h.2,λK k=>by unfold qN;simp only[gG,hu,nD];exact⟨h.1,k⟩⟩
 rename_i e hu;split at h
 case h_2=>cases h
 rename_i te nD;split at h
 case h_2=>cases h
 split at h
 case h_5=>cases h
 rotate_left;rotate_left;rotate_left
 ·rename_i x' s lo m;split at h
  ·rename_i cs hb
   cases hs:Nat.beq s te.size with
   |false=>rw[hs]at h;cases h
   |true=>rw[hs]at h;exact⟨_,h.2,λK k=>by unfold qN;simp only[gG,hu,nD,hb,hs,cond_true];exact⟨h.1,k⟩⟩
  rename_i fJ
  cases hs:Nat.beq s te.size with
  |false=>rw[hs]at h;cases h
  |true=>rw[hs]at h;refine⟨_,h.2,λK k=>?_⟩;unfold qN;simp only[gG,hu,nD];rw[hs,cond_true];exact⟨h.1,k⟩
 ·rename_i len s f
  cases hs:Nat.beq s te.size with
  |false=>rw[hs]at h;cases h
  |true=>rw[hs]at h;exact⟨_,h.2,λK k=>by unfold qN;simp only[gG,hu,nD,hs,cond_true];exact⟨h.1,k⟩⟩
 ·exact jv
 exact jv
def C7.pt{t:Nat}{va vi:AV}{K:AV->Prop}(h:C7 T t g va vi K):∃r,K r/\fA (C7 T t g va vi) r:=by
 unfold C7 at h;split at h
 case h_2=>cases h
 rename_i ti gG;split at h
 case h_3=>cases h
 ·rename_i hu;split at h
  case h_2=>cases h
  exact⟨_,h.2,λK k=>by unfold C7;simp only[gG,hu];exact⟨h.1,k⟩⟩
 rename_i hu;split at h
 case h_2=>cases h
 rename_i te nD;split at h
 case h_2=>cases h
 rename_i cs kk n;obtain⟨jA,h⟩:=h;split at h
 ·rename_i H2
  cases hle:Nat.ble (n.toNat*te.size+te.size) cs.length with
  |false=>rw[hle]at h;cases h
  |true=>rw[hle]at h;exact⟨_,h,λK k=>by unfold C7;simp only[gG,hu,nD,H2,hle,cond_true];exact⟨jA,k⟩⟩
 rename_i H2;split at h
 case h_2=>cases h
 rename_i c hc;exact⟨_,h,λK k=>by unfold C7;simp only[gG,hu,nD,H2,hc];exact⟨jA,k⟩⟩
def J3.pt{n:Nat}{va:AV}{K:AV->Prop}(h:J3 n va K):∃r,K r/\fA (J3 n va) r:=by
 unfold J3 at h;split at h
 case h_2=>cases h
 rename_i ts;split at h
 case h_3=>cases h
 ·exact zcN
 exact zcN
def ri.pt{op:UnOp}{va:AV}{K:AV->Prop}(h:ri op va K):∃r,K r/\fA (ri op va) r:=by
 unfold ri at h;split at h
 case h_4=>cases h
 ·rename_i b
  cases b <;> exact⟨_,h,λK k=>k⟩
 ·exact⟨_,h,λK k=>k⟩
 exact⟨_,h,λK k=>k⟩
def vV.pt{g:Da Bool}{vc vx vy:AV}{K:AV->Prop}(h:vV g vc vx vy K):∃r,K r/\fA (vV g vc vx vy) r:=by
 unfold vV at h;split at h
 case h_3=>cases h
 ·rename_i b
  cases b
  ·exact zdj
  exact zdj
 rename_i b;split at h
 case h_2=>cases h
 rename_i p gp q gq hp hq;obtain⟨h1,h2,h⟩:=h
 cases e1:bh false vy with
 |true=>rw[e1]at h;exact⟨_,h,λK k=>by unfold vV;simp only[hp,hq,e1,cond_true];exact⟨h1,h2,k⟩⟩
 |false=>
  rw[e1]at h
  cases e2:bh true vx with
  |true=>rw[e2]at h;exact⟨_,h,λK k=>by unfold vV;simp only[hp,hq,e1,e2,cond_true,Ua];exact⟨h1,h2,k⟩⟩
  |false=>rw[e2]at h;exact⟨_,h,λK k=>by unfold vV;simp only[hp,hq,e1,e2,Ua];exact⟨h1,h2,k⟩⟩
def tY.pt{src dst:Nat}{va:AV}{K:AV->Prop}(h:tY T src dst va K):∃r,K r/\fA (tY T src dst va) r:=by
 unfold tY at h;split at h
 case h_2=>cases h
 rename_i ts td uX htd;split at h
 case h_5=>cases h
 ·exact pv
 ·exact pv
 ·exact pv
 rename_i e1 e2;obtain⟨n,h1,h⟩:=h;exact⟨_,h,λK k=>by unfold tY;simp only[uX,htd,e1,e2];exact⟨n,h1,k⟩⟩
def MT.pt{va:AV}{K:AV->Prop}(h:MT va K):∃r,K r/\fA (MT va) r:=by
 unfold MT at h;split at h
 case h_6=>cases h
 all_goals exact⟨_,h,λK k=>k⟩
def qL.pt{t:Nat}{va:AV}{K:AV->Prop}(h:qL T I t va K):∃r,K r/\fA (qL T I t va) r:=by
 unfold qL at h;split at h
 case h_2=>cases h
 rename_i ti gG;split at h
 case h_8=>cases h
 ·exact jc
 ·exact za2
 ·exact za2
 ·exact jc
 ·exact jc
 ·exact jc
 exact jc
def q9.pt{t:Nat}{ps:List (Nat×List SV)}{K:AV->Prop}(h:q9 T t ps K):∃r,K r/\fA (q9 T t ps) r:=by
 unfold q9 at h;split at h
 case h_2=>cases h
 rename_i ti gG;split at h
 case h_3=>cases h
 ·rename_i hu;split at h
  case h_2=>cases h
  rename_i cs nR;exact⟨_,h,λK k=>by unfold q9;simp only[gG,hu,nR];exact k⟩
 rename_i n e hu;split at h
 case h_2=>cases h
 rename_i te nD;split at h
 case h_2=>cases h
 rename_i cs nR;exact⟨_,h,λK k=>by unfold q9;simp only[gG,hu,nD,nR];exact k⟩
def KD.pt{op:BinOp}{k:IntKind}{x y:Int}{K:AV->Prop}(h:KD op k g x y K):∃r,K r/\fA (KD op k g x y) r:=by unfold KD at h;exact zbt
def KC.pt{op:BinOp}{x y:ta}{K:AV->Prop}(h:KC op g x y K):∃r,K r/\fA (KC op g x y) r:=by unfold KC at h;exact zbt
def bin.pt{op:BinOp}{t:Nat}{va vb:AV}{K:AV->Prop}(h:bin T op t g va vb K):∃r,K r/\fA (bin T op t g va vb) r:=by
 unfold bin at h;split at h
 ·rename_i k a k' b;by_cases hk:k=k'
  ·subst hk;simp only[Ul,cond_true]at h;obtain⟨r,h1,h2⟩:=KD.pt h;exact⟨r,h1,λK k=>by unfold bin;simp only[Ul,cond_true];exact h2 K k⟩
  exact zet
 ·obtain⟨r,h1,h2⟩:=KC.pt h;exact⟨r,h1,λK k=>h2 K k⟩
 ·exact vr
 ·rename_i xs ys;split at h
  case h_2=>cases h
  rename_i i hi
  cases hc:(i.ints&&(gT i.zero xs&&gT i.zero ys))with
  |false=>rw[hc]at h;cases h
  |true=>
   rw[hc]at h;simp only[cond_true]at h;split at h
   case h_2=>cases h
   rename_i b hb
   cases op <;> first
    |exact h.elim
    |exact⟨_,h,λK k=>by unfold bin;simp only[hi,hc,cond_true,hb];exact k⟩
 ·exact vr
 ·exact vr
 rename_i n1 n2 n3 n4 n5;split at h
 case h_2=>cases h
 rename_i a b ha hb;split at h
 case h_2=>cases h
 rename_i i hi;split at h
 case h_2=>cases h
 rename_i hu
 cases op <;> first
  |exact h.elim
  |exact⟨_,h,λK k=>by unfold bin;simp only[ha,hb,hi,hu];exact k⟩
def gM.pt{α:Type}{x:Da Ca}{C:Da Int->(α->Prop)->Prop}{K:α->Prop}(h:gM g I x λr=>C r K)(hC:∀r K,C r K->∃e,K e/\fA (C r) e):
  ∃e,K e/\fA (λK=>gM g I x λr=>C r K) e:=by
 cases x with
 |none=>exact hC none K h
 |some x=>
  simp only[gM]at h⊢;refine Md (C:=λva K=>match va with|.s (.d (.val (.int _ n)))=>C (some n) K|_=>False) h (λva K h=>?_);split at h
  ·exact hC _ K h
  cases h
def wh:=@gM.pt
def mV.pt{f:FuncId}{args:List AV}{K:AV->Prop}(h:mV P I g f args K):∃r,K r/\fA (mV P I g f args) r:=by
 obtain⟨r,h1,h2⟩:=h
 cases hb:(!B4 r&&tI args)with
 |true=>rw[hb]at h2;exact h2.elim
 |false=>rw[hb]at h2;exact⟨r,h2,λK k=>⟨r,h1,by rw[hb];exact k⟩⟩
def lR.pt{f:FuncId}{args:List AV}{K:AV->Prop}(h:lR P I g f args K):∃r,K r/\fA (lR P I g f args) r:=by
 rcases h with h|⟨r,h1,h2⟩
 ·obtain⟨r,h1,h2⟩:=mV.pt h;exact⟨r,h1,λK k=>.inl (h2 K k)⟩
 exact⟨r,h2,λK k=>.inr ⟨r,h1,k⟩⟩
def mW.pt{vf:AV}{args:List AV}{K:AV->Prop}(h:mW P I g vf args K):∃r,K r/\fA (mW P I g vf args) r:=by
 unfold mW at h;split at h
 case h_4=>cases h
 ·exact zdk
 ·exact zdk
 obtain⟨r,h1,h2⟩:=mV.pt h;exact⟨r,h1,λK k=>h2 K k⟩
def lD.pt{t:Nat}{vx:AV}{lo hi:Da Ca}{K:AV->Prop}(h:lD T I t g vx lo hi K):∃r,K r/\fA (lD T I t g vx lo hi) r:=by
 unfold lD at h;split at h
 case h_2=>cases h
 rename_i ti gG;split at h
 case h_3=>cases h
 ·rename_i e hu;split at h
  case h_2=>cases h
  rename_i te nD;split at h
  case h_5=>cases h
  case h_4=>obtain⟨r,h1,h2⟩:=wh (C:=λl (K:AV->Prop)=>gM g I hi λh=>Go.Ax.imp g (l.getD 0=0/\h.getD 0=0)/\K (.s (.d (.val (.slice none 0 0))))) h (λl K h=>by refine wh (C:=λh (K:AV->Prop)=>Go.Ax.imp g (l.getD 0=0/\h.getD 0=0)/\K (.s (.d (.val (.slice none 0 0))))) h (λhh K h=>⟨_,h.2,λK k=>⟨h.1,k⟩⟩));refine⟨r,h1,λK k=>?_⟩;unfold lD;simp only[gG,hu,nD];exact h2 K k
  ·rename_i n s f
   cases hs:Nat.beq s te.size with
   |false=>rw[hs]at h;cases h
   |true=>
    rw[hs]at h;simp only[cond_true]at h;obtain⟨r,h1,h2⟩:=wh (C:=λl (K:AV->Prop)=>gM g I hi λh=>Go.Ax.imp g (0<=l.getD 0/\l.getD 0<=h.getD n/\h.getD n<=n)/\
       (match (generalizing:=false) l with
       |none=>K (.s (.d (.fU (h.getD n).toNat s f)))
       |some l=>K (.s (.d (.fU (h.getD n-l).toNat s λi=>f (l.toNat+i)))))) h (λl K h=>by
     refine wh (C:=λh (K:AV->Prop)=>Go.Ax.imp g (0<=l.getD 0/\l.getD 0<=h.getD n/\h.getD n<=n)/\
       (match (generalizing:=false) l with
       |none=>K (.s (.d (.fU (h.getD n).toNat s f)))
       |some l=>K (.s (.d (.fU (h.getD n-l).toNat s λi=>f (l.toNat+i)))))) h (λhh K h=>?_)
     cases l with
     |none=>exact⟨_,h.2,λK k=>⟨h.1,k⟩⟩
     |some l=>exact⟨_,h.2,λK k=>⟨h.1,k⟩⟩)
    exact zb5
  ·rename_i x';split at h
   case h_2=>cases h
   rename_i e' n s f rJ
   cases hs:Nat.beq s te.size with
   |false=>rw[hs]at h;cases h
   |true=>rw[hs]at h;simp only[cond_true]at h;obtain⟨r,h1,h2⟩:=wh (C:=λl (K:AV->Prop)=>gM g I hi λh=>Go.Ax.imp g (0<=l.getD 0/\l.getD 0<=h.getD n/\h.getD n<=n)/\K (.s (.j0 x' s (l.getD 0).toNat ((h.getD n).toNat-(l.getD 0).toNat)))) h (λl K h=>by refine wh (C:=λh (K:AV->Prop)=>Go.Ax.imp g (0<=l.getD 0/\l.getD 0<=h.getD n/\h.getD n<=n)/\K (.s (.j0 x' s (l.getD 0).toNat ((h.getD n).toNat-(l.getD 0).toNat)))) h (λhh K h=>⟨_,h.2,λK k=>⟨h.1,k⟩⟩));refine⟨r,h1,λK k=>?_⟩;unfold lD;simp only[gG,hu,nD,rJ,hs,cond_true];exact h2 K k
  rename_i x' s C0 n
  cases hs:Nat.beq s te.size with
  |false=>rw[hs]at h;cases h
  |true=>rw[hs]at h;simp only[cond_true]at h;obtain⟨r,h1,h2⟩:=wh (C:=λl (K:AV->Prop)=>gM g I hi λh=>Go.Ax.imp g (0<=l.getD 0/\l.getD 0<=h.getD n/\h.getD n<=n)/\K (.s (.j0 x' s (C0+(l.getD 0).toNat) ((h.getD n).toNat-(l.getD 0).toNat)))) h (λl K h=>by refine wh (C:=λh (K:AV->Prop)=>Go.Ax.imp g (0<=l.getD 0/\l.getD 0<=h.getD n/\h.getD n<=n)/\K (.s (.j0 x' s (C0+(l.getD 0).toNat) ((h.getD n).toNat-(l.getD 0).toNat)))) h (λhh K h=>⟨_,h.2,λK k=>⟨h.1,k⟩⟩));exact zb5
 rename_i hu;split at h
 case h_2=>cases h
 rename_i s;obtain⟨r,h1,h2⟩:=wh (C:=λl (K:AV->Prop)=>gM g I hi λh=>Go.Ax.imp g (0<=l.getD 0/\l.getD 0<=h.getD s.size/\h.getD s.size<=s.size)/\
     K (.s (.d (.val (.string (s.extract (l.getD 0).toNat (h.getD s.size).toNat)))))) h (λl K h=>by
  refine wh (C:=λh (K:AV->Prop)=>Go.Ax.imp g (0<=l.getD 0/\l.getD 0<=h.getD s.size/\h.getD s.size<=s.size)/\
     K (.s (.d (.val (.string (s.extract (l.getD 0).toNat (h.getD s.size).toNat)))))) h (λhh K h=>⟨_,h.2,λK k=>⟨h.1,k⟩⟩))
 refine⟨r,h1,λK k=>?_⟩;unfold lD;simp only[gG,hu];exact h2 K k
def J9.pt{t:Nat}{va:AV}{K:AV->Prop}(h:J9 T t va K):∃r,K r/\fA (J9 T t va) r:=by
 unfold J9 at h;split at h
 case h_2=>cases h
 rename_i ti gG;split at h
 case h_2=>cases h
 rename_i e b n c hu;exact⟨_,h,λK k=>by unfold J9;simp only[gG,hu];exact k⟩
def xE.pt{t:Nat}{ok:Bool}{va vb:AV}{K:AV->Prop}(h:xE T I t ok g va vb K):∃r,K r/\fA (xE T I t ok g va vb) r:=by
 unfold xE at h;split at h
 case h_2=>cases h
 rename_i b k;split at h
 case h_2=>cases h
 rename_i vk l hb;split at h
 case h_2=>cases h
 rename_i ti gG;split at h
 case h_2=>cases h
 rename_i kt et hu
 cases hk:(TK T kt&&(dE T et).isSome)with
 |false=>rw[hk]at h;cases h
 |true=>
  rw[hk]at h
  cases ok with
  |true=>exact⟨_,h,λK k=>by unfold xE;simp only[hb,gG,hu,hk,cond_true];exact k⟩
  |false=>exact⟨_,h.2,λK k=>by unfold xE;simp only[hb,gG,hu,hk,cond_true];exact⟨h.1,k⟩⟩
def qK.pt{t:Nat}{ok:Bool}{va vb:AV}{K:AV->Prop}(h:qK T I t ok g va vb K):∃r,K r/\fA (qK T I t ok g va vb) r:=by
 unfold qK at h;split at h
 case h_2=>cases h
 rename_i b k;split at h
 case h_2=>cases h
 rename_i vk l hb;split at h
 case h_2=>cases h
 rename_i ti gG;split at h
 case h_2=>cases h
 rename_i kt et hu
 cases hk:(yZ T kt&&Zh T et vk)with
 |false=>rw[hk]at h;cases h
 |true=>
  rw[hk]at h
  cases ok with
  |true=>exact⟨_,h,λK k=>by unfold qK;simp only[hb,gG,hu,hk,cond_true];exact k⟩
  |false=>exact⟨_,h,λK k=>by unfold qK;simp only[hb,gG,hu,hk,cond_true];exact k⟩
def rX.pt{t:Nat}{ok:Bool}{va vb:AV}{K:AV->Prop}(h:rX T I t ok g va vb K):∃r,K r/\fA (rX T I t ok g va vb) r:=by
 cases hs:YB T t with
 |true=>unfold rX fA at*;simp only[hs]at*;exact qK.pt h
 |false=>unfold rX fA at*;simp only[hs]at*;exact xE.pt h
def mD.pt{op:Op}{K:AV->Prop}(h:mD P T op I g K):∃r,K r/\fA (mD P T op I g) r:=by
 cases op with
 |move x=>exact cg h
 |assign x=>exact cg h
 |pick c x y=>exact Md (C:=λvc K=>vV g vc (ev I x) (ev I y) K) h (λ_ _ h=>vV.pt h)
 |load t x=>
  refine Md (C:=λva K=>match dE T t with|some ti=>kH I ti.agg ti.size g va K|none=>False) h (λva K h=>?_);split at h
  ·exact kH.pt h
  cases h
 |fieldAddr s x f=>exact Md (C:=λva K=>sP T s f va K) h (λ_ _ h=>sP.pt h)
 |binOp op t x y ty=>exact Md (C:=λva K=>fe g (ev I y) λvb=>bin T op t g va vb K) h (λva K h=>Md (C:=λvb K=>bin T op t g va vb K) h (λ_ _ h=>bin.pt h))
 |unOp op t x=>exact Md (C:=λva K=>ri op va K) h (λ_ _ h=>ri.pt h)
 |convert src dst x=>exact Md (C:=λva K=>tY T src dst va K) h (λ_ _ h=>tY.pt h)
 |nilCheck x=>exact Md (C:=λva K=>MT va K) h (λ_ _ h=>MT.pt h)
 |extract x k=>exact J3.pt h
 |indexAddr t x y=>exact Md (C:=λva K=>fe g (ev I y) λvb=>qN T I t g va vb K) h (λva K h=>Md (C:=λvb K=>qN T I t g va vb K) h (λ_ _ h=>qN.pt h))
 |index t x y=>exact Md (C:=λva K=>fe g (ev I y) λvb=>C7 T t g va vb K) h (λva K h=>Md (C:=λvb K=>C7 T t g va vb K) h (λ_ _ h=>C7.pt h))
 |lookup t x y ok=>exact Md (C:=λva K=>fe g (ev I y) λvb=>rX T I t ok g va vb K) h (λva K h=>Md (C:=λvb K=>rX T I t ok g va vb K) h (λ_ _ h=>rX.pt h))
 |slice t x lo hi mx=>
  cases mx with
  |some m=>exact h.elim
  |none=>exact Md (C:=λva K=>lD T I t g va lo hi K) h (λ_ _ h=>lD.pt h)
 |build t pa=>exact Kr (C:=λps K=>q9 T t ps K) h (λ_ _ h=>q9.pt h)
 |makeFunc fn Y IV=>
  cases fn with
  |func f=>
   simp only[mD]at h;split at h
   case h_3=>cases h
   ·rename_i Z6;split at h
    case h_2=>cases h
    rename_i cs nR;exact⟨_,h,λK k=>by simp only[mD,Z6,nR];exact k⟩
   rename_i y Z6;split at h
   case h_2=>cases h
   rename_i nR;have hp:=Md (C:=λva (K:AV->Prop)=>match va with|.g cs=>bif o5 cs then K (.s (.d (qv f cs)))else False|_=>False) h (λva K h=>by
    split at h
    case h_2=>cases h
    rename_i cs
    cases hc:o5 cs with
    |false=>rw[hc]at h;cases h
    |true=>rw[hc]at h;exact⟨_,h,λK k=>by simp only;exact k⟩)
   obtain⟨r,h1,h2⟩:=hp;exact⟨r,h1,λK k=>by simp only[mD,Z6,nR];exact h2 K k⟩
  |_=>exact h.elim
 |call c=>
  obtain⟨callee,args,wR⟩:=c
  cases callee with
  |value fo=>exact Md (C:=λvf K=>dY g I args.toList λars=>mW P I g vf ars K) h (λvf K h=>dY.pt (C:=λars K=>mW P I g vf ars K) h (λ_ _ h=>mW.pt h))
  |invoke r m=>exact h.elim
  |builtin b=>
   cases b with
   |len=>
    simp only[mD]at h;split at h
    case h_2=>cases h
    rename_i x t hx ht;obtain⟨r,h1,h2⟩:=Md (C:=λva K=>qL T I t va K) h (λ_ _ h=>qL.pt h);exact zdh
   |cap=>
    simp only[mD]at h;split at h
    case h_2=>cases h
    rename_i x t hx ht;obtain⟨r,h1,h2⟩:=Md (C:=λva K=>J9 T t va K) h (λ_ _ h=>J9.pt h);exact zdh
   |max=>refine Hs (C:=λl K=>match l with|(k,n)::r=>K (Ih true k n r)|[]=>False) h (λl K h=>?_);exact zd0
   |min=>refine Hs (C:=λl K=>match l with|(k,n)::r=>K (Ih false k n r)|[]=>False) h (λl K h=>?_);exact zd0
   |_=>exact h.elim
 |_=>exact h.elim
end
abbrev Ef:=Da AV×aP
def Ru:aP->aP->aP
 |[],s=>s
 |[p],s=>p::s
 |[p,q],s=>p::q::s
 |l,s=>l++s
def F4{u s:aP}:Ru u s=u++s:=by unfold Ru;split <;> rfl
def K1(K:AV->aP->Prop)(v:AV)(bx:aP):Prop:=
 match bx with
 |p::_=>K v [p]
 |[]=>False
def K2(K:AV->aP->Prop)(v:AV)(bx:aP):Prop:=
 match bx with
 |p::q::_=>K v [p,q]
 |_=>False
def vW(T:List (Nat×bV))(d:Nat)(op:Op)(I:St)(K:AV->aP->Prop):Prop:=
 match op with
 |.alloc t=>x9 T I d t (K1 K)
 |.box _ x=>KB I d x (K1 K)
 |.store t x y=>o7 T I t x y (K1 K)
 |.buildSlice t len pa=>KA T I d t len pa.toList (K1 K)
 |.makeSlice t x y=>Jh T I d t x y (K1 K)
 |.call c=>match c.callee with
  |.builtin .copy=>match c.args.toList,c.argTypes.toList with
   |[x,y],[t,_]=>bif Nat.beq (Lu T t) 1 then zN T I t x y (K1 K)else False
   |_,_=>False
  |.builtin .append=>match c.args.toList,c.argTypes.toList with
   |[x,y],[t,t']=>bif Nat.beq t t' then(match ev I x with
    |.s (.own _)=>x8 T I [] d t x y (K2 K)
    |.s (.mo _ _)=>x8 T I [] d t x y (K2 K)
    |.s (.d _)=>x8 T I [] d t x y (K1 K)
    |_=>False)else False
   |_,_=>False
  |_=>False
 |_=>False
section
variable{P:Ba}{T:List (Nat×bV)}{N:Nat}{ref rc:List Nat}{I I':St}{d:Nat}
def alloc.pt{t:Nat}{C:AV->aP->Prop}(h:x9 T I d t C):∃r b,C r ((d,some b)::I.box)/\∀I',aH I'.box d=aH I.box d->∀C':AV->aP->Prop,C' r ((d,some b)::I'.box)->x9 T I' d t C':=by
 unfold x9 at h;split at h
 case h_2=>cases h
 rename_i ti gG;split at h
 case h_2=>cases h
 rename_i hd;exact⟨_,_,h,λI' e C' k=>by unfold x9;simp only[gG,e,hd];exact k⟩
def KB.pt{x:Ca}{C:AV->aP->Prop}(h:KB I d x C):∃r b,C r ((d,some b)::I.box)/\∀I',aH I'.box d=aH I.box d->ev I' x=ev I x->∀C':AV->aP->Prop,C' r ((d,some b)::I'.box)->KB I' d x C':=by
 unfold KB at h;replace h:=cg h;obtain⟨va,h,hp⟩:=h;split at h
 case h_2=>cases h
 rename_i cs nR
 cases oU:l9 cs with
 |false=>rw[oU]at h;cases h
 |true=>
  rw[oU]at h;simp only[cond_true]at h;split at h
  case h_2=>cases h
  rename_i hd;refine⟨_,_,h,λI' e ex C' k=>?_⟩;unfold KB;rw[ex];refine hp _ ?_;simp only[nR,oU,cond_true,e,hd];exact k
def o7.pt{t:Nat}{x y:Ca}{C:AV->aP->Prop}(h:o7 T I t x y C):∃r n b,C r ((n,some b)::I.box)/\∀I',aH I'.box n=aH I.box n->ev I' x=ev I x->ev I' y=ev I y->∀C':AV->aP->Prop,C' r ((n,some b)::I'.box)->o7 T I' t x y C':=by
 unfold o7 at h;replace h:=cg h;obtain⟨va,h,hp⟩:=h;replace h:=cg h;obtain⟨vv,h,hp2⟩:=h;split at h
 case h_2=>cases h
 rename_i ti cs gG nR
 cases oU:(l9 cs&&Nat.beq cs.length ti.size)with
 |false=>rw[oU]at h;cases h
 |true=>
  rw[oU]at h;simp only[cond_true]at h;split at h
  case h_3=>cases h
  ·rename_i b off;split at h
   case h_2=>cases h
   rename_i Z2 hb
   cases hle:Nat.ble (off+ti.size) Z2.length with
   |false=>rw[hle]at h;cases h
   |true=>rw[hle]at h;refine⟨_,_,_,h,λI' e ex ey C' k=>?_⟩;unfold o7;rw[ex,ey];refine hp _ (hp2 _ ?_);simp only[gG,nR,oU,cond_true,e,hb,hle];exact k
  rename_i b ix s off;split at h
  case h_3=>cases h
  ·exact qx
  exact qx
def parts.pJ{g:Da Bool}{l:List (Nat×Ca)}{K:List (Nat×List SV)->Prop}(h:parts g I l K):∃ps,K ps/\fA (parts g I l) ps:=by obtain⟨r,h1,h2⟩:=Kr (α:=List (Nat×List SV)) (C:=λps K=>K ps) h (λps K h=>⟨ps,h,λ_ k=>k⟩);exact⟨r,h1,h2⟩
def KA.pt{t len:Nat}{pa:List (Nat×Ca)}{C:AV->aP->Prop}(h:KA T I d t len pa C):∃r b,C r ((d,some b)::I.box)/\∀I',aH I'.box d=aH I.box d->W5 (pa.map (·.2)) I I'->∀C':AV->aP->Prop,C' r ((d,some b)::I'.box)->KA T I' d t len pa C':=by
 unfold KA at h;replace h:=parts.pJ h;obtain⟨ps,h,hp⟩:=h;split at h
 case h_2=>cases h
 rename_i ti gG;split at h
 case h_2=>cases h
 rename_i e hu;split at h
 case h_2=>cases h
 rename_i te nD;split at h
 case h_2=>cases h
 rename_i cs nR
 cases hc:(o5 cs&&Nat.ble (len*te.size) 16777216&&Nat.blt 0 te.size&&Nat.beq te.zero.length te.size)with
 |false=>rw[hc]at h;cases h
 |true=>
  rw[hc]at h;simp only[cond_true]at h;split at h
  case h_2=>cases h
  rename_i hd;refine⟨_,_,h,λI' e hE C' k=>?_⟩;unfold KA;refine Xr hE (hp _ ?_);simp only[gG,hu,nD,nR,hc,cond_true,e,hd];exact k
def Jh.pt{t:Nat}{x y:Ca}{C:AV->aP->Prop}(h:Jh T I d t x y C):∃r b,C r ((d,some b)::I.box)/\∀I',aH I'.box d=aH I.box d->ev I' x=ev I x->ev I' y=ev I y->∀C':AV->aP->Prop,C' r ((d,some b)::I'.box)->Jh T I' d t x y C':=by
 unfold Jh at h;replace h:=cg h;obtain⟨vx,h,hp⟩:=h;replace h:=cg h;obtain⟨vy,h,hp2⟩:=h;split at h
 case h_2=>cases h
 rename_i n c;split at h
 case h_2=>cases h
 rename_i ti gG;split at h
 case h_2=>cases h
 rename_i e hu;split at h
 case h_2=>cases h
 rename_i te nD
 cases hc:(Nat.blt 0 te.size&&Nat.blt 0 te.bytes&&Nat.beq te.zero.length te.size)with
 |false=>rw[hc]at h;cases h
 |true=>
  rw[hc]at h;simp only[cond_true]at h;split at h
  case h_2=>cases h
  rename_i hd;refine⟨_,_,h.2.2.2,λI' e ex ey C' k=>?_⟩;unfold Jh;rw[ex,ey];refine hp _ (hp2 _ ?_);simp only[gG,hu,nD,hc,cond_true,e,hd];exact⟨h.1,h.2.1,h.2.2.1,k⟩
def sF.congr{va:AV}(h:wS (b9 I va) I I'):sF I' va=sF I va:=by
 have key:∀y,y∈b9 I va->aH I'.box y=aH I.box y:=λy hy=>h y hy
 unfold sF;split
 ·rw[key _ Vp]
 ·rfl
 ·rw[key _ Vp]
 rfl
def co:=@sF.congr
def zN.pt{t:Nat}{x y:Ca}{C:AV->aP->Prop}(h:zN T I t x y C):∃r n b,C r ((n,some b)::I.box)/\∀I',aH I'.box n=aH I.box n->ev I' x=ev I x->ev I' y=ev I y->wS (b9 I (ev I y)) I I'->∀C':AV->aP->Prop,C' r ((n,some b)::I'.box)->zN T I' t x y C':=by
 unfold zN at h;replace h:=cg h;obtain⟨vx,h,hp⟩:=h;replace h:=cg (Mf (K':=λr=>CS (ev I y) r/\_) (λr hs k=>⟨hs,k⟩) h);obtain⟨vy,⟨jO,h⟩,hp2⟩:=h;split at h
 case h_2=>cases h
 rename_i ti gG;split at h
 case h_2=>cases h
 rename_i e hu;split at h
 case h_2=>cases h
 rename_i te nD;split at h
 case h_2=>cases h
 rename_i k s' g xN;split at h
 case h_2=>cases h
 rename_i b lo m T1;split at h
 case h_2=>cases h
 rename_i e' n s f hb
 cases hc:(Nat.beq te.size 1&&Nat.beq s 1&&Nat.beq s' 1)with
 |false=>rw[hc]at h;cases h
 |true=>rw[hc]at h;refine⟨_,_,_,h.2,λI' e ex ey hr C' kk=>?_⟩;unfold zN;rw[ex,ey];refine hp _ (hp2 _ ?_);rw[<-jO.reach I]at hr;simp only[gG,hu,nD,co hr,xN,T1,e,hb,hc,cond_true];exact⟨h.1,kk⟩
def x8.pt{t:Nat}{x y:Ca}{C:AV->aP->Prop}(h:x8 T I [] d t x y C):∃r u z,C r (u++I.box)/\CS (ev I x) (.s z)/\(match z with|.d _=>∃p,u=[p]|_=>∃p q,u=[p,q])/\∀I',(∀n,n∈u.map (·.1)->aH I'.box n=aH I.box n)->ev I' x=ev I x->ev I' y=ev I y->wS (b9 I (ev I y)) I I'->∀C':AV->aP->Prop,C' r (u++I'.box)->x8 T I' [] d t x y C':=by
 unfold x8 at h;replace h:=cg (Mf (K':=λr=>CS (ev I x) r/\_) (λr hs k=>⟨hs,k⟩) h);obtain⟨vx,⟨hsx,h⟩,hp⟩:=h;replace h:=cg (Mf (K':=λr=>CS (ev I y) r/\_) (λr hs k=>⟨hs,k⟩) h);obtain⟨vy,⟨jO,h⟩,hp2⟩:=h;split at h
 case h_2=>cases h
 rename_i ti gG;split at h
 case h_2=>cases h
 rename_i e hu;split at h
 case h_2=>cases h
 rename_i te nD;split at h
 case h_2=>cases h
 rename_i hd;split at h
 case h_2=>cases h
 rename_i m s' g xN
 cases hc:(Nat.beq s' te.size&&Nat.blt 0 te.size&&Nat.blt 0 te.bytes&&Nat.beq te.zero.length te.size)with
 |false=>rw[hc]at h;cases h
 |true=>
  rw[hc]at h;simp only[cond_true]at h;split at h
  ·rename_i b;split at h
   case h_2=>cases h
   rename_i e' n s f hb
   cases JA:(Nat.beq e' e&&Nat.beq s te.size)with
   |false=>rw[JA]at h;cases h
   |true=>
    rw[JA]at h;simp only[cond_true]at h;refine⟨_,[(d,some (.row e (n+m) te.size (jM n f g))),(b,none)],_,h.2.2,hsx,⟨_,_,rfl⟩,λI' eb ex ey hr C' kk=>?_⟩;have e1:aH I'.box d=none:=by rw[eb d sM];exact hd
    have e2:aH I'.box b=some (some (.row e' n s f)):=by rw[eb b sM];exact hb
    unfold x8;rw[ex,ey];refine hp _ (hp2 _ ?_);rw[<-jO.reach I]at hr;simp only[gG,hu,nD,e1,co hr,xN,hc,cond_true,e2,JA];exact⟨h.1,h.2.1,kk⟩
  ·rename_i z b;split at h
   case h_2=>cases h
   rename_i e' n s f hb
   cases JA:(Nat.beq e' e&&Nat.beq s te.size)with
   |false=>rw[JA]at h;cases h
   |true=>
    rw[JA]at h;simp only[cond_true]at h;refine⟨_,[(d,some (.row e ((bif z then 0 else n)+m) te.size (jM (bif z then 0 else n) f g))),(b,none)],_,h.2.2.2,hsx,⟨_,_,rfl⟩,λI' eb ex ey hr C' kk=>?_⟩;have e1:aH I'.box d=none:=by rw[eb d sM];exact hd
    have e2:aH I'.box b=some (some (.b8 e' n s f)):=by rw[eb b sM];exact hb
    unfold x8;rw[ex,ey];refine hp _ (hp2 _ ?_);rw[<-jO.reach I]at hr;simp only[gG,hu,nD,e1,co hr,xN,hc,cond_true,e2,JA];exact⟨h.1,h.2.1,h.2.2.1,kk⟩
  ·refine⟨_,[(d,some (.row e m te.size g))],_,h.2.2,hsx,⟨_,rfl⟩,λI' eb ex ey hr C' kk=>?_⟩;have e1:aH I'.box d=none:=by rw[eb d sM];exact hd
   unfold x8;rw[ex,ey];refine hp _ (hp2 _ ?_);rw[<-jO.reach I]at hr;simp only[gG,hu,nD,e1,co hr,xN,hc,cond_true];exact⟨h.1,h.2.1,kk⟩
  cases h
def vW.pt{op:Op}{K:AV->aP->Prop}(h:vW T d op I K):
  ∃r u,K r u/\(∀I',(∀n,n∈u.map (·.1)->aH I'.box n=aH I.box n)->W5 op.operands.toList I I'->wS (tJ I op) I I'->∀K':AV->aP->Prop,K' r u->vW T d op I' K')/\
   ∀ref,JR T ref d op I λv bx=>v=r/\bx=u++I.box:=by
 cases op with
 |alloc t=>
  simp only[vW]at h;obtain⟨r,b,h1,h2⟩:=alloc.pt h;refine⟨r,[(d,some b)],h1,λI' e _ _ K' k=>?_,λ_=>?_⟩
  ·simp only[vW];exact h2 I' (e d sM) _ k
  simp only[JR];exact h2 I rfl _ ⟨rfl,rfl⟩
 |box t x=>
  simp only[vW]at h;obtain⟨r,b,h1,h2⟩:=KB.pt h;refine⟨r,[(d,some b)],h1,λI' e he _ K' k=>?_,λ_=>?_⟩
  ·simp only[vW];exact h2 I' (e d sM) (he x Ad) _ k
  simp only[JR];exact h2 I rfl rfl _ ⟨rfl,rfl⟩
 |store t x y=>
  simp only[vW]at h;obtain⟨r,n,b,h1,h2⟩:=o7.pt h;refine⟨r,[(n,some b)],h1,λI' e he _ K' k=>?_,λ_=>?_⟩
  ·simp only[vW];exact h2 I' (e n sM) (he x Ad) (he y Ad) _ k
  exact zdt
 |buildSlice t len pa=>
  simp only[vW]at h;obtain⟨r,b,h1,h2⟩:=KA.pt h;refine⟨r,[(d,some b)],h1,λI' e he _ K' k=>?_,λ_=>?_⟩
  ·simp only[vW];exact h2 I' (e d sM) (λy hy=>he y (by simpa[Op.operands]using hy)) _ k
  simp only[JR];exact h2 I rfl (λ_ _=>rfl) _ ⟨rfl,rfl⟩
 |makeSlice t x y=>
  simp only[vW]at h;obtain⟨r,b,h1,h2⟩:=Jh.pt h;refine⟨r,[(d,some b)],h1,λI' e he _ K' k=>?_,λ_=>?_⟩
  ·simp only[vW];exact h2 I' (e d sM) (he x Ad) (he y Ad) _ k
  exact zdt
 |call c=>
  obtain⟨callee,args,wR⟩:=c;simp only[vW]at h;split at h
  ·split at h
   case h_2=>cases h
   rename_i x y t t' hx ht
   cases hz:Nat.beq (Lu T t) 1 with
   |false=>rw[hz]at h;cases h
   |true=>
   rw[hz]at h;simp only[cond_true]at h;obtain⟨r,n,b,h1,h2⟩:=zN.pt h;have e1:args= #[x,y]:=by apply Jd;simpa using hx
   have e2:wR= #[t,t']:=by apply Jd;simpa using ht
   subst e1;subst e2;refine⟨r,[(n,some b)],h1,λI' e he hr K' k=>?_,λ_=>?_⟩
   ·simp only[vW,hz,cond_true];exact h2 I' (e n sM) (he x yg) (he y yg) (hr.mono λm hm=>by simp only[tJ];exact iT (j:=1) (c:=y) yg hm) _ k
   simp only[JR,LX,hz];exact h2 I rfl rfl rfl (λ_ _=>rfl) _ ⟨rfl,rfl⟩
  ·split at h
   case h_2=>cases h
   rename_i x y t t' hx ht
   cases ER:Nat.beq t t' with
   |false=>rw[ER]at h;cases h
   |true=>
    rw[ER]at h;simp only[cond_true]at h;have e1:args= #[x,y]:=by apply Jd;simpa using hx
    have e2:wR= #[t,t']:=by apply Jd;simpa using ht
    subst e1;subst e2;have two:∀{z:SV},ev I x=.s z->(∀q,z≠.d q)->(∀i j k l,z≠.j0 i j k l)->(∀I' (K':AV->aP->Prop),ev I' x=.s z->x8 T I' [] d t x y (K2 K')->vW T d (.call ⟨.builtin .append, #[x,y], #[t,t']⟩) I' K')->x8 T I [] d t x y (K2 K)->∃r u,K r u/\(∀I',(∀n,n∈u.map (·.1)->aH I'.box n=aH I.box n)->W5 (Op.operands (.call ⟨.builtin .append, #[x,y], #[t,t']⟩)).toList I I'->wS (tJ I (.call ⟨.builtin .append, #[x,y], #[t,t']⟩)) I I'->∀K':AV->aP->Prop,K' r u->vW T d (.call ⟨.builtin .append, #[x,y], #[t,t']⟩) I' K')/\
      ∀ref,JR T ref d (.call ⟨.builtin .append, #[x,y], #[t,t']⟩) I λv bx=>v=r/\bx=u++I.box:=by
     intro z hz YP YN oT h
     obtain⟨r,u,z',h1,jO,hu,h2⟩:=x8.pt h
     rw[hz]at jO
     have hzz:z'=z:=zcs
     subst hzz
     have hu:∃p q,u=[p,q]:=by
      split at hu
      ·rename_i q;exact absurd rfl (YP q)
      exact hu
     obtain⟨p,q,rfl⟩:=hu
     refine⟨r,[p,q],h1,λI' e he hr K' k=>?_,λref=>?_⟩
     ·have ex:=he x yg;refine oT I' K' (ex.trans hz) ?_;exact h2 I' e ex (he y yg) (hr.mono λm hm=>by simp only[tJ];exact iT (j:=1) (c:=y) yg hm) _ k
     ·have:=h2 I (λ_ _=>rfl) rfl rfl (λ_ _=>rfl) (λv bx=>v=r/\bx=[p,q]++I.box) ⟨rfl,rfl⟩;simp only[JR,ER,cond_true,hz];split
      ·rename_i e;cases e;exact absurd rfl (YN _ _ _ _)
      exact this
    split at h
    ·rename_i b hv;exact zaZ
    ·rename_i b c hv;exact zaZ
    ·rename_i q hv;obtain⟨r,u,z',h1,jO,hu,h2⟩:=x8.pt h;rw[hv]at jO;have hzz:z'=.d q:=zcs
     subst hzz;obtain⟨p,rfl⟩:=hu;refine⟨r,[p],h1,λI' e he hr K' k=>?_,λref=>?_⟩
     ·have ex:=he x yg;have:=h2 I' e ex (he y yg) (hr.mono λm hm=>by simp only[tJ];exact iT (j:=1) (c:=y) yg hm) (K1 K') k;simp only[vW,ER,cond_true,ex,hv];exact this
     have:=h2 I (λ_ _=>rfl) rfl rfl (λ_ _=>rfl) (λv bx=>v=r/\bx=[p]++I.box) ⟨rfl,rfl⟩;simp only[JR,ER,cond_true,hv];exact this
    cases h
  cases h
 |_=>exact h.elim
def nP(box:aP)(x:Nat):Da jK:=match aH box x with
 |some (some b)=>some b
 |_=>none
def uT{box:aP}{x:Nat}{b:jK}:nP box x=some b↔aH box x=some (some b):=by
 unfold nP;split
 ·rename_i c h;rw[h];simp
 rename_i h;constructor
 ·intro h2;cases h2
 intro h2;exact absurd h2 (h b)
def xF{u v:aP}{x:Nat}(h:nP u x=nP v x):aH u x=aH v x\/((∀b,aH u x≠some (some b))/\∀b,aH v x≠some (some b)):=by
 cases hu:nP u x with
 |some b=>rw[hu]at h;exact .inl ((uT.1 hu).trans (uT.1 h.symm).symm)
 |none=>
  rw[hu]at h;refine .inr ⟨λb hb=>?_,λb hb=>?_⟩
  ·rw[uT.2 hb]at hu;cases hu
  rw[uT.2 hb]at h;cases h
def WQ{I I':St}(h:∀x,nP I.box x=nP I'.box x):∀(n:Nat) (x:SV),dS n I x=dS n I' x:=by
 have own:∀n x,dS n I (.own x)=dS n I' (.own x):=by intro n x;exact xb
 have mo:∀n z x,dS n I (.mo z x)=dS n I' (.mo z x):=by intro n z x;exact xb
 have aOU:∀x s lo m,dS 0 I (.j0 x s lo m)=dS 0 I' (.j0 x s lo m):=by
  intro x s lo m;simp only[dS];rcases xF (h x)with e|⟨e1,e2⟩
  ·rw[e]
  split
  ·exact iq
  split
  ·rename_i hb;exact absurd hb (e2 _)
  rfl
 intro n;induction n with
 |zero=>
  intro x
  cases x with
  |own x=>exact own _ _
  |mo z x=>exact mo _ _ _
  |j0 x s lo m=>exact aOU _ _ _ _
  |_=>rfl
 |succ n ih=>
  intro x
  cases x with
  |own x=>exact own _ _
  |mo z x=>exact mo _ _ _
  |j0 x s lo m=>
   simp only[dS];rcases xF (h x)with e|⟨e1,e2⟩
   ·rw[e];split
    ·rfl
    ·rename_i cs hb;congr 1;congr 1;funext i j;split
     ·exact ih _
     rfl
    rfl
   split
   ·exact iq
   ·exact iq
   split
   ·rename_i hb;exact absurd hb (e2 _)
   ·rename_i hb;exact absurd hb (e2 _)
   rfl
  |ptr x off=>
   simp only[dS];rcases xF (h x)with e|⟨e1,e2⟩
   ·rw[e];split
    ·rename_i cs hb;congr 1;funext j;split
     ·exact ih _
     rfl
    rfl
   split
   ·exact iq
   split
   ·rename_i hb;exact absurd hb (e2 _)
   rfl
  |dZ f cs=>
   simp only[dS];congr 1;funext i;split
   ·rfl
   ·exact ih _
   rfl
  |_=>rfl
def RR{I I':St}(h:∀x,nP I.box x=nP I'.box x)(l:List AV):jD I l=jD I' l:=by
 have hs:∀cs:List SV,kW I cs=kW I' cs:=by
  intro cs;induction cs with
  |nil=>rfl
  |cons c r ih=>simp only[kW,vX,ih,WQ h]
 induction l with
 |nil=>rfl
 |cons v r ih=>
  simp only[jD,ih];congr 1
  cases v with
  |s x=>simp only[pO,vX,WQ h]
  |g cs=>simp only[pO,hs]
  |_=>rfl
def zZ{zs:List Nat}{x:Nat}:∀{box:aP},nP (iH zs box) x=bif zs.contains x then nP box x else none
 |[]=>by cases zs.contains x <;> rfl
 |(k,b)::r=>by
  have ih:=zZ (zs:=zs) (x:=x) (box:=r);unfold nP at*;rw[iH,aL,aL];by_cases e:k=x
  ·subst e;rw[La rfl,La rfl]
   cases zs.contains k <;> rfl
  rw[Ka e,Ka e];exact ih
def HF{zs:List Nat}{x:Nat}:∀{box:aP},aH (lW zs box) x=match aH box x with
  |none=>none
  |some b=>some (bif zs.contains x then none else b)
 |[]=>rfl
 |(k,b)::r=>by
  rw[lW,aL,aL];by_cases e:k=x
  ·subst e;rw[La rfl,La rfl]
  rw[Ka e,Ka e];exact HF
def CF(zs:List Nat):aP:=zs.map λz=>(z,none)
def Y8{zs:List Nat}{x:Nat}:aH (CF zs) x=bif zs.contains x then some none else none:=by
 induction zs with
 |nil=>rfl
 |cons z r ih=>
  show aH ((z,none)::CF r) x=_;rw[aL];by_cases e:z=x
  ·subst e;rw[La rfl];simp
  rw[Ka e,ih];have:(z::r).contains x=r.contains x:=by simp only[ny];rw[show(x==z)=false by simpa using λh=>e h.symm];rfl
  rw[this]
def xJ(rc:List Nat)(I:St)(op:Op):Da (Ca×List Ca):=
 match op with
 |.call {callee:=.value fo,args, .. }=>match ev I fo with
  |.s (.dZ f _)=>bif (rc.contains (f+1000000)||rc.contains (f+2000000))||rc.contains (f+1500000)then some (fo,args.toList)else none
  |_=>none
 |_=>none
def gU(P:Ba)(rc:List Nat)(I:St)(vf:AV)(ars:List AV)(K:AV->aP->Prop):Prop:=
 match vf with
 |.s (.dZ f cs)=>bif rc.contains (f+2000000)then
   ∃zs r,(zs.all λz=>(nP I.box z).isSome)=true/\aF P f (jD ⟨I.env,iH zs I.box⟩ (ars++wM cs)) r/\K r (CF zs)
  else bif rc.contains (f+1500000)then
   ∃ren args bx r bx',bW P f args bx r bx'/\ars++wM cs=zG ren args/\nO ren I.box bx/\BH ren I.box args bx r bx'=true/\K (oC ren r) (sU ren (jU ren [] bx) bx')
  else ∃ren args r y b,bW P f args [] r [(y,b)]/\ars++wM cs=zG ren args/\BH ren [] args [] r [(y,b)]=true/\aH I.box (look ren y)=none/\K (oC ren r) [(look ren y,some (jX ren b))]
 |_=>False
def xJ.op{rc:List Nat}{o:Oper}{fo:Ca}{l:List Ca}(h:xJ rc I o.op=some (fo,l)):(∃f cs,ev I fo=.s (.dZ f cs))/\∃args wR,o.op=.call {callee:=.value fo,args:=args,argTypes:=wR}/\args.toList=l:=by
 unfold xJ at h;split at h
 ·rename_i fo' args wR oT;split at h
  ·rename_i f cs hv
   cases hc:((rc.contains (f+1000000)||rc.contains (f+2000000))||rc.contains (f+1500000))with
   |false=>rw[hc]at h;cases h
   |true=>rw[hc]at h;simp only[cond_true,Je,Aj]at h;obtain⟨rfl,rfl⟩:=h;exact⟨⟨_,_,hv⟩,_,_,oT,rfl⟩
  cases h
 cases h
def xJ.congr{rc:List Nat}{op:Op}(he:W5 op.operands.toList I I'):xJ rc I' op=xJ rc I op:=by
 unfold xJ;split
 ·rw[he _ yg]
 rfl
def QB{ren:List (Nat×Nat)}{x:Nat}:∀{bx:eV},x∈names bx->look ren x∈(jU ren [] bx).map (·.1)
 |[],h=>by cases h
 |(y,b)::r,h=>by simp only[names,wb]at h;simp only[jU,Le,wb];exact h.imp (λe=>by rw[e]) QB
def F7{ren:List (Nat×Nat)}{bx:eV}{x:Nat}:∀{bx':eV},x∈names bx\/x∈names bx'->look ren x∈(sU ren (jU ren [] bx) bx').map (·.1)
 |[],h=>QB (h.resolve_right Dh)
 |(y,b)::r,h=>by
  simp only[sU,Le,wb];rcases h with h|h
  ·exact .inr (F7 (.inl h))
  simp only[names,wb]at h;exact h.imp (λe=>by rw[e]) (λh=>F7 (.inr h))
def K4{ren:List (Nat×Nat)}{box:aP}:∀{bx:eV},jU ren box bx=jU ren [] bx++box
 |[]=>rfl
 |(y,_)::r=>Na (λl=>(look ren y,none)::l) (K4 (bx:=r))
def SA{ren:List (Nat×Nat)}{box:aP}{bx:eV}:∀{bx':eV},sU ren (jU ren box bx) bx'=sU ren (jU ren [] bx) bx'++box
 |[]=>K4
 |(y,b)::r=>Na (λl=>(look ren y,some (jX ren b))::l) (SA (bx':=r))
def B2{ren:List (Nat×Nat)}{bo bo':aP}{ns:List Nat}:∀{l:List Nat},(∀y,y∈l->aH bo' (look ren y)=aH bo (look ren y))->oF ren bo ns l=true->oF ren bo' ns l=true
 |[],_,h=>h
 |y::r,hk,h=>by simp only[oF,Bool.and_eq_true]at h⊢;refine⟨?_,B2 (λz hz=>hk z (oc _ hz)) h.2⟩;have:=h.1;rw[hk y (Zd)];exact this
def gU.pt{vf:AV}{ars:List AV}{K:Ef->Prop}(h:gU P rc I vf ars λv u=>K (some v,u)):∃e,K e/\fA (λK:Ef->Prop=>gU P rc I vf ars λv u=>K (some v,u)) e:=by
 unfold gU at h;split at h
 case h_2=>cases h
 rename_i f cs
 cases hc:rc.contains (f+2000000)with
 |true=>rw[hc]at h;simp only[cond_true]at h;obtain⟨zs,r,h1,h2,h3⟩:=h;exact⟨_,h3,λK k=>by simp only[gU,hc,cond_true];exact⟨zs,r,h1,h2,k⟩⟩
 |false=>
  rw[hc]at h;simp only[Ua]at h
  cases hd:rc.contains (f+1500000)with
  |true=>rw[hd]at h;simp only[cond_true]at h;obtain⟨ren,args,bx,r,bx',h1,h2,h3,h4,h5⟩:=h;exact⟨_,h5,λK k=>by show(bif rc.contains (f+2000000)then _ else bif rc.contains (f+1500000)then _ else _);rw[hc,Ua,hd,cond_true];exact⟨ren,args,bx,r,bx',h1,h2,h3,h4,k⟩⟩
  |false=>
  rw[hd]at h;simp only[Ua]at h;obtain⟨ren,args,r,y,b,h1,h2,h3,h4,h5⟩:=h;exact⟨_,h5,λK k=>by show(bif rc.contains (f+2000000)then _ else bif rc.contains (f+1500000)then _ else _);rw[hc,Ua,hd,Ua];exact⟨ren,args,r,y,b,h1,h2,h3,h4,k⟩⟩
def gU.congr{vf:AV}{ars:List AV}{K K':AV->aP->Prop}(hk:∀v u,K v u->(∀n,n∈u.map (·.1)->aH I'.box n=aH I.box n)/\K' v u)(h:gU P rc I vf ars K):gU P rc I' vf ars K':=by
 unfold gU at*;split at h
 case h_2=>cases h
 rename_i f cs
 cases hc:rc.contains (f+2000000)with
 |true=>
  rw[hc]at h;simp only[cond_true]at h;simp only[cond_true];obtain⟨zs,r,h1,h2,h3⟩:=h;obtain⟨q1,q2⟩:=hk _ _ h3;have q:∀z,z∈zs->aH I'.box z=aH I.box z:=λz hz=>q1 z (by unfold CF;rw[Rn];exact Lc.2 ⟨z,hz,rfl⟩)
  refine⟨zs,r,?_,?_,q2⟩
  ·rw[Hd]at h1⊢;intro z hz;have:=h1 z hz;unfold nP at this⊢;rw[q z hz];exact this
  rw[RR (I':=⟨I.env,iH zs I.box⟩)]
  ·exact h2
  intro x;show nP (iH zs I'.box) x=nP (iH zs I.box) x;rw[zZ,zZ]
  cases hz:zs.contains x with
  |false=>rfl
  |true=>
   have hz:x∈zs:=by simpa using hz
   unfold nP;rw[q x hz]
 |false=>
  rw[hc]at h;simp only[Ua]at h;simp only[Ua]
  cases hd:rc.contains (f+1500000)with
  |true=>rw[hd]at h;simp only[cond_true]at h⊢;obtain⟨ren,args,bx,r,bx',h1,h2,h3,h4,h5⟩:=h;obtain⟨q1,q2⟩:=hk _ _ h5;refine⟨ren,args,bx,r,bx',h1,h2,nO.congr (λx hx=>q1 _ (F7 (.inl hx))) h3,?_,q2⟩;simp only[BH,Bool.and_eq_true]at h4⊢;exact⟨h4.1,B2 (λy hy=>q1 _ (F7 (.inr hy))) h4.2⟩
  |false=>
  rw[hd]at h;simp only[Ua]at h⊢;obtain⟨ren,args,r,y,b,h1,h2,h3,h4,h5⟩:=h;obtain⟨q1,q2⟩:=hk _ _ h5;exact⟨ren,args,r,y,b,h1,h2,h3,(q1 _ sM).trans h4,q2⟩
def gU.spec{o:Oper}{fo:Ca}{l:List Ca}{K:AV->aP->Prop}{R:Cx}(hq:xJ rc I o.op=some (fo,l))(YK:∀f,rc.contains (f+2000000)=true->R.ref=[])
  (h:fe none (ev I fo) λvf=>dY none I l λars=>gU P rc I vf ars K):
  ∃r u,K r u/\∀N M V a w,Inv R N M V I a w->∃f vs,(execOp a.eval o).run P w=.ok (.enter f vs) w/\
   Calls P f vs w λe w'=>∃v M' V',e=.returned v/\r.bI M' V' v/\Inv R N M' V' ⟨I.env,u++I.box⟩ a w'/\Grow R.B M M'/\cE R w w':=by
 obtain⟨⟨f,cs,hv⟩,ho⟩:=xJ.op hq
 have h2:dY none I l λars=>gU P rc I (.s (.dZ f cs)) ars K:=by rw[hv]at h;exact h
 cases hc:rc.contains (f+2000000)with
 |true=>
  have h3:fe none (ev I fo) λvf=>dY none I l λars=>Hq P I vf ars λr bx=>∃zs,(zs.all λz=>(nP I.box z).isSome)=true/\K r (CF zs)/\bx=lW zs I.box:=by rw[hv];refine lm (λ_ _=>rfl) (λars _ h=>?_) h2;unfold gU at h;simp only[hc,cond_true]at h;obtain⟨zs,r,h1,h2,h3⟩:=h;exact⟨zs,r,h2,zs,h1,h3,rfl⟩
  obtain⟨r,bx,⟨zs,hz,hk,rfl⟩,hs⟩:=Uw ho h3;refine⟨r,_,hk,λN M V a w i=>?_⟩;obtain⟨f,vs,a7,eF⟩:=hs R N M V a w (YK _ hc) i;refine⟨f,vs,a7,eF.mono ?_⟩;rintro e w' ⟨v,M',V',e1,hr,i',hg,lB⟩;have hb:∀x,aH (CF zs++I.box) x=aH (lW zs I.box) x:=by
   intro x;have aPW:aH (CF zs++I.box) x=match aH (CF zs) x with|some y=>some y|none=>aH I.box x:=by generalize CF zs=u;exact xu
   rw[aPW,Y8,HF]
   cases hx:zs.contains x with
   |false=>cases aH I.box x <;> rfl
   |true=>
    have hx:x∈zs:=by simpa using hx
    rw[Hd]at hz;have:=hz x hx
    cases hg:aH I.box x with
    |none=>unfold nP at this;rw[hg]at this;cases this
    |some b=>rfl
  refine⟨v,M',V',e1,hr,⟨i'.defers,i'.tmps,i'.heap,i'.env,i'.mem,λx p e=>by rw[hb];exact i'.keys x p e,λx bc e=>i'.box x bc Ev,
   λx y bx zB b c c' ex ey=>i'.inj x y bx zB b c c' (by rw[<-hb];exact ex) (by rw[<-hb];exact ey),λx bc b c e=>i'.apart x bc b c Ev,λx bc b c e=>i'.low x bc b c Ev,i'.ref⟩,hg,lB⟩
 |false=>
  have h3:fe none (ev I fo) λvf=>dY none I l λars=>IX P I vf ars λv bx=>∃u,K v u/\bx=u++I.box:=by
   rw[hv];refine lm (λ_ _=>rfl) (λars _ h=>?_) h2;unfold gU at h;simp only[hc,Ua]at h
   cases hd:rc.contains (f+1500000)with
   |true=>simp only[hd,cond_true]at h;obtain⟨ren,args,bx,r,bx',h1,h2,h3,h4,h5⟩:=h;exact⟨ren,args,bx,r,bx',h1,h2,h3,h4,_,h5,SA⟩
   |false=>
   simp only[hd,Ua]at h;obtain⟨ren,args,r,y,b,h1,h2,h3,h4,h5⟩:=h;refine⟨ren,args,[],r,[(y,b)],h1,h2,trivial,?_,_,h5,rfl⟩;simp only[BH,Bool.and_eq_true]at h3⊢;refine⟨h3.1,?_⟩;simp[names,oF,h4]
  obtain⟨r,bx,⟨u,hk,rfl⟩,hs⟩:=Is ho h3;exact⟨r,u,hk,λN M V a w i=>hs R N M V a w i⟩
def a6(P:Ba)(T:List (Nat×bV))(N:Nat)(rc:List Nat)(all:List Oper)(o:Oper)(I:St)(K:Ef->Prop):Prop:=
 let run:Prop:=match o.dst with
  |some d=>bif Nat.blt d N then
    (match M8 o.op with
    |true=>vW T d o.op I λv u=>K (some v,u)
    |false=>match xJ rc I o.op with
     |some (fo,args)=>fe none (ev I fo) λvf=>dY none I args λars=>gU P rc I vf ars λv u=>K (some v,u)
     |none=>mD P T o.op I none λv=>K (some v,[]))else False
  |none=>match M8 o.op with
    |true=>vW T 0 o.op I λ_ u=>K (none,u)
    |false=>False
 match o.guard with
 |none=>run
 |some (j,nY)=>match tS all j with
  |none=>False
  |some t=>match fL I.env t with
   |.s (.d (.lit b))=>match b,nY with
    |true,true=>run
    |false,false=>run
    |_,_=>match o.dst with
     |some d=>bif Nat.blt d N then K (some (.s (.d .bL)),[])else False
     |none=>K (none,[])
   |.s (.d (.val (.bool b)))=>match M8 o.op with
    |true=>b=nY/\run
    |false=>match o.dst with
     |some d=>bif Nat.blt d N then mD P T o.op I (some (rL nY b)) λv=>K (some (wT (rL nY b) v),[])else False
     |none=>False
   |.ib c (.d (.val (.bool b)))=>match M8 o.op with
    |true=>False
    |false=>match o.dst with
     |some d=>bif Nat.blt d N then mD P T o.op I (some (c&&rL nY b)) λv=>K (some (wT (c&&rL nY b) v),[])else False
     |none=>False
   |_=>False
def eU(o:Oper)(e:Ef)(I:St):St:=
 ⟨match o.dst,e.1 with|some d,some v=>(d,v)::I.env|_,_=>I.env,Ru e.2 I.box⟩
end
section
variable{P:Ba}{T:List (Nat×bV)}{N:Nat}{ref rc:List Nat}{all:List Oper}
def a6.pt{o:Oper}{I:St}{K:Ef->Prop}(h:a6 P T N rc all o I K):∃e,K e/\fA (a6 P T N rc all o I) e:=by
 have run:∀{K:Ef->Prop},(match o.dst with
  |some d=>bif Nat.blt d N then
    (match M8 o.op with
    |true=>vW T d o.op I λv u=>K (some v,u)
    |false=>match xJ rc I o.op with
     |some (fo,args)=>fe none (ev I fo) λvf=>dY none I args λars=>gU P rc I vf ars λv u=>K (some v,u)
     |none=>mD P T o.op I none λv=>K (some v,[]))else False
  |none=>match M8 o.op with
    |true=>vW T 0 o.op I λ_ u=>K (none,u)
    |false=>False)->∃e,K e/\∀K':Ef->Prop,K' e->(match o.dst with
  |some d=>bif Nat.blt d N then
    (match M8 o.op with
    |true=>vW T d o.op I λv u=>K' (some v,u)
    |false=>match xJ rc I o.op with
     |some (fo,args)=>fe none (ev I fo) λvf=>dY none I args λars=>gU P rc I vf ars λv u=>K' (some v,u)
     |none=>mD P T o.op I none λv=>K' (some v,[]))else False
  |none=>match M8 o.op with
    |true=>vW T 0 o.op I λ_ u=>K' (none,u)
    |false=>False):=by
  intro K h
  split at h
  ·rename_i d hd
   cases hN:Nat.blt d N with
   |false=>rw[hN]at h;cases h
   |true=>
    rw[hN]at h;simp only[cond_true]at h⊢;split at h
    ·exact zbd
    split at h
    ·rename_i fo args hq;obtain⟨r,h1,h2⟩:=Md (C:=λvf K=>dY none I args λars=>gU P rc I vf ars λv u=>K (some v,u)) h (λvf K h=>dY.pt (C:=λars K=>gU P rc I vf ars λv u=>K (some v,u)) h (λ_ _ h=>gU.pt h));exact⟨r,h1,λK' k=>h2 K' k⟩
    obtain⟨r,h1,h2⟩:=mD.pt h;exact⟨_,h1,λK' k=>h2 _ k⟩
  ·split at h
   ·exact zbd
   cases h
 unfold a6 at h;simp only at h;split at h
 ·rename_i hg;obtain⟨e,h1,h2⟩:=run h;refine⟨e,h1,λK' k=>?_⟩;unfold a6;simp only[hg];exact h2 K' k
 rename_i j nY hg;split at h
 ·cases h
 rename_i t ht;split at h
 ·rename_i b hv;have skip:(match o.dst with
   |some d=>bif Nat.blt d N then K (some (.s (.d .bL)),[])else False
   |none=>K (none,[]))->∃e,K e/\∀K':Ef->Prop,K' e->(match o.dst with
   |some d=>bif Nat.blt d N then K' (some (.s (.d .bL)),[])else False
   |none=>K' (none,[])):=by
   intro h
   split at h
   ·rename_i d hd
    cases hN:Nat.blt d N with
    |false=>rw[hN]at h;cases h
    |true=>rw[hN]at h;exact⟨_,h,λK' k=>k⟩
   ·exact⟨_,h,λK' k=>k⟩
  cases b <;> cases nY
  ·exact zby
  ·exact zbw
  ·exact zbw
  exact zby
 ·rename_i b hv;split at h
  ·rename_i hx;have run':=@run;simp only[hx]at run';obtain⟨e,h1,h2⟩:=run' h.2;refine⟨e,h1,λK' k=>?_⟩;unfold a6;simp only[hg,ht,hv,hx];exact⟨h.1,h2 K' k⟩
  exact ji
 ·rename_i c b hv;split at h
  ·cases h
  exact ji
 cases h
abbrev fY:=List Nat×List Nat
def NN(I:St)(o:Oper)(e:Ef):fY:=(tJ I o.op,e.2.map (·.1))
def U6(all:List Oper)(o:Oper)(I I':St):Prop:=∀t,t∈o.looksAt all.toArray->fL I'.env t=fL I.env t
def U6.ev{o:Oper}{I I':St}(h:U6 all o I I'):W5 o.op.operands.toList I I':=by
 intro x hx
 cases x with
 |tmp t=>apply h t;simp only[Oper.looksAt,ic,lh];exact .inl ⟨_,hx,rfl⟩
 |_=>rfl
def U6.guard{o:Oper}{I I':St}(h:U6 all o I I'){j:Nat}{nY:Bool}{t:Nat}(hg:o.guard=some (j,nY))(ht:tS all j=some t):fL I'.env t=fL I.env t:=by
 apply h t;simp only[Oper.looksAt,ic,hg];refine .inr ?_;have:((all.toArray[j]?).bind (·.dst))=some t:=by simpa[tS]using ht
 rw[this];simp
def tJ.congr{op:Op}{I I':St}(he:W5 op.operands.toList I I')(hb:wS (tJ I op) I I'):tJ I' op=tJ I op:=by
 have hr:∀(n:Nat) (x:SV),wS (reach n I x) I I'->reach n I' x=reach n I x:=zh
 have hrA:∀v:AV,wS (b9 I v) I I'->b9 I' v=b9 I v:=by
  have nR:∀cs:List SV,wS (dV (reach 4 I) cs) I I'->dV (reach 4 I') cs=dV (reach 4 I) cs:=by
   intro cs;induction cs with
   |nil=>intro _;rfl
   |cons c r ih=>intro h;simp only[dV];rw[hr 4 c (h.mono λm hm=>Ag _ hm),ih (h.mono λm hm=>gh _ hm)]
  intro v h
  cases v with
  |s x=>exact hr 4 x h
  |ib b x=>exact hr 4 x h
  |g cs=>exact nR cs h
  |ig b cs=>exact nR cs h
  |t ts=>rfl
 have hrF:∀v:AV,wS (uQ I v) I I'->uQ I' v=uQ I v:=by
  have nR:∀cs:List CV,wS (dV (λc=>match c with|.d _=>[]|.ptr x off=>reach 4 I (.ptr x off)) cs) I I'->
    dV (λc=>match c with|.d _=>[]|.ptr x off=>reach 4 I' (.ptr x off)) cs=dV (λc=>match c with|.d _=>[]|.ptr x off=>reach 4 I (.ptr x off)) cs:=by
   intro cs
   induction cs with
   |nil=>intro _;rfl
   |cons c r ih=>
    intro h;simp only[dV];rw[ih (h.mono λm hm=>gh _ hm)];congr 1
    cases c with
    |d x=>rfl
    |ptr x off=>exact hr 4 _ (h.mono λm hm=>Ag _ hm)
  intro v h
  cases v with
  |s x=>cases x with
   |dZ f cs=>exact nR cs h
   |_=>rfl
  |ib b x=>cases x with
   |dZ f cs=>exact nR cs h
   |_=>rfl
  |_=>rfl
 have hl:∀l:List Ca,W5 l I I'->wS (dV (λx=>b9 I (Ax.ev I x)) l) I I'->dV (λx=>b9 I' (Ax.ev I' x)) l=dV (λx=>b9 I (Ax.ev I x)) l:=by
  intro l;induction l with
  |nil=>intro _ _;rfl
  |cons x r ih=>intro he h;simp only[dV];rw[he x sM,hrA _ (h.mono λm hm=>Ag _ hm),ih (λy hy=>he y (oc _ hy)) (h.mono λm hm=>gh _ hm)]
 unfold tJ at*;split at hb
 ·rename_i fo args wR;rw[he fo yg,hrF _ (hb.mono λm hm=>Ag _ hm),
   hl _ (λy hy=>he y zeQ) (hb.mono λm hm=>gh _ hm)]
 all_goals first|rfl|exact hl _ he hb
structure FD(P:Ba)(T:List (Nat×bV))(N:Nat)(rc:List Nat)(all:List Oper)(o:Oper)(I:St)(e:Ef)(f:fY):Prop where
 pt:fA (a6 P T N rc all o I) e
 rd:tJ I o.op=f.1
 wr:e.2.map (·.1)=f.2
def FD.congr{o:Oper}{I I':St}{e:Ef}{f:fY}(h:FD P T N rc all o I e f)(ht:U6 all o I I')(hr:wS f.1 I I')(hw:∀x,x∈f.2->aH I'.box x=aH I.box x):FD P T N rc all o I' e f:=by
 have hE:=ht.ev;have hrd:wS (tJ I o.op) I I':=by rw[h.rd];exact hr
 refine⟨λK k=>?_,(tJ.congr hE hrd).trans h.rd,h.wr⟩;have hk:=h.pt (λe'=>e'=e/\K e') ⟨rfl,k⟩;have run:(match o.dst with
  |some d=>bif Nat.blt d N then
    (match M8 o.op with
    |true=>vW T d o.op I λv u=>(some v,u)=e/\K (some v,u)
    |false=>match xJ rc I o.op with
     |some (fo,args)=>fe none (Ax.ev I fo) λvf=>dY none I args λars=>gU P rc I vf ars λv u=>(some v,u)=e/\K (some v,u)
     |none=>mD P T o.op I none λv=>(some v,[])=e/\K (some v,[]))else False
  |none=>match M8 o.op with
    |true=>vW T 0 o.op I λ_ u=>(none,u)=e/\K (none,u)
    |false=>False)->(match o.dst with
  |some d=>bif Nat.blt d N then
    (match M8 o.op with
    |true=>vW T d o.op I' λv u=>K (some v,u)
    |false=>match xJ rc I' o.op with
     |some (fo,args)=>fe none (Ax.ev I' fo) λvf=>dY none I' args λars=>gU P rc I' vf ars λv u=>K (some v,u)
     |none=>mD P T o.op I' none λv=>K (some v,[]))else False
  |none=>match M8 o.op with
    |true=>vW T 0 o.op I' λ_ u=>K (none,u)
    |false=>False):=by
  intro h1
  have hwr:=h.wr
  split at h1
  ·rename_i d hd
   cases hN:Nat.blt d N with
   |false=>rw[hN]at h1;exact h1.elim
   |true=>
    rw[hN]at h1;simp only[cond_true]at h1⊢;split at h1
    ·exact zaS
    rw[xJ.congr hE];split at h1
    ·rename_i fo args hq;obtain⟨_,args',wR,oT,hl⟩:=xJ.op hq;rw[oT]at hE;rw[hE fo yg];refine Mf (λvf _ h=>?_) h1;refine lm (λy hy=>hE y (by simp[Op.operands,Call.operands];exact .inr (by rw[<-hl]at hy;simpa using hy))) (λars _ h=>?_) h;refine gU.congr (λv u hk=>⟨λn hn=>?_,hk.2⟩) h;apply hw n;rw[<-hwr,<-hk.1];exact hn
    exact mD.congr hE hrd ((mD.pt h1).elim λr hr=>hr.2 _ hr.1.2)
  ·split at h1
   ·exact zaS
   exact h1.elim
 unfold a6 at hk⊢;simp only at hk⊢;split at hk
 ·exact run hk
 rename_i j nY hg;split at hk
 ·exact hk.elim
 rename_i t ER;have hgt:=ht.guard hg ER;simp only[hgt];split at hk
 ·rename_i b hv
  cases b <;> cases nY
  ·exact run hk
  ·exact zag
  ·exact zag
  exact run hk
 ·rename_i b hv;split at hk
  ·rename_i hx;have run':=run;simp only[hx]at run'⊢;exact⟨hk.1,run' hk.2⟩
  exact jp
 ·rename_i c b hv;split at hk
  ·exact hk.elim
  exact jp
 exact hk.elim
end
structure FP(I I':St):Prop where
 env:∀t,fL I'.env t=fL I.env t
 box:∀x,aH I'.box x=aH I.box x
def FP.refl(I:St):FP I I:=⟨λ_=>rfl,λ_=>rfl⟩
def Ho:=@FP.refl
def FP.symm{I I':St}(h:FP I I'):FP I' I:=⟨λt=>(h.env t).symm,λx=>(h.box x).symm⟩
def FP.trans{a b c:St}(h:FP a b)(k:FP b c):FP a c:=⟨λt=>(k.env t).trans (h.env t),λx=>(k.box x).trans (h.box x)⟩
def CP{o:Oper}{e:Ef}{I:St}(t:Nat):fL (eU o e I).env t=match o.dst,e.1 with|some d,some v=>if d=t then v else fL I.env t|_,_=>fL I.env t:=by
 unfold eU
 cases o.dst with
 |none=>rfl
 |some d=>cases e.1 with
  |none=>rfl
  |some v=>exact gP d v I.env t
def aCS{u v:aP}{x:Nat}:aH (u++v) x=match aH u x with|some y=>some y|none=>aH v x:=xu
def AD{u:aP}{x:Nat}(h:x∉u.map (·.1)):aH u x=none:=by
 induction u with
 |nil=>rfl
 |cons p r ih=>obtain⟨k,b⟩:=p;simp only[Le,wb,not_or]at h;rw[aL,Ka (λe=>h.1 e.symm)];exact ih h.2
def CQ{o:Oper}{e:Ef}{I:St}(x:Nat):aH (eU o e I).box x=match aH e.2 x with|some y=>some y|none=>aH I.box x:=by unfold eU;simp only[F4];exact aCS
def eU.eqv{o:Oper}{e:Ef}{I I':St}(h:FP I I'):FP (eU o e I) (eU o e I'):=by
 refine⟨λt=>?_,λx=>?_⟩
 ·rw[CP,CP,h.env]
 rw[CQ,CQ,h.box]
def Co:=@eU.eqv
def iP(f h:fY):Bool:=
 (f.2.all λx=> !(h.1.contains x)&& !(h.2.contains x))&&(h.2.all λx=> !(f.1.contains x))
def Vh{f h:fY}(hd:iP f h=true):(∀x,x∈f.2->x∉h.1)/\(∀x,x∈f.2->x∉h.2)/\(∀x,x∈h.2->x∉f.1):=by
 simp only[iP,Bool.and_eq_true,Hd]at hd;obtain⟨h1,h2⟩:=hd;refine⟨λx hx=>?_,λx hx=>?_,λx hx=>?_⟩
 ·simpa using(h1 x hx).1
 ·simpa using(h1 x hx).2
 simpa using h2 x hx
def Hr{o p:Oper}{e u:Ef}{I:St}(hd:∀d,o.dst=some d->p.dst≠some d)(hb:∀x,x∈e.2.map (·.1)->x∉u.2.map (·.1)):
  FP (eU o e (eU p u I)) (eU p u (eU o e I)):=by
 refine⟨λt=>?_,λx=>?_⟩
 ·simp only[CP]
  cases ho:o.dst with
  |none=>rfl
  |some d=>cases he:e.1 with
   |none=>rfl
   |some v=>cases hp:p.dst with
    |none=>rfl
    |some d'=>cases hu:u.1 with
     |none=>rfl
     |some v'=>
      have fJ:d'≠d:=λh=>hd d ho (by rw[hp,h])
      simp only;by_cases h1:d=t
      ·subst h1;simp[fJ]
      simp[h1]
 ·simp only[CQ];by_cases h1:x∈e.2.map (·.1)
  ·rw[AD (hb x h1)]
  rw[AD h1]
section
variable{P:Ba}{T:List (Nat×bV)}{N:Nat}{rc:List Nat}{all:List Oper}{md:Region.Mode}{ft:List fY}
def FD.eqv{o:Oper}{I I':St}{e:Ef}{f:fY}(h:FD P T N rc all o I e f)(k:FP I I'):FD P T N rc all o I' e f:=
 h.congr (λt _=>k.env t) (λx _=>k.box x) (λx _=>k.box x)
def yE(P:Ba)(T:List (Nat×bV))(N:Nat)(rc:List Nat)(all:List Oper)(md:Region.Mode)(ft:List fY)(ca:St):Nat->Array Bool->St->Prop
 |0,listed,I=>Region.ready md all.toArray listed=[]/\FP ca I
 |Ma+1,listed,I=>
  (Region.ready md all.toArray listed=[]->FP ca I)/\
  ∀i∈Region.ready md all.toArray listed,∃o e f,all[i]? =some o/\ft[i]? =some f/\FD P T N rc all o I e f/\yE P T N rc all md ft ca Ma (listed.setIfInBounds i true) (eU o e I)
def yE.eqv{ca:St}:∀(Ma:Nat) {listed:Array Bool} {I I':St},FP I I'->yE P T N rc all md ft ca Ma listed I->yE P T N rc all md ft ca Ma listed I'
 |0,_,_,_,k,h=>⟨h.1,h.2.trans k⟩
 |Ma+1,_,_,_,k,h=>⟨λh0=>(h.1 h0).trans k,λi hi=>by obtain⟨o,e,f,h1,h2,h3,h4⟩:=h.2 i hi;exact⟨o,e,f,h1,h2,h3.eqv k,yE.eqv Ma (Co k) h4⟩⟩
def Ck{oi oj:Oper}{e:Ef}{I:St}(h:∀d,oi.dst=some d->d∉oj.looksAt all.toArray):U6 all oj I (eU oi e I):=by
 intro t ht;rw[CP]
 cases ho:oi.dst with
 |none=>rfl
 |some d=>cases e.1 with
  |none=>rfl
  |some v=>simp only;rw[Ka (λ(hdt:d=t)=>h d ho (hdt▸ht))]
def o0{oi:Oper}{e:Ef}{I:St}{x:Nat}(h:x∉e.2.map (·.1)):aH (eU oi e I).box x=aH I.box x:=by rw[CQ,AD h]
def Iw{oi oj:Oper}{ei ej:Ef}{fi fj:fY}{I:St}(hwi:ei.2.map (·.1)=fi.2)(C2:oi.apart all.toArray oj=true)(xO:iP fi fj=true)(h:FD P T N rc all oj (eU oi ei I) ej fj):FD P T N rc all oj I ej fj:=by
 obtain⟨h1,h2,h3⟩:=tj C2;obtain⟨k1,k2,k3⟩:=Vh xO;have ht:U6 all oj I (eU oi ei I):=Ck h1;refine h.congr (λt ER=>(ht t ER).symm) (λx hx=>(o0 (λhw=>?_)).symm) (λx hx=>(o0 (λhw=>?_)).symm)
 ·exact k1 x (hwi▸hw) hx
 exact k2 x (hwi▸hw) hx
def FD.over{oi oj:Oper}{ei ej:Ef}{fi fj:fY}{I:St}(hwj:ej.2.map (·.1)=fj.2)(C2:oi.apart all.toArray oj=true)(xO:iP fi fj=true)(h:FD P T N rc all oi I ei fi):FD P T N rc all oi (eU oj ej I) ei fi:=by
 obtain⟨h1,h2,h3⟩:=tj C2;obtain⟨k1,k2,k3⟩:=Vh xO;refine h.congr (Ck h3) (λx hx=>o0 (λhw=>?_)) (λx hx=>o0 (λhw=>?_))
 ·exact k3 x (hwj▸hw) hx
 exact k2 x hx (hwj▸hw)
def dep(md:Region.Mode)(ops:Array Oper)(i:Nat):Nat->Nat->Bool
 |0,_=>false
 |n+1,j=>match ops[j]? with
  |some oj=>oj.after.any λe=>Region.binds md e&&(Nat.beq e.on i||dep md ops i n e.on)
  |none=>false
def sZ(md:Region.Mode)(all:List Oper)(listed:Array Bool):Prop:=
 ∀m om,all[m]? =some om->listed.getD m false=true->∀e∈om.after,Region.binds md e=true->listed.getD e.on false=true
def NL{l:Array Bool}{i:Nat}(h:l.getD i true=false):l.getD i false=false:=by
 rcases Ql i l.size with h'|h'
 ·simp[h']at h⊢;exact h
 simp[Sv h']at h
def NW{md:Region.Mode}{listed:Array Bool}{i:Nat}(hc:sZ md all listed)(hi:listed.getD i false=false):∀(n j:Nat) (oj:Oper),all[j]? =some oj->(∀e∈oj.after,Region.binds md e=true->listed.getD e.on false=true)->dep md all.toArray i n j=false
 |0,_,_,_,_=>rfl
 |n+1,j,oj,hj,h=>by
  have qR:all.toArray[j]? =some oj:=by simpa using hj
  simp only[dep,qR];rw[mw];intro hx;obtain⟨e,he,hb⟩:=Array.any_eq_true'.1 hx;simp only[Bool.and_eq_true,Sh]at hb;have hl:=h e he hb.1;rcases hb.2 with h1|h1
  ·rw[Mb h1,hi]at hl;cases hl
  cases ho:all[e.on]? with
  |none=>
   cases n with
   |zero=>cases h1
   |succ n=>
    have:all.toArray[e.on]? =none:=by simpa using ho
    simp only[dep,this]at h1
    cases h1
  |some om=>
   rw[NW hc hi n e.on om ho (hc e.on om ho hl)]at h1
   cases h1
def sZ.set{md:Region.Mode}{listed:Array Bool}{j:Nat}{oj:Oper}(hc:sZ md all listed)(hj:all[j]? =some oj)(h:∀e∈oj.after,Region.binds md e=true->listed.getD e.on false=true):sZ md all (listed.setIfInBounds j true):=by
 have up:∀x,listed.getD x false=true->(listed.setIfInBounds j true).getD x false=true:=λx hx=>by
  by_cases hjx:j=x
  ·subst hjx;rcases Ql j listed.size with h'|h'
   ·simp[h']
   simp[Sv h']at hx
  rw[Sl false hjx];exact hx
 intro m om hm hl e he hb;by_cases hmj:j=m
 ·subst hmj;rw[hj]at hm;cases hm;exact up _ (h e he hb)
 rw[Sl false hmj]at hl;exact up _ (hc m om hm hl e he hb)
def yE.first{ca:St}{i:Nat}{oi:Oper}{ei:Ef}{fi:fY}(hi:all[i]? =some oi)(hfi:ft[i]? =some fi):
  ∀(Ma:Nat) (listed:Array Bool) (I:St),
   (∀j oj fj,all[j]? =some oj->ft[j]? =some fj->j≠i->listed.getD j true=false->(∀n,dep md all.toArray i n j=false)->oi.apart all.toArray oj=true/\iP fi fj=true)->sZ md all listed->
   i∈Region.ready md all.toArray listed->FD P T N rc all oi I ei fi->
   yE P T N rc all md ft ca Ma (listed.setIfInBounds i true) (eU oi ei I)->yE P T N rc all md ft ca (Ma+1) listed I:=by
 intro Ma
 induction Ma with
 |zero=>
  intro listed I _ _ hr hy H;refine⟨λh=>Bq,λj hj=>?_⟩;by_cases y7:j=i
  ·subst y7;exact⟨oi,ei,fi,hi,hfi,hy,H⟩
  have:=Ej hj y7;rw[H.1]at this
  cases this
 |succ Ma ih=>
  intro listed I EV vA hr hy H;refine⟨λh=>Bq,λj hj=>?_⟩;by_cases y7:j=i
  ·subst y7;exact⟨oi,ei,fi,hi,hfi,hy,H⟩
  obtain⟨oj,ej,fj,TS,hfj,hyj,Hj⟩:=H.2 j (Ej hj y7);obtain⟨QX,oj',aCI,lC⟩:=ph.1 hj;have ET:all[j]? =some oj':=by simpa using aCI
  rw[TS]at ET;cases ET;have NB:∀n,dep md all.toArray i n j=false:=λn=>NW vA (NL (ph.1 hr).1) n j oj TS lC
  obtain⟨C2,xO⟩:=EV j oj fj TS hfj y7 QX NB;have aB8:FD P T N rc all oj I ej fj:=Iw hy.wr C2 xO hyj;have aB9:FD P T N rc all oi (eU oj ej I) ei fi:=FD.over hyj.wr C2 xO hy;have HY:∀k ok fk,all[k]? =some ok->ft[k]? =some fk->k≠i->(listed.setIfInBounds j true).getD k true=false->
    (∀n,dep md all.toArray i n k=false)->oi.apart all.toArray ok=true/\iP fi fk=true:=λk ok fk hk oL ON V9 YN=>by
   refine EV k ok fk hk oL ON ?_ YN
   by_cases SL:j=k
   ·subst SL;exact QX
   ·exact yv
  refine⟨oj,ej,fj,TS,hfj,aB8,ih (listed.setIfInBounds j true) (eU oj ej I) HY (vA.set TS lC) (Ej hr (Ne.symm y7)) aB9 ?_⟩;rw[Pv _ _ y7];refine yE.eqv Ma ?_ Hj;exact xp
def B3(md:Region.Mode)(ops:Array Oper)(ft:List fY)(listed:Array Bool)(i:Nat):Bool:=
 match ops[i]?,ft[i]? with
 |some oi,some fi=>(List.range ops.size).all λj=>Nat.beq j i||listed.getD j true||match ops[j]?,ft[j]? with
   |some oj,some fj=>(oi.apart ops oj&&iP fi fj)||dep md ops i 6 j
   |_,_=>true
 |_,_=>false
def X6(md:Region.Mode)(ops:Array Oper)(ft:List fY):Nat->Nat->Array Bool->Bool
 |0,_,listed=>(Region.ready md ops listed).isEmpty
 |Ma+1,k,listed=>(Region.ready md ops listed).contains k&&B3 md ops ft listed k&&X6 md ops ft Ma (k+1) (listed.setIfInBounds k true)
def io{i:Nat}{oi:Oper}{fi:fY}{listed:Array Bool}(hi:all[i]? =some oi)(hfi:ft[i]? =some fi)(h:B3 md all.toArray ft listed i=true)(j:Nat)(oj:Oper)(fj:fY)
  (hj:all[j]? =some oj) (hfj:ft[j]? =some fj) (fJ:j≠i) (V9:listed.getD j true=false) (YN:∀n,dep md all.toArray i n j=false):oi.apart all.toArray oj=true/\iP fi fj=true:=by
 have bC:all.toArray[i]? =some oi:=by simpa using hi
 have qR:all.toArray[j]? =some oj:=by simpa using hj
 unfold B3 at h
 rw[bC,hfi]at h
 simp only[Hd,Gf]at h
 have aPL:j<all.toArray.size:=by have:=(Lh.1 qR).1;exact this
 have hx:=h j aPL
 rw[qR,hfj,V9]at hx
 have hb:Nat.beq j i=false:=UU fJ
 rw[hb,YN 6]at hx
 simp only[Ml,Zj,Bool.and_eq_true]at hx
 exact hx
def W4(P:Ba)(T:List (Nat×bV))(N:Nat)(rc:List Nat)(all:List Oper):List Oper->St->List Ef->List fY->Prop
 |[],_,[],[]=>True
 |o::l,I,e::es,f::Y=>FD P T N rc all o I e f/\W4 P T N rc all l (eU o e I) es Y
 |_,_,_,_=>False
def rD:List Oper->St->List Ef->St
 |o::l,I,e::es=>rD l (eU o e I) es
 |_,I,_=>I
def Pw:∀(l:List Oper) (k:Nat) (listed:Array Bool) (I:St) (es:List Ef) (Y:List fY),(∀j,l[j]? =all[k+j]?)->(∀j,Y[j]? =ft[k+j]?)->
  sZ md all listed->X6 md all.toArray ft l.length k listed=true->W4 P T N rc all l I es Y->yE P T N rc all md ft (rD l I es) l.length listed I
 |[],_,_,_,[],[],_,_,_,hB,_=>⟨by simpa[X6]using hB,Ho _⟩
 |o::l,k,listed,I,e::es,f::Y,hl,hf,vA,hB,⟨h1,h2⟩=>by
  have h0:all[k]? =some o:=by simpa using(hl 0).symm
  have SO:ft[k]? =some f:=by simpa using(hf 0).symm
  simp only[Rb,X6,Bool.and_eq_true]at hB;obtain⟨⟨hr,hfr⟩,hB'⟩:=hB;have C1:k∈Region.ready md all.toArray listed:=by simpa using hr
  have lC:∀e∈o.after,Region.binds md e=true->listed.getD e.on false=true:=jx
  exact yE.first h0 SO l.length listed I (io h0 SO hfr) vA C1 h1
   (Pw l (k+1) _ _ es Y (λj=>by have:=hl (j+1);simpa[De,Wi 1 j]using this) (λj=>by have:=hf (j+1);simpa[De,Wi 1 j]using this) (vA.set h0 lC) hB' h2)
 |[],_,_,_,_::_,_,_,_,_,_,h=>by cases ‹List fY› <;> exact h.elim
 |[],_,_,_,[],_::_,_,_,_,_,h=>h.elim
 |_::_,_,_,_,[],_,_,_,_,_,h=>by cases ‹List fY› <;> exact h.elim
 |_::_,_,_,_,_::_,[],_,_,_,_,h=>h.elim
end
section
variable{P:Ba}{T:List (Nat×bV)}{N:Nat}{ref rc:List Nat}{R:Cx}{all:List Oper}
def CT(R:Cx)(N:Nat)(M:Mem)(w:Aa)(o:Oper)(I:St)(K:Ef->Prop)(a':Act)(w':Aa):Prop:=
 ∃e M' V',K e/\Inv R N M' V' (eU o e I) a' w'/\Grow R.B M M'/\cE R w w'
def OF{o:Oper}{d:Nat}{v:AV}{I:St}(hd:o.dst=some d):eU o (some v,[]) I=o9 I d v:=by unfold eU o9;rw[hd];rfl
def UY{o:Oper}{d:Nat}{v:AV}{u:aP}{I:St}(hd:o.dst=some d):eU o (some v,u) I=⟨(d,v)::I.env,u++I.box⟩:=by unfold eU;rw[hd];simp only[F4]
def aDW{o:Oper}{v:Da AV}{u:aP}{I:St}(hd:o.dst=none):eU o (v,u) I=⟨I.env,u++I.box⟩:=by unfold eU;rw[hd];simp only[F4]
def Zl(hT:cD P T)(YK:∀f,rc.contains (f+2000000)=true->R.ref=[]){o:Oper}{I:St}{K:Ef->Prop}{Q:Exit->Act->Aa->Prop}{M:Mem}{V:Nm}{a:Act}{w:Aa}(h:a6 P T N rc all o I K)(i:Inv R N M V I a w):
  if Region.wanted o (yielded all.toArray a.tmps)then(∀c,o.op≠.defer c)/\o.wp P a w (CT R N M w o I K) Q else CT R N M w o I K (a.put o.dst undef) w:=by
 have run:(match o.dst with
  |some d=>bif Nat.blt d N then
    (match M8 o.op with
    |true=>vW T d o.op I λv u=>K (some v,u)
    |false=>match xJ rc I o.op with
     |some (fo,args)=>fe none (ev I fo) λvf=>dY none I args λars=>gU P rc I vf ars λv u=>K (some v,u)
     |none=>mD P T o.op I none λv=>K (some v,[]))else False
  |none=>match M8 o.op with
    |true=>vW T 0 o.op I λ_ u=>K (none,u)
    |false=>False)->(∀c,o.op≠.defer c)/\o.wp P a w (CT R N M w o I K) Q:=by
  intro h
  refine⟨λc e=>?_,?_⟩
  ·exact zaJ
  split at h
  ·rename_i d hd
   cases hN:Nat.blt d N with
   |false=>rw[hN]at h;cases h
   |true=>
    rw[hN]at h;have hN:d<N:=Dc hN;simp only[cond_true]at h;split at h
    ·obtain⟨r,u,hk,_,hx⟩:=vW.pt h;obtain⟨r',bx,⟨rfl,rfl⟩,v,w',M',V',a7,hr,hi,hg,lB⟩:=Wl hT (hx R.ref) rfl i;unfold Oper.wp;rcases a7 with a7|⟨a7,rfl⟩
     ·rw[a7,Wd,hd];exact zcj
     rw[a7,yj,hd];exact zcj
    split at h
    ·rename_i fo args hq;obtain⟨v,u,hk,hs⟩:=gU.spec hq YK h;obtain⟨f,vs,a7,eF⟩:=hs N M V a w i;unfold Oper.wp;rw[a7,mr];apply eF.mono;rintro e' w' ⟨v',M',V',rfl,hr,i',hg,lB⟩;simp only[hd];exact⟨_,M',V',hk,by rw[UY hd];exact i'.put (I:=⟨I.env,_⟩) hN hr,hg,lB⟩
    obtain⟨r,hk,hs⟩:=Zn hT h;refine Hf ?_ (F0 (K:=λI'=>I'=o9 I d r) hd hN (hs iY) i rfl);exact zbM
  ·rename_i hd;split at h
   ·obtain⟨r,u,hk,_,hx⟩:=vW.pt h;obtain⟨r',bx,⟨rfl,rfl⟩,v,w',M',V',a7,hr,hi,hg,lB⟩:=Wl hT (hx R.ref) rfl i;unfold Oper.wp;rcases a7 with a7|⟨a7,rfl⟩
    ·rw[a7,Wd,hd];exact zdP
    rw[a7,yj,hd];exact zdP
   cases h
 have skip:(match o.dst with
     |some d=>bif Nat.blt d N then K (some (.s (.d .bL)),[])else False
     |none=>K (none,[]))->CT R N M w o I K (a.put o.dst undef) w:=by
  intro h
  split at h
  ·rename_i d hd
   cases hN:Nat.blt d N with
   |false=>rw[hN]at h;cases h
   |true=>rw[hN]at h;have hN:d<N:=Dc hN;rw[hd];exact⟨_,M,V,h,by rw[OF hd];exact i.put hN trivial,fb _ _,lc _ _⟩
  ·rename_i hd;rw[hd];exact⟨_,M,V,h,by unfold eU;rw[hd];exact i,fb _ _,lc _ _⟩
 have part:∀{d:Nat} {gb:Bool},o.dst=some d->d<N->(mD P T o.op I (some gb) λv=>K (some (wT gb v),[]))->Region.wanted o (yielded all.toArray a.tmps)=gb->
   if Region.wanted o (yielded all.toArray a.tmps)then(∀c,o.op≠.defer c)/\o.wp P a w (CT R N M w o I K) Q else CT R N M w o I K (a.put o.dst undef) w:=by
  intro d gb hd hN h hw
  obtain⟨r,hk,hs⟩:=Zn hT h
  cases hgf:gb with
  |true=>
   rw[La (by rw[hw,hgf])];have H4:act (some gb):=λc e=>by cases e;exact hgf
   have hdo:ZY P o I (wT gb r):=by
    intro R N M V a w i;have hwr:∀{M V v},r.bI M V v->(wT gb r).bI M V v:=by
     intro M V v hr
     cases r with
     |s x=>exact⟨λ_=>hr,λh=>by rw[hgf]at h;cases h⟩
     |g cs=>exact⟨λ_=>hr,λh=>by rw[hgf]at h;cases h⟩
     |_=>exact trivial
    exact kz
   refine⟨mD.nd h,Hf ?_ (F0 (K:=λI'=>I'=o9 I d (wT gb r)) hd hN hdo i rfl)⟩;exact zbM
  |false=>
   rw[Ka (by rw[hw,hgf];simp),hd];refine⟨_,M,V,hk,?_,fb _ _,lc _ _⟩;rw[OF hd];apply i.put hN
   cases r with
   |s x=>exact⟨λh=>(by rw[hgf]at h;cases h),λ_=>rfl⟩
   |g cs=>exact⟨λh=>(by rw[hgf]at h;cases h),λ_=>rfl⟩
   |_=>exact trivial
 unfold a6 at h
 simp only at h
 split at h
 ·rename_i hg;rw[La tn];exact run h
 ·rename_i j nY hg;split at h
  ·cases h
  rename_i t ht;split at h
  ·rename_i b hv;have hb:a.tmps.getD t undef=.bool b:=by have:=i.env t;rw[hv]at this;exact this
   have hw:=pZ hg ht hb
   cases b <;> cases nY
   ·rw[La (by rw[hw];rfl)];exact run h
   ·rw[Ka (by rw[hw];simp)];exact skip h
   ·rw[Ka (by rw[hw];simp)];exact skip h
   rw[La (by rw[hw];rfl)];exact run h
  ·rename_i b hv;have hb:a.tmps.getD t undef=.bool b:=by have:=i.env t;rw[hv]at this;exact this
   have hw:=pZ hg ht hb;split at h
   ·rename_i hx;obtain⟨hbp,h⟩:=h;subst hbp;have run':=run;simp only[hx]at run';rw[La (by rw[hw];cases b <;> rfl)];exact run' h
   exact kf
  ·rename_i c b hv;have hr:(AV.ib c (.d (.val (.bool b)))).bI M V (a.tmps.getD t undef):=by have:=i.env t;rw[hv]at this;exact this
   have hw:Region.wanted o (yielded all.toArray a.tmps)=(c&&rL nY b):=zbq
   split at h
   ·cases h
   exact xi
  cases h
def Inv.eqv{I I':St}{M:Mem}{V:Nm}{a:Act}{w:Aa}(i:Inv R N M V I a w)(h:FP I I'):Inv R N M V I' a w:=
 ⟨i.defers,i.tmps,i.heap,λt=>by rw[h.env];exact i.env t,i.mem,λx p e=>by rw[h.box];exact i.keys x p e,λx bc e=>i.box x bc Wu,
  λx y bx zB b c c' ex ey=>i.inj x y bx zB b c c' (by rw[<-h.box];exact ex) (by rw[<-h.box];exact ey),λx bc b c e=>i.apart x bc b c Wu,λx bc b c e=>i.low x bc b c Wu,i.ref⟩
def yE.sound(hT:cD P T)(YK:∀f,rc.contains (f+2000000)=true->R.ref=[]){md:Region.Mode}{ft:List fY}{ca:St}{Q:Exit->Act->Aa->Prop}:∀(Ma:Nat) {listed:Array Bool} {I:St} {M:Mem} {V:Nm} {a:Act} {w:Aa},
  yE P T N rc all md ft ca Ma listed I->Inv R N M V I a w->(∀a' w',KG R N M w (λI'=>I'=ca) a' w'->Q .normal a' w')->wpAnyIn (FW R.rd) 0 P md all.toArray Q Ma listed a w:=by
 intro Ma
 induction Ma with
 |zero=>intro listed I M V a w h i hQ;exact⟨h.1,hQ a w ⟨ca,M,V,rfl,i.eqv h.2.symm,fb _ _,lc _ _⟩⟩
 |succ Ma ih=>
  intro listed I M V a w h i hQ;refine⟨λh0=>hQ a w ⟨ca,M,V,rfl,i.eqv (h.1 h0).symm,fb _ _,lc _ _⟩,λk hk=>?_⟩;obtain⟨o,e,f,ho,hf,gF,LD⟩:=h.2 k hk;have jO:=Zl (R:=R) (Q:=Q) hT YK (gF.pt (λe'=>e'=e) rfl) i;have sO:all.toArray[k]? =some o:=by simpa using ho
  have next:∀a' w',CT R N M w o I (λe'=>e'=e) a' w'->wpAnyIn (FW R.rd) 0 P md all.toArray Q Ma (listed.setIfInBounds k true) a' w':=by rintro a' w' ⟨e',M',V',rfl,hi,hg,lB⟩;exact ih LD hi λa2 w2 hp=>hQ a2 w2 (hp.trans hg lB)
  exact vq
def pB(P:Ba)(T:List (Nat×bV))(N:Nat)(rc:List Nat)(all:List Oper):List Oper->St->List fY->(St->List fY->Prop)->Prop
 |[],I,Y,K=>K I Y.reverse
 |o::rest,I,Y,K=>a6 P T N rc all o I λe=>pB P T N rc all rest (eU o e I) (NN I o e::Y) K
def pB.chain:∀{l:List Oper} {I:St} {Y:List fY} {K:St->List fY->Prop},pB P T N rc all l I Y K->∃es gs,W4 P T N rc all l I es gs/\K (rD l I es) (Y.reverse++gs)
 |[],I,Y,K,h=>⟨[],[],trivial,by have h':K I Y.reverse:=h;simpa[rD]using h'⟩
 |o::rest,I,Y,K,h=>by obtain⟨e,hk,hp⟩:=a6.pt h;obtain⟨es,gs,hc,hK⟩:=pB.chain hk;refine⟨e::es,NN I o e::gs,⟨⟨hp,rfl,rfl⟩,hc⟩,?_⟩;simpa[rD]using hK
def Gs:=@pB.chain
def AW.draw(hT:cD P T)(YK:∀f,rc.contains (f+2000000)=true->R.ref=[])(hm:P.follows .mixedOrders=true){id:Nat}{ops:Array Oper}{I:St}{K:Exit->St->Prop}
  (h:pB P T N rc ops.toList ops.toList I [] λI' Y=>X6 .any ops.toList.toArray Y ops.toList.length 0 (Array.replicate ops.toList.length false)=true/\K .normal I'):AW P R N (.region id ops true) I K:=by
 obtain⟨es,gs,hc,hl,hK⟩:=Gs h
 intro M V a w i
 apply yw hm
 have T5:=Pw (md:=.any) (ft:=gs) ops.toList 0 (Array.replicate ops.toList.length false) I es gs sM sM (λm om _ h=>by simp[Qv]at h;split at h <;> simp_all) hl hc
 have hi:Inv R N M V I a {w with drawn:=w.drawn+1}:=
  ⟨i.defers,i.tmps,⟨i.heap.le,i.heap.tab⟩,i.env,i.mem,i.keys,i.box,i.inj,i.apart,i.low,i.ref⟩
 have:=yE.sound (R:=R) (Q:=λe a' w'=>∃I' M' V',K e I'/\Inv R N M' V' I' a' w'/\Grow R.B M M'/\cE R w w') hT YK ops.toList.length T5 hi (by rintro a' w' ⟨I',M',V',rfl,h2,h3,h4⟩;exact⟨_,M',V',hK,h2,h3,⟨h4.os,h4.tape,h4.output,h4.size,h4.block,trivial⟩⟩)
 simpa using this
end
def AI(I:St)(c:Ca)(x y:Prop):Prop:=
 match ev I c with
 |.s (.d (.lit b))=>match b with
  |true=>x
  |false=>y
 |.s (.d (.val (.bool b)))=>(b=true->x)/\(b=false->y)
 |_=>False
def Ns(P:Ba)(T:List (Nat×bV))(N:Nat)(ref rc:List Nat)(ops:Array Oper)(dr:Bool)(I:St)(K:Exit->St->Prop):Prop:=
 match dr with
 |false=>l5 P T N ref rc ops.toList ops.toList I (K .normal)
 |true=>pB P T N (bif ref.isEmpty then rc else rc.filter λx=>Nat.blt x 2000000) ops.toList ops.toList I [] λI' Y=>X6 .any ops.toList.toArray Y ops.toList.length 0 (Array.replicate ops.toList.length false)=true/\K .normal I'
def ex(P:Ba)(T:List (Nat×bV))(N:Nat)(ref rc:List Nat)(R:Cx)(c:Code):St->(Exit->St->Prop)->Prop:=
 @Code.rec (λ_=>St->(Exit->St->Prop)->Prop)
  (λI K=>K .normal I)
  (λ_ ops dr I K=>Ns P T N ref rc ops dr I K)
  (λ_ _ iha ihb I K=>iha I (OV (λs=>ihb s K) K))
  (λc _ _ iha ihb I K=>AI I c (iha I K) (ihb I K))
  (λid _ ih I K=>ih I (OB id K))
  (λb _ I K=>AW P R N (.loop b) I K)
  (λf p a b _ _ I K=>AW P R N (.rangeFunc f p a b) I K)
  (λid I K=>K (.exit id) I)
  (λb _ I K=>AW P R N (.scope b) I K)
  (λl I K=>AW P R N (.label l) I K)
  (λl I K=>AW P R N (.goto l) I K)
  (λI K=>K .ret I)
  (λw I K=>AW P R N (.refuse w) I K) c
def Sb{P:Ba}{T:List (Nat×bV)}{N:Nat}{ref rc:List Nat}{R:Cx}(hT:cD P T)(hm:P.follows .mixedOrders=true)(J:R.ref=ref):∀(c:Code) {I:St} {K:Exit->St->Prop},ex P T N ref rc R c I K->AW P R N c I K:=by
 intro c;induction c with
 |skip=>exactλh=>Qb h
 |ret=>exactλh=>AW.ret h
 |exit id=>exactλh=>Ld h
 |seq x y ihx ihy=>
  intro I K h;refine Sa (Rr (ihx h) ?_);intro e s hk
  cases e with
  |normal=>exact ihy hk
  |_=>exact hk
 |block id c ih=>exactλh=>Eb (ih h)
 |cond c x y ihx ihy=>
  intro I K h;replace h:AI I c (ex P T N ref rc R x I K) (ex P T N ref rc R y I K):=h;unfold AI at h;intro M V a w i;split at h
  ·rename_i b hv;have hb:a.eval c=.bool b:=by have:=Yb i c;rw[hv]at this;exact this
   cases b with
   |true=>exact Ny hb (ihx h M V a w i)
   |false=>exact Gy hb (ihy h M V a w i)
  ·rename_i b hv;have hb:a.eval c=.bool b:=by have:=Yb i c;rw[hv]at this;exact this
   exact Fy hb (λhb=>ihx (h.1 hb) M V a w i) (λhb=>ihy (h.2 hb) M V a w i)
  cases h
 |region id ops dr=>
  intro I K h;replace h:Ns P T N ref rc ops dr I K:=h;unfold Ns at h
  cases dr with
  |true=>
   refine AW.draw hT (λf hf=>?_) hm h
   cases hr:ref.isEmpty with
   |true=>rw[J];exact qw.1 hr
   |false=>rw[hr]at hf;simp only[Ua,List.contains_eq_mem,ae,rf]at hf;have:=Dc hf.2;omega
  |false=>intro M V a w i;have:=l5.sound (Q:=λe a' w'=>∃I' M' V',K e I'/\Inv R N M' V' I' a' w'/\Grow R.B M M'/\cE R w w') hT J ops.toList h i (λa' w' hp=>hp);exact zes
 |_=>exactλh=>h
def tW:List AV->Nat->List (Nat×AV)
 |[],_=>[]
 |v::r,k=>(k,v)::tW r (k+1)
def uV(args:List AV):St:=⟨tW args 0,[]⟩
def tW.rep{M:Mem}{V:Nm}:∀{args:List AV} {vs:List wa} {k t:Nat} (rest:List wa),gZ M V args vs->k<=t->(fL (tW args k) t).bI M V ((vs++rest).getD (t-k) undef)
 |[],[],k,t,rest,_,_=>trivial
 |v::args,u::vs,k,t,rest,⟨h,r⟩,hk=>by
  simp only[tW,gP];by_cases he:k=t
  ·subst he;simpa using h
  rw[Ka he];have:=tW.rep (k:=k+1) (t:=t) rest r O;rw[show t-k=(t-(k+1))+1 by omega];simpa using this
 |[],_::_,_,_,_,h,_=>h.elim
 |_::_,[],_,_,_,h,_=>h.elim
def gZ.length:∀{M V} {cs:List AV} {vs:List wa},gZ M V cs vs->vs.length=cs.length
 |_,_,[],[],_=>rfl
 |_,_,_::_,_::_,⟨_,r⟩=>by simp[gZ.length r]
 |_,_,[],_::_,h=>h.elim
 |_,_,_::_,[],h=>h.elim
def XR(T:List (Nat×bV))(I:St):ResultVar->Da TV
 |.tmp t=>match fL I.env t with
  |.s x=>some (.s x)
  |.g cs=>some (.g cs)
  |_=>none
 |.cell a t=>match dE T t,fL I.env a with
  |some ti,.s (.ptr x 0)=>match aH I.box x with
   |some (some (.cells cs))=>match ti.agg with
    |true=>bif Nat.beq cs.length ti.size then some (.g cs)else none
    |false=>match cs with
     |[c]=>some (.s c)
     |_=>none
   |_=>none
  |_,_=>none
def oQ(T:List (Nat×bV))(I:St):List ResultVar->Da (List TV)
 |[]=>some []
 |x::r=>match XR T I x,oQ T I r with
  |some t,some ts=>some (t::ts)
  |_,_=>none
def ofT:TV->AV
 |.s x=>.s x
 |.g cs=>.g cs
def yX:List TV->AV
 |[t]=>ofT t
 |ts=>.t ts
def aNF(I:St):TV->TV
 |.s x=>.s (vX I x)
 |.g cs=>.g (kW I cs)
def nV(I:St):List TV->List TV
 |[]=>[]
 |t::r=>aNF I t::nV I r
def aC(v r:AV):Prop:=∀M u,v.bI M nb u->r.bI M nb u
def aC.refl(v:AV):aC v v:=λ_ _ h=>h
def db:=@aC.refl
def Ia{v r:AV}(h:v=r):aC v r:=h▸db v
def XP(T:List (Nat×bV))(rs:List ResultVar)(r:AV):Exit->St->Prop
 |.ret,I=>match oQ T I rs with
  |some ts=>aC (yX (nV I ts)) r
  |none=>False
 |.normal,I=>match oQ T I rs with
  |some ts=>aC (yX (nV I ts)) r
  |none=>False
 |_,_=>False
section
variable{P:Ba}{T:List (Nat×bV)}{R:Cx}{N:Nat}{M F:Mem}{V:Nm}{I:St}{a:Act}{w:Aa}
def l6(tmps:Array wa):ResultVar->Sem wa
 |.tmp t=>pure (tmps.getD t undef)
 |.cell a t=>do loadVar t (<-asAddr (tmps.getD a undef))
def XR.rep(hT:cD P T)(i:Inv R N M V I a w){x:ResultVar}{t:TV}(h:XR T I x=some t):∃v,(l6 a.tmps x).run P w=.ok v w/\t.bI M V v:=by
 cases x with
 |tmp u=>
  simp only[XR]at h;have hr:=i.env u;refine⟨a.tmps.getD u undef,rfl,?_⟩;split at h
  ·rename_i e;cases h;rw[e]at hr;exact hr
  ·rename_i e;cases h;rw[e]at hr;exact hr
  cases h
 |cell u t'=>
  simp only[XR]at h;split at h
  ·rename_i ti x gG he;have gF:=hT.get gG;have hr:=i.env u;rw[he]at hr;obtain⟨b,c,e1,e2⟩:=hr;split at h
   ·rename_i cs hb;obtain⟨b',c',vs,ty,us,e3,hh,YJ⟩:=i.box x _ hb;rw[e1]at e3;cases e3;split at h
    ·rename_i H2
     cases hl:Nat.beq cs.length ti.size with
     |false=>rw[hl]at h;cases h
     |true=>rw[hl]at h;cases h;have hl:=Mb hl;have SJ:=YJ.length;refine⟨_,?_,vs,rfl,YJ⟩;have hld:=Zv (P:=P) w ⟨b,0,none⟩ vs (λj v hv=>by rw[jV];have:=CO (us:=us) hv;simpa[World.cell?,hh]using this);have ha:=gF.BC w;rw[H2]at ha;simp[l6,e2,asAddr,loadVar,ha,gF.iE,<-hl,<-SJ,hld]
    rename_i H2;split at h
    ·cases h
     rename_i c0
     cases vs with
     |nil=>exact YJ.elim
     |cons v r=>
      cases r with
      |cons _ _=>exact YJ.2.elim
      |nil=>
       refine⟨v,?_,YJ.1⟩;have ha:=gF.BC w;rw[H2]at ha;have hc:w.cell? ⟨b,0,none⟩=some v:=by simp[World.cell?,hh]
       simp[l6,e2,asAddr,loadVar,ha,hc,run_load]
    cases h
   cases h
  cases h
def oQ.rep(hT:cD P T)(i:Inv R N M V I a w):∀{l:List ResultVar} {ts:List TV},oQ T I l=some ts->∃vs:List wa,(l.mapM (l6 a.tmps)).run P w=.ok vs w/\rF M V ts vs
 |[],ts,h=>by simp[oQ]at h;subst h;exact⟨[],rfl,trivial⟩
 |x::r,ts,h=>by
  simp only[oQ]at h;split at h
  ·rename_i t ts' h1 h2
   cases h
   obtain⟨v,e1,r1⟩:=XR.rep hT i h1;obtain⟨vs,e2,r2⟩:=oQ.rep hT i h2;exact⟨v::vs,by simp[e1,e2],r1,r2⟩
  cases h
def yk:=@oQ.rep
def nV.rep(i:Inv R N M V I a w)(hM:Mem.le M F)(hF:∀x bc b c,aH I.box x=some (some bc)->V x=some (b,c)->∀o u,w.cell? ⟨b,o,none⟩=some u->F b o=some u):
  ∀{ts:List TV} {vs:List wa},rF M V ts vs->rF F nb (nV I ts) vs
 |[],[],_=>trivial
 |t::_,_::_,⟨h,r⟩=>by
  refine⟨?_,nV.rep i hM hF r⟩
  cases t with
  |s x=>exact Fo i hM hF 3 _ _ h
  |g cs=>obtain⟨vs,e,hr⟩:=h;exact⟨vs,e,kW.rep i hM hF hr⟩
 |[],_::_,h=>h.elim
 |_::_,[],h=>h.elim
def FA{f N:Nat}{fn:Func}{c:Code}{args:List AV}{r:AV}(hf:P.funcs[f]? =some fn)(hb:fn.body=some c)(hN:fn.ntmps=N)(eF:∀vs w,(callFunc f vs).run P w=.ok (.enter f vs) w)
  (hT:cD P T) (hl:Nat.ble args.length N=true) {rs:List ResultVar} (NA:fn.results.toList=rs)
  (h:∀R:Cx,R.ref=[]->AW P R N c (uV args) (XP T rs r)):aF P f args r:=by
 refine⟨eF,λM w vs hG hr hM=>?_⟩
 apply Wn hf hb
 let R:Cx:={B:=w.heap.size,ref:=[],ma:=nb}
 have hlen:=hr.length
 have hl:=Dc hl
 have i0:Inv R N M nb (uV args) {tmps:=vs.toArray++Array.replicate (fn.ntmps-vs.toArray.size) undef,defers:=[]} w:=ue
 refine Yn (Xn.1 (h R rfl M nb _ w i0)) ?_
 rintro e a' w' ⟨I',M',V',hk,i',hg,lB⟩
 have fin:∀ts,oQ T I' rs=some ts->aC (yX (nV I' ts)) r->a'.defers=[]/\∃v,(results fn a'.tmps).run P w'=.ok v w'/\∃v' M',Ending.returned v=.returned v'/\r.bI M' nb v'/\Grow w.heap.size M M'/\lA M' w'/\yl w w':=by
  intro ts uX fQ;obtain⟨AY,a7,eD⟩:=yk hT i' uX;let F:Mem:=λb o=>if b<w.heap.size then M' b o else w'.cell? ⟨b,o,none⟩
  have hMF:Mem.le M' F:=λb o u e=>by
   by_cases qT:b<w.heap.size
   ·simp[F,qT,e]
   simp[F,qT,i'.mem b o u e]
  have hFc:∀x bc b c,aH I'.box x=some (some bc)->V' x=some (b,c)->∀o u,w'.cell? ⟨b,o,none⟩=some u->F b o=some u:=by
   intro x bc b c e e' o u hu;rcases i'.low x bc b c e e' with h|h
   ·have:¬b<w.heap.size:=by have:w.heap.size<=b:=h;omega
    simp[F,this,hu]
   obtain⟨_,_,hx,_⟩:=h;cases hx
  have jJ:=nV.rep i' hMF hFc eD;refine⟨i'.defers,(if h:AY.toArray.size=1 then AY.toArray[0]else .tuple AY.toArray),?_,_,F,rfl,fQ F _ ?_,⟨λb o u e=>hMF b o u (hg.le b o u e),λb o u e=>?_⟩,λb o u e=>?_,⟨⟨lB.os,lB.tape,lB.output,lB.size,λk hk=>lB.block k hk (by rintro⟨x,c,hx,_⟩;cases hx)⟩,lB.drawn⟩⟩
  ·exact zj
  ·cases QQ:nV I' ts with
   |nil=>exact Jv
   |cons t r'=>exact zq
  ·by_cases qT:b<w.heap.size
   ·simp[F,qT]at e;exact hg.new b o u e
   exact .inr O
  by_cases qT:b<w.heap.size
  ·simp[F,qT]at e;exact i'.mem b o u e
  simp[F,qT]at e;exact e
 cases e with
 |ret=>exact zca
 |normal=>exact zca
 |_=>exact hk.elim
def gI{rc:List Nat}{f N:Nat}{fn:Func}{c:Code}{args:List AV}{r:AV}(hf:P.funcs[f]? =some fn)(hb:fn.body=some c)(hN:fn.ntmps=N)(eF:∀vs w,(callFunc f vs).run P w=.ok (.enter f vs) w)
  (hT:cD P T) (hm:P.follows .mixedOrders=true) (hl:Nat.ble args.length N=true) {rs:List ResultVar} (NA:fn.results.toList=rs)
  (h:∀R:Cx,R.ref=[]->ex P T N [] rc R c (uV args) (XP T rs r)):aF P f args r:=
 FA hf hb hN eF hT hl NA λR J=>Sb hT hm J c (h R J)
end
def MC{P:Ba}{w:Aa}{t:Ea}(h:(isAgg t).run P w=.ok false w){ia:Array wa}{k:Nat}{v:wa}(hv:ia[k]? =some v):(part t ia k).run P w=.ok v w:=by simp[part,h,hv]
def MD{P:Ba}{w:Aa}{t:Ea}{m:Nat}(h:(isAgg t).run P w=.ok true w)(hs:(sizeOf t).run P w=.ok m w){ia:Array wa}{k:Nat}:(part t ia k).run P w=.ok (.agg ((ia.toList.drop k).take m).toArray) w:=by
 have:ia.extract k (k+m)=((ia.toList.drop k).take m).toArray:=by apply Jd;simp
 simp[part,h,hs,this]
abbrev I4(xs:List SV)(vs:List wa):Prop:=cV (λ_ _=>none) (λ_=>none) xs vs
def il(agg:Bool)(vs:List wa):wa:=match agg with|true=>.agg vs.toArray|false=>vs.headD undef
structure mY(P:Ba)(n:Nat)(t:Ea)(agg:Bool)(zs:List wa):Prop where
 isAgg:∀w,(isAgg t).run P w=.ok agg w
 size:agg=true->∀w,(sizeOf t).run P w=.ok zs.length w
 one:agg=false->zs.length=1
 run:∀(d:Nat) (w:Aa) (xs ys:List SV) (vs us:List wa) (b:Bool),gT zs xs=true->gT zs ys=true->uG xs ys=some b->I4 xs vs->I4 ys us->
  (Op.equalIn (d+n) t (il agg vs) (il agg us)).run P w=.ok b w
def mY.up{P:Ba}{n:Nat}{t:Ea}{agg:Bool}{zs:List wa}(h:mY P n t agg zs):mY P (n+1) t agg zs:=
 ⟨h.isAgg,h.size,h.one,λd w xs ys vs us b h1 h2 h3 h4 h5=>by have:=h.run (d+1) w xs ys vs us b h1 h2 h3 h4 h5;rwa [show d+1+n=d+(n+1) by omega]at this⟩
def V2{k:IntKind}{z:Int}{x:SV}(h:lj (.int k z) x=true):∃k' a,xL x=some (k',a):=by
 cases hx:xL x with
 |none=>simp[lj,hx]at h
 |some p=>exact⟨p.1,p.2,rfl⟩
def HI{s:ta}{x:SV}(h:lj (.string s) x=true):∃a,wC x=some a:=by
 cases hx:wC x with
 |none=>simp[lj,hx]at h
 |some p=>exact⟨p,rfl⟩
def QH{s:Bool}{x:SV}(h:lj (.bool s) x=true):∃a,nW x=some a:=by
 cases hx:nW x with
 |none=>simp[lj,hx]at h
 |some p=>exact⟨p,rfl⟩
def K3{z:wa}{xs:List SV}(h:gT [z] xs=true):∃x,xs=[x]/\lj z x=true:=by
 cases xs with
 |nil=>cases h
 |cons x r=>
  simp only[gT,Bool.and_eq_true]at h
  cases r with
  |nil=>exact⟨x,rfl,h.1⟩
  |cons _ _=>exact absurd h.2 (by simp[gT])
def XS{x:SV}{vs:List wa}(h:I4 [x] vs):∃v,vs=[v]/\x.bI (λ_ _=>none) (λ_=>none) v:=by
 cases vs with
 |nil=>exact h.elim
 |cons v r=>cases r with
  |nil=>exact⟨v,rfl,h.1⟩
  |cons _ _=>exact h.2.elim
def xL.val{x:SV}{k:IntKind}{a:Int}{M:Mem}{V:Nm}{v:wa}(h:xL x=some (k,a))(r:x.bI M V v):v=.int k a:=by
 unfold xL at h;split at h
 ·cases h;exact r
 cases h
def HN{x:SV}{s:ta}(h:wC x=some s):xL x=none:=by
 unfold wC at h;split at h
 ·rfl
 cases h
def DO{x:SV}{s:Bool}(h:nW x=some s):xL x=none:=zd4
def C8{x:SV}{s:Bool}(h:nW x=some s):wC x=none:=zd4
section
variable{P:Ba}{t:Ea}
def cB{k:IntKind}(z:Int)(h:P.underlying t=some (.int k)):mY P 1 t false [.int k z]:=by
 refine⟨λw=>by simp[isAgg,Bb h],(λh=>by cases h),λ_=>rfl,λd w xs ys vs us b h1 h2 e rx ry=>?_⟩;obtain⟨x,rfl,kx⟩:=K3 h1;obtain⟨y,rfl,ky⟩:=K3 h2;obtain⟨v,rfl,rx'⟩:=XS rx;obtain⟨u,rfl,ry'⟩:=XS ry;obtain⟨k1,a,hx⟩:=V2 kx;obtain⟨k2,a2,hy⟩:=V2 ky;simp only[uG,hx,hy]at e;by_cases hk:k1=k2
 ·subst hk;simp only[Ul,cond_true,Uh,Je]at e;subst e;have ev:=xL.val hx rx';have eu:=xL.val hy ry';subst ev;subst eu;exact run_equalIn_int (w:=w) d t k1 k a a2 h
 simp[hk]at e
def gA(z:ta)(h:P.underlying t=some .string):mY P 1 t false [.string z]:=by refine⟨λw=>by simp[isAgg,Bb h],(λh=>by cases h),λ_=>rfl,λd w xs ys vs us b h1 h2 e rx ry=>?_⟩;obtain⟨x,rfl,kx⟩:=K3 h1;obtain⟨y,rfl,ky⟩:=K3 h2;obtain⟨v,rfl,rx'⟩:=XS rx;obtain⟨u,rfl,ry'⟩:=XS ry;obtain⟨a,hx⟩:=HI kx;obtain⟨a2,hy⟩:=HI ky;simp only[uG,HN hx,hx,hy,Uh,Je]at e;subst e;have ev:=wC.val hx rx';have eu:=wC.val hy ry';subst ev;subst eu;exact run_equalIn_string (w:=w) d t a a2 h
def aDG(z:Bool)(h:P.underlying t=some .bool):mY P 1 t false [.bool z]:=by refine⟨λw=>by simp[isAgg,Bb h],(λh=>by cases h),λ_=>rfl,λd w xs ys vs us b h1 h2 e rx ry=>?_⟩;obtain⟨x,rfl,kx⟩:=K3 h1;obtain⟨y,rfl,ky⟩:=K3 h2;obtain⟨v,rfl,rx'⟩:=XS rx;obtain⟨u,rfl,ry'⟩:=XS ry;obtain⟨a,hx⟩:=QH kx;obtain⟨a2,hy⟩:=QH ky;simp only[uG,DO hx,C8 hx,hx,hy,Uh,Je]at e;subst e;have ev:=nW.val hx rx';have eu:=nW.val hy ry';subst ev;subst eu;exact run_equalIn_bool' (w:=w) d t a a2 h
end
def Rf(P:Ba)(n:Nat):List Field->List wa->Nat->Prop
 |[],zs,_=>zs=[]
 |f::Y,zs,k=>f.name≠ "_" /\f.offset=k/\∃agg zf rest,zs=zf++rest/\mY P n f.type agg zf/\Rf P n Y rest (k+zf.length)
def zX:∀{zf rest:List wa} {xs:List SV},gT (zf++rest) xs=true->gT zf (xs.take zf.length)=true/\gT rest (xs.drop zf.length)=true/\zf.length<=xs.length
 |[],_,_,h=>⟨rfl,h,Nat.zero_le _⟩
 |z::zf,rest,[],h=>by cases h
 |z::zf,rest,x::xs,h=>by simp only[We,gT,Bool.and_eq_true]at h;obtain⟨i1,i2,i3⟩:=zX h.2;exact⟨by simp only[Rb,Kn,gT,Bool.and_eq_true];exact⟨h.1,i1⟩,by simpa using i2,by simp;omega⟩
def aC0{x y:SV}{r s:List SV}(h:uG r s=none):uG (x::r) (y::s)=none:=by simp only[uG,h]
def Ei(x y:SV):Da Bool:=uG [x] [y]
def aC1{x y:SV}{r s:List SV}{b:Bool}(h:uG (x::r) (y::s)=some b):∃b1 b2,Ei x y=some b1/\uG r s=some b2/\b=(b1&&b2):=by
 cases hc:uG r s with
 |none=>rw[aC0 hc]at h;cases h
 |some c=>
  simp only[uG,hc]at h;split at h
  ·rename_i k1 a k2 b' c' ha hb Q1
   cases Q1
   by_cases hk:k1=k2
   ·subst hk;simp only[Ul,cond_true,Je]at h;exact⟨a==b',c,by simp[Ei,uG,ha,hb],rfl,h.symm⟩
   simp[hk]at h
  ·rename_i c' Q1 hn
   cases Q1
   split at h
   ·rename_i a b' ha hb
    cases h
    exact⟨a.toList==b'.toList,c,by simp[Ei,uG,HN ha,ha,hb],rfl,rfl⟩
   rename_i hns;split at h
   ·rename_i a b' ha hb
    cases h
    exact⟨a==b',c,by simp[Ei,uG,DO ha,C8 ha,ha,hb],rfl,rfl⟩
   cases h
  rename_i Q1
  cases Q1
def aJF{x y:SV}{r s:List SV}{b1 b2:Bool}(h:Ei x y=some b1)(k:uG r s=some b2):uG (x::r) (y::s)=some (b1&&b2):=by
 simp only[Ei,uG]at h;split at h
 ·rename_i k1 a k2 b' c' ha hb Q1
  cases Q1
  by_cases hk:k1=k2
  ·subst hk;simp only[Ul,cond_true,Je,Uh]at h;simp[uG,k,ha,hb,h]
  simp[hk]at h
 ·rename_i c' Q1 hn
  cases Q1
  split at h
  ·rename_i a b' ha hb;simp only[Uh,Je]at h;simp[uG,k,HN ha,ha,hb,h]
  split at h
  ·rename_i a b' ha hb;simp only[Uh,Je]at h;simp[uG,k,DO ha,C8 ha,ha,hb,h]
  cases h
 rename_i Q1
 cases Q1
def WI:∀(m:Nat) {xs ys:List SV} {b:Bool},uG xs ys=some b->m<=xs.length->∃b1 b2,uG (xs.take m) (ys.take m)=some b1/\uG (xs.drop m) (ys.drop m)=some b2/\b=(b1&&b2)
 |0,xs,ys,b,h,_=>⟨true,b,by simp[uG],by simpa using h,sM⟩
 |m+1,[],ys,b,h,hl=>by simp at hl
 |m+1,x::xs,[],b,h,hl=>by simp[uG]at h
 |m+1,x::xs,y::ys,b,h,hl=>by obtain⟨c1,c2,h1,h2,rfl⟩:=aC1 h;obtain⟨d1,d2,h3,h4,rfl⟩:=WI m h2 (by simpa using hl);exact⟨c1&&d1,d2,by simp only[Kn];exact aJF h1 h3,by simpa using h4,by rw[Bool.and_assoc]⟩
def aFX{xs:List SV}{b:Bool}(h:uG [] xs=some b):b=true:=by
 cases xs with
 |nil=>simp only[uG,Je]at h;exact h.symm
 |cons _ _=>cases h
def B9{P:Ba}{n d:Nat}{ia U:Array wa}:∀{Y:List Field} {zs:List wa} {k:Nat} {w:Aa} {xs ys:List SV} {b:Bool} {vs us:List wa},Rf P n Y zs k->gT zs xs=true->gT zs ys=true->uG xs ys=some b->I4 xs vs->I4 ys us->
  ia.toList.drop k=vs->U.toList.drop k=us->(Op.eqFields (d+n) ia U Y).run P w=.ok b w
 |[],zs,k,w,xs,ys,b,vs,us,hz,h1,h2,e,_,_,_,_=>by
  have hz:zs=[]:=hz;subst hz
  cases xs with
  |nil=>rw[aFX e];rfl
  |cons _ _=>cases h1
 |f::Y,zs,k,w,xs,ys,b,vs,us,hz,h1,h2,e,rx,ry,hv,hu=>by
  obtain⟨hn,hk,agg,zf,rest,rfl,hc,hf⟩:=hz;obtain⟨k1,k2,k3⟩:=zX h1;obtain⟨k4,k5,k6⟩:=zX h2;obtain⟨b1,b2,e1,e2,rfl⟩:=WI zf.length e k3;have lx:=rx.length;have ly:=ry.length;have ih:=B9 (w:=w) (ia:=ia) (U:=U) (d:=d) hf k2 k5 e2 (Bs zf.length rx) (Bs zf.length ry) (by rw[<-hv,Qy]) (by rw[<-hu,Qy]);have hr:=hc.run d w _ _ _ _ _ k1 k4 e1 (Mr zf.length rx) (Mr zf.length ry);have part:∀(W:Array wa) (ws:List wa),W.toList.drop k=ws->zf.length<=ws.length->(part f.type W k).run P w=.ok (il agg (ws.take zf.length)) w:=by
   intro W ws hw hl
   cases agg with
   |true=>rw[MD (hc.isAgg w) (hc.size rfl w),hw];rfl
   |false=>
    have h0:=hc.one rfl;rw[h0]at hl⊢
    cases ws with
    |nil=>simp at hl
    |cons v r=>
     show _=Result.ok v w;refine MC (hc.isAgg w) ?_;have:(W.toList.drop k)[0]? =some v:=by rw[hw];rfl
     simpa using this
  simp only[Op.eqFields,hn,ne_eq,not_false_eq_true,Xi,Ic,hk,part ia vs hv O,part U us hu O,Result.andThen,hr,Sem.run_ite]
  cases b1 with
  |true=>simpa using ih
  |false=>simp
def dJ{P:Ba}{t n:Nat}{Y:Array Field}{zs:List wa}(dB:P.underlying t=some (.struct Y))(hp:P.stoodInHeld t=false)(hs:∀w,(sizeOf t).run P w=.ok zs.length w)(hf:Rf P n Y.toList zs 0):mY P (n+1) t true zs:=by
 refine⟨λw=>by simp[isAgg,Bb dB],λ_=>hs,(λh=>by cases h),λd w xs ys vs us b h1 h2 e rx ry=>?_⟩;have hff:P.fieldsOf t=Y:=by simp[Program.fieldsOf,dB]
 show(Op.equalIn (d+n+1) t _ _).run P w=_;simp only[il];rw[run_equalIn_struct w (d+n) t vs.toArray us.toArray (by rw[hff];exact dB) hp,hff];exact B9 hf h1 h2 e rx ry sM sM
def iK{P:Ba}{t n:Nat}{ti:TypeInfo}(h:P.info? t=some ti)(hn:ti.size=n)(w:Aa):(sizeOf t).run P w=.ok n w:=by simp[sizeOf,typeInfo,h,hn]
def cX{P:Ba}{t n:Nat}{zs:List wa}(h:mY P n t true zs)(hn:n<=10000):
  ∀(w:Aa) (xs ys:List SV) (vs us:List wa) (b:Bool),gT zs xs=true->gT zs ys=true->uG xs ys=some b->I4 xs vs->I4 ys us->
  (Op.equal t (.agg vs.toArray) (.agg us.toArray)).run P w=.ok b w:=by
 intro w xs ys vs us b h1 h2 e rx ry
 have:=h.run (10000-n) w xs ys vs us b h1 h2 e rx ry
 rwa [show 10000-n+n=10000 by omega]at this
def gO:eV->aP
 |[]=>[]
 |(x,b)::r=>(x,some b)::gO r
def qM(args:List AV)(bx:eV):St:=⟨tW args 0,gO bx⟩
def jG(box:aP):eV->aP
 |[]=>box
 |(x,_)::r=>(x,none)::jG box r
def jI(box:aP):eV->Prop
 |[]=>True
 |(x,b)::r=>aH box x=some (some b)/\jI box r
def gO.get{x:Nat}{b:jK}:∀{bx:eV},aH (gO bx) x=some (some b)->(x,b)∈bx
 |[],h=>by cases h
 |(y,c)::r,h=>by
  simp only[gO]at h;rw[aL]at h;by_cases e:y=x
  ·rw[La e]at h;cases h;subst e;simp
  rw[Ka e]at h;exact oc _ (gO.get h)
def Gk:=@gO.get
def gO.has{x:Nat}:∀{bx:eV},x∈names bx->∃y,aH (gO bx) x=some y
 |[],h=>by cases h
 |(y,c)::r,h=>by
  simp only[gO];rw[aL];by_cases e:y=x
  ·exact tm
  rw[Ka e];simp only[names,wb]at h;exact gO.has (h.resolve_left (λh=>e h.symm))
def jG.get{box:aP}{x:Nat}{b:jK}:∀{bx:eV},aH (jG box bx) x=some (some b)->x∉names bx/\aH box x=some (some b)
 |[],h=>⟨by simp[names],h⟩
 |(y,c)::r,h=>by
  simp only[jG]at h;rw[aL]at h;by_cases e:y=x
  ·exact Pq
  rw[Ka e]at h;obtain⟨h1,h2⟩:=jG.get h;refine⟨?_,h2⟩;simp only[names,wb];rintro(h|h)
  ·exact e h.symm
  exact h1 h
def Ij:=@jG.get
def jG.has{box:aP}{x:Nat}{y:Da jK}(h:aH box x=some y):∀{bx:eV},∃y,aH (jG box bx) x=some y
 |[]=>⟨y,h⟩
 |(z,c)::r=>by
  simp only[jG];rw[aL];by_cases e:z=x
  ·exact tm
  rw[Ka e];exact jG.has h
def jI.get{box:aP}{x:Nat}{b:jK}:∀{bx:eV},jI box bx->(x,b)∈bx->aH box x=some (some b)
 |[],_,h=>by cases h
 |(y,c)::r,⟨h,hr⟩,hm=>by
  cases hm with
  |head=>exact h
  |tail _ hm=>exact jI.get hr hm
def qk:=@jI.get
def VL(T:List (Nat×bV))(rs:List ResultVar)(r:AV)(bx':eV):Exit->St->Prop
 |.ret,I=>match oQ T I rs with
  |some ts=>aC (yX (nV ⟨I.env,jG I.box bx'⟩ ts)) r/\jI I.box bx'
  |none=>False
 |.normal,I=>match oQ T I rs with
  |some ts=>aC (yX (nV ⟨I.env,jG I.box bx'⟩ ts)) r/\jI I.box bx'
  |none=>False
 |_,_=>False
section
variable{P:Ba}{T:List (Nat×bV)}
def Inv.shut{R:Cx}{N:Nat}{M:Mem}{V:Nm}{I:St}{a:Act}{w:Aa}(i:Inv R N M V I a w)(bx':eV):Inv R N M V ⟨I.env,jG I.box bx'⟩ a w:=by
 refine⟨i.defers,i.tmps,i.heap,i.env,i.mem,?_,?_,?_,?_,?_,i.ref⟩
 ·intro x p e;obtain⟨y,hy⟩:=i.keys x p e;exact jG.has hy
 ·exactλx bc h=>i.box x bc (Ij h).2
 ·exactλx y bx zB b c c' hx hy=>i.inj x y bx zB b c c' (Ij hx).2 (Ij hy).2
 ·exactλx bc b c h=>i.apart x bc b c (Ij h).2
 exactλx bc b c h=>i.low x bc b c (Ij h).2
def AV.bI.aOW{M:Mem}{V:Nm}{r:AV}{v:wa}(h:r.bI M nb v):r.bI M V v:=Vf (Xe _) (λ_ _ h=>by cases h) h
def lH{f N:Nat}{fn:Func}{c:Code}{args:List AV}{bx:eV}{r:AV}{bx':eV}(hf:P.funcs[f]? =some fn)(hb:fn.body=some c)(hN:fn.ntmps=N)(eF:∀vs w,(callFunc f vs).run P w=.ok (.enter f vs) w)
  (hT:cD P T) (hl:Nat.ble args.length N=true) (qQ:((names bx).all λx=>(names bx').contains x)=true) (kJ:(bx'.all λp=>p.2.real)=true) {rs:List ResultVar} (NA:fn.results.toList=rs)
  (h:∀R:Cx,R.ref=names bx->AW P R N c (qM args bx) (VL T rs r bx')):bW P f args bx r bx':=by
 classical
 refine⟨eF,λM V w vs hG hr hM rJ hβ=>?_⟩
 apply Wn hf hb
 let R:Cx:={B:=w.heap.size,ref:=names bx,ma:=V}
 have hlen:=hr.length
 have hl:=Dc hl
 have hex:∀x,x∈names bx->∃p,V x=some p:=λx hx=>by exact Lq
 have i0:Inv R N M V (qM args bx) {tmps:=vs.toArray++Array.replicate (fn.ntmps-vs.toArray.size) undef,defers:=[]} w:=zb
 refine Yn (Xn.1 (h R rfl M V _ w i0)) ?_
 rintro e a' w' ⟨I',M',V',hk,i',hg,lB⟩
 have fin:∀ts,oQ T I' rs=some ts->aC (yX (nV ⟨I'.env,jG I'.box bx'⟩ ts)) r->jI I'.box bx'->a'.defers=[]/\∃v,(results fn a'.tmps).run P w'=.ok v w'/\∃v' M' V',Ending.returned v=.returned v'/\Nm.le V V'/\r.bI M' V' v'/\Grow w.heap.size M M'/\lA M' w'/\sE M' V' w' bx'/\
   (∀x b c,x∈names bx'->V' x=some (b,c)->w.heap.size<=b\/∃y c',V y=some (b,c'))/\
   w'.os=w.os/\w'.tape=w.tape/\w'.output=w.output/\w.heap.size<=w'.heap.size/\(∀k,k<w.heap.size->(∀y c,V y≠some (k,c))->w'.heap[k]? =w.heap[k]?)/\Dr w w':=by
  intro ts uX fQ qS
  obtain⟨AY,a7,eD⟩:=yk hT i' uX
  let isB:Nat->Prop:=λb=>∃x c,x∈names bx'/\V' x=some (b,c)
  let F:Mem:=λb o=>if b<w.heap.size then M' b o else if isB b then none else w'.cell? ⟨b,o,none⟩
  have cQ:∀x,x∈names bx'->∃b,aH I'.box x=some (some b):=λx hx=>by exact Qq
  have hMF:Mem.le M' F:=λb o u e=>by exact ju
  have hFc:∀x bc b c,aH (jG I'.box bx') x=some (some bc)->V' x=some (b,c)->∀o u,w'.cell? ⟨b,o,none⟩=some u->F b o=some u:=uj
  have jJ:=nV.rep (i'.shut bx') hMF hFc eD
  refine⟨i'.defers,(if h:AY.toArray.size=1 then AY.toArray[0]else .tuple AY.toArray),?_,_,F,V',rfl,?_,AV.bI.aOW (fQ F _ ?_),⟨λb o u e=>hMF b o u (hg.le b o u e),λb o u e=>?_⟩,λb o u e=>?_,?_,?_,lB.os,lB.tape,lB.output,lB.size,?_,lB.drawn⟩
  ·exact zj
  ·exact Nq
  ·cases QQ:nV ⟨I'.env,jG I'.box bx'⟩ ts with
   |nil=>exact Jv
   |cons t r'=>exact zq
  ·exact zbN
  ·exact zap
  ·exact uh
  ·exact vg
  ·exact jy
 cases e with
 |ret=>exact zbW
 |normal=>exact zbW
 |_=>exact hk.elim
def gH{rc:List Nat}{f N:Nat}{fn:Func}{c:Code}{args:List AV}{bx:eV}{r:AV}{bx':eV}(hf:P.funcs[f]? =some fn)(hb:fn.body=some c)(hN:fn.ntmps=N)(eF:∀vs w,(callFunc f vs).run P w=.ok (.enter f vs) w)
  (hT:cD P T) (hm:P.follows .mixedOrders=true) (hl:Nat.ble args.length N=true) (qQ:((names bx).all λx=>(names bx').contains x)=true) (kJ:(bx'.all λp=>p.2.real)=true) {rs:List ResultVar} (NA:fn.results.toList=rs)
  (h:∀R:Cx,R.ref=names bx->ex P T N (names bx) rc R c (qM args bx) (VL T rs r bx')):bW P f args bx r bx':=
 lH hf hb hN eF hT hl qQ kJ NA λR J=>Sb hT hm J c (h R J)
end
def GQ:∀(cs:List CV),GP [] cs=cs
 |[]=>rfl
 |.d _::r=>by simp[GP,GR,GQ r]
 |.ptr _ _::r=>by simp[GP,GR,look,GQ r]
def BG(x:SV):wF [] x=x:=by
 cases x with
 |dZ f cs=>simp[wF,GQ]
 |_=>rfl
def tH:∀(cs:List SV),mC [] cs=cs
 |[]=>rfl
 |x::r=>by simp[mC,BG,tH r]
def DC:∀(cs:List TV),BF [] cs=cs
 |[]=>rfl
 |.s x::r=>by simp[BF,Vm,BG,DC r]
 |.g x::r=>by simp[BF,Vm,tH,DC r]
def aA4(x:AV):oC [] x=x:=by
 cases x with
 |s x=>simp[oC,BG]
 |g x=>simp[oC,tH]
 |ib b x=>simp[oC,BG]
 |ig b x=>simp[oC,tH]
 |t ts=>simp[oC,DC]
def aA3(b:jK):jX [] b=b:=by
 cases b with
 |cells cs=>simp[jX,tH]
 |row e n s f=>rfl
 |b8 e n s f=>rfl
 |map vk l=>rfl
 |smap vk l=>rfl
 |dm l n=>rfl
 |fresh T vs=>rfl
 |iter m n seen=>rfl
def YH.mono{M:Mem}{V V':Nm}{xs:List Nat}(h:∀x,x∈xs->∀p,V x=some p->V' x=some p){x:AV}{v:wa}(hi:YH xs x=true)(r:x.bI M V v):x.bI M V' v:=
 Lo (ren:=[]) h hi (by rw[aA4];exact r)
def SF.mono{M:Mem}{V V':Nm}{xs:List Nat}(h:∀x,x∈xs->∀p,V x=some p->V' x=some p){w:Aa}{x:Nat}{b:jK}(hx:x∈xs)(hi:SF xs b=true)(r:cN M V w x b):cN M V' w x b:=
 tf (ren:=[]) h hx hi (by rw[aA3];exact r)
def cR:aP->List Nat
 |[]=>[]
 |(x,_)::r=>x::cR r
def cR.has{x:Nat}:∀{l:aP},x∈cR l->∃y,aH l x=some y
 |[],h=>by cases h
 |(z,v)::r,h=>by
  rw[aL];by_cases e:z=x
  ·exact tm
  rw[Ka e];simp only[cR,wb]at h;exact cR.has (h.resolve_left λh=>e h.symm)
def Yl:=@cR.has
def IC(src:List (Nat×AV))(ks:List Nat):List (Nat×AV)->Prop
 |[]=>True
 |(t,v)::r=>(YH ks v=true/\fL src t=v)/\IC src ks r
def CM(src:aP)(ks:List Nat):aP->Prop
 |[]=>True
 |(x,some b)::r=>(SF ks b=true/\aH src x=some (some b))/\CM src ks r
 |(_,none)::r=>CM src ks r
def IC.get{src:List (Nat×AV)}{ks:List Nat}{M:Mem}{V V':Nm}(h:∀x,x∈ks->∀p,V x=some p->V' x=some p):∀{tgt:List (Nat×AV)},IC src ks tgt->∀t v,(fL src t).bI M V v->(fL tgt t).bI M V' v
 |[],_,_,_,_=>trivial
 |(k,a)::r,⟨⟨h1,h2⟩,hr⟩,t,v,hv=>by
  rw[gP];by_cases e:k=t
  ·rw[La e];subst e;rw[h2]at hv;exact YH.mono h h1 hv
  rw[Ka e];exact IC.get h hr t v hv
def CM.get{src:aP}{ks:List Nat}:∀{tgt:aP},(∀x,x∈cR tgt->x∈ks)->CM src ks tgt->∀x b,aH tgt x=some (some b)->x∈ks/\SF ks b=true/\aH src x=some (some b)
 |[],_,_,_,_,h=>by cases h
 |(k,some c)::r,hk,⟨⟨h1,h2⟩,hr⟩,x,b,h=>by
  rw[aL]at h;by_cases e:k=x
  ·exact Hu
  rw[Ka e]at h;exact CM.get (λy hy=>hk y (by simp[cR,hy])) hr x b h
 |(k,none)::r,hk,hr,x,b,h=>by
  rw[aL]at h;by_cases e:k=x
  ·exact Pq
  rw[Ka e]at h;exact CM.get (tgt:=r) (λy hy=>hk y (oc _ hy)) hr x b h
def Sub.of{R:Cx}{I I':St}(hr:(R.ref.all λx=>(cR I'.box).contains x)=true)(hb:CM I.box (cR I'.box) I'.box)(he:IC I.env (cR I'.box) I'.env):Sub R I I':=by
 refine⟨λM V V' h t v hv=>IC.get (λx hx p e=>h x p e (Yl hx)) he t v hv,λM V V' w h x b e=>?_,λx hx=>?_⟩
 ·obtain⟨h0,h1,h2⟩:=CM.get (λ_ h=>h) hb x b e;exact⟨b,h2,SF.mono (λx hx p e=>h x p e (Yl hx)) h0 h1⟩
 rw[Hd]at hr;exact Yl (by simpa using hr x hx)
def Zb{R:Cx}{I I':St}(h:R.ref=[])(hb:CM I.box (cR I'.box) I'.box)(he:IC I.env (cR I'.box) I'.env):Sub R I I':=Sub.of Uk hb he
def aK(d e:DV):Prop:=∀M u,d.bI M u->e.bI M u
def aK.refl(d:DV):aK d d:=λ_ _ h=>h
def Ja:=@aK.refl
def Wa{d e:DV}(h:d=e):aK d e:=h▸Ja d
def aK.fU{n s:Nat}{f g:Nat->Nat->DV}(h:∀i j,i<n->j<s->aK (f i j) (g i j)):aK (.fU n s f) (.fU n s g):=by rintro M u ⟨a,cap,e,hn,hc⟩;refine⟨a,cap,e,hn,hc.imp id ?_⟩;rintro⟨b,o,ea,hc⟩;exact⟨b,o,ea,λi j hi hj=>let⟨u,hu,hr⟩:=hc i j hi hj;⟨u,hu,h i j hi hj M u hr⟩⟩
def Yc:=@aK.fU
def aK.nil{s':Nat}{f:Nat->Nat->DV}:aK (.val (.slice none 0 0)) (.fU 0 s' f):=by
 intro M u r
 cases r
 exact⟨none,0,rfl,mb _,.inl rfl⟩
def Nd:=@aK.nil
def aK.empty{s s':Nat}{f g:Nat->Nat->DV}:aK (.fU 0 s f) (.fU 0 s' g):=by rintro M u ⟨a,cap,e,hn,hc⟩;exact⟨a,cap,e,hn,.inl rfl⟩
def aK.rp{m:Nat}{f g:Nat->DV}(h:∀j,j<m->aK (f j) (g j)):aK (.rp m f) (.rp m g):=by rintro M u ⟨b,o,e,hc⟩;exact⟨b,o,e,λj hj=>let⟨u,hu,hr⟩:=hc j hj;⟨u,hu,h j hj M u hr⟩⟩
def Zc:=@aK.rp
def aK.Xg{f k:Nat}{c d:Nat->DV}(h:∀j,j<k->aK (c j) (d j)):aK (.Xg f k c) (.Xg f k d):=zaB
def aK.dZ{f k:Nat}{c d:Nat->DV}(h:∀j,j<k->aK (c j) (d j)):aK (.dZ f k c) (.dZ f k d):=zaB
def sf:=@aK.dZ
def Z9:SV->SV->Prop
 |.d x,.d y=>aK x y
 |_,_=>False
def SB:List SV->List SV->Prop
 |[],[]=>True
 |x::r,y::s=>Z9 x y/\SB r s
 |_,_=>False
def En:AV->AV->Prop
 |.s x,.s y=>Z9 x y
 |.g x,.g y=>SB x y
 |_,_=>False
def sV:List AV->List AV->Prop
 |[],[]=>True
 |x::r,y::s=>En x y/\sV r s
 |_,_=>False
def U2:List TV->List TV->Prop
 |[],[]=>True
 |.s x::r,.s y::s=>Z9 x y/\U2 r s
 |.g x::r,.g y::s=>SB x y/\U2 r s
 |_,_=>False
def Z9.rep{M:Mem}{V:Nm}{x y:SV}{v:wa}(h:Z9 x y)(r:x.bI M V v):y.bI M V v:=by cases x <;> cases y <;> first|exact h M v r|exact h.elim
def SB.rep{M:Mem}{V:Nm}:∀{l m:List SV} {vs:List wa},SB l m->cV M V l vs->cV M V m vs
 |[],[],[],_,_=>trivial
 |_::_,_::_,_::_,⟨h,k⟩,⟨a,r⟩=>⟨h.rep a,SB.rep k r⟩
 |[],_::_,_,h,_=>h.elim
 |_::_,[],_,h,_=>h.elim
 |[],[],_::_,_,h=>h.elim
 |_::_,_::_,[],_,h=>h.elim
def En.rep{M:Mem}{V:Nm}{x y:AV}{v:wa}(h:En x y)(r:x.bI M V v):y.bI M V v:=by
 cases x <;> cases y <;> first|exact h.elim|skip
 ·exact Z9.rep h r
 obtain⟨vs,e,hr⟩:=r;exact⟨vs,e,SB.rep h hr⟩
def sV.rep{M:Mem}{V:Nm}:∀{l m:List AV} {vs:List wa},sV l m->gZ M V l vs->gZ M V m vs
 |[],[],[],_,_=>trivial
 |_::_,_::_,_::_,⟨h,k⟩,⟨a,r⟩=>⟨h.rep a,sV.rep k r⟩
 |[],_::_,_,h,_=>h.elim
 |_::_,[],_,h,_=>h.elim
 |[],[],_::_,_,h=>h.elim
 |_::_,_::_,[],_,h=>h.elim
def U2.rep{M:Mem}{V:Nm}:∀{l m:List TV} {vs:List wa},U2 l m->rF M V l vs->rF M V m vs
 |[],[],[],_,_=>trivial
 |.s _::_,.s _::_,_::_,⟨h,k⟩,⟨a,r⟩=>⟨Z9.rep h a,U2.rep k r⟩
 |.g _::_,.g _::_,_::_,⟨h,k⟩,⟨⟨vs,e,a⟩,r⟩=>⟨⟨vs,e,SB.rep h a⟩,U2.rep k r⟩
 |[],_::_,_,h,_=>h.elim
 |.s _::_,[],_,h,_=>h.elim
 |.g _::_,[],_,h,_=>h.elim
 |.s _::_,.g _::_,_,h,_=>h.elim
 |.g _::_,.s _::_,_,h,_=>h.elim
 |[],[],_::_,_,h=>h.elim
 |.s _::_,.s _::_,[],_,h=>h.elim
 |.g _::_,.g _::_,[],_,h=>h.elim
def aC.le{x y:AV}(h:En x y):aC x y:=λ_ _ r=>h.rep r
def Fg:=@aC.le
def aC.t{x y:List TV}(h:U2 x y):aC (.t x) (.t y):=by rintro M u ⟨vs,e,r⟩;exact⟨vs,e,h.rep r⟩
def Re:=@aC.t
def aF.conv{P:Ba}{f:FuncId}{args args':List AV}{r:AV}(h:aF P f args r)(k:sV args' args):aF P f args' r:=
 ⟨h.1,λM w vs hG hr hM=>h.2 M w vs hG (k.rep hr) hM⟩
def Ze:=@aF.conv
def aM(R:Cx)(N:Nat)(I I':St):Prop:=∀M V a w,Inv R N M V I a w->∃V',Inv R N M V' I' a w
def Gb{P:Ba}{R:Cx}{N:Nat}{I:St}{K:Exit->St->Prop}{S:Type}{c:Code}(UZ:S->St)(oa:S->Prop)(μ:S->Nat)(s0:S)(hJ:oa s0)(hs:aM R N I (UZ s0))
  (body:∀s,oa s->AW P R N c (UZ s) (OV (λI'=>∃s',oa s'/\μ s'<μ s/\aM R N I' (UZ s')) K)):AW P R N (.loop c) I K:=by
 intro M V a w i
 obtain⟨na,i1⟩:=hs M V a w i
 intro b k cs hro hb hr
 have key:∀n s,μ s=n->oa s->∀M V a w,Inv R N M V (UZ s) a w->
   ∃e a' w',(∃I' M' V',K e I'/\Inv R N M' V' I' a' w'/\Grow R.B M M'/\cE R w w')/\ArrivesIn (Machine.fenced P (FW R.rd)) P (lone (b.atR a (.code c::.inLoop c::k)) cs w) b k cs e a' w':=by
  intro n
  induction n using Nat.strongRecOn with
  |_ n ih=>
   intro s hn hJ M V a w i;obtain⟨e,a₁,w₁,⟨I',M1,na,hq,i1,hM,hk⟩,nI⟩:=body s hJ M V a w i b (.inLoop c::k) cs hro hb hr
   cases e with
   |normal=>obtain⟨s',hJ',fZ,fQ⟩:=hq;obtain⟨la,i2⟩:=fQ M1 na a₁ w₁ i1;exact jd
   |exit id=>exact⟨_,a₁,w₁,⟨I',M1,na,hq,i1,hM,hk⟩,.pass (x:=.inLoop c) rfl (λ_ _=>.inl sM) nI⟩
   |goto l=>exact⟨_,a₁,w₁,⟨I',M1,na,hq,i1,hM,hk⟩,.pass (x:=.inLoop c) rfl (λ_ _=>.inl sM) nI⟩
   |ret=>exact⟨_,a₁,w₁,⟨I',M1,na,hq,i1,hM,hk⟩,.pass (x:=.inLoop c) rfl (λ_ _=>.inl sM) nI⟩
   |panic ch=>exact⟨_,a₁,w₁,⟨I',M1,na,hq,i1,hM,hk⟩,.pass (x:=.inLoop c) rfl (λ_ _=>.inl sM) nI⟩
   |outgrown=>exact⟨_,a₁,w₁,⟨I',M1,na,hq,i1,hM,hk⟩,.pass (x:=.inLoop c) rfl (λ_ _=>.inl sM) nI⟩
 obtain⟨e,a',w',hq,nI⟩:=key _ s0 rfl hJ M na a w i1
 exact⟨e,a',w',hq,.of_steps (.one (Tl hb hr rfl) stepR_loop) nI⟩
def AW.cond{P:Ba}{R:Cx}{N:Nat}{I:St}{K:Exit->St->Prop}{c:Ca}{x y:Code}(h:AI I c (AW P R N x I K) (AW P R N y I K)):AW P R N (.cond c x y) I K:=by
 unfold AI at h;intro M V a w i;split at h
 ·rename_i b hv;have hb:a.eval c=.bool b:=by have:=Yb i c;rw[hv]at this;exact this
  cases b with
  |true=>exact Ny hb (h M V a w i)
  |false=>exact Gy hb (h M V a w i)
 ·rename_i b hv;have hb:a.eval c=.bool b:=by have:=Yb i c;rw[hv]at this;exact this
  exact Fy hb (λhb=>h.1 hb M V a w i) (λhb=>h.2 hb M V a w i)
 cases h
def Cb:=@AW.cond
def Tb{P:Ba}{R:Cx}{N:Nat}{I I':St}{K:Exit->St->Prop}{c:Code}(h:aM R N I I')(k:AW P R N c I' K):AW P R N c I K:=by intro M V a w i;obtain⟨V',i'⟩:=h M V a w i;exact k M V' a w i'
def AW.cut{P:Ba}{R:Cx}{N:Nat}{I I':St}{K:Exit->St->Prop}{x y:Code}(h:AW P R N x I λe s=>e=.normal/\aM R N s I')(k:AW P R N y I' K):AW P R N (.seq x y) I K:=Sa (Rr h λ_ _ ⟨he,hs⟩=>by subst he;exact Tb hs k)
def Uf:=@AW.cut
def aU(x y:AV):Prop:=∀M V v,x.bI M V v->y.bI M V v
def Ta{x:AV}:aU x x:=λ_ _ _ h=>h
def Wb{x y:AV}(h:x=y):aU x y:=h▸Ta
def aU.mo{x:Nat}{z:Bool}(h:z=false):aU (.s (.own x)) (.s (.mo z x)):=by subst h;exactλM V v r=>⟨λh=>Kp,λ_=>r⟩
def Ye:=@aU.mo
def aU.nil{x:Nat}{z:Bool}(h:z=true):aU (.s (.d (.val (.slice none 0 0)))) (.s (.mo z x)):=by subst h;exactλM V v r=>⟨λ_=>r,λh=>Kp⟩
def fg:=@aU.nil
def aU.d{x y:DV}(h:aK x y):aU (.s (.d x)) (.s (.d y)):=λM _ v r=>h M v r
def Xc:=@aU.d
def aY(b b':jK):Prop:=∀M V w x,cN M V w x b->cN M V w x b'
def Lf{b:jK}:aY b b:=λ_ _ _ _ h=>h
def cc{x y:jK}(h:x=y):aY x y:=h▸Lf
def aY.row{e n n' s:Nat}{f g:Nat->Nat->DV}(h:n=n')(hf:∀i j,i<n->j<s->aK (f i j) (g i j)):aY (.row e n s f) (.row e n' s g):=by subst h;rintro M V w x ⟨b,c,cur,e1,h1,h2,h3,h4,h5,h6⟩;exact⟨b,c,cur,e1,h1,h2,h3,h4,h5,λi j hi hj=>let⟨u,hu,hr⟩:=h6 i j hi hj;⟨u,hu,hf i j hi hj M u hr⟩⟩
def Bc:=@aY.row
def aY.b8{e n n' s:Nat}{f g:Nat->Nat->DV}(h:n=n')(hf:∀i j,i<n->j<s->aK (f i j) (g i j)):aY (.row e n s f) (.b8 e n' s g):=by subst h;rintro M V w x ⟨b,c,cur,e1,h1,h2,h3,h4,h5,h6⟩ b' c' e2;rw[e1]at e2;cases e2;exact⟨cur,h1,h2,h3,h4,h5,λi j hi hj=>let⟨u,hu,hr⟩:=h6 i j hi hj;⟨u,hu,hf i j hi hj M u hr⟩⟩
def ZW:List SV->List SV->Prop
 |[],[]=>True
 |x::r,y::s=>aU (.s x) (.s y)/\ZW r s
 |_,_=>False
def ZW.rep{M:Mem}{V:Nm}:∀{l m:List SV} {vs:List wa},ZW l m->cV M V l vs->cV M V m vs
 |[],[],[],_,_=>trivial
 |_::_,_::_,_::_,⟨h,k⟩,⟨a,r⟩=>⟨h M V _ a,ZW.rep k r⟩
 |[],_::_,_,h,_=>h.elim
 |_::_,[],_,h,_=>h.elim
 |[],[],_::_,_,h=>h.elim
 |_::_,_::_,[],_,h=>h.elim
def aY.cells{l m:List SV}(h:ZW l m):aY (.cells l) (.cells m):=by rintro M V w x ⟨b,c,vs,T,us,e1,h1,h2⟩;exact⟨b,c,vs,T,us,e1,h1,h.rep h2⟩
def Pe:=@aY.cells
def Jp(xs:List Nat):jK->Bool
 |.cells cs=>HQ xs cs
 |.iter m _ _=>xs.contains m
 |_=>true
def NS(ren:List (Nat×Nat))(src:List (Nat×AV))(ks:List Nat):List (Nat×AV)->Prop
 |[]=>True
 |(t,v)::r=>(YH ks v=true/\aU (fL src t) (oC ren v))/\NS ren src ks r
def aHI(ren:List (Nat×Nat))(b:jK):Da (Da jK)->Prop
 |some (some b0)=>aY b0 (jX ren b)
 |some none=>False
 |none=>b.real=false
def D3(ren:List (Nat×Nat))(src:aP)(ks:List Nat):aP->Prop
 |[]=>True
 |(x,some b)::r=>(Jp ks b=true/\aHI ren b (aH src (look ren x)))/\D3 ren src ks r
 |(_,none)::r=>D3 ren src ks r
def NS.get{ren:List (Nat×Nat)}{src:List (Nat×AV)}{ks:List Nat}{M:Mem}{V V':Nm}(h:∀x,x∈ks->∀p,V (look ren x)=some p->V' x=some p):∀{tgt:List (Nat×AV)},NS ren src ks tgt->∀t v,(fL src t).bI M V v->(fL tgt t).bI M V' v
 |[],_,_,_,_=>trivial
 |(k,a)::r,⟨⟨h1,h2⟩,hr⟩,t,v,hv=>by
  rw[gP];by_cases e:k=t
  ·rw[La e];subst e;exact Lo h h1 (h2 M V v hv)
  rw[Ka e];exact NS.get h hr t v hv
def D3.get{ren:List (Nat×Nat)}{src:aP}{ks:List Nat}:∀{tgt:aP},(∀x,x∈cR tgt->x∈ks)->D3 ren src ks tgt->∀x b,aH tgt x=some (some b)->x∈ks/\Jp ks b=true/\aHI ren b (aH src (look ren x))
 |[],_,_,_,_,h=>by cases h
 |(k,some c)::r,hk,⟨⟨h1,h2⟩,hr⟩,x,b,h=>by
  rw[aL]at h;by_cases e:k=x
  ·exact Hu
  rw[Ka e]at h;exact D3.get (λy hy=>hk y (by simp[cR,hy])) hr x b h
 |(k,none)::r,hk,hr,x,b,h=>by
  rw[aL]at h;by_cases e:k=x
  ·exact Pq
  rw[Ka e]at h;exact D3.get (tgt:=r) (λy hy=>hk y (oc _ hy)) hr x b h
def Eo:=@D3.get
def aM.of{R:Cx}{N:Nat}{I I':St}(ren:List (Nat×Nat))(hr:(R.ref.all λx=>(cR I'.box).contains x&&Nat.beq (look ren x) x)=true)(hi:HO ren (cR I'.box)=true)
  (hb:D3 ren I.box (cR I'.box) I'.box) (he:NS ren I.env (cR I'.box) I'.env):aM R N I I':=by
 classical
 intro M V a w i
 let ks:=cR I'.box
 let V':Nm:=λx=>if x∈ks then V (look ren x)else none
 have jA:∀x,x∈ks->V' x=V (look ren x):=λx hx=>by simp[V',hx]
 have hβ:∀x p,V' x=some p->x∈ks/\V (look ren x)=some p:=λx p h=>by exact fv
 have EP:∀x,x∈ks->∀p,V (look ren x)=some p->V' x=some p:=λx hx p e=>by rw[jA x hx];exact e
 have QY:∀x y,x∈ks->y∈ks->look ren x=look ren y->x=y:=vt
 have live:∀x b k c,aH I'.box x=some (some b)->V' x=some (k,c)->x∈ks/\∃b0,aH I.box (look ren x)=some (some b0)/\V (look ren x)=some (k,c):=kg
 refine⟨V',i.defers,i.tmps,i.heap,λt=>NS.get EP he t _ (i.env t),i.mem,?_,?_,?_,?_,?_,?_⟩
 ·exact Iv
 ·exact zu
 ·exact vu
 ·exact zbL
 ·exact xf
 ·exact ko
def Lb:=@aM.of
def Qa{R:Cx}{N:Nat}{I I':St}(h:R.ref=[])(ren:List (Nat×Nat))(hi:HO ren (cR I'.box)=true)(hb:D3 ren I.box (cR I'.box) I'.box)(he:NS ren I.env (cR I'.box) I'.env):aM R N I I':=
 Lb ren Uk hi hb he
def nx{x:Nat}{z:Bool}(h:z=true):aU (.s (.mo z x)) (.s (.d (.val (.slice none 0 0)))):=λ_ _ _ r=>r.1 h
def aM.own{R:Cx}{N:Nat}{I:St}{e n s:Nat}{f:Nat->Nat->DV}{z:Bool}(t x:Nat)(ht:fL I.env t=.s (.mo z x))(hz:z=false)(hb:aH I.box x=some (some (.b8 e n s f))):
  aM R N I ⟨(t,.s (.own x))::I.env,(x,some (.row e n s f))::I.box⟩:=by
 intro M V a w i
 have r:=i.env t
 rw[ht]at r
 obtain⟨b,c,hx,hv,hc⟩:=r.2 hz
 obtain⟨cur,h1,h2,h3,h4,h5,h6⟩:=i.box x _ hb b c hx
 have live:∀y bc,aH ((x,some (.row e n s f))::I.box) y=some (some bc)->∃bc,aH I.box y=some (some bc):=zbx
 refine⟨V,i.defers,i.tmps,i.heap,?_,i.mem,?_,?_,?_,?_,?_,i.ref⟩
 ·intro u;show(fL ((t,_)::I.env) u).bI M V _;rw[gP];by_cases hu:t=u
  ·subst hu;rw[La rfl];exact⟨b,c,hx,hv,hc⟩
  rw[Ka hu];exact i.env u
 ·exact xj
 ·exact js
 ·exact zaq
 ·exact zcg
 ·exact zco
end Go.Ax
namespace Go.Ax
def Z{b:Bool}{x:AV}:b=b/\aU x x:=⟨rfl,Ta⟩
def bQ{b:Bool}{x:jK}:b=b/\aY x x:=⟨rfl,Lf⟩
def pI(R:Cx)(N:Nat)(I I':St):Prop:=∀M V a w,Inv R N M V I a w->∃M' V',Inv R N M' V' I' a w/\Grow R.B M M'
def pI.aFD{R:Cx}{N:Nat}{I I':St}(h:aM R N I I'):pI R N I I':=λM V a w i=>let⟨V',i'⟩:=h M V a w i;⟨M,V',i',fb _ _⟩
def Bk{P:Ba}{R:Cx}{N:Nat}{I I':St}{K:Exit->St->Prop}{c:Code}(h:pI R N I I')(k:AW P R N c I' K):AW P R N c I K:=by intro M V a w i;obtain⟨M',V',i',g⟩:=h M V a w i;exact Dg (k M' V' a w i') λ_ _ _ ⟨s,M2,la,hk,i2,g2,kp⟩=>⟨s,M2,la,hk,i2,g.trans g2,kp⟩
def Fz(box:aP)(fz:List Nat)(M:Mem)(V:Nm):Prop:=∀x,x∈fz->∀e n s f,aH box x=some (some (.row e n s f))->∀v,(SV.own x).bI M V v->(DV.fU n s f).bI M v
def b7(box:aP)(fz:List Nat)(x y:AV):Prop:=∀M V v,Fz box fz M V->x.bI M V v->y.bI M V v
def qb{box:aP}{fz:List Nat}{x:AV}:b7 box fz x x:=λ_ _ _ _ r=>r
def b7.then{box:aP}{fz:List Nat}{x y z:AV}(h:b7 box fz x y)(k:aU y z):b7 box fz x z:=λM V v f r=>k M V v (h M V v f r)
def b7.own{box:aP}{fz:List Nat}{x e n s:Nat}{f:Nat->Nat->DV}(hx:x∈fz)(hb:aH box x=some (some (.row e n s f))):b7 box fz (.s (.own x)) (.s (.d (.fU n s f))):=
 λ_ _ v hf r=>hf x hx e n s f hb v r
def Ee:=@b7.own
def SC(box:aP)(fz:List Nat):List SV->List SV->Prop
 |[],[]=>True
 |x::r,y::s=>b7 box fz (.s x) (.s y)/\SC box fz r s
 |_,_=>False
def SC.rep{box:aP}{fz:List Nat}{M:Mem}{V:Nm}(hf:Fz box fz M V):∀{l m:List SV} {vs:List wa},SC box fz l m->cV M V l vs->cV M V m vs
 |[],[],[],_,_=>trivial
 |_::_,_::_,_::_,⟨h,k⟩,⟨a,r⟩=>⟨h M V _ hf a,SC.rep hf k r⟩
 |[],_::_,_,h,_=>h.elim
 |_::_,[],_,h,_=>h.elim
 |[],[],_::_,_,h=>h.elim
 |_::_,_::_,[],_,h=>h.elim
def hI(box:aP)(fz:List Nat)(b b':jK):Prop:=∀M V w x,Fz box fz M V->cN M V w x b->cN M V w x b'
def ee{box:aP}{fz:List Nat}{b:jK}:hI box fz b b:=λ_ _ _ _ _ h=>h
def hI.cells{box:aP}{fz:List Nat}{l m:List SV}(h:SC box fz l m):hI box fz (.cells l) (.cells m):=by rintro M V w x hf ⟨b,c,vs,T,us,e1,h1,h2⟩;exact⟨b,c,vs,T,us,e1,h1,h.rep hf h2⟩
def Bo:=@hI.cells
def LP(ren:List (Nat×Nat))(fz:List Nat)(box:aP)(src:List (Nat×AV))(ks:List Nat):List (Nat×AV)->Prop
 |[]=>True
 |(t,v)::r=>(YH ks v=true/\b7 box fz (fL src t) (oC ren v))/\LP ren fz box src ks r
def aDN(ren:List (Nat×Nat))(fz:List Nat)(box:aP)(b:jK):Da (Da jK)->Prop
 |some (some b0)=>hI box fz b0 (jX ren b)
 |some none=>False
 |none=>b.real=false
def CL(ren:List (Nat×Nat))(fz:List Nat)(src:aP)(ks:List Nat):aP->Prop
 |[]=>True
 |(x,some b)::r=>(Jp ks b=true/\aDN ren fz src b (aH src (look ren x)))/\CL ren fz src ks r
 |(_,none)::r=>CL ren fz src ks r
def LP.get{ren:List (Nat×Nat)}{fz:List Nat}{box:aP}{src:List (Nat×AV)}{ks:List Nat}{M:Mem}{V V':Nm}(hf:Fz box fz M V)(h:∀x,x∈ks->∀p,V (look ren x)=some p->V' x=some p):∀{tgt:List (Nat×AV)},LP ren fz box src ks tgt->∀t v,(fL src t).bI M V v->(fL tgt t).bI M V' v
 |[],_,_,_,_=>trivial
 |(k,a)::r,⟨⟨h1,h2⟩,hr⟩,t,v,hv=>by
  rw[gP];by_cases e:k=t
  ·rw[La e];subst e;exact Lo h h1 (h2 M V v hf hv)
  rw[Ka e];exact LP.get hf h hr t v hv
def CL.get{ren:List (Nat×Nat)}{fz:List Nat}{src:aP}{ks:List Nat}:∀{tgt:aP},(∀x,x∈cR tgt->x∈ks)->CL ren fz src ks tgt->∀x b,aH tgt x=some (some b)->x∈ks/\Jp ks b=true/\aDN ren fz src b (aH src (look ren x))
 |[],_,_,_,_,h=>by cases h
 |(k,some c)::r,hk,⟨⟨h1,h2⟩,hr⟩,x,b,h=>by
  rw[aL]at h;by_cases e:k=x
  ·exact Hu
  rw[Ka e]at h;exact CL.get (λy hy=>hk y (by simp[cR,hy])) hr x b h
 |(k,none)::r,hk,hr,x,b,h=>by
  rw[aL]at h;by_cases e:k=x
  ·exact Pq
  rw[Ka e]at h;exact CL.get (tgt:=r) (λy hy=>hk y (oc _ hy)) hr x b h
def Oo:=@CL.get
def aG1:Da (Da jK)->Bool
 |some (some (.row _ _ _ _))=>true
 |_=>false
def pI.of{R:Cx}{N:Nat}{I I':St}(J:R.ref=[])(ren:List (Nat×Nat))(fz:List Nat)(hi:HO ren (cR I'.box)=true)(hz:(fz.all λx=>aG1 (aH I.box x))=true)(hd:((cR I'.box).all λx=> !fz.contains (look ren x))=true)
  (hb:CL ren fz I.box (cR I'.box) I'.box) (he:LP ren fz I.box I.env (cR I'.box) I'.env):pI R N I I':=by
 classical
 intro M V a w i
 let ks:=cR I'.box
 let isZ:Nat->Prop:=λb=>∃x c,x∈fz/\V x=some (b,c)
 let M':Mem:=λb o=>if isZ b then w.cell? ⟨b,o,none⟩else M b o
 have cQ:∀x,x∈fz->∃e n s f,aH I.box x=some (some (.row e n s f)):=by
  intro x hx;rw[Hd]at hz;have:=hz x hx;unfold aG1 at this;split at this
  ·rename_i e n s f h;exact⟨e,n,s,f,h⟩
  cases this
 have hMM:Mem.le M M':=by
  intro b o u h;by_cases hb:isZ b
  ·obtain⟨x,c,hx,e⟩:=hb;obtain⟨e',n,s,f,hg⟩:=cQ x hx;rw[i.apart x _ b c hg e o]at h;cases h
  simp only[M',Ka hb];exact h
 have hF:Fz I.box fz M' V:=by intro x hx e n s f hg v ⟨b,c,e1,ev,hc⟩;obtain⟨b',c',cur,e2,hh,hl,mL,hn,_,cY⟩:=i.box x _ hg;rw[e1]at e2;cases e2;subst ev;refine⟨some ⟨b,0,none⟩,c.1,by rw[hl],hn,.inr ⟨b,0,rfl,λk j hk hj=>?_⟩⟩;obtain⟨u,hu,hr⟩:=cY k j hk hj;have hZ:isZ b:=⟨x,c,hx,e1⟩;exact⟨u,by simp only[M',La hZ];simp[World.cell?,hh,hu],lg hMM hr⟩
 let V':Nm:=λx=>if x∈ks then V (look ren x)else none
 have jA:∀x,x∈ks->V' x=V (look ren x):=λx hx=>by simp[V',hx]
 have hβ:∀x p,V' x=some p->x∈ks/\V (look ren x)=some p:=λx p h=>by exact fv
 have EP:∀x,x∈ks->∀p,V (look ren x)=some p->V' x=some p:=λx hx p e=>by rw[jA x hx];exact e
 have QY:∀x y,x∈ks->y∈ks->look ren x=look ren y->x=y:=vt
 have hnz:∀x,x∈ks->look ren x∉fz:=by intro x hx;rw[Hd]at hd;simpa using hd x hx
 have live:∀x b k c,aH I'.box x=some (some b)->V' x=some (k,c)->x∈ks/\∃b0,aH I.box (look ren x)=some (some b0)/\V (look ren x)=some (k,c):=by
  intro x b k c h e;obtain⟨h1,h2,h3⟩:=Oo (λ_ h=>h) hb x b h;have e:=(hβ x _ e).2;obtain⟨y,hy⟩:=i.keys _ _ e;rw[hy]at h3
  cases y with
  |none=>exact h3.elim
  |some b0=>exact⟨h1,b0,hy,e⟩
 refine⟨M',V',⟨i.defers,i.tmps,i.heap,λt=>LP.get hF EP he t _ (Vf hMM (Kf V) (i.env t)),?_,?_,?_,?_,?_,?_,?_⟩,hMM,?_⟩
 ·intro b o u h;by_cases hb:isZ b
  ·simp only[M',La hb]at h;exact h
  simp only[M',Ka hb]at h;exact i.mem b o u h
 ·exact Iv
 ·intro x b h;obtain⟨h1,h2,h3⟩:=Oo (λ_ h=>h) hb x b h
  cases hs:aH I.box (look ren x)with
  |none=>
   rw[hs]at h3;have hn:V' x=none:=by
    rw[jA x h1]
    cases hb0:V (look ren x)with
    |none=>rfl
    |some p=>obtain⟨y,hy⟩:=i.keys _ _ hb0;rw[hs]at hy;cases hy
   cases b with
   |b8 e n s f=>intro k c e;rw[hn]at e;cases e
   |_=>cases h3
  |some y=>
   cases y with
   |none=>rw[hs]at h3;exact h3.elim
   |some b0=>
    rw[hs]at h3;have eD:=h3 M' V w (look ren x) hF (xh hMM (Kf V) rfl (λ_ _ _=>rfl) (i.box _ _ hs))
    cases b with
    |cells cs=>exact tf EP h1 h2 eD
    |row e n s f=>exact tf EP h1 rfl eD
    |b8 e n s f=>intro k c e;rw[jA x h1]at e;exact eD k c e
    |map vk l=>exact tf EP h1 rfl eD
    |smap vk l=>exact tf EP h1 rfl eD
    |dm l n=>exact tf EP h1 rfl eD
    |fresh T vs=>exact tf EP h1 rfl eD
    |iter m n seen=>exact tf EP h1 h2 eD
 ·exact vu
 ·intro x bx b c ex hx o;obtain⟨kx,b0,g0,e0⟩:=live x bx b c ex hx;have:¬isZ b:=by rintro⟨z,c',hz',e'⟩;obtain⟨e2,n,s,f,hg⟩:=cQ z hz';have:=i.inj _ _ _ _ b c' c hg g0 e' e0;subst this;exact hnz x kx hz'
  simp only[M',Ka this];exact i.apart _ b0 b c g0 e0 o
 ·exact xf
 ·intro x hx;rw[J]at hx;cases hx
 ·intro b o u h;by_cases hb:isZ b
  ·obtain⟨x,c,hx,e⟩:=hb;obtain⟨e',n,s,f,hg⟩:=cQ x hx;rcases i.low x _ b c hg e with h|⟨y,c',hy,_⟩
   ·exact .inr h
   rw[J]at hy;cases hy
  simp only[M',Ka hb]at h;exact .inl h
def Se:=@pI.of
def HH(xs:List Nat)(I:St)(x:SV):SV:=bif LA xs x then x else vX I x
def DM(xs:List Nat)(I:St):List SV->List SV
 |[]=>[]
 |x::r=>HH xs I x::DM xs I r
def aLU(xs:List Nat)(I:St):TV->TV
 |.s x=>.s (HH xs I x)
 |.g cs=>.g (DM xs I cs)
def sN(xs:List Nat)(I:St):List TV->List TV
 |[]=>[]
 |t::r=>aLU xs I t::sN xs I r
section
variable{R:Cx}{N:Nat}{M F:Mem}{V:Nm}{I:St}{a:Act}{w:Aa}
def HH.rep(xs:List Nat)(i:Inv R N M V I a w)(hM:Mem.le M F)(hF:∀x bc b c,aH I.box x=some (some bc)->V x=some (b,c)->∀o u,w.cell? ⟨b,o,none⟩=some u->F b o=some u){x:SV}{v:wa}(r:x.bI M V v):(HH xs I x).bI F V v:=by
 unfold HH
 cases LA xs x with
 |true=>exact km hM (Kf V) r
 |false=>exact Fo i hM hF 3 _ _ r
def DM.rep(xs:List Nat)(i:Inv R N M V I a w)(hM:Mem.le M F)(hF:∀x bc b c,aH I.box x=some (some bc)->V x=some (b,c)->∀o u,w.cell? ⟨b,o,none⟩=some u->F b o=some u):∀{cs:List SV} {vs:List wa},cV M V cs vs->cV F V (DM xs I cs) vs
 |[],[],_=>trivial
 |_::_,_::_,⟨h,r⟩=>⟨HH.rep xs i hM hF h,DM.rep xs i hM hF r⟩
 |[],_::_,h=>h.elim
 |_::_,[],h=>h.elim
def sN.rep(xs:List Nat)(i:Inv R N M V I a w)(hM:Mem.le M F)(hF:∀x bc b c,aH I.box x=some (some bc)->V x=some (b,c)->∀o u,w.cell? ⟨b,o,none⟩=some u->F b o=some u):∀{ts:List TV} {vs:List wa},rF M V ts vs->rF F V (sN xs I ts) vs
 |[],[],_=>trivial
 |.s _::_,_::_,⟨h,r⟩=>⟨HH.rep xs i hM hF h,sN.rep xs i hM hF r⟩
 |.g _::_,_::_,⟨⟨vs,e,h⟩,r⟩=>⟨⟨vs,e,DM.rep xs i hM hF h⟩,sN.rep xs i hM hF r⟩
 |[],_::_,h=>h.elim
 |_::_,[],h=>h.elim
end
def MF(T:List (Nat×bV))(rs:List ResultVar)(r:AV)(bx':eV):Exit->St->Prop
 |.ret,I=>match oQ T I rs with
  |some ts=>aU (yX (sN (names bx') ⟨I.env,jG I.box bx'⟩ ts)) r/\jI I.box bx'
  |none=>False
 |.normal,I=>match oQ T I rs with
  |some ts=>aU (yX (sN (names bx') ⟨I.env,jG I.box bx'⟩ ts)) r/\jI I.box bx'
  |none=>False
 |_,_=>False
section
variable{P:Ba}{T:List (Nat×bV)}
def gJ{f N:Nat}{fn:Func}{c:Code}{args:List AV}{bx:eV}{r:AV}{bx':eV}(hf:P.funcs[f]? =some fn)(hb:fn.body=some c)(hN:fn.ntmps=N)(eF:∀vs w,(callFunc f vs).run P w=.ok (.enter f vs) w)
  (hT:cD P T) (hl:Nat.ble args.length N=true) (qQ:((names bx).all λx=>(names bx').contains x)=true) (kJ:(bx'.all λp=>p.2.real)=true) {rs:List ResultVar} (NA:fn.results.toList=rs)
  (h:∀R:Cx,R.ref=names bx->AW P R N c (qM args bx) (MF T rs r bx')):bW P f args bx r bx':=by
 classical
 refine⟨eF,λM V w vs hG hr hM rJ hβ=>?_⟩
 apply Wn hf hb
 let R:Cx:={B:=w.heap.size,ref:=names bx,ma:=V}
 have hlen:=hr.length
 have hl:=Dc hl
 have hex:∀x,x∈names bx->∃p,V x=some p:=λx hx=>by exact Lq
 have i0:Inv R N M V (qM args bx) {tmps:=vs.toArray++Array.replicate (fn.ntmps-vs.toArray.size) undef,defers:=[]} w:=zb
 refine Yn (Xn.1 (h R rfl M V _ w i0)) ?_
 rintro e a' w' ⟨I',M',V',hk,i',hg,lB⟩
 have fin:∀ts,oQ T I' rs=some ts->aU (yX (sN (names bx') ⟨I'.env,jG I'.box bx'⟩ ts)) r->jI I'.box bx'->a'.defers=[]/\∃v,(results fn a'.tmps).run P w'=.ok v w'/\∃v' M' V',Ending.returned v=.returned v'/\Nm.le V V'/\r.bI M' V' v'/\Grow w.heap.size M M'/\lA M' w'/\sE M' V' w' bx'/\
   (∀x b c,x∈names bx'->V' x=some (b,c)->w.heap.size<=b\/∃y c',V y=some (b,c'))/\
   w'.os=w.os/\w'.tape=w.tape/\w'.output=w.output/\w.heap.size<=w'.heap.size/\(∀k,k<w.heap.size->(∀y c,V y≠some (k,c))->w'.heap[k]? =w.heap[k]?)/\Dr w w':=by
  intro ts uX fQ qS
  obtain⟨AY,a7,eD⟩:=yk hT i' uX
  let isB:Nat->Prop:=λb=>∃x c,x∈names bx'/\V' x=some (b,c)
  let F:Mem:=λb o=>if b<w.heap.size then M' b o else if isB b then none else w'.cell? ⟨b,o,none⟩
  have cQ:∀x,x∈names bx'->∃b,aH I'.box x=some (some b):=λx hx=>by exact Qq
  have hMF:Mem.le M' F:=λb o u e=>by exact ju
  have hFc:∀x bc b c,aH (jG I'.box bx') x=some (some bc)->V' x=some (b,c)->∀o u,w'.cell? ⟨b,o,none⟩=some u->F b o=some u:=uj
  have jJ:=sN.rep (names bx') (i'.shut bx') hMF hFc eD
  refine⟨i'.defers,(if h:AY.toArray.size=1 then AY.toArray[0]else .tuple AY.toArray),?_,_,F,V',rfl,?_,fQ F V' _ ?_,⟨λb o u e=>hMF b o u (hg.le b o u e),λb o u e=>?_⟩,λb o u e=>?_,?_,?_,lB.os,lB.tape,lB.output,lB.size,?_,lB.drawn⟩
  ·exact zj
  ·exact Nq
  ·cases QQ:sN (names bx') ⟨I'.env,jG I'.box bx'⟩ ts with
   |nil=>exact Jv
   |cons t r'=>exact zq
  ·exact zbN
  ·exact zap
  ·exact uh
  ·exact vg
  ·exact jy
 cases e with
 |ret=>exact zbV
 |normal=>exact zbV
 |_=>exact hk.elim
def eG{rc:List Nat}{f N:Nat}{fn:Func}{c:Code}{args:List AV}{bx:eV}{r:AV}{bx':eV}(hf:P.funcs[f]? =some fn)(hb:fn.body=some c)(hN:fn.ntmps=N)(eF:∀vs w,(callFunc f vs).run P w=.ok (.enter f vs) w)
  (hT:cD P T) (hm:P.follows .mixedOrders=true) (hl:Nat.ble args.length N=true) (qQ:((names bx).all λx=>(names bx').contains x)=true) (kJ:(bx'.all λp=>p.2.real)=true) {rs:List ResultVar} (NA:fn.results.toList=rs)
  (h:∀R:Cx,R.ref=names bx->ex P T N (names bx) rc R c (qM args bx) (MF T rs r bx')):bW P f args bx r bx':=
 gJ hf hb hN eF hT hl qQ kJ NA λR J=>Sb hT hm J c (h R J)
end
def sk{p q:Prop}(h:q):(p->p)/\q:=⟨id,h⟩
def st{q:Prop}(h:q):True/\q:=⟨trivial,h⟩
def sg{b:Bool}{q:Prop}(h:q):Q3 (b=false) (some (rL false b))/\q:=⟨λh=>by simpa[rL]using h,h⟩
def wl{b c:Bool}{q:Prop}(h:q):imp (some c) (Q3 (b=true) (some (c&&rL true b)))/\q:=⟨λh1 h2=>by simp[h1,h2,rL],h⟩
def Zk{b c:Bool}{q:Prop}(h:q):imp (some c) (Q3 (b=false) (some (c&&rL false b)))/\q:=⟨λh1 h2=>by simp[h1,h2,rL],h⟩
def su{c:Bool}{p q:Prop}(h:q):imp (some c) (Q3 p none)/\q:=⟨λ_=>trivial,h⟩
def ob{p q:Prop}(h:p)(k:q):p/\q:=⟨h,k⟩
def oi{p q:Prop}(h:p)(k:q):imp none p/\q:=⟨h,k⟩
def og{p q:Prop}{b:Bool}(h:b=true->p)(k:q):(b=true->p)/\q:=⟨h,k⟩
def bR{P:Ba}{f:FuncId}{args:List AV}{r:AV}{K:AV->Prop}{b:Bool}{X:Prop}(h:aF P f args r)(k:K r):(∃r,(b=true->aF P f args r)/\K r)\/X:=.inl ⟨r,λ_=>h,k⟩
def aB{P:Ba}{f:FuncId}{args:List AV}{r:AV}{K:AV->Prop}{X:Prop}(h:aF P f args r)(k:K r):(∃r,aF P f args r/\K r)\/X:=.inl ⟨r,h,k⟩
def Qe{n m s:Nat}{f g:Nat->Nat->DV}(e:n=m)(h:∀i j,i<n->j<s->aK (f i j) (g i j)):aK (.fU n s f) (.fU m s g):=by subst e;exact Yc h
def bj{I:St}{c:Nat->DV}:∀{k j:Nat},sV (jD I (jF c k j)) (jF c k j)
 |0,_=>trivial
 |_+1,_=>⟨Ja _,bj⟩
abbrev aW(n:Int):Int:=IntKind.i64.wrap n
abbrev dI(x:Int):DV:=.val (.int .i64 x)
abbrev vI(x:Int):AV:=.s (.d (.val (.int .i64 x)))
abbrev vB(b:Bool):AV:=.s (.d (.val (.bool b)))
def aC.lit{b c:Bool}(h:b=c):aC (.s (.d (.lit b))) (vB c):=by subst h;exactλ_ _ r=>r
def wc:=@aC.lit
def aG{n:Int}(h: -9223372036854775808<=n)(k:n<=9223372036854775807):aW n=n:=by unfold aW;exact Aw n ⟨h,k⟩
def cP(l:List Int):Nat->Nat->DV:=λi _=>dI (l.getD i 0)
def b5(l:List Int):DV:=.fU l.length 1 (cP l)
abbrev iR(l:List Int):AV:=.s (.d (b5 l))
end Go.Ax
namespace Go.Ax
open Go.RowKit
def dK{α:Type}(l:List α):(bif l.isEmpty then 0 else l.length)=l.length:=by cases l <;> rfl
def cA{α:Type}(l:List α)(x:α):(l++ [x]).isEmpty=false:=by cases l <;> rfl
def Nf{α:Type} [Inhabited α] {e s:Nat}{l:List α}{x:α}{el:α->Nat->DV}{g:Nat->Nat->DV}(hg:∀j,j<s->g 0 j=el x j):
  aY (.row e ((bif l.isEmpty then 0 else l.length)+1) s (jM (bif l.isEmpty then 0 else l.length) (λi=>el (l.getD i default)) g)) (.b8 e (l++ [x]).length s (λi=>el ((l++ [x]).getD i default))):=by
 rw[dK]
 refine aY.b8 sM λi j hi hj=>Wa ?_
 unfold jM
 by_cases h:i<l.length
 ·exact zcq
 ·have:i=l.length:=O;subst this;rw[Ka h,Td,hg j hj];exact zcc
def AS{p:Nat->Prop}(h:p 0):∀j,j<1->p j:=λj hj=>by match j,hj with|0,_=>exact h
def Fm{p:Nat->Prop}(h:p 0)(h1:p 1):∀j,j<2->p j:=λj hj=>by match j,hj with|0,_=>exact h|1,_=>exact h1
def Em{p:Nat->Prop}(h:p 0)(h1:p 1)(h2:p 2):∀j,j<3->p j:=λj hj=>by match j,hj with|0,_=>exact h|1,_=>exact h1|2,_=>exact h2
def Hm{p:Nat->Prop}(h:p 0)(h1:p 1)(h2:p 2)(h3:p 3):∀j,j<4->p j:=λj hj=>by match j,hj with|0,_=>exact h|1,_=>exact h1|2,_=>exact h2|3,_=>exact h3
def nJ{s:Nat}{g:Nat->Nat->DV}(h:∀j,j<s->(g 0 j).fit=true):fitAll 1 s g:=λk j hk hj=>by have:k=0:=O;subst this;exact h j hj
end Go.Ax
namespace Go.Ax
def aC.mo{α:Type}{l:List α}{s:Nat}{f:Nat->Nat->DV}:aC (.s (.d (.fU (bif l.isEmpty then 0 else l.length) s f))) (.s (.d (.fU l.length s f))):=Ia (by rw[dK])
def c8{V:Type}(f:Nat->Da V)(n:Nat):(List.range (n+1)).filterMap f=(List.range n).filterMap f++(f n).toList:=by
 rw[zw,List.filterMap_append]
 cases h:f n <;> simp[h]
def iJ{α:Type} [Inhabited α] (s n:Nat)(f:Nat->Nat->DV)(el:α->Nat->DV)(l:List α):Prop:=n=l.length/\∀i j,i<n->j<s->f i j=el (l.getD i default) j
section
variable{α:Type} [Inhabited α] {s n e:Nat}{f g:Nat->Nat->DV}{el:α->Nat->DV}{l:List α}{x:α}
def iJ.refl:iJ s l.length (λi=>el (l.getD i default)) el l:=⟨rfl,λ_ _ _ _=>rfl⟩
def Lr:=@iJ.refl
def wk(h:iJ s n f el l)(hg:∀j,j<s->g 0 j=el x j):iJ s (n+1) (jM n f g) el (l++ [x]):=by
 obtain⟨rfl,h⟩:=h;refine⟨sM,λi j hi hj=>?_⟩;unfold jM;by_cases hl:i<l.length
 ·rw[La hl,h i j hl hj];simp only[fc,Jc hl]
 have:i=l.length:=O;subst this;rw[Ka hl,Td,hg j hj];exact zcc
def iJ.one(hg:∀j,j<s->g 0 j=el x j):iJ s 1 g el [x]:=by refine⟨rfl,λi j hi hj=>?_⟩;have:i=0:=O;subst this;exact hg j hj
def iJ.row(h:iJ s n f el l):aY (.row e n s f) (.row e l.length s (λi=>el (l.getD i default))):=
 Bc h.1 λi j hi hj=>Wa (h.2 i j hi hj)
def iJ.fU(h:iJ s n f el l):aK (.fU n s f) (.fU l.length s (λi=>el (l.getD i default))):=
 Qe h.1 λi j hi hj=>Wa (h.2 i j hi hj)
end
def aU.lit{b c:Bool}(h:b=c):aU (.s (.d (.lit b))) (.s (.d (.val (.bool c)))):=by subst h;exactλ_ _ _ r=>r
def aU.int{x y:Int}(h:x=y):aU (.s (.d (.val (.int .i64 x)))) (vI y):=by subst h;exact Ta
def Fa{p:Prop}(h:p:=by repeat' first|refine⟨bQ,?_⟩|refine⟨Z,?_⟩|refine⟨⟨rfl,aU.int (aG O O)⟩,?_⟩|exact trivial):p:=h
def Ra:=@aU.int
def aU.bool{x y:Bool}(h:x=y):aU (.s (.d (.val (.bool x)))) (vB y):=by subst h;exact Ta
def aR{p q:Prop}(h:q)(hp:p:=by first|exact id|exact trivial|exact (sg trivial).1|exact (sh trivial).1|exact (su trivial).1|exact (wl trivial).1|exact (Zk trivial).1):p/\q:=⟨hp,h⟩
def aD{p q:Prop}(h:q)(hp:p:=by kernel_rfl):p/\q:=⟨hp,h⟩
def aI{p q:Prop}(h:p)(k:q):p/\q:=⟨h,k⟩
def rQ.{u,v}{α:Sort u}{V:Sort v}{a:α}{b:V}:a=a/\b=b:=⟨rfl,rfl⟩
def Ga{p:Prop}(h:p:=by repeat' first|refine⟨rQ,?_⟩|exact oO):p:=h
def oO:True:=trivial
def Rd(P:Ba)(t:Ea)(k:Nat){α:Type}(rep:α->List SV)(ok:α->Prop):Prop:=
 P.cellsOf t=k/\∀(H:Type) (enc:Ea×wa->H) (W:Aa) (base:Nat) (spare:Nat->Bool) (held:Bool) (Ma:Nat) (cs:List wa) (x:DataW H×List MemPlace),
  DataW.trod enc P W base spare held Ma t cs=some x->cs.length=k/\∃a,ok a/\cV (full W) nb (rep a) cs
def aH7{P:Ba}{t:Ea}{k:IntKind}(ht:P.underlying t=some (.int k))(hc:P.cellsOf t=1):
  Rd P t 1 (λn:Int=>[.d (.val (.int k n))]) (λn=>(Lit.int k n).wf=true):=by
 refine⟨hc,λH enc W base spare held Ma cs x h=>?_⟩
 obtain⟨n,rfl,_,hw⟩:=DataW.trod_int ht h
 exact⟨rfl,n,hw,rfl,trivial⟩
def aH6{P:Ba}{t:Ea}(ht:P.underlying t=some .string)(hc:P.cellsOf t=1):
  Rd P t 1 (λs:ta=>[.d (.val (.string s))]) (λs=>s.size<=9223372036854775807):=by
 refine⟨hc,λH enc W base spare held Ma cs x h=>?_⟩
 obtain⟨n,rfl,_,hs⟩:=DataW.trod_string ht h
 exact⟨rfl,n,hs,rfl,trivial⟩
def Rd.to{P:Ba}{t:Ea}{k:Nat}{α V:Type}{rep:α->List SV}{ok:α->Prop}{aA1:V->List SV}{ok':V->Prop}(h:Rd P t k rep ok)(g:α->V)(hr:∀a,aA1 (g a)=rep a)(ho:∀a,ok a->ok' (g a)):Rd P t k aA1 ok':=by refine⟨h.1,λH enc W base spare held Ma cs x e=>?_⟩;obtain⟨hl,a,ha,eD⟩:=h.2 H enc W base spare held Ma cs x e;exact⟨hl,g a,ho a ha,by rw[hr];exact eD⟩
def aA0{M:Mem}{V:Nm}{el:Nat->DV}:∀{cs:List SV} {vs:List wa},cV M V cs vs->(∀j,j<cs.length->cs[j]? =some (.d (el j)))->∀j,j<cs.length->∃u,vs[j]? =some u/\(el j).bI M u:=by intro cs vs hr he j hj;obtain⟨u,hu,r⟩:=hr.get (he j hj);exact⟨u,hu,r⟩
def kF{P:Ba}{t e:Ea}{s:Nat}{α:Type} [Inhabited α] {rep:α->List SV}{ok:α->Prop}(ht:P.underlying t=some (.slice e))(hc:P.cellsOf t=1)(h:Rd P e s rep ok)(hs:0<s)
  (el:α->Nat->DV) (hl:∀a,(rep a).length=s) (hel:∀a j,j<s->(rep a)[j]? =some (.d (el a j))):
  Rd P t 1 (λl:List α=>[.d (.fU l.length s λi=>el (l.getD i default))]) (λl=>l.length<=9223372036854775807/\∀a∈l,ok a):=by
 refine⟨hc,λH enc W base spare held Ma cs x hx=>?_⟩
 rcases Go.Deep.open_slice ht hx with⟨rfl,_⟩|⟨a,len,cap,m,n,D,Pl,rfl,hb,hle,hm,hmm,_,cY⟩
 ·exact⟨rfl,[],⟨sM,sM⟩,⟨none,0,rfl,mb _,.inl rfl⟩,trivial⟩
 ·have hlm:len<=m:=by rw[hmm];split <;> omega
  have key:∀i,i<len->∃v:α,ok v/\∀j,j<s->∃u,W.cell? (a.add (i*s+j))=some u/\(el v j).bI (full W) u:=by intro i hi;obtain⟨cs',h1,h2⟩:=cY i O;obtain⟨hlen,v,hv,hr⟩:=h.2 H enc W base spare held n cs' _ h2;refine⟨v,hv,λj hj=>?_⟩;obtain⟨u,hu,r⟩:=aA0 (el:=el v) hr (λj hj=>hel v j (by rw[hl]at hj;exact hj)) j (by rw[hl];exact hj);obtain⟨_,_,h3⟩:=World.cells?_some h1;have:=h3 j (by rw[h.1];exact hj);rw[hu,Go.Deep.add_add,h.1]at this;exact⟨u,this,r⟩
  obtain⟨F,hF⟩:=Go.Deep.choose_lt key;refine⟨rfl,(List.range len).map F,⟨by have:maxLen=9223372036854775807:=rfl;simp;omega,?_⟩,⟨some a,cap,sM,by simpa using hle,?_⟩,trivial⟩
  ·intro v hv;simp only[Lc,Gf]at hv;obtain⟨i,hi,rfl⟩:=hv;exact(hF i hi).1
  by_cases h0:len=0
  ·exact .inl (by simp[h0])
  right;obtain⟨u0,hu0,_⟩:=(hF 0 O).2 0 hs;obtain⟨b,o,spot⟩:=a;have aLZ:spot=none:=by have:=World.cell?_spot hu0;simpa[Addr.add]using this
  subst aLZ;refine⟨b,o,rfl,λi j hi hj=>?_⟩;simp only[bg,Ay]at hi;obtain⟨u,hu,r⟩:=(hF i hi).2 j hj;refine⟨u,?_,?_⟩
  ·rw[jV,<-Nat.add_assoc]at hu;exact hu
  show(el (((List.range len).map F).getD i default) j).bI (full W) u;rw[show((List.range len).map F).getD i default=F i by simp[hi]];exact r
def sq(P:Ba)(Y:List Field)(off k:Nat){α:Type}(rep:α->List SV)(ok:α->Prop):Prop:=
 ∀(H:Type) (enc:Ea×wa->H) (W:Aa) (base:Nat) (spare:Nat->Bool) (held:Bool) (n:Nat) (cs:List wa),cs.length=k->
  (∀f∈Y,∃x,DataW.trod enc P W base spare held n f.type ((cs.drop f.offset).take (P.cellsOf f.type))=some x)->∃a,ok a/\cV (full W) nb (rep a) (cs.drop off)
def jN{P:Ba}{k:Nat}:sq P [] k k (λ_:Unit=>[]) (λ_=>True):=by intro H enc W base spare held n cs hk _;rw[Kz O];exact⟨(),trivial,trivial⟩
def aS{P:Ba}{f:Field}{Y:List Field}{off k s:Nat}{α V:Type}{rep:α->List SV}{ok:α->Prop}{aA1:V->List SV}{ok':V->Prop}
  (ho:f.offset=off) (h:Rd P f.type s rep ok) (r:sq P Y (off+s) k aA1 ok'):sq P (f::Y) off k (λa:α×V=>rep a.1++aA1 a.2) (λa=>ok a.1/\ok' a.2):=by
 intro H enc W base spare held n cs hk hf
 obtain⟨x,hx⟩:=hf f sM
 obtain⟨hlen,a,ha,hr⟩:=h.2 H enc W base spare held n _ x hx
 obtain⟨b,hb,C1⟩:=r H enc W base spare held n cs hk (λg hg=>hf g (by simp[hg]))
 refine⟨(a,b),⟨ha,hb⟩,?_⟩
 rw[h.1,ho]at hr
 have:=hr.append C1
 rw[<-List.drop_drop,List.take_append_drop]at this
 exact this
def fI{P:Ba}{t:Ea}{Y:Array Field}{l:List Field}{k:Nat}{α:Type}{rep:α->List SV}{ok:α->Prop}(ht:P.underlying t=some (.struct Y))(hl:Y.toList=l)(hc:P.cellsOf t=k)(h:sq P l 0 k rep ok):
  Rd P t k rep ok:=by
 refine⟨hc,λH enc W base spare held Ma cs x hx=>?_⟩
 obtain⟨xs,n,_,_,hlen,hxl,hf⟩:=DataW.trod_struct ht hx
 obtain⟨a,ha,hr⟩:=h H enc W base spare held n cs (by rw[hlen,hc]) (λf hfm=>by
  rw[<-hl]at hfm;obtain⟨i,hi,e⟩:=Vj hfm;have h1:Y[i]? =some f:=by rw[<-Array.getElem?_toList,List.getElem?_eq_getElem hi,e]
  have:=hf i f h1;rw[List.getElem?_eq_getElem (by rw[hxl];simpa using hi)]at this;exact⟨_,this⟩)
 exact⟨by rw[hlen,hc],a,ha,by simpa using hr⟩
def Au(P:Ba)(t:Ea){α:Type}(rep:α->AV)(ok:α->Prop):Prop:=
 ∀(H:Type) (enc:Ea×wa->H) (W:Aa) (b0 base:Nat) (spare:Nat->Bool) (held:Bool) (v:wa) (d:DataW H) (ps:List MemPlace),
  Value.okWide P W .any b0 t v->DataW.Trod enc P W base spare held t v d ps->∃a,ok a/\(rep a).bI (full W) nb v
def VN{P:Ba}{t:Ea}{Y:Array Field}{k:Nat}{α:Type}{rep:α->List SV}{ok:α->Prop}(ht:P.underlying t=some (.struct Y))(h:Rd P t k rep ok):Au P t (λa=>.g (rep a)) ok:=by intro H enc W b0 base spare held v d ps hv ⟨Ma,hx⟩;simp only[Value.okWide,ht]at hv;obtain⟨cs,rfl,_⟩:=hv;obtain⟨_,a,ha,hr⟩:=h.2 H enc W base spare held Ma _ _ hx;exact⟨a,ha,cs.toList,sM,hr⟩
def aBH:TypeDesc->Bool
 |.bool=>true
 |.int _=>true
 |.string=>true
 |.slice _=>true
 |_=>false
def aN1{P:Ba}{t:Ea}{td:TypeDesc}{α:Type}{rep:α->SV}{ok:α->Prop}(ht:P.underlying t=some td)(hp:aBH td=true)(h:Rd P t 1 (λa=>[rep a]) ok):Au P t (λa=>.s (rep a)) ok:=by
 intro H enc W b0 base spare held v d ps hv ⟨Ma,hx⟩;obtain⟨_,a,ha,hr⟩:=h.2 H enc W base spare held Ma _ _ hx;have hc:v.cells.toList=[v]:=by
  cases v <;> first
   |rfl
   |(simp only[Value.okWide,ht]at hv
     cases td <;> simp_all [Cell.okWide,Cell.ok,aBH])
 rw[hc]at hr;exact⟨a,ha,hr.1⟩
end Go.Ax
namespace Go.Ax.aNY
open Ieee
def XM(r:Nat)(h:r<double.infRung):∃m i,double.read r=.number false m i/\m<2^53/\(i=double.leastPlace\/i=double.leastPlace+((r / 4503599627370496-1:Nat):Int)):=by
 have e1:double.signWeight=9223372036854775808:=by decide
 have e2:double.binade=4503599627370496:=by decide
 have e3:double.infRung=9218868437227405312:=by decide
 have e53:(2:Nat)^53=9007199254740992:=by decide
 rw[e53];have fZ:r<9223372036854775808:=by omega
 have hq:r / 9223372036854775808=0:=pw fZ;have hm:r%9223372036854775808=r:=Rh fZ;unfold Format.read;rw[e1,hq,hm,e2];by_cases hs:r<4503599627370496
 ·rw[La hs];exact⟨r,_,rfl,by omega,.inl rfl⟩
 rw[Ka hs,La h];refine⟨_,_,rfl,?_,.inr rfl⟩;have:=Cg r (show 0<4503599627370496 by decide);omega
def aJM(n drop:Nat)(h:n<2^53*2^drop):Toward.even.cut false n drop<=2^53:=by
 unfold Toward.cut;simp only;have hb:∀b:Bool,b.toNat<=1:=λb=>by cases b <;> decide
 have hg:n / 1<<<min drop (n.log2+2)<2^53:=by
  rw[cr,Nat.one_mul];by_cases hd:drop<=n.log2+2
  ·rw[Jy hd];exact Uv (by rw[Cj];exact h)
  rw[Nat.min_eq_right (by omega)];have:n<2^(n.log2+2):=Nat.lt_trans ow (Nat.pow_lt_pow_right (by decide) (by omega));rw[pw this];decide
 have:=hb (decide (1<<<min drop (n.log2+2)<2*(n%1<<<min drop (n.log2+2)))||(1<<<min drop (n.log2+2)==2*(n%1<<<min drop (n.log2+2))&&n / 1<<<min drop (n.log2+2)%2==1));omega
def BM(tA:Nat)(place:Int)(h0:tA≠0)(DR:double.leastPlace<=place+tA.log2-52)(TZ:place+tA.log2<=900):
  ∃m i,double.read (double.nearest false tA place)=.number false m i/\m<2^53/\i<=place+tA.log2-51/\ -1074<=i:=by
 have e0:double.fractionBits=52:=rfl
 have e2:double.binade=4503599627370496:=by decide
 have e3:double.infRung=9218868437227405312:=by decide
 have e4:double.leastPlace= -1074:=by decide
 have qP:max (place+(tA.log2:Int)-(double.fractionBits:Int)) double.leastPlace=place+tA.log2-52:=by rw[e0];exact Int.max_eq_left DR
 have aG3:Toward.even.cut false (tA<<<(place-(place+tA.log2-52)).toNat) ((place+(tA.log2:Int)-52)-place).toNat<=2^53:=by
  apply aJM;rw[cr];have hm:tA<2^(tA.log2+1):=ow;by_cases hk:52<=tA.log2
  ·have h1:(place-(place+tA.log2-52)).toNat=0:=by omega
   have h2:((place+(tA.log2:Int)-52)-place).toNat=tA.log2-52:=by omega
   rw[h1,h2,Nat.pow_zero,oh,<-Nat.pow_add];rw[show 53+(tA.log2-52)=tA.log2+1 by omega];exact hm
  have h1:(place-(place+tA.log2-52)).toNat=52-tA.log2:=by omega
  have h2:((place+(tA.log2:Int)-52)-place).toNat=0:=by omega
  rw[h1,h2,Nat.pow_zero,oh]
  calc tA*2^(52-tA.log2)<2^(tA.log2+1)*2^(52-tA.log2):=Az hm (Hy _)
   _=2^53:=by rw[<-Nat.pow_add];congr 1;omega
 unfold Format.nearest
 rw[Ka h0,qP]
 simp only[Format.word,Xj,rh]
 have e53:(2:Nat)^53=9007199254740992:=by decide
 rw[e53]at aG3
 generalize Toward.even.cut false (tA<<<(place-(place+tA.log2-52)).toNat) ((place+(tA.log2:Int)-52)-place).toNat=kept at aG3⊢
 rw[e2,e3,e4]
 have hA:(place+(tA.log2:Int)-52 - -1074).toNat=(place+tA.log2+1022).toNat:=by congr 1;omega
 rw[hA]
 generalize hAe:(place+(tA.log2:Int)+1022).toNat=A
 rw[e4]at DR
 have hAi:(A:Int)=place+tA.log2+1022:=by omega
 have hA1:A<=1922:=by omega
 have aIY:min (A*4503599627370496+kept) 9218868437227405312=A*4503599627370496+kept:=by apply Jy;omega
 rw[aIY]
 have fZ:A*4503599627370496+kept<double.infRung:=by rw[e3];clear aIY DR TZ hAi qP hA;omega
 obtain⟨m,i,hr,hm,hi⟩:=XM _ fZ
 rw[e4]at hi
 refine⟨m,i,hr,hm,?_⟩
 have hdiv:(A*4503599627370496+kept) / 4503599627370496<=A+2:=by
  have h1:A*4503599627370496+kept<=(A+2)*4503599627370496:=by rw[de];clear aIY DR TZ hAi qP hA fZ hr hi;omega
  have h2:=Nat.div_le_div_right (c:=4503599627370496) h1;rw[Nat.mul_div_cancel _ (by decide)]at h2;exact h2
 generalize (A*4503599627370496+kept) / 4503599627370496=D at hdiv hi
 rcases hi with rfl|rfl
 ·exact⟨by omega,by omega⟩
 ·exact⟨by omega,by omega⟩
def EC(n:Nat):∀(todo root:Nat),root*root<=n->Datum.rootFrom n todo root*Datum.rootFrom n todo root<=n
 |0,_,h=>h
 |todo+1,root,h=>by
  unfold Datum.rootFrom;simp only;apply EC n todo;split
  ·assumption
  exact h
def MY{a b:Nat}(h0:a≠0)(h:a<2^(b+1)):a.log2<=b:=by have:=Nat.log2_self_le h0;exact Nat.le_of_lt_succ ((Nat.pow_lt_pow_iff_right (by decide:1<2)).1 (Nat.lt_of_le_of_lt this h))
def SS(s:Int)(h0:0<=s)(hs:s<2^43):∃r n,FloatKind.f64.format.sqrt (FloatKind.f64.nearest s)=some r/\(FloatKind.f64.decode r).toInt .zero=some n/\0<=n/\n<2^24:=by
 have e4:double.leastPlace= -1074:=by decide
 have e0:double.fractionBits=52:=rfl;have hf:FloatKind.f64.format=double:=rfl;by_cases hz:s=0
 ·subst hz;exact⟨0,0,by decide+kernel,by decide+kernel,by decide,by decide⟩
 obtain⟨k,rfl⟩:=Tx h0;have QW:k≠0:=by intro h;exact hz (by simp[h])
 have hk:k<2^43:=by exact_mod_cast hs
 have hlk:k.log2<=42:=MY QW hk;have hn:FloatKind.f64.nearest (k:Int)=double.nearest false k 0:=by
  unfold FloatKind.nearest FloatKind.encode;rw[hf];have:decide ((k:Int)<0)=false:=by simp
  simp only[this,Int.natAbs_natCast,Format.write]
 obtain⟨m,i,hr,hm,hi,hi2⟩:=BM k 0 QW (by rw[e4];omega) (by omega);obtain⟨d,hd,hdn⟩:∃d,(Datum.number false m i).root 54=some d/\∃tA p,d=.number false tA p/\(tA=0\/(tA≠0/\p+tA.log2<=22/\ -1022<=p+tA.log2)):=by
  by_cases hm0:m=0
  ·subst hm0;exact⟨_,rfl,0,i,rfl,.inl rfl⟩
  unfold Datum.root;simp only[hm0,rh];have hlm:m.log2<=52:=MY hm0 hm;have aQN:((2*54-m.log2:Nat):Int)=108-m.log2:=by omega
  obtain⟨q,hq,hq2⟩:∃q:Nat,((i-((2*54-m.log2:Nat):Int))%2).toNat=q/\q<=1:=⟨_,rfl,by omega⟩;rw[hq];have hn0:(m<<<(2*54-m.log2+q))<2^110:=by
   rw[cr]
   calc m*2^(2*54-m.log2+q)<2^(m.log2+1)*2^(2*54-m.log2+q):=Az ow (Hy _)
    _=2^(109+q):=by rw[<-Nat.pow_add];congr 1;omega
    _<=2^110:=Nat.pow_le_pow_right (by decide) (by omega)
  have hn1:1<=m<<<(2*54-m.log2+q):=by rw[cr];exact Nat.mul_pos (Nat.pos_of_ne_zero hm0) (Hy _)
  generalize hN:m<<<(2*54-m.log2+q)=N at hn0 hn1⊢;have hsq:=EC N (N.log2 / 2+1) 0 (by omega);generalize Datum.rootFrom N (N.log2 / 2+1) 0=root at hsq⊢;have aQI:root<2^55:=by
   rcases Ql root (2^55)with h|h
   ·exact h
   have:=Nat.mul_le_mul h h;have e:(2:Nat)^55*2^55=2^110:=by decide
   omega
  have hb:(root*root !=N).toNat<=1:=by cases(root*root !=N) <;> decide
  generalize (root*root !=N).toNat=bb at hb;refine⟨_,rfl,2*root+bb,_,rfl,?_⟩;by_cases hz2:2*root+bb=0
  ·exact .inl hz2
  right;have hl:(2*root+bb).log2<=55:=MY hz2 (by omega);refine⟨hz2,?_,?_⟩
  ·omega
  omega
 obtain⟨tA,p,rfl,hmp⟩:=hdn;have hsq:FloatKind.f64.format.sqrt (FloatKind.f64.nearest (k:Int))=some (double.nearest false tA p):=by rw[hf,hn];unfold Format.sqrt;rw[hr,e0,hd];rfl
 rcases hmp with rfl|⟨h1,h2,h3⟩
 ·refine⟨_,0,hsq,?_,by decide,by decide⟩;have:double.nearest false 0 p=0:=rfl;rw[this];decide+kernel
 obtain⟨m',i',C1,NC,bC,aQP⟩:=BM tA p h1 (by rw[e4];omega) (by omega);have hg:FloatKind.f64.decode (double.nearest false tA p)=.number false m' i':=C1;refine⟨_,_,hsq,by rw[hg];rfl,?_⟩;simp only[signed,Xj,rh,Nat.shiftLeft_zero];have TY:i'.toNat=0:=by omega
 rw[TY,Nat.shiftLeft_zero];unfold Toward.cut;simp only[Bool.toNat_false,nh];refine⟨Int.natCast_nonneg _,?_⟩;have:m' / 1<<<min (-i').toNat (m'.log2+2)<2^24:=by
  rw[cr,Nat.one_mul];by_cases hd:(-i').toNat<=m'.log2+2
  ·rw[Jy hd];apply Uv
   calc m'<2^53:=NC
    _=2^29*2^24:=by decide
    _<=2^(-i').toNat*2^24:=Vc _ (Nat.pow_le_pow_right (by decide) (by omega))
  rw[Nat.min_eq_right (by omega)];have:m'<2^(m'.log2+2):=Nat.lt_trans ow (Nat.pow_lt_pow_right (by decide) (by omega));rw[pw this];decide
 exact_mod_cast this
end Go.Ax.aNY
