/- Part 1: lemmas that the proofs of this seat share; by itself it claims nothing. -/
import Derived.Lib.LaidTab
import Derived.Lib.ItoaNum
import Derived.TacticsIn
import Derived.OrdersIn
import Derived.Laws.Slices
import Derived.Great.BuildSlice
import Derived.IntWalk
import Derived.Lib.ConvBytes
import Derived.Laws.IdiomCopy
import Derived.Maps.RangeRun
import Derived.Carry
--AxTab
namespace Go.Ax
def aBG:Array Value:=(Go.Lib.pow10Tab.map fun z=>Value.int .u64 z).toArray
structure aD2 where
 t2:TypeId
 p2:Value
 t3:TypeId
 p3:Value
 m:Int
def tE(x:aD2):List (Nat×Array Value):=
 [(1, #[.int .i64 x.m]),(0,aBG),(6, #[.iface x.t2 x.p2]),(7, #[.iface x.t3 x.p3])]
def L7:List Nat:=[185]
def aJ7:List Nat:=[183]
theorem za{p:Prop}(h:p:=by
 have h1:s.v>0:=bG h1
 obtain⟨k',rfl,hJ2⟩:=hJ.step h1
 refine AW.block ?_
 refine sX aA ?_
 refine sX aA ?_
 refine AW.gR (σ':=⟨[(1,.s (.j0 1001 14 s.lo (n - s.lo))),(2,.s (.ptr 2 0)),(6,.s (.mo s.out.isEmpty 100)),(7,vI s.v),(8,vI s.p),(9,.s (.ptr 9 0))],[(1001,some (.row 217 n 14 (j9 s.cur))),(2,some (.cells [.d (dI pt.month),.d (dI pt.cell),.d (dS pt.aN),.d (dI pt.iZ),.d (dI pt.gV),.d (dI pt.load),.d (dS pt.dN)])),(100,some (.b8 109 s.out.length 7 (eJ s.out))),(9,some (.cells [.d (dI pt.month),.d (dI pt.cell),.d (dS pt.aN),.d (dI s.v),.d (dI pt.gV),.d (dI pt.load),.d (dS pt.dN)]))]⟩) (aM.of [] (by rw[aA];rfl) rfl ⟨bQ,bQ,bQ,bQ,oO⟩ ⟨qZ,qZ,qZ,qZ,qZ,qZ,oO⟩) ?_
 have aMN:(a6 pt s).cur.length=n:=hJ2.len
 refine AW.cut (σ':=⟨[(1,.s (.j0 1001 14 (a6 pt s).lo (n - (a6 pt s).lo))),(2,.s (.ptr 2 0)),(6,.s (.mo s.out.isEmpty 100)),(7,vI s.v),(8,vI s.p),(9,.s (.ptr 9 0))],[(1001,some (.row 217 n 14 (j9 (a6 pt s).cur))),(2,some (.cells [.d (dI pt.month),.d (dI pt.cell),.d (dS pt.aN),.d (dI pt.iZ),.d (dI pt.gV),.d (dI pt.load),.d (dS pt.dN)])),(100,some (.b8 109 s.out.length 7 (eJ s.out))),(9,some (.cells [.d (dI pt.month),.d (dI pt.cell),.d (dS pt.aN),.d (dI (xD s)),.d (dI pt.gV),.d (dI (I8 pt s)),.d (dS (FG pt s))]))]⟩) ?_ ?_
 ·refine sX aA ?_
  refine AW.cond ?_
  refine aI (fun h2=>?_) (fun h2=>AW.skip ?_)
  ·have h2:((n - s.lo:Nat):Int)>0:=bG h2
   have fZ:s.lo<n:=oM
   have wH:decide (s.lo<s.cur.length)=true:=decide_eq_true oM
   have YY:xD s=mm false s.v (s.cur.getD s.lo default).2:=by unfold xD;rw[wH];rfl
   have el:I8 pt s=(s.cur.getD s.lo default).1.number:=by unfold I8;rw[wH];rfl
   have ep:FG pt s=(s.cur.getD s.lo default).1.dN:=by unfold FG;rw[wH];rfl
   refine sX aA ?_
   refine oi ⟨oM,oM⟩ ?_
   refine oi (show s.lo+(0:Int).toNat<n by omega) ?_
   refine AW.gR (σ':=⟨[(1,.s (.j0 1001 14 s.lo (n - s.lo))),(2,.s (.ptr 2 0)),(6,.s (.mo s.out.isEmpty 100)),(7,vI s.v),(8,vI s.p),(9,.s (.ptr 9 0))],[(1001,some (.row 217 n 14 (j9 s.cur))),(2,some (.cells [.d (dI pt.month),.d (dI pt.cell),.d (dS pt.aN),.d (dI pt.iZ),.d (dI pt.gV),.d (dI pt.load),.d (dS pt.dN)])),(100,some (.b8 109 s.out.length 7 (eJ s.out))),(9,some (.cells [.d (dI pt.month),.d (dI pt.cell),.d (dS pt.aN),.d (dI (xD s)),.d (dI pt.gV),.d (dI pt.load),.d (dS pt.dN)]))]⟩) (aM.of [] (by rw[aA];rfl) rfl ⟨bQ,bQ,bQ,⟨rfl,aY.of_eq (by rw[YY];rfl)⟩,oO⟩ ⟨qZ,qZ,qZ,qZ,qZ,qZ,oO⟩) ?_
   refine sX aA ?_
   refine oi ⟨oM,oM⟩ ?_
   refine oi (show s.lo+(0:Int).toNat<n by omega) ?_
   refine oi ⟨oM,oM⟩ ?_
   refine oi (show s.lo+(0:Int).toNat<n by omega) ?_
   refine aD ?_
   refine AW.gR (σ':=⟨[(1,.s (.j0 1001 14 s.lo (n - s.lo))),(2,.s (.ptr 2 0)),(6,.s (.mo s.out.isEmpty 100)),(7,vI s.v),(8,vI s.p),(9,.s (.ptr 9 0))],[(1001,some (.row 217 n 14 (j9 s.cur))),(2,some (.cells [.d (dI pt.month),.d (dI pt.cell),.d (dS pt.aN),.d (dI pt.iZ),.d (dI pt.gV),.d (dI pt.load),.d (dS pt.dN)])),(100,some (.b8 109 s.out.length 7 (eJ s.out))),(9,some (.cells [.d (dI pt.month),.d (dI pt.cell),.d (dS pt.aN),.d (dI (xD s)),.d (dI pt.gV),.d (dI (I8 pt s)),.d (dS (FG pt s))]))]⟩) (aM.of [] (by rw[aA];rfl) rfl ⟨bQ,bQ,bQ,⟨rfl,aY.of_eq (by rw[el,ep];rfl)⟩,oO⟩ ⟨qZ,qZ,qZ,qZ,qZ,qZ,oO⟩) ?_
   have e2:(a6 pt s).cur=s.cur.set s.lo ((s.cur.getD s.lo default).1,aW ((s.cur.getD s.lo default).2 - xD s)):=by rw[YY];unfold a6;rw[wH];rfl
   have e1:(a6 pt s).lo=bif aW ((s.cur.getD s.lo default).2 - xD s)==0 then s.lo+1 else s.lo:=by rw[YY];unfold a6;rw[wH];rfl
   refine sX aA ?_
   refine oi ⟨oM,oM⟩ ?_
   refine oi (show s.lo+(0:Int).toNat<n by omega) ?_
   refine oi ⟨oM,oM⟩ ?_
   refine ob (show s.lo+(0:Int).toNat<n by omega) ?_
   refine aD ?_
   refine AW.gR (σ':=⟨[(1,.s (.j0 1001 14 s.lo (n - s.lo))),(2,.s (.ptr 2 0)),(6,.s (.mo s.out.isEmpty 100)),(7,vI s.v),(8,vI s.p),(9,.s (.ptr 9 0))],[(1001,some (.row 217 n 14 (j9 (a6 pt s).cur))),(2,some (.cells [.d (dI pt.month),.d (dI pt.cell),.d (dS pt.aN),.d (dI pt.iZ),.d (dI pt.gV),.d (dI pt.load),.d (dS pt.dN)])),(100,some (.b8 109 s.out.length 7 (eJ s.out))),(9,some (.cells [.d (dI pt.month),.d (dI pt.cell),.d (dS pt.aN),.d (dI (xD s)),.d (dI pt.gV),.d (dI (I8 pt s)),.d (dS (FG pt s))]))]⟩) (aM.of [] (by rw[aA];rfl) rfl ⟨⟨rfl,aY.row rfl fun a c ha hc=>aK.of_eq (by rw[e2];exact aGX (x:=aW ((s.cur.getD (s.lo+(0:Int).toNat) default).2 - xD s)) oM oM hc)⟩,bQ,bQ,bQ,oO⟩ ⟨qZ,qZ,qZ,qZ,qZ,qZ,oO⟩) ?_
   have hg:((a6 pt s).cur.getD s.lo default).2=aW ((s.cur.getD s.lo default).2 - xD s):=by
    rw[e2]
    simp[List.getD_eq_getElem?_getD,show s.lo<s.cur.length by omega]
   refine sX aA ?_
   refine oi ⟨oM,oM⟩ ?_
   refine oi (show s.lo+(0:Int).toNat<n by omega) ?_
   refine AW.cond ?_
   refine aI (fun h3=>?_) (fun h3=>AW.skip ?_)
   ·have h3:(((a6 pt s).cur.getD s.lo default).2==0)=true:=h3
    rw[hg]at h3
    rw[h3]at e1
    have e1:(a6 pt s).lo=s.lo+1:=e1
    refine eX aA ?_
    refine oi (show(0:Int)≤1∧(1:Int)≤((n - s.lo:Nat):Int)∧((n - s.lo:Nat):Int)≤((n - s.lo:Nat):Int) by omega) ?_
    exact⟨rfl,aM.of [] (by rw[aA];rfl) rfl ⟨bQ,bQ,bQ,bQ,oO⟩ ⟨⟨rfl,aU.of_eq (by rw[e1,show n - (s.lo+1)=n - s.lo - 1 by omega];rfl)⟩,qZ,qZ,qZ,qZ,qZ,oO⟩⟩
   ·have h3:(((a6 pt s).cur.getD s.lo default).2==0)=false:=h3
    rw[hg]at h3
    rw[h3]at e1
    have e1:(a6 pt s).lo=s.lo:=e1
    exact⟨rfl,aM.of [] (by rw[aA];rfl) rfl ⟨bQ,bQ,bQ,bQ,oO⟩ ⟨⟨rfl,aU.of_eq (by rw[e1];rfl)⟩,qZ,qZ,qZ,qZ,qZ,oO⟩⟩
  ·have h2:¬((n - s.lo:Nat):Int)>0:=bF h2
   have wH:decide (s.lo<s.cur.length)=false:=decide_eq_false oM
   have YY:xD s=s.v:=by unfold xD;rw[wH];rfl
   have el:I8 pt s=pt.load:=by unfold I8;rw[wH];rfl
   have ep:FG pt s=pt.dN:=by unfold FG;rw[wH];rfl
   have e1:(a6 pt s).lo=s.lo:=by unfold a6;rw[wH];rfl
   have e2:(a6 pt s).cur=s.cur:=by unfold a6;rw[wH];rfl
   exact⟨rfl,aM.of [] (by rw[aA];rfl) rfl ⟨⟨rfl,aY.of_eq (by rw[e2];rfl)⟩,bQ,bQ,⟨rfl,aY.of_eq (by rw[YY,el,ep];rfl)⟩,oO⟩ ⟨⟨rfl,aU.of_eq (by rw[e1];rfl)⟩,qZ,qZ,qZ,qZ,qZ,oO⟩⟩
 ·refine sX aA ?_
  refine sX aA ?_
  refine aD ?_
  refine eX aA ?_
  refine ob dC ?_
  refine ob (by rw[dK];show(s.out.length+1)*72≤_;omega) ?_
  refine ob (nJ fun c hc=>by match c,hc with|0,_|1,_|2,_|3,_|4,_|5,_|6,_=>rfl) ?_
  refine⟨(k',a6 pt s),hJ2,Nat.lt_succ_self _,?_⟩
  refine aM.of [(100,73)] (by rw[aA];rfl) rfl ⟨bQ,bQ,⟨rfl,?_⟩,oO⟩ ⟨qZ,qZ,⟨rfl,aU.mo (by rw[lJ];exact cA _ _)⟩,⟨rfl,aU.int (L8 pt s).symm⟩,⟨rfl,aU.int (L9 pt s).symm⟩,oO⟩
  show aY _ (.b8 109 (a6 pt s).out.length 7 (eJ (a6 pt s).out))
  rw[lJ]
  refine aY.snoc (el:=aE7) (x:=⟨pt.month,pt.cell,pt.aN,xD s,mm false s.p (xD s),I8 pt s,FG pt s⟩) (fun c hc=>?_)
  have hc:c<7:=hc
  match c,hc with|0,_|1,_|2,_|3,_|4,_|5,_|6,_=>rfl):p:=h
theorem zb{p:Prop}(h:p:=by
 refine⟨rfl,by simp;omega,⟨Nat.le_refl _,by obtain⟨bs,hG,hN2⟩:=hG;exact⟨bs,hG,fun g t m=>⟨hG.lt m,by rintro⟨x,c,_,hx⟩;exact hN2 g t m x c hx⟩⟩⟩,fun t=>?_,hM,fun x p e=>gO.has (hβ x p e),fun x b e=>rJ.rep x b (gO.get e),fun x y b1 b2 b c c' h1 h2 e1 e2=>?_,fun x b1 b c h1 e=>?_,fun x b1 b c h1 e=>?_,fun x hx=>⟨rfl,hex x hx⟩⟩
 ·have:=tW.rep (k:=0) (t:=t) (List.replicate (fn.ntmps - vs.length) undef) hr (Nat.zero_le _)
  simp only [Nat.sub_zero]at this
  simp only [qM]
  have e:(vs.toArray++Array.replicate (fn.ntmps - vs.toArray.size) undef).getD t undef=(vs++List.replicate (fn.ntmps - vs.length) undef).getD t undef:=by
   simp[←List.toArray_replicate]
  rw[e]
  exact this
 ·exact rJ.inj x y b c c' (dG (gO.get h1)) (dG (gO.get h2)) e1 e2
 ·exact rJ.apart x b c (dG (gO.get h1)) e
 ·exact .inr ⟨x,c,dG (gO.get h1),e⟩):p:=h
theorem zc{p:Prop}(h:p:=by
 rw[hd,cL]at he
 rw[hg]
 refine aI (fun h=>?_) (fun h=>?_)
 ·refine aC.of_eq ?_
  rw[he,h];rfl
 ·refine⟨i+1,⟨oM,?_⟩,oM,?_⟩
  ·rw[he,h];rfl
  ·refine Sub.bD aA trivial ⟨rQ,rQ,rQ,⟨rfl,?_⟩,rQ,oO⟩
   exact congrArg vI (aG oM oM)):p:=h
theorem zd{p:Prop}(h:p:=by
 rintro i ⟨hi,he⟩
 refine eX aA ?_
 refine aI (fun h=>?_) (fun h=>?_)
 ·have h:(i:Int)<l.length:=bG h
  have bC:i<l.length:=oM
  have hd:l.drop i=l[i]::l.drop (i+1):=List.drop_eq_getElem_cons bC
  have hg:l.getD i default=l[i]:=aX bC
  refine oi ⟨oM,oM⟩ ?_
  refine aB ((hp (l.getD i default) (by rw[hg];simp)).conv (args':=_) ⟨⟨aK.refl _,aK.refl _,aK.refl _,oO⟩,sV.jF⟩) ?_
  rw[hd,cL]at he
  rw[hg]
  refine aI (fun h=>?_) (fun h=>?_)
  ·refine aC.of_eq ?_
   rw[he,h];rfl
  ·refine⟨i+1,⟨oM,?_⟩,oM,?_⟩
   ·rw[he,h];rfl
   ·refine Sub.bD aA trivial ⟨rQ,rQ,rQ,⟨rfl,?_⟩,rQ,oO⟩
    exact congrArg vI (aG oM oM)
 ·have h:¬(i:Int)<l.length:=bF h
  have bC:i=l.length:=oM
  subst bC
  refine aC.of_eq ?_
  rw[he,List.drop_length];rfl):p:=h
theorem zg{p:Prop}(h:p:=by
 have TP:(cur.toList.take (ix*s+off)).length=ix*s+off:=by simp;omega
 simp only [List.getElem?_toArray]
 by_cases jA:i'=ix∧off≤j∧j<off+cs.length
 ·obtain⟨rfl,hj1,hj2⟩:=jA
  have tC:j - off<cs.length:=oM
  have hd:=o5.OP hc.1.1 (List.getElem?_eq_getElem tC)
  obtain⟨u,hu,hrr⟩:=FJ.get (List.getElem?_eq_getElem tC)
  refine⟨u,?_,?_⟩
  ·rw[List.getElem?_append_right oM,TP,List.getElem?_append_left oM]
   rw[show i'*s+j - (i'*s+off)=j - off by omega]
   exact hu
  ·have b1:Nat.ble off j=true:=Nat.ble_eq_true_of_le hj1
   have b2:Nat.blt j (off+cs.length)=true:=Nat.ble_eq_true_of_le hj2
   simp only [eT,if_true,b1,b2,Bool.and_true,cond_true,List.getElem?_eq_getElem tC]
   rw[hd]at hrr
   exact hrr
 ·obtain⟨u,hu,hrr⟩:=cY i' j bC hj
  have fJ:i'*s+j<ix*s+off∨ix*s+off+us.length≤i'*s+j:=by
   rcases Nat.lt_trichotomy i' ix with h|h|h
   ·have:(i'+1)*s≤ix*s:=Nat.mul_le_mul_right _ h
    rw[Nat.succ_mul]at this;omega
   ·subst h;omega
   ·have:(ix+1)*s≤i'*s:=Nat.mul_le_mul_right _ h
    rw[Nat.succ_mul]at this;omega
  refine⟨u,?_,?_⟩
  ·rcases fJ with h|h
   ·rw[List.getElem?_append_left oM,List.getElem?_take_of_lt h]
    simpa using hu
   ·rw[List.getElem?_append_right oM,TP,List.getElem?_append_right oM,List.getElem?_drop]
    rw[show ix*s+off+us.length+(i'*s+j - (ix*s+off) - us.length)=i'*s+j by omega]
    simpa using hu
  ·have:eT f ix off cs i' j=f i' j:=by
    unfold eT
    split
    ·rename_i h
     cases hbb:(Nat.ble off j&&Nat.blt j (off+cs.length))with
     |false=>rfl
     |true=>
      simp only [Bool.and_eq_true]at hbb
      exact absurd ⟨h,Nat.le_of_ble_eq_true hbb.1,Nat.le_of_ble_eq_true hbb.2⟩ jA
    ·rfl
   rw[this]
   exact hrr):p:=h
theorem zh{p:Prop}(h:p:=by
 intro n
 induction n with
 |zero=>intro x _;cases x <;> rfl
 |succ n ih=>
  intro x h
  have cat:∀{α:Type} (f f':α→List Nat) (l:List α),(∀c,c∈l→f' c=f c)→dV f' l=dV f l:=by
   intro α f f' l hl
   induction l with
   |nil=>rfl
   |cons c r ihl=>simp only [dV];rw[hl c sM,ihl (fun c hc=>hl c (List.mem_cons_of_mem _ hc))]
  cases x with
  |ptr x off=>
   simp only [reach,h x (by simp[reach])]
   congr 1
   cases hb:aH σ.box x with
   |none=>rfl
   |some y=>cases y with
    |none=>rfl
    |some bc=>cases bc with
     |row e n s f=>rfl
     |b8 e n s f=>rfl
     |map vk l=>rfl
     |smap vk l=>rfl
     |dm l n=>rfl
     |fresh T vs=>rfl
     |iter q n t=>rfl
     |cells cs=>
      simp only
      refine cat _ _ cs (fun c hc=>ih c (fun m hm=>h m ?_))
      simp only [reach,hb]
      obtain⟨j,hj⟩:=List.getElem?_of_mem hc
      exact List.mem_cons_of_mem _ (iT hj hm)
  |j0 x s lo q=>
   simp only [reach,h x (by simp[reach])]
   congr 1
   cases hb:aH σ.box x with
   |none=>rfl
   |some y=>cases y with
    |none=>rfl
    |some bc=>cases bc with
     |row e n s f=>rfl
     |b8 e n s f=>rfl
     |map vk l=>rfl
     |smap vk l=>rfl
     |dm l n=>rfl
     |fresh T vs=>rfl
     |iter q n t=>rfl
     |cells cs=>
      simp only
      refine cat _ _ cs (fun c hc=>ih c (fun m hm=>h m ?_))
      simp only [reach,hb]
      obtain⟨j,hj⟩:=List.getElem?_of_mem hc
      exact List.mem_cons_of_mem _ (iT hj hm)
  |dZ f cs=>
   simp only [reach]
   refine cat _ _ cs (fun c hc=>?_)
   cases c with
   |d x=>rfl
   |ptr x off=>
    refine ih _ (fun m hm=>h m ?_)
    obtain⟨j,hj⟩:=List.getElem?_of_mem hc
    exact iT (f:=fun c=>match c with|.d _=>[]|.ptr x off=>reach n σ (.ptr x off)) hj hm
  |_=>rfl):p:=h
theorem zj{p:Prop}(h:p:=by
 have:(fn.results.mapM (l6 a'.tmps)).run P w'=.ok AY.toArray w':=by
  rw[←Array.toArray_toList (xs:=fn.results),List.mapM_toArray,NA]
  simp only [Sem.run_map,a7,Result.andThen]
 have e:results fn a'.tmps=(do let vs←fn.results.mapM (l6 a'.tmps);pure (if h:vs.size=1 then vs[0]else .tuple vs)):=by
  unfold results
  congr 1
 rw[e]
 simp only [Sem.run_bind,this,Result.andThen,Sem.run_pure]):p:=h
theorem zk{p:Prop}(h:p:=by
 ·have h:¬(i:Int)<l.length:=bF h
  have bC:i=l.length:=oM
  subst bC
  refine aC.of_eq ?_
  rw[he,List.drop_length];rfl):p:=h
theorem zm{p:Prop}(h:p:=by exact congrArg vI (aG oM oM)):p:=h
theorem zn{p:Prop}(h:p:=by
 cases lo with
 |none=>
  simp only [gM]at h ⊢
  cases hi with
  |none=>exact h
  |some y=>simp only at h ⊢;rw[TZ y sM];exact h
 |some y=>
  simp only [gM]at h ⊢
  rw[DR y sM]
  cases hi with
  |none=>exact h
  |some z=>simp only at h ⊢;rw[TZ z sM];exact h):p:=h
theorem zo{p:Prop}(h:p:=by
 replace h:=fe.ev h
 obtain⟨vx,h,tB⟩:=h
 split at h
 case h_2=>cases h
 rename_i b
 split at h
 case h_2=>cases h
 rename_i vk l hb
 split at h
 case h_2=>cases h
 rename_i ti gG
 split at h
 case h_2=>cases h
 rename_i kt et hu
 have dB:=(hT.get gG).EM hu
 split at h
 case h_2=>cases h
 rename_i hd
 refine⟨_,_,h,fun cx N M β a w i=>?_⟩
 obtain⟨bb,c,e1,ex⟩:=tB iY cx N M β a w i
 obtain⟨b',c',e2,hh⟩:=i.box b _ hb
 rw[e1]at e2;cases e2
 have a7:(execOp a.eval o).run P w=.ok (.value (.pointer (some ⟨w.heap.size,0,none⟩))) (w.alloc (.mapIter (some bb) l.length #[] l.length)):=by
  simp[execOp,ho,ex,run_range_map w t kt et bb _ _ dB hh]
 obtain⟨β',h1,h2,h3,h4⟩:=i.new (w':=w.alloc (.mapIter (some bb) l.length #[] l.length)) (c:=(0,0)) hd (ob:=.mapIter (some bb) l.length #[] l.length) rfl rfl rfl rfl (bc:=.iter b l.length []) (by
  intro β' e hle
  exact⟨_,_,_,_,e,hle _ _ e1,heap_alloc_new w _⟩)
 exact⟨_,_,M,β',.inl a7,⟨_,_,h1,rfl⟩,h3,Grow.refl _ _,h4⟩):p:=h
theorem zp{p:Prop}(h:p:=by
 cases pV:(Nat.beq s s'&&Nat.ble (o+cnt agg size) s)with
 |false=>rw[pV]at h;cases h
 |true=>
  rw[pV]at h
  simp only [Bool.and_eq_true]at pV
  have LC:=Nat.eq_of_beq_eq_true pV.1
  have SH:=Nat.le_of_ble_eq_true pV.2
  obtain⟨jA,h⟩:=h
  cases agg with
  |true=>
   refine⟨_,h,fun H4 cx N M β a w iv t u ru ha hs=>?_⟩
   obtain⟨b,rfl,cY⟩:=row cx N M β a w iv LC (jA.get H4) u ru
   simp only [cnt]at SH
   obtain⟨vs,hl,hr,hm⟩:=gen.rep (M:=M) (β:=β) (C:=fun j v=>w.cell? ⟨b,i*s+o+j,none⟩=some v) (f:=fun j=>f i (o+j)) size 0
    (fun j _ hj=>cY j oM)
   exact⟨_,many w t b _ vs ha (by intro w;rw[hs,hl]) (fun j v hv=>by have:=hm j v hv;rwa [Nat.zero_add]at this),vs,rfl,hr⟩
  |false=>
   refine⟨_,h,fun H4 cx N M β a w iv t u ru ha hs=>?_⟩
   obtain⟨b,rfl,cY⟩:=row cx N M β a w iv LC (jA.get H4) u ru
   simp only [cnt]at SH
   obtain⟨v,hv,hr⟩:=cY 0 oM
   exact⟨v,one w t b _ v ha hv,hr⟩):p:=h
theorem zq{p:Prop}(h:p:=by
 rw[QQ]at jJ
 cases AY with
 |nil=>exact jJ.elim
 |cons v F9=>
  cases r' with
  |nil=>
   cases F9 with
   |cons _ _=>exact jJ.2.elim
   |nil=>
    have:=jJ.1
    simp only [List.size_toArray,List.length_cons,List.length_nil,Nat.zero_add,dite_true,yX]
    cases t with
    |s x=>exact this
    |g cs=>exact this
  |cons t2 r2=>
   cases F9 with
   |nil=>exact jJ.2.elim
   |cons v2 vs3=>
    have fJ:¬(v::v2::vs3).toArray.size=1:=sM
    rw[dif_neg fJ]
    exact⟨_,rfl,jJ⟩):p:=h
theorem zu{p:Prop}(h:p:=by
 intro x b h
 obtain⟨h1,h2,h3⟩:=D3.get (fun _ h=>h) hb x b h
 cases hs:aH σ.box (look ren x)with
 |none=>
  rw[hs]at h3
  have hn:β' x=none:=by
   rw[jA x h1]
   cases hb0:β (look ren x)with
   |none=>rfl
   |some p=>obtain⟨y,hy⟩:=i.keys _ _ hb0;rw[hs]at hy;cases hy
  cases b with
  |b8 e n s f=>intro k c e;rw[hn]at e;cases e
  |_=>cases h3
 |some y=>
  cases y with
  |none=>rw[hs]at h3;exact h3.elim
  |some b0=>
   rw[hs]at h3
   have eD:=h3 M β w (look ren x) (i.box _ _ hs)
   cases b with
   |cells cs=>exact jX.rep EP h1 h2 eD
   |row e n s f=>exact jX.rep EP h1 rfl eD
   |b8 e n s f=>intro k c e;rw[jA x h1]at e;exact eD k c e
   |map vk l=>exact jX.rep EP h1 rfl eD
   |smap vk l=>exact jX.rep EP h1 rfl eD
   |dm l n=>exact jX.rep EP h1 rfl eD
   |fresh T vs=>exact jX.rep EP h1 rfl eD
   |iter m n seen=>exact jX.rep EP h1 h2 eD):p:=h
theorem zx{p:Prop}(h:p:=by
 refine⟨i+1,⟨oM,by rw[hj,h];rfl⟩,oM,?_⟩
 refine Sub.bD aA ⟨rQ,oO⟩ ⟨rQ,⟨rfl,?_⟩,rQ,oO⟩
 exact congrArg vI (aG oM oM)):p:=h
theorem zy{p:Prop}(h:p:=by exact aC.of_eq (by rw[hj,h];rfl)):p:=h
theorem ua{p:Prop}(h:p:=by
 rintro i ⟨hi,he⟩
 refine eX aA ?_
 refine aI (fun h=>?_) (fun h=>?_)
 ·have h:(i:Int)<l.length:=bG h
  have bC:i<l.length:=oM
  have hd:l.drop i=l[i]::l.drop (i+1):=List.drop_eq_getElem_cons bC
  have hg:l.getD i default=l[i]:=aX bC
  refine oi ⟨oM,oM⟩ ?_
  refine aB ((hp (l.getD i default) (by rw[hg];simp)).conv (args':=_) ⟨⟨aK.refl _,aK.refl _,oO⟩,sV.jF⟩) ?_
  rw[hd,cL]at he
  rw[hg]
  refine aI (fun h=>?_) (fun h=>?_)
  ·refine aC.of_eq ?_
   rw[he,h];rfl
  ·refine⟨i+1,⟨oM,?_⟩,oM,?_⟩
   ·rw[he,h];rfl
   ·refine Sub.bD aA trivial ⟨rQ,rQ,rQ,⟨rfl,?_⟩,rQ,oO⟩
    exact congrArg vI (aG oM oM)
 ·have h:¬(i:Int)<l.length:=bF h
  have bC:i=l.length:=oM
  subst bC
  refine aC.of_eq ?_
  rw[he,List.drop_length];rfl):p:=h
theorem ub{p:Prop}(h:p:=by
 have hh:=h x (by simp[b9,reach])
 cases dE T t with
 |none=>rfl
 |some ti=>
  simp only
  generalize ti.j7=u
  cases u with
  |slice e=>
   simp only
   cases dE T e with
   |none=>rfl
   |some te=>
    cases vi with
    |s y=>cases y with
     |d z=>cases z with
      |val v=>cases v <;> first|rfl|simp only [hh]
      |_=>rfl
     |_=>rfl
    |_=>rfl
  |_=>rfl):p:=h
theorem uc{p:Prop}(h:p:=by exact xA aA hdn oM HW hj (fun σ2 h2=>hX σ2 _ (by rw[hS];exact s1) (by rw[hS];rw[List.length_modify];exact s3.trans jL) (s4.trans hit) (by rw[hS];exact Eq.mpr (congrArg (fun b=>HSub cx _ σ2 _ (xM p fs M b i xs (j+1) _) _) s2) h2))):p:=h
theorem ud{p:Prop}(h:p:=by
 rw[h]at hj
 refine aI (fun h8=>?_) (fun h8=>?_)
 ·exact aC.of_eq (by rw[hj,h8];rfl)
 refine⟨i+1,⟨oM,by rw[hj,h8];rfl⟩,oM,?_⟩
 refine Sub.bD aA ⟨rQ,oO⟩ ⟨rQ,rQ,rQ,rQ,rQ,⟨rfl,?_⟩,rQ,oO⟩
 exact congrArg vI (aG oM oM)):p:=h
theorem ue{p:Prop}(h:p:=by
 refine⟨rfl,by simp;omega,⟨Nat.le_refl _,by obtain⟨bs,hG⟩:=hG;exact⟨bs,hG,fun g t m=>⟨hG.lt m,by rintro⟨x,c,hx,_⟩;cases hx⟩⟩⟩,fun t=>?_,hM,fun _ _ e=>(by cases e),fun _ _ e=>(by cases e),fun _ _ _ _ _ _ _ e=>(by cases e),fun _ _ _ _ e=>(by cases e),fun _ _ _ _ e=>(by cases e),fun _ hx=>(by cases hx)⟩
 have:=tW.rep (k:=0) (t:=t) (List.replicate (fn.ntmps - vs.length) undef) hr (Nat.zero_le _)
 simp only [Nat.sub_zero]at this
 simp only [uV]
 have e:(vs.toArray++Array.replicate (fn.ntmps - vs.toArray.size) undef).getD t undef=(vs++List.replicate (fn.ntmps - vs.length) undef).getD t undef:=by
  simp[←List.toArray_replicate]
 rw[e]
 exact this):p:=h
theorem uf{p:Prop}(h:p:=by exact aC.of_eq (by rw[hj,bC,Nat.sub_self];rfl)):p:=h
theorem ug{p:Prop}(h:p:=by
 refine ob dC ?_
 refine ob (by rw[dK];show((fK p fs m i).length+1)*8≤_;rw[TW];omega) ?_
 refine ob (nJ (AS rfl)) ?_
 refine aD ?_
 refine eX aA ?_
 refine⟨i+1,oM,oM,?_⟩
 rw[fN]
 refine aM.of [(1004,701),(100,25)] (by rw[aA];rfl) rfl ⟨bQ,bQ,⟨rfl,aY.cells ⟨aU.rfl,aU.rfl,aU.rfl,aU.rfl,aU.rfl,aU.mo (by rw[SJ];exact cA _ _),oO⟩⟩,⟨rfl,?_⟩,bQ,bQ,bQ,⟨rfl,pD.row⟩,oO⟩ ⟨qZ,qZ,qZ,qZ,qZ,⟨rfl,aU.int (aG oM oM)⟩,oO⟩
 show aY _ (.b8 3 (fK p fs m (i+1)).length 1 (cP (fK p fs m (i+1))))
 rw[SJ]
 exact aY.snoc (el:=fun n _=>dI n) (x:=(fF p fs m i).1) (AS rfl)):p:=h
theorem uh{p:Prop}(h:p:=by
 refine⟨fun x hx=>?_,fun x b hb=>?_,fun x y b c c' hx hy e1 e2=>?_,fun x b c hx e o=>?_⟩
 ·obtain⟨b,hb⟩:=jT hx
  rw[List.all_eq_true]at kJ
  exact(i'.box x b (jI.get qS hb)).exb (kJ _ hb)
 ·exact cN.mono hMF (Nm.le_refl β') rfl (fun _ _ _=>rfl) (i'.box x b (jI.get qS hb))
 ·obtain⟨D2,h1⟩:=cQ x hx
  obtain⟨bx2,h2⟩:=cQ y hy
  exact i'.inj x y D2 bx2 b c c' h1 h2 e1 e2
 ·obtain⟨D2,h1⟩:=cQ x hx
  have hB:isB b:=⟨x,c,hx,e⟩
  by_cases qT:b<w.heap.size
  ·simp only [F,if_pos qT]
   exact i'.apart x D2 b c h1 e o
  ·simp only [F,if_neg qT,if_pos hB]):p:=h
theorem ui{p:Prop}(h:p:=by
 intro u hu
 obtain⟨j,hj⟩:=List.getElem?_of_mem hu
 have tC:j<m*te.size:=by have:=(List.getElem?_eq_some_iff.1 hj).1;omega
 have h1:j / te.size<m:=Nat.div_lt_of_lt_mul (by rw[Nat.mul_comm];exact tC)
 obtain⟨v,hv,hr⟩:=pL (j / te.size) (j%te.size) h1 (Nat.mod_lt _ c2)
 have e:j / te.size*te.size+j%te.size=j:=by rw[Nat.mul_comm];exact Nat.div_add_mod j te.size
 rw[e,hj]at hv;cases hv
 have xO:=oW (j / te.size) (j%te.size) h1 (Nat.mod_lt _ c2)
 exact DV.bI.k8 hr (by cases hx:g (j / te.size) (j%te.size) <;> rw[hx]at xO <;> first|exact xO|rfl|cases xO)):p:=h
theorem uj{p:Prop}(h:p:=by
 intro x bc b c e e' o u hu
 obtain⟨hnx,ex⟩:=jG.get e
 have hnb:¬isB b:=by
  rintro⟨y,c',hy,TO⟩
  obtain⟨bc',aI7⟩:=cQ y hy
  exact hnx (i'.inj y x bc' bc b c' c aI7 ex TO e'▸hy)
 rcases i'.low x bc b c ex e' with h|h
 ·have:¬b<w.heap.size:=by have:w.heap.size≤b:=h;omega
  simp only [F,if_neg this,if_neg hnb];exact hu
 ·obtain⟨y,c',hy,TO⟩:=h
  have hy':y∈names bx':=by
   rw[List.all_eq_true]at qQ
   simpa using qQ y hy
  have e1:β' y=some (b,c'):=by rw[(i'.ref y hy).1];exact TO
  exact(hnb ⟨y,c',hy',e1⟩).elim):p:=h
theorem uk{p:Prop}(h:p:=by
 refine eX aA ?_
 refine⟨j+1,oM,oM,?_⟩
 exact aM.bD aA [] rfl ⟨bQ,bQ,⟨rfl,aY.of_eq (by rw[e];rfl)⟩,bQ,oO⟩ ⟨qZ,qZ,qZ,qZ,qZ,qZ,qZ,qZ,qZ,qZ,⟨rfl,aU.int (aG oM oM)⟩,oO⟩):p:=h
theorem ul{p:Prop}(h:p:=by
 refine⟨i+1,⟨oM,by rw[hj,h];rfl⟩,oM,?_⟩
 refine Sub.bD aA ⟨rQ,oO⟩ ⟨rQ,rQ,rQ,⟨rfl,?_⟩,rQ,oO⟩
 exact congrArg vI (aG oM oM)):p:=h
theorem um{p:Prop}(h:p:=by
 refine Sub.bD aA ⟨rQ,oO⟩ ⟨rQ,rQ,rQ,⟨rfl,?_⟩,rQ,oO⟩
 exact congrArg vI (aG oM oM)):p:=h
theorem uo{p:Prop}(h:p:=by
 intro e he
 unfold o6 at he
 split at he
 ·rename_i i p hp
  obtain⟨j,hj⟩:=List.getElem?_of_mem he
  rw[List.getElem?_modify]at hj
  cases hE:E[j]? with
  |none=>rw[hE]at hj;cases hj
  |some y=>
   rw[hE]at hj
   have hy:=h y (List.mem_of_getElem? hE)
   have hj:(if i=j then(y.1,y.2.1++ [t],y.2.2)else y)=e:=by simpa using hj
   split at hj
   ·subst hj;simp;omega
   ·subst hj;omega
 ·rcases List.mem_append.1 he with he|he
  ·have:=h e he;omega
  ·rw[List.mem_singleton.1 he];simp):p:=h
theorem uq{p:Prop}(h:p:=by
 have h:((l.length:Int)==0)=true:=h
 have:l=[]:=by
  have:(l.length:Int)=0:=by simpa using h
  exact List.eq_nil_of_length_eq_zero oM
 subst this
 exact aC.le aK.nil):p:=h
theorem ur{p:Prop}(h:p:=by
 refine Sub.bD aA ⟨rQ,oO⟩ ⟨rQ,rQ,rQ,rQ,rQ,⟨rfl,?_⟩,rQ,oO⟩
 exact congrArg vI (aG oM oM)):p:=h
theorem ut{p:Prop}(h:p:=by
 refine AW.seq (AW.block ?_)
 refine sX aA ?_
 refine oi ⟨oM,oM⟩ ?_
 refine eX aA ?_
 refine eX aA ?_
 refine⟨i+1,oM,oM,?_⟩
 exact aM.bD aA [] rfl ⟨bQ,bQ,bQ,oO⟩ ⟨qZ,qZ,qZ,qZ,qZ,qZ,⟨rfl,aU.int (aG oM oM)⟩,oO⟩):p:=h
theorem uu{p:Prop}(h:p:=by
 intro x hx
 obtain⟨i,hi,rfl⟩:=List.getElem_of_mem hx
 have hg:=h.gr
 unfold dX at hg
 obtain⟨_,hg⟩:=dU hg
 obtain⟨_,hg⟩:=dF dC hg
 obtain⟨_,hg⟩:=dF dC hg
 have hb:=lQ hg i (Nat.zero_le _) oM
 unfold uC at hb
 obtain⟨_,hb⟩:=dF dC hb
 obtain⟨_,hb⟩:=dF dC hb
 unfold vN at hb
 obtain⟨_,hb⟩:=dF dC hb
 obtain⟨_,hb⟩:=dF dC hb
 obtain⟨hb,_⟩:=dF dC hb
 simp only [decide_eq_false_iff_not]at hb
 rw[aX hi]at hb
 omega):p:=h
theorem uv{p:Prop}(h:p:=by exact aM.bD aA [] rfl trivial ⟨qZ,qZ,qZ,oO⟩):p:=h
theorem uw{p:Prop}(h:p:=by
 cases k2:f.kind==2 with
 |true=>
  refine⟨by simp;omega,fun x hx=>?_⟩
  simp only [cond_true,cond_false,List.mem_append,List.mem_singleton]at hx
  rcases hx with hx|rfl
  ·exact y5 x hx
  ·omega
 |false=>
  refine⟨by simp[wG];omega,fun x hx=>?_⟩
  simp only [cond_false,wG,List.mem_append,List.mem_cons]at hx
  rcases hx with hx|rfl|hx
  ·exact y5 x (List.mem_of_mem_take hx)
  ·omega
  ·exact y5 x (List.mem_of_mem_drop hx)):p:=h
theorem ux{p:Prop}(h:p:=by
 obtain⟨d,h1,h2⟩:=h.j7
 rw[hu]at h2
 cases d <;> simp only [SP.qJ]at h2 <;> first|cases h2;exact h1|cases h2):p:=h
theorem uy{p:Prop}(h:p:=by rw[List.take_add_one,List.getElem?_eq_getElem h,aX h,List.foldl_append];rfl):p:=h
theorem uz{p:Prop}(h:p:=by
 ·have h5:¬(i:Int)<l.length:=bF h5
  have bC:i=l.length:=oM
  exact aC.of_eq (by rw[hj,bC,Nat.sub_self];rfl)):p:=h
theorem vd{p:Prop}(h:p:=by refine Sub.bD aA trivial ⟨rQ,rQ,rQ,rQ,rQ,oO⟩):p:=h
theorem ve{p:Prop}(h:p:=by
 show aY _ (.b8 3 (fK p fs m (i+1)).length 1 (cP (fK p fs m (i+1))))
 rw[SJ]
 exact aY.snoc (el:=fun n _=>dI n) (x:=(fF p fs m i).1) (AS rfl)):p:=h
theorem vg{p:Prop}(h:p:=by
 intro x b c hx e
 obtain⟨D2,h1⟩:=cQ x hx
 rcases i'.low x D2 b c h1 e with h|⟨y,c',hy,TO⟩
 ·exact .inl h
 ·exact .inr ⟨y,c',TO⟩):p:=h
theorem vh{p:Prop}(h:p:=by
 refine sX aA ?_
 refine AW.gR (σ':=⟨[(4,.s (.own 1001))],[(1001,some (.row 198 l.length 14 (pK (rG l))))]⟩) (aM.of [] (by rw[aA];rfl) rfl ⟨⟨rfl,aY.row rfl fun i j hi hj=>aK.of_eq (by unfold pK;rw[e,if_pos hi])⟩,oO⟩ ⟨qZ,oO⟩) ?_
 refine AW.gR (aM.FR (e:=198) (n:=l.length) (s:=14) (f:=pK (rG l)) 4 1001 rfl rfl) ?_
 refine eX aA ?_
 exact⟨aU.of_eq (by rw[e];rfl),rfl,oO⟩):p:=h
theorem vj{p:Prop}(h:p:=by
 try simp only
 cases hs:Nat.beq s te.size with
 |false=>rw[hs]at h;cases h
 |true=>
  rw[hs]at h
  simp only [cond_true]at*
  cases lo with
  |none=>
   simp only [gM]at h ⊢
   cases hi with
   |none=>exact h
   |some y=>simp only at h ⊢;rw[TZ y sM];exact h
  |some y=>
   simp only [gM]at h ⊢
   rw[DR y sM]
   cases hi with
   |none=>exact h
   |some z=>simp only at h ⊢;rw[TZ z sM];exact h):p:=h
theorem vl{p:Prop}(h:p:=by refine Sub.bD aA ⟨rQ,oO⟩ ⟨rQ,rQ,rQ,oO⟩):p:=h
theorem vm{p:Prop}(h:p:=by
 refine⟨fun x hx=>?_,fun x b hb=>i'.box x b (jI.get qS hb),fun x y b c c' hx hy e1 e2=>?_,fun x b c hx e o=>?_⟩
 ·obtain⟨b,hb⟩:=jT hx
  rw[List.all_eq_true]at kJ
  exact(i'.box x b (jI.get qS hb)).exb (kJ _ hb)
 ·obtain⟨D2,h1⟩:=cQ x hx
  obtain⟨bx2,h2⟩:=cQ y hy
  exact i'.inj x y D2 bx2 b c c' h1 h2 e1 e2
 ·obtain⟨D2,h1⟩:=cQ x hx
  exact i'.apart x D2 b c h1 e o):p:=h
theorem vn{p:Prop}(h:p:=by
 refine⟨i+1,⟨oM,by rw[hj,h6];rfl⟩,oM,?_⟩
 refine Sub.bD aA trivial ⟨rQ,rQ,⟨rfl,?_⟩,rQ,oO⟩
 exact congrArg vI (aG oM oM)):p:=h
theorem vo{p:Prop}(h:p:=by
 refine⟨i+1,⟨oM,by rw[he,h];rfl⟩,oM,?_⟩
 refine Sub.bD aA trivial ⟨rQ,rQ,⟨rfl,?_⟩,rQ,oO⟩
 exact congrArg vI (aG oM oM)):p:=h
theorem vp{p:Prop}(h:p:=by
 ·match j with
  |0=>exact aK.of_eq hf
  |_+1=>exact fun _ _ _=>trivial):p:=h
theorem vq{p:Prop}(h:p:=by
 unfold wpOpIn
 rw[sO]
 simp only
 split
 ·rename_i hw
  rw[if_pos hw]at jO
  exact MQ jO.1 (Oper.wp_mono next jO.2)
 ·rename_i hw
  rw[if_neg hw]at jO
  exact⟨fun _ _=>trivial,next _ _ jO⟩):p:=h
theorem vr{p:Prop}(h:p:=by
 split at h
 case h_2=>cases h
 rename_i i hi
 split at h
 case h_2=>cases h
 rename_i e hu
 cases op <;> first
  |exact h.elim
  |exact⟨_,h,fun K k=>by unfold bin;simp only [hi,hu];exact k⟩):p:=h
theorem vt{p:Prop}(h:p:=by
 intro x y hx hy e
 simp only [HO,List.all_eq_true]at hi
 have:=hi x hx y hy
 simp only [Bool.or_eq_true]at this
 rcases this with h|h
 ·exact Nat.eq_of_beq_eq_true h
 ·rw[e]at h;simp at h):p:=h
theorem vu{p:Prop}(h:p:=by
 intro x y bx zB b c c' ex ey hx hy
 obtain⟨kx,b0,g0,e0⟩:=live x bx b c ex hx
 obtain⟨ky,b1,g1,e1⟩:=live y zB b c' ey hy
 exact QY x y kx ky (i.inj _ _ b0 b1 b c c' g0 g1 e0 e1)):p:=h
theorem vw{p:Prop}(h:p:=by exact⟨_,_,M,β',.inl a7,⟨_,_,h1,rfl⟩,h3,Grow.refl _ _,h4⟩):p:=h
theorem qe{p:Prop}(h:p:=by
 simp only [reach,List.mem_cons]at h ⊢
 refine h.imp id ?_
 cases hb:aH σ.box x with
 |none=>simp
 |some y=>cases y with
  |none=>simp
  |some bc=>cases bc with
   |row e n s f=>simp
   |b8 e n s f=>simp
   |map vk l=>simp
   |smap vk l=>simp
   |dm l n=>simp
   |fresh T vs=>simp
   |iter q n t=>simp
   |cells cs=>exact lift (fun c hc=>ih c m hc)):p:=h
theorem qf{p:Prop}(h:p:=by
 refine aI (fun h1=>?_) (fun h1=>?_)
 ·have h1:(fR f !=0)=true:=h1
  exact aC.of_eq (by unfold JB;rw[h1];rfl)
 have h1:(fR f !=0)=false:=h1
 repeat refine aR ?_
 refine aI (fun h2=>?_) (fun h2=>?_)
 ·have h2:uM p f=true:=h2
  exact aC.of_eq (by unfold JB;rw[h1,h2];rfl)
 ·have h2:uM p f=false:=h2
  exact aC.of_eq (by unfold JB;rw[h1,h2];rfl)):p:=h
theorem qg{p:Prop}(h:p:=by
 rintro e w' ⟨rfl,rfl⟩
 exact⟨_,M,rfl,rfl,Grow.refl _ _,hM,⟨Below.refl _ _,oO⟩⟩):p:=h
theorem qi{p:Prop}(h:p:=by
 intro v h
 by_cases h0:0<i
 ·rw[fQ h0]at h;exact h
 ·rw[show decide ((i:Int)>0)=false by simp;omega]at h ⊢;exact h):p:=h
theorem qj{p:Prop}(h:p:=by
 rename_i e n s' f hb
 cases hc:(Nat.beq s s'&&Nat.ble (o+cnt agg size) s)with
 |false=>rw[hc]at h;cases h
 |true=>
  rw[hc]at h
  cases agg with
  |true=>exact⟨_,h.2,fun K k=>by unfold kH;simp only [hb,hc,cond_true];exact⟨h.1,k⟩⟩
  |false=>exact⟨_,h.2,fun K k=>by unfold kH;simp only [hb,hc,cond_true];exact⟨h.1,k⟩⟩):p:=h
theorem qk{p:Prop}(h:p:=by exact aM.bD aA [] rfl trivial ⟨qZ,qZ,⟨rfl,aU.int (aG oM oM)⟩,oO⟩):p:=h
theorem qm{p:Prop}(h:p:=by simp[List.getD_eq_getElem?_getD,List.getElem?_map,List.getElem?_range h]):p:=h
theorem qn{p:Prop}(h:p:=by
 have hw:=i.write (bc':=.iter m l.length (j::seen)) hb e1 (w':=setBlock w1 bb (.mapIter (some bm) l.length (j::seen).reverse.toArray l.length)) (by rw[gC,q1]) (fun k hk=>by rw[fD _ _ _ hk,q1]) q2 q3 q4
  ⟨bb,c,bm,cm,e1,em,iS hh1⟩ trivial
 exact⟨_,_,h2 j hj hs,_,_,QR,⟨_,rfl,rfl,rfl,VK.vJ _ _ _,trivial⟩,hw.1,hw.2⟩):p:=h
theorem qo{p:Prop}(h:p:=by exact⟨rfl,aM.bD aA [] rfl ⟨bQ,bQ,⟨rfl,aY.cells ⟨aU.rfl,aU.rfl,aU.rfl,aU.of_eq (by rw[h1];rfl),aU.rfl,aU.of_eq (by rw[h1];rfl),aU.of_eq (by rw[h1];rfl),aU.of_eq (by rw[h1];rfl),aU.rfl,aU.of_eq (by rw[h1];rfl),aU.of_eq (by rw[h1];rfl),aU.rfl,aU.d (by rw[h];exact aK.nil),oO⟩⟩,oO⟩ ⟨qZ,qZ,qZ,oO⟩⟩):p:=h
theorem qp{p:Prop}(h:p:=by rw[Nat.succ_mul]at this;omega):p:=h
theorem qq{p:Prop}(h:p:=by
 rw[fE]at h
 cases hk:k==e.1 with
 |true=>
  rw[hk]at h
  obtain rfl:(i,e)=p:=Option.some.inj h
  exact⟨Nat.le_refl _,sM,(by simpa using hk:k=e.1).symm⟩
 |false=>
  rw[hk]at h
  obtain⟨h1,h2,h3⟩:=xU (i:=i+1) h
  refine⟨oM,?_,h3⟩
  rw[show p.1 - i=(p.1 - (i+1))+1 by omega,List.getElem?_cons_succ]
  exact h2):p:=h
theorem qr{p:Prop}(h:p:=by
 by_cases DQ:x=d
 ·subst DQ
  rw[h1]at e2;cases e2
  exact(fQ _ hs).2 rfl
 ·have e1':aH σ.box x=some (some bx):=by
   have e1:aH ((d,some (jK.row e r.n s r.f))::σ.box) x=some (some bx):=e1
   rw[aL,if_neg (fun h=>DQ h.symm)]at e1;exact e1
  rw[h3 x DQ]at e2
  exact hi.names x bx b c e1' e2 (fQ _ hs).1):p:=h
theorem qt{p:Prop}(h:p:=by
 intro b2 o u hu
 have fJ:b2≠b:=fun h=>by
  subst h
  have:=rJ.apart 1001 b2 c (List.mem_singleton.2 rfl) hx o
  rw[this]at hu;cases hu
 have hold:=hM b2 o u hu
 have hb2:b2<w.heap.size:=World.block_lt_of_cell? w ⟨b2,o,none⟩ hold
 simp only [World.cell?]at hold ⊢
 rw[aCG b2 hb2 fJ]
 exact hold):p:=h
theorem qu{p:Prop}(h:p:=by exact aM.bD aA [] rfl ⟨bQ,oO⟩ ⟨qZ,qZ,qZ,⟨rfl,aU.int (aG oM oM)⟩,oO⟩):p:=h
theorem qv{p:Prop}(h:p:=by
 have hi:i<1:=hi
 have hj:j<1:=hj
 match i,j,hi,hj with
 |0,0,_,_=>exact aK.refl _):p:=h
theorem qw{p:Prop}(h:p:=by exact⟨rfl,aM.bD aA [] rfl ⟨bQ,bQ,⟨rfl,aY.of_eq (by rw[h,h1];rfl)⟩,oO⟩ ⟨qZ,qZ,qZ,oO⟩⟩):p:=h
theorem qx{p:Prop}(h:p:=by
 rename_i e n s' f hb
 cases hc:(o5 cs&&Nat.beq s s'&&Nat.ble (off+ti.size) s)with
 |false=>rw[hc]at h;cases h
 |true=>
  rw[hc]at h
  refine⟨_,_,_,h.2,fun σ' e ex ey C' k=>?_⟩
  unfold o7
  rw[ex,ey]
  refine hp _ (hp2 _ ?_)
  simp only [gG,nR,oU,cond_true,e,hb,hc]
  exact⟨h.1,k⟩):p:=h
theorem qy{p:Prop}(h:p:=by
 have:=List.pairwise_mergeSort (le:=fun x y:bJ=>decide (x≤y)) (fun a b c h1 h2=>by
  simp only [decide_eq_true_eq]at*;exact List.le_trans h1 h2) (fun a b=>by
  simp only [Bool.or_eq_true,decide_eq_true_eq];exact List.le_total a b) l
 exact this.imp fun {x y} h=>by simpa using h):p:=h
theorem qz{p:Prop}(h:p:=by match c,hc with|0,_|1,_|2,_|3,_|4,_|5,_|6,_|7,_|8,_|9,_|10,_|11,_|12,_=>rfl):p:=h
theorem ja{p:Prop}(h:p:=by
 repeat first|refine sk ?_|refine st ?_|refine sg ?_
 refine aC.of_eq ?_
 show vB _=vB _
 refine congrArg vB ?_
 rw[Bool.eq_iff_iff]
 simp[within]):p:=h
theorem jb{p:Prop}(h:p:=by
 have hs0:h.it=some (bi,sn)∧h'.clock=h.clock:=by
  rw[←BW]at hs ⊢
  unfold eR at hs ⊢
  split at hs
  ·exact⟨hs,rfl⟩
  ·rename_i hq;rw[hit hq]at hs;cases hs
 have:=hF.iter bi sn hs0.1
 rw[hs0.2,FX]
 exact(sO bi (fun e=>by rw[e,hF.map]at this;cases this)).trans this):p:=h
theorem jc{p:Prop}(h:p:=by rename_i hu;exact⟨_,h,fun K k=>by unfold qL;simp only [gG,hu];exact k⟩):p:=h
theorem jd{p:Prop}(h:p:=by
 obtain⟨e₂,a₂,w₂,⟨σ2,M2,β2,hq₂,i2,hM2,TX⟩,BZ⟩:=ih (μ s') (hn▸fZ) s' rfl hJ' M1 β2 a₁ w₁ i2
 exact⟨e₂,a₂,w₂,⟨σ2,M2,β2,hq₂,i2,hM.trans hM2,hk.trans TX⟩,.of_steps (StepsIn.trans nI (.one (fenced_calm hb hr rfl) stepR_inLoop)) BZ⟩):p:=h
theorem jf{p:Prop}(h:p:=by exact⟨undef,_,M,β,.inr ⟨a7,rfl⟩,trivial,hw.1,Grow.refl _ _,hw.2⟩):p:=h
theorem jg{p:Prop}(h:p:=by
 refine⟨by simp;omega,fun x hx=>?_⟩
 simp only [cond_true,cond_false,List.mem_append,List.mem_cons,List.not_mem_nil,or_false]at hx
 rcases hx with hx|rfl|rfl|rfl|rfl|rfl|rfl|rfl
 ·exact y5 x hx
 ·omega
 ·omega
 ·omega
 ·omega
 ·rw[wV];omega
 ·omega
 ·rw[wV];omega):p:=h
theorem jh{p:Prop}(h:p:=by exact xA aA (qA hv.1) (Nat.le_trans (qY _ _ _) dC) HW hj (fun σ2 h2=>hX σ2 _ (by rw[hS];exact s1) (by rw[hS];rw[List.length_modify];exact s3.trans jL) (s4.trans hit) (by rw[hS];exact Eq.mpr (congrArg (fun b=>HSub cx _ σ2 _ (xM p fs M b i xs (j+1) _) _) s2) h2))):p:=h
theorem ji{p:Prop}(h:p:=by
 ·rename_i hx
  split at h
  ·rename_i d hd
   cases hN:Nat.blt d N with
   |false=>rw[hN]at h;cases h
   |true=>
    rw[hN]at h
    obtain⟨r,h1,h2⟩:=mD.pt h
    exact⟨_,h1,fun K' k=>by unfold a6;simp only [hg,ht,hv,hx,hd,hN,cond_true];exact h2 _ k⟩
  ·cases h):p:=h
theorem jj{p:Prop}(h:p:=by refine Sub.bD aA trivial ⟨rQ,rQ,rQ,rQ,oO⟩):p:=h
theorem jk{p:Prop}(h:p:=by exact xA aA (qA hv.1) (Nat.le_trans (qY _ _ _) dC) HW hj (fun σ2 h2=>hX σ2 _ (by rw[hS];exact s1) (by rw[hS];rw[List.length_append];exact s3) (s4.trans hit) (by rw[hS];exact Eq.mpr (congrArg (fun b=>HSub cx _ σ2 _ (xM p fs M b i xs (j+1) _) _) s2) h2))):p:=h
theorem jl{p:Prop}(h:p:=by
 obtain⟨_,q1,q2,q3,q4⟩:=hJ
 rw[aIV]at q1 q2 q4 h2
 exact⟨(i+1,k2),⟨by show i+1≤p.aT.levels.length;omega,q1,q2,q3,q4.more (by show i*2412+xs.length*201≤(i+1)*2412;omega)⟩,by show p.aT.levels.length - (i+1)<p.aT.levels.length - i;omega,h2⟩):p:=h
theorem jm{p:Prop}(h:p:=by
 rw[aL]at e
 split at e
 ·rename_i h;subst h;simp at e;exact .inl ⟨rfl,e.symm⟩
 ·rename_i h;exact .inr ⟨fun k=>h k.symm,e⟩):p:=h
theorem jn{p:Prop}(h:p:=by
 refine Sub.bD aA ⟨rQ,oO⟩ ⟨rQ,rQ,⟨rfl,?_⟩,rQ,oO⟩
 exact congrArg vI (aG oM oM)):p:=h
theorem jo{p:Prop}(h:p:=by
 repeat first|refine sk ?_|refine st ?_|refine sg ?_
 exact aC.refl _):p:=h
theorem jp{p:Prop}(h:p:=by
 ·split at hk
  ·rename_i d hd
   cases hN:Nat.blt d N with
   |false=>rw[hN]at hk;exact hk.elim
   |true=>
    rw[hN]at hk
    simp only [cond_true]at hk ⊢
    exact mD.congr hE hrd ((mD.pt hk).elim fun r hr=>hr.2 _ hr.1.2)
  ·exact hk.elim):p:=h
theorem jq{p:Prop}(h:p:=by
 obtain⟨i,q'⟩:=p
 rw[hq]at h1
 obtain rfl:i=j:=by simpa using h1
 refine⟨?_,rfl,rfl,rfl⟩
 show eH ((cW h.l i).modify i _) _
 unfold cW
 rw[List.modify_modify_eq]
 exact ha.modify fun q e _ _ ho=>⟨ho.key,ho.born,fJ,r,rfl,hr⟩):p:=h
theorem jr{p:Prop}(h:p:=by refine Sub.bD aA ⟨rQ,oO⟩ ⟨rQ,rQ,rQ,rQ,rQ,oO⟩):p:=h
theorem js{p:Prop}(h:p:=by
 intro y bc h
 have h:aH ((x,some (.row e n s f))::σ.box) y=some (some bc):=h
 rw[aL]at h
 by_cases hy:x=y
 ·subst hy
  rw[if_pos rfl]at h
  cases h
  exact⟨b,c,cur,hx,h1,h2,h3,h4,h5,h6⟩
 ·rw[if_neg hy]at h;exact i.box y bc h):p:=h
theorem jt{p:Prop}(h:p:=by
 refine⟨i+1,⟨oM,CR hi5 hj h6⟩,oM,?_⟩
 exact Sub.bD aA ⟨rQ,oO⟩ ⟨rQ,⟨rfl,congrArg vI (aG oM oM)⟩,oO⟩):p:=h
theorem ju{p:Prop}(h:p:=by
 by_cases qT:b<w.heap.size
 ·simp[F,qT,e]
 ·have:¬isB b:=by
   rintro⟨x,c,hx,hx2⟩
   obtain⟨bc,hbc⟩:=cQ x hx
   rw[i'.apart x bc b c hbc hx2 o]at e
   cases e
  simp only [F,if_neg qT,if_neg this]
  exact i'.mem b o u e):p:=h
theorem jv{p:Prop}(h:p:=by
 split at h
 case h_2=>cases h
 rename_i e' len s f hb
 cases hs:Nat.beq s te.size with
 |false=>rw[hs]at h;cases h
 |true=>rw[hs]at h;exact⟨_,h.2,fun K k=>by unfold qN;simp only [gG,hu,nD,hb,hs,cond_true];exact⟨h.1,k⟩⟩):p:=h
theorem jw{p:Prop}(h:p:=by
 have e6:(Option.map ((fun x:MapEntry=>x.key)∘bO.nK) h.l[j]?).getD (.string k)=.string k:=by rw[BX];simp[bO.nK,tR]
 rw[e4,e5]
 simp[Instr.mapUpdate,run_underlying ht,MapKept.run_getObj_map hF.map,jL,oL,e6,HU,gE hF.map]):p:=h
theorem jx{p:Prop}(h:p:=by
 obtain⟨_,o',sO,h⟩:=mem_ready.1 C1
 have:all[k]? =some o':=by simpa using sO
 rw[h0]at this;cases this
 exact h):p:=h
theorem jy{p:Prop}(h:p:=by
 intro k hk hnk
 exact lB.block k hk (by rintro⟨x,c,_,hx⟩;exact hnk x c hx)):p:=h
theorem jz{p:Prop}(h:p:=by exact⟨rfl,HSub.of (fC.of [] (by rw[aA];rfl) rfl ⟨bQ,bQ,bQ,⟨rfl,aY.of_eq (by rw[←hx0];rfl)⟩,⟨rfl,aY.of_eq (by rw[hpd,hpt,←hx0];rfl)⟩,oO⟩ ⟨qZ,qZ,qZ,qZ,qZ,qZ,qZ,qZ,qZ,qZ,qZ,qZ,qZ,qZ,qZ,oO⟩)⟩):p:=h
theorem ka{p:Prop}(h:p:=by exact⟨rfl,HSub.of (fC.of [] (by rw[aA];rfl) rfl ⟨bQ,bQ,⟨rfl,aY.of_eq (by rw[←hx0];rfl)⟩,⟨rfl,aY.of_eq (by rw[hpd,hpt,←hx0];rfl)⟩,oO⟩ ⟨qZ,qZ,qZ,qZ,qZ,qZ,qZ,qZ,qZ,qZ,qZ,qZ,qZ,qZ,qZ,oO⟩)⟩):p:=h
theorem kc{p:Prop}(h:p:=by refine Sub.bD aA ⟨rQ,oO⟩ ⟨rQ,rQ,rQ,rQ,rQ,rQ,rQ,oO⟩):p:=h
theorem ke{p:Prop}(h:p:=by
 have key:∀d,(Op.equalIn (d+1) t (.slice a n c) (.slice none 0 0)).run P w=.ok a.isNone w:=by
  intro d
  cases a <;> simp[Op.equalIn,run_underlying h]
 simp only [binOp]
 simp[Op.equal,Op.maxDepth,key 9999]):p:=h
theorem kf{p:Prop}(h:p:=by
 split at h
 ·rename_i d hd
  cases hN:Nat.blt d N with
  |false=>rw[hN]at h;cases h
  |true=>
   rw[hN]at h
   exact part hd (Nat.le_of_ble_eq_true hN) h (by rw[hw];cases b <;> cases nY <;> rfl)
 ·cases h):p:=h
theorem kg{p:Prop}(h:p:=by
 intro x b k c h e
 obtain⟨h1,h2,h3⟩:=D3.get (fun _ h=>h) hb x b h
 have e:=(hβ x _ e).2
 obtain⟨y,hy⟩:=i.keys _ _ e
 rw[hy]at h3
 cases y with
 |none=>exact h3.elim
 |some b0=>exact⟨h1,b0,hy,e⟩):p:=h
theorem ki{p:Prop}(h:p:=by
 rw[hlen]at ex
 have ey:a.eval y=.int k n:=Z4 ha cx N M β a w i
 exact⟨_,by simp only [execOp,ho,ex,ey,run b 0 len c.1 w h0 h1,Sem.run_bind,Result.andThen,Sem.run_pure];rfl,b,c,e1,by rw[hs];simp⟩):p:=h
theorem ko{p:Prop}(h:p:=by
 intro x hx
 rw[List.all_eq_true]at hr
 have:=hr x hx
 simp only [Bool.and_eq_true]at this
 have h1:x∈ks:=by simpa using this.1
 have h2:=Nat.eq_of_beq_eq_true this.2
 rw[jA x h1,h2]
 exact i.ref x hx):p:=h
theorem kq{p:Prop}(h:p:=by exact⟨rfl,aM.bD aA [] rfl ⟨bQ,bQ,bQ,oO⟩ ⟨qZ,qZ,qZ,qZ,oO⟩⟩):p:=h
theorem kr{p:Prop}(h:p:=by exact⟨aC.refl _,rfl,oO⟩):p:=h
theorem ku{p:Prop}(h:p:=by
 refine⟨k+1,⟨oM,fun j qR=>?_⟩,oM,?_⟩
 ·by_cases SL:j=k
  ·rw[SL];exact h'
  ·exact hq j oM
 refine Sub.bD aA ⟨rQ,oO⟩ ⟨rQ,rQ,⟨rfl,?_⟩,rQ,oO⟩
 exact congrArg vI (aG oM oM)):p:=h
theorem kv{p:Prop}(h:p:=by
 intro x p e
 by_cases hx:x=d
 ·subst hx;exact⟨_,by rw[aL,if_pos rfl]⟩
 ·rw[oE x hx]at e
  obtain⟨y,hy⟩:=i.keys x p e
  exact⟨y,by rw[aL,if_neg (fun h=>hx h.symm)];exact hy⟩):p:=h
theorem kz{p:Prop}(h:p:=by
 rcases hs H4 cx N M β a w i with⟨v,e,hr⟩|⟨f,vs,e,hc⟩
 ·exact .inl ⟨v,e,hwr hr⟩
 ·exact .inr ⟨f,vs,e,hc.mono fun e' w' ⟨v,M',h1,h2,h3⟩=>⟨v,M',h1,hwr h2,h3⟩⟩):p:=h
theorem k7{p:Prop}(h:p:=by
 rw[run,e2]
 simp[Builtin.len_,run_underlying (h1.isSlice e1),goInt]):p:=h
theorem xa{p:Prop}(h:p:=by simp only [List.getD_eq_getElem?_getD,List.getElem?_append_left h]):p:=h
theorem xb{p:Prop}(h:p:=by
 cases n <;>
 ·simp only [dS]
  rcases xF (h x)with e|⟨e1,e2⟩
  ·rw[e]
  ·split
   ·rename_i hb;exact absurd hb (e1 _)
   ·split
    ·rename_i hb;exact absurd hb (e2 _)
    ·rfl):p:=h
theorem xc{p:Prop}(h:p:=by
 unfold Oper.wp
 rw[a7,Oper.upon_enter]
 refine eF.mono ?_
 rintro e' w' ⟨v',M',β',rfl,hr,i',hg,lB⟩
 simp only [hd]
 exact⟨_,M',β',hk,i'.put (σ:=⟨σ.env,bx⟩) hN hr,hg,lB⟩):p:=h
theorem xd{p:Prop}(h:p:=by
 unfold fM
 rw[List.take_of_length_le oM,List.take_of_length_le oM]):p:=h
theorem xf{p:Prop}(h:p:=by
 intro x bx b c ex hx
 obtain⟨kx,b0,g0,e0⟩:=live x bx b c ex hx
 exact i.low _ b0 b c g0 e0):p:=h
theorem xg{p:Prop}(h:p:=by
 have:(p - n+1)*te.size≤m*te.size:=Nat.mul_le_mul_right _ oM
 rw[Nat.succ_mul]at this;omega):p:=h
theorem xh{p:Prop}(h:p:=by exact⟨rfl,aM.bD aA [] rfl ⟨bQ,oO⟩ ⟨qZ,qZ,qZ,qZ,oO⟩⟩):p:=h
theorem xi{p:Prop}(h:p:=by
 ·split at h
  ·rename_i d hd
   cases hN:Nat.blt d N with
   |false=>rw[hN]at h;cases h
   |true=>
    rw[hN]at h
    exact part hd (Nat.le_of_ble_eq_true hN) h hw
  ·cases h):p:=h
theorem xj{p:Prop}(h:p:=by
 intro y p h
 obtain⟨z,hz⟩:=i.keys y p h
 show ∃y',aH ((x,_)::σ.box) y=some y'
 rw[aL]
 by_cases hy:x=y
 ·rw[if_pos hy];exact⟨_,rfl⟩
 ·rw[if_neg hy];exact⟨z,hz⟩):p:=h
theorem xk{p:Prop}(h:p:=by
 cases h:β d with
 |none=>rfl
 |some p=>obtain⟨y,hy⟩:=i.keys d p h;rw[hd]at hy;cases hy):p:=h
theorem xl{p:Prop}(h:p:=by simp[Lib.bytesWorld,World.freeze,World.alloc,World.drew, -World.alloc_eq, -World.drew_eq]):p:=h
theorem xm{p:Prop}(h:p:=by
 rw[fE]at hf
 rw[dD,h.1.key,sB]
 cases hk:k==e.1 with
 |true=>
  rw[hk]at hf
  obtain rfl:(i,e)=p:=Option.some.inj hf
  exact⟨q,rfl,h.1⟩
 |false=>rw[hk]at hf;exact p8 h.2 hf):p:=h
theorem xn{p:Prop}(h:p:=by refine Sub.bD aA ⟨rQ,oO⟩ ⟨rQ,rQ,rQ,rQ,oO⟩):p:=h
theorem xp{p:Prop}(h:p:=by
 obtain⟨h1,h2,h3⟩:=Oper.apart_spec C2
 obtain⟨k1,k2,k3⟩:=iP.spec xO
 exact(eU.comm (fun d hd=>h2 d hd) (fun x hx=>by rw[hy.wr]at hx;rw[hyj.wr];exact k2 x hx)).symm):p:=h
theorem xq{p:Prop}(h:p:=by
 rcases hJ with⟨_,_,q3⟩|⟨q1,_,_⟩
 ·exact q3
 ·exfalso
  simp only at q1
  rcases q1 with q1|q1
  ·have:=h2.2;simp at this;exact q1 this
  ·rw[q1]at h2;cases h2.1):p:=h
theorem xr{p:Prop}(h:p:=by
 have:(p+1)*te.size≤n*te.size:=Nat.mul_le_mul_right _ QT
 rw[Nat.succ_mul]at this;omega):p:=h
theorem xt{p:Prop}(h:p:=by
 refine eX aA ?_
 refine⟨k+1,⟨oM,oM⟩,oM,?_⟩
 exact aM.bD aA [] rfl ⟨bQ,⟨rfl,aY.of_eq (by rw[e4];rfl)⟩,oO⟩ ⟨qZ,qZ,qZ,qZ,qZ,qZ,⟨rfl,aU.int ew⟩,oO⟩):p:=h
theorem xu{p:Prop}(h:p:=by
 induction u with
 |nil=>rfl
 |cons p r ih=>
  obtain⟨k,b⟩:=p
  rw[List.cons_append,aL,aL]
  by_cases e:k=x
  ·rw[if_pos e,if_pos e]
  ·rw[if_neg e,if_neg e];exact ih):p:=h
theorem xw{p:Prop}(h:p:=by
 obtain⟨bc,h1,h2⟩:=jA x hx
 obtain⟨b,c,e⟩:=(i.box x bc h1).exb h2
 exact⟨_,e⟩):p:=h
theorem xx{p:Prop}(h:p:=by
 ·have h1:¬s.v>0:=bF h1
  have hr:=hJ.run
  simp only at hr
  rw[BD h1]at hr
  subst hr
  refine eX aA ?_
  exact⟨aD8 (aK.wE (dK _) fun _ _ _ _=>aK.refl _),rfl,oO⟩):p:=h
theorem xy{p:Prop}(h:p:=by
 rintro e w' ⟨N,rfl,_,_,hb⟩
 refine⟨_,M,rfl,?_,Grow.refl _ _,nA hM hb,⟨hb,oO⟩⟩
 simp only [atN,UX,ha]
 exact⟨[_,_],rfl,rfl,.inr ⟨rfl,_,_,rfl⟩,oO⟩):p:=h
theorem xz{p:Prop}(h:p:=by
 refine⟨i+1,oM,oM,?_⟩
 exact aM.bD aA [] rfl ⟨bQ,oO⟩ ⟨qZ,⟨rfl,aU.int (by rw[e])⟩,⟨rfl,aU.int (by rw[e])⟩,qZ,qZ,⟨rfl,aU.int (aG oM oM)⟩,oO⟩):p:=h
theorem zaa{p:Prop}(h:p:=by
 rw[hv]at r0
 cases zs.contains b with
 |true=>exact AV.bI.mono (Mem.le_refl _) (fun _ _ h=>by cases h) (conv _ r0)
 |false=>exact AV.bI.mono hM (Nm.le_refl β) r0):p:=h
theorem zab{p:Prop}(h:p:=by
 rename_i e1 e2
 exact⟨_,h,fun K k=>by unfold tY;simp only [uX,htd,e1,e2];exact k⟩):p:=h
theorem zac{p:Prop}(h:p:=by exact⟨aU.rfl,rfl,oO⟩):p:=h
theorem zad{p:Prop}(h:p:=by
 have:(args.map a.eval++us.toArray)=(args.toList.map a.eval++us).toArray:=by
  apply Array.ext';simp
 simp[execOp,ho,resolve,eu,Deferred.ofValue,invoke,this,z7]):p:=h
theorem zae{p:Prop}(h:p:=by
 rename_i e m s' f hb
 cases hs:Nat.beq s s' with
 |false=>exact trivial
 |true=>
  have:=Nat.eq_of_beq_eq_true hs
  subst this
  exact view x s lo n v r e m f hb):p:=h
theorem zaf{p:Prop}(h:p:=by
 rw[QQ]at jJ
 cases AY with
 |nil=>exact⟨[],rfl,trivial⟩
 |cons _ _=>exact jJ.elim):p:=h
theorem zag{p:Prop}(h:p:=by
 simp only at hk ⊢
 split at hk
 ·rename_i d hd
  cases hN:Nat.blt d N with
  |false=>rw[hN]at hk;exact hk.elim
  |true=>rw[hN]at hk;exact hk.2
 ·exact hk.2):p:=h
theorem zah{p:Prop}(h:p:=by
 have h:((l.length:Int)==0)=true:=h
 have:(l.length:Int)=0:=by simpa using h
 omega):p:=h
theorem zai{p:Prop}(h:p:=by
 have mL:(a.eval y).cells.size=ti.size:=by rw[←Array.length_toList,SG];omega
 simp[execOp,ho,Instr.storeAt,Instr.sureAddr,ea,storeVar,gF.iE,mL,SG,jO]):p:=h
theorem zaj{p:Prop}(h:p:=by
 cases hk:k==a with
 |true=>rw[hk]at h;simp only [cond_true,Option.some.injEq,Prod.mk.injEq]at h;omega
 |false=>rw[hk]at h;have:=ih (i+1) p u h;omega):p:=h
theorem zak{p:Prop}(h:p:=by
 have h4:(JL y (y.aQ.getD (lU y.aQ dN).toNat default) b.cls (q8 y b) !=0)=true:=h4
 refine eX aA ?_
 exact vE (by unfold oS;rw[h1,h2,h3,h4];rfl) h4):p:=h
theorem zal{p:Prop}(h:p:=by
 refine⟨i+1,⟨oM,by rw[hj,h];rfl⟩,oM,?_⟩
 refine Sub.bD aA ⟨rQ,rQ,oO⟩ ⟨rQ,rQ,rQ,rQ,⟨rfl,?_⟩,rQ,oO⟩
 exact congrArg vI (aG oM oM)):p:=h
theorem zam{p:Prop}(h:p:=by
 repeat first|refine sk ?_|refine st ?_|refine sg ?_
 refine bR (cI _ _ _) ?_
 repeat first|refine sk ?_|refine st ?_|refine sg ?_
 exact aC.refl _):p:=h
theorem zan{p:Prop}(h:p:=by
 refine oi oM ?_
 refine oi (by rw[e];exact⟨oM,oM⟩) ?_
 refine aC.of_eq ?_
 show pt (l.getD ((i:Int).tmod l.length).toNat default)=_
 rw[e];rfl):p:=h
theorem zap{p:Prop}(h:p:=by
 by_cases qT:b<w.heap.size
 ·simp only [F,if_pos qT]at e
  exact i'.mem b o u e
 ·simp only [F,if_neg qT]at e
  split at e
  ·cases e
  ·exact e):p:=h
theorem zaq{p:Prop}(h:p:=by
 intro y y' bx bx' b1 c1 c2 e1 e2 g1 g2
 obtain⟨_,e1⟩:=live _ _ e1
 obtain⟨_,e2⟩:=live _ _ e2
 exact i.inj y y' _ _ b1 c1 c2 e1 e2 g1 g2):p:=h
theorem zar{p:Prop}(h:p:=by
 have h9:(!within (y.bH.getD i default).iZ 0 100000000000000)=true:=h9
 exact aC.of_eq (by rw[hE 2 dC (by unfold pF;rw[h6,h7,h8,h9];rfl)];rfl)):p:=h
theorem zas{p:Prop}(h:p:=by ·exact aM.bD aA [] rfl trivial ⟨qZ,qZ,⟨rfl,aU.int (aG oM oM)⟩,oO⟩):p:=h
theorem zat{p:Prop}(h:p:=by
 rintro e w' ⟨he,rfl⟩
 exact⟨.tuple #[],M,he,⟨[],rfl,oO⟩,Grow.refl _ _,hM,⟨⟨rfl,rfl,rfl,Nat.le_refl _,fun _ _=>rfl⟩,oO⟩⟩):p:=h
theorem zau{p:Prop}(h:p:=by
 obtain⟨o,cur,q1,q2,q3,q4,q5⟩:=hF.rows x h1 r hr
 exact⟨o,cur,q1,q2,q3,(sO r.g (fun e=>by rw[e,hF.map]at q4;cases q4)).trans q4,q5⟩):p:=h
theorem zav{p:Prop}(h:p:=by
 repeat refine aR ?_
 refine aI (fun h=>?_) (fun h=>?_)
 ·exact aC.of_eq (by unfold A6;rw[h];rfl)
 ·exact aC.of_eq (by unfold A6;rw[h];rfl)):p:=h
theorem zaw{p:Prop}(h:p:=by
 refine⟨u,?_,by rw[if_pos QT];exact hr⟩
 rw[List.append_assoc,List.getElem?_append_left oM,List.getElem?_take_of_lt fZ]
 simpa using hu):p:=h
theorem zax{p:Prop}(h:p:=by rename_i hb;exact absurd hb (e1 _)):p:=h
theorem zay{p:Prop}(h:p:=by
 refine⟨_,h,fun ha cx N M β a w i=>?_⟩
 obtain⟨b,c,e1,e2⟩:=hr ha cx N M β a w i
 exact⟨_,by simp[execOp,ho,e2],b,c,e1,rfl⟩):p:=h
theorem zaz{p:Prop}(h:p:=by simp[execOp,ho,ex,Instr.sliceAt,Instr.slice,run_underlying dB,T4,mS.iE]):p:=h
theorem zaA{p:Prop}(h:p:=by
 refine⟨i+1,⟨oM,by rw[hj,h6];rfl⟩,oM,?_⟩
 refine Sub.bD aA ⟨rQ,oO⟩ ⟨rQ,⟨rfl,?_⟩,rQ,oO⟩
 exact congrArg vI (aG oM oM)):p:=h
theorem zaB{p:Prop}(h:p:=by
 rintro M u ⟨cs,e,hk,hc⟩
 refine⟨cs,e,hk,fun i u hu=>h i ?_ M u (hc i u hu)⟩
 rw[←hk]
 exact(List.getElem?_eq_some_iff.1 hu).1):p:=h
theorem zaC{p:Prop}(h:p:=by
 ·have h:¬(i:Int)<c.regions.length:=bF h
  exact aC.of_eq (by unfold mU;rw[h1,h2,h3,h4,hj,show c.regions.length - i=0 by omega];rfl)):p:=h
theorem zaD{p:Prop}(h:p:=by
 refine⟨_,h,fun ha cx N M β a w i=>?_⟩
 obtain⟨vs,e2,e1⟩:=hr ha cx N M β a w i
 exact⟨_,by simp[execOp,ho,e2],vs,rfl,e1⟩):p:=h
theorem zaE{p:Prop}(h:p:=by
 apply List.ext_getElem?
 intro a
 rw[List.getElem?_modify,List.getElem?_modify]
 by_cases hja:j=a
 ·subst hja
  rw[FK];rfl
 ·simp[hja]):p:=h
theorem zaF{p:Prop}(h:p:=by exact⟨rfl,aM.bD aA [] rfl ⟨bQ,bQ,bQ,oO⟩ ⟨qZ,qZ,qZ,qZ,qZ,qZ,⟨rfl,aU.int (by unfold C4;rw[h1];rfl)⟩,qZ,qZ,qZ,qZ,oO⟩⟩):p:=h
theorem zaG{p:Prop}(h:p:=by
 obtain⟨b,hb⟩:=jT hx
 exact⟨b,jI.get qS hb⟩):p:=h
theorem zaH{p:Prop}(h:p:=by
 simp only [β']at h
 split at h
 ·exact⟨by assumption,h⟩
 ·cases h):p:=h
theorem zaI{p:Prop}(h:p:=by exact aM.bD aA [] rfl ⟨bQ,bQ,bQ,oO⟩ ⟨qZ,qZ,qZ,qZ,qZ,qZ,qZ,oO⟩):p:=h
theorem zaJ{p:Prop}(h:p:=by
 rw[e]at h
 split at h
 ·rename_i d hd
  cases hN:Nat.blt d N with
  |false=>rw[hN]at h;cases h
  |true=>rw[hN]at h;cases h
 ·cases h):p:=h
theorem zaK{p:Prop}(h:p:=by
 simp only [List.getElem?_toArray]at e4
 simp[Instr.mapUpdate,run_underlying dB,MapKept.run_getObj_map hh,jL,oL,e4,HU,e3,gE hh,q2]):p:=h
theorem zaL{p:Prop}(h:p:=by
 obtain⟨rfl,hag⟩:=h
 obtain⟨ti,z,h1,h2,h3⟩:=(hT.get nD).one hag
 rw[hn]at h3
 cases h3
 simp[zeroValue,typeInfo,h1,h2,VK.val]):p:=h
theorem zaM{p:Prop}(h:p:=by
 obtain⟨b,c,e,hh⟩:=h
 exact⟨b,c,hβ _ _ e,(hw b c e).trans hh⟩):p:=h
theorem zaN{p:Prop}(h:p:=by rw[if_pos e]at h;cases h;subst e;exact⟨hk k (by simp[cR]),h1,h2⟩):p:=h
theorem zaO{p:Prop}(h:p:=by
 intro x p e
 rw[(i'.ref x (hβ x p e)).1]
 exact e):p:=h
theorem zaP{p:Prop}(h:p:=by
 cases g with
 |none=>exact⟨_,h.2,fun _ M β u r=>r.1 h.1⟩
 |some gb=>exact⟨_,h.2,fun ha M β u r=>r.1 (h.1 (ha gb rfl))⟩):p:=h
theorem zaQ{p:Prop}(h:p:=by
 have:kind=0:=by simpa using a
 subst this;cases b):p:=h
theorem zaR{p:Prop}(h:p:=by
 have h6:(!within (y.bH.getD i default).batch 1 1000000)=true:=h6
 exact aC.of_eq (by rw[hE 2 dC (by unfold pF;rw[h6];rfl)];rfl)):p:=h
theorem zaS{p:Prop}(h:p:=by
 obtain⟨r,u,⟨he,hK⟩,h2,_⟩:=vW.pt h1
 rw[←he]at hwr
 exact h2 σ' (fun n hn=>hw n (by rw[←hwr];exact hn)) hE hrd _ hK):p:=h
theorem zaT{p:Prop}(h:p:=by
 have hb:0<i:=by simp[rL]at hb;omega
 show 0≤aW ((i:Int) - 1)∧aW ((i:Int) - 1)<(p.aV.length:Int)
 rw[fQ hb];exact⟨oM,oM⟩):p:=h
theorem zaU{p:Prop}(h:p:=by
 have hb:0<i:=by simp[rL]at hb;omega
 show 0≤aW ((i:Int) - 1)∧aW ((i:Int) - 1)<(b.bB.length:Int)
 rw[fQ hb];exact⟨oM,oM⟩):p:=h
theorem zaV{p:Prop}(h:p:=by simp[execOp,ho,ex,ey,resolve,invoke,builtin,Builtin.delete_,run_underlying ht,MapKept.run_getObj_map hF.map,jL,oL,gE hF.map]):p:=h
theorem zaW{p:Prop}(h:p:=by
 simp only [List.modify_zero_cons]
 exact⟨k q e rfl rfl h.1,h.2⟩):p:=h
theorem zaX{p:Prop}(h:p:=by
 simp only [List.modify_succ_cons]
 exact⟨h.1,eH.modify h.2 fun q e hq he=>k q e (by simpa using hq) (by simpa using he)⟩):p:=h
theorem zaY{p:Prop}(h:p:=by
 show eT (cP (nG p fs 0 i)) i 0 [.d (dI (p.aT.levels.getD i 0))] a c=dI ((nG p fs 0 (i+1)).getD a 0)
 exact MW ha hc y2.symm):p:=h
theorem zaZ{p:Prop}(h:p:=by exact two hv (fun q e=>nomatch e) (fun i j k l e=>nomatch e) (fun σ' K' e h=>by simp only [vW,ER,cond_true,e];exact h) h):p:=h
theorem za0{p:Prop}(h:p:=by
 ·refine⟨.inr (.inr ⟨sn,hs⟩),fun e1=>?_⟩
  obtain⟨_,_,_,_,_,hg,_⟩:=gF
  rw[←e1,hF.iter k sn hs]at hg;cases hg):p:=h
theorem za1{p:Prop}(h:p:=by
 have:p=n+(p - n):=oM
 rw[←Nat.add_assoc,←Nat.add_mul,←this]):p:=h
theorem za2{p:Prop}(h:p:=by
 rename_i hu
 split at h
 case h_2=>cases h
 rename_i hb
 exact⟨_,h,fun K k=>by unfold qL;simp only [gG,hu,hb];exact k⟩):p:=h
theorem za3{p:Prop}(h:p:=by
 intro k o u e
 rw[World.cell?_of_block (w:=w) (w':=w') (a:=⟨k,o,none⟩) (hold k (aCJ k o u e))]
 exact i.mem k o u e):p:=h
theorem za4{p:Prop}(h:p:=by
 rw[aL,if_neg (fun h=>by subst h;rw[hd]at hb;cases hb)]
 exact hd):p:=h
theorem za5{p:Prop}(h:p:=by
 obtain⟨k,c,e⟩:=rJ.has x hx
 exact⟨_,e⟩):p:=h
theorem za6{p:Prop}(h:p:=by
 have h5:decide ((y.bH.length:Int)≥200)=true:=h5
 refine eX aA ?_
 exact vE (by unfold oS;rw[h1,h2,h3,h4,h5];rfl) rfl):p:=h
theorem za7{p:Prop}(h:p:=by
 obtain⟨r,h3,h4⟩:=hC [] K h
 exact⟨r,h3,fun K k=>h4 K k⟩):p:=h
theorem za8{p:Prop}(h:p:=by
 unfold Lib.itoa
 split
 ·simp only [List.length_cons];omega
 ·rename_i h0
  have:n.toNat=n.natAbs:=oM
  rw[this];omega):p:=h
theorem za9{p:Prop}(h:p:=by exact aM.of [(100,1000)] (by rw[aA];rfl) rfl ⟨bQ,bQ,⟨rfl,rfl⟩,oO⟩ ⟨qZ,qZ,⟨rfl,aU.nil rfl⟩,qZ,qZ,oO⟩):p:=h
theorem zba{p:Prop}(h:p:=by exact HSub.of (fC.of [] (by rw[aA];rfl) rfl ⟨bQ,bQ,bQ,oO⟩ ⟨qZ,qZ,qZ,qZ,qZ,qZ,qZ,qZ,⟨rfl,aU.int ew⟩,oO⟩)):p:=h
theorem zbb{p:Prop}(h:p:=by
 rw[fE]at hf
 rw[dD,h.1.key,sB]
 cases hk:k==e.1 with
 |true=>rw[hk]at hf;cases hf
 |false=>rw[hk]at hf;exact tV h.2 hf):p:=h
theorem zbc{p:Prop}(h:p:=by
 obtain⟨u,hu,hr⟩:=cY k j hk hj
 exact⟨u,hF x _ b c hb e1 _ u (by simp[World.cell?,hh,hu]),DV.bI.mono hM hr⟩):p:=h
theorem zbd{p:Prop}(h:p:=by
 obtain⟨r,u,h1,h2,_⟩:=vW.pt h
 exact⟨_,h1,fun K' k=>h2 σ (fun _ _=>rfl) (fun _ _=>rfl) (fun _ _=>rfl) _ k⟩):p:=h
theorem zbe{p:Prop}(h:p:=by
 repeat refine aR ?_
 exact aC.refl _):p:=h
theorem zbf{p:Prop}(h:p:=by
 refine aD ?_
 exact⟨rfl,aM.bD aA [] rfl ⟨bQ,bQ,⟨rfl,aY.of_eq (by rw[h,h1];rfl)⟩,oO⟩ ⟨qZ,qZ,qZ,oO⟩⟩):p:=h
theorem zbg{p:Prop}(h:p:=by
 ·have h5:¬(i:Int)<y.bH.length:=bF h5
  have bC:i=y.bH.length:=oM
  exact aC.of_eq (by rw[hj,bC,Nat.sub_self];rfl)):p:=h
theorem zbh{p:Prop}(h:p:=by
 ·have h5:¬(i:Int)<p.cU.length:=bF h5
  have bC:i=p.cU.length:=oM
  exact aC.of_eq (by rw[hj,bC,Nat.sub_self];rfl)):p:=h
theorem zbi{p:Prop}(h:p:=by
 ·have h5:¬(i:Int)<b.bB.length:=bF h5
  have bC:i=b.bB.length:=oM
  exact aC.of_eq (by rw[hj,bC,Nat.sub_self];rfl)):p:=h
theorem zbj{p:Prop}(h:p:=by
 ·have h:¬(i:Int)<l.length:=bF h
  obtain rfl:i=l.length:=oM
  exact aC.of_eq (by rw[he,hj,List.drop_length];rfl)):p:=h
theorem zbk{p:Prop}(h:p:=by exact HSub.of (fC.of [] (by rw[aA];rfl) rfl ⟨bQ,bQ,oO⟩ ⟨qZ,qZ,qZ,qZ,qZ,qZ,qZ,qZ,⟨rfl,aU.int ew⟩,oO⟩)):p:=h
theorem zbl{p:Prop}(h:p:=by ·exact HSub.of (fC.of [] (by rw[aA];rfl) rfl ⟨bQ,bQ,oO⟩ ⟨qZ,⟨rfl,aU.of_eq (by rw[d2];rfl)⟩,qZ,oO⟩)):p:=h
theorem zbm{p:Prop}(h:p:=by
 ·have h5:¬(i:Int)<s.size:=bF h5
  have bC:i=s.size:=oM
  exact aC.lit (by rw[isName,h,hj,bC,Nat.sub_self];rfl)):p:=h
theorem zbn{p:Prop}(h:p:=by
 intro x b1 c1 h e o
 rw[jA x h]at e
 rw[hx]at e
 cases e
 exact rJ.apart 1001 b c (List.mem_singleton.2 rfl) hx o):p:=h
theorem zbo{p:Prop}(h:p:=by
 have h5:¬(i:Int)<y.aQ.length:=bF h5
 have bC:i=y.aQ.length:=oM
 exact aC.of_eq (by rw[hj,bC,Nat.sub_self];rfl)):p:=h
theorem zbp{p:Prop}(h:p:=by
 have hi:i<2:=hi
 have hj:j<2:=hj
 match i,j,hi,hj with
 |0,0,_,_=>rfl
 |0,1,_,_=>rfl
 |1,0,_,_=>rfl
 |1,1,_,_=>rfl):p:=h
theorem zbq{p:Prop}(h:p:=by
 cases c with
 |true=>rw[pZ hg ht (hr.1 rfl)];cases b <;> cases nY <;> rfl
 |false=>exact AU hg ht (hr.2 rfl)):p:=h
theorem zbr{p:Prop}(h:p:=by
 have:=bG hb
 show 0≤aW ((i:Int) - 1)∧aW ((i:Int) - 1)<_
 rw[aG (n:=(i:Int) - 1) oM oM]
 exact⟨oM,oM⟩):p:=h
theorem zbs{p:Prop}(h:p:=by exact aC.ib (by rw[e]) (by rw[e])):p:=h
theorem zbt{p:Prop}(h:p:=by
 split at h <;> first
  |exact h.elim
  |exact⟨_,h,fun K k=>k⟩
  |exact⟨_,h.2,fun K k=>⟨h.1,k⟩⟩):p:=h
theorem zbu{p:Prop}(h:p:=by
 have h3:(JB p (l.getD i default) !=0)=true:=h3
 exact aC.of_eq (by rw[he,hj,←hg];unfold oH;rw[h3];rfl)):p:=h
theorem zbv{p:Prop}(h:p:=by exact aC.of_eq (by rw[hY (by rw[this];decide),this];rfl)):p:=h
theorem zbw{p:Prop}(h:p:=by
 obtain⟨e,h1,h2⟩:=skip h
 exact⟨e,h1,fun K' k=>by unfold a6;simp only [hg,ht,hv];exact h2 K' k⟩):p:=h
theorem zbx{p:Prop}(h:p:=by
 intro y bc h
 rw[aL]at h
 by_cases hy:x=y
 ·subst hy;exact⟨_,hb⟩
 ·rw[if_neg hy]at h;exact⟨_,h⟩):p:=h
theorem zby{p:Prop}(h:p:=by
 obtain⟨e,h1,h2⟩:=run h
 exact⟨e,h1,fun K' k=>by unfold a6;simp only [hg,ht,hv];exact h2 K' k⟩):p:=h
theorem zbz{p:Prop}(h:p:=by
 obtain⟨j',qR⟩:=List.getElem?_of_mem hx
 exact hF.rows x (List.mem_of_getElem? (p6 qR C1).2) r' C1):p:=h
theorem zbA{p:Prop}(h:p:=by
 obtain⟨d,h1,h2⟩:=h.j7
 rw[hu]at h2
 cases d <;> simp only [SP.qJ]at h2 <;> first|exact h1|cases h2):p:=h
theorem zbB{p:Prop}(h:p:=by
 repeat first|refine sk ?_|refine st ?_|refine sg ?_
 refine aD ?_
 exact aC.of_eq (by rw[meet,h];rfl)):p:=h
theorem zbC{p:Prop}(h:p:=by exact aM.bD aA [] rfl ⟨bQ,oO⟩ ⟨qZ,qZ,qZ,qZ,oO⟩):p:=h
theorem zbD{p:Prop}(h:p:=by
 rw[List.length_range]at this
 exact this):p:=h
theorem zbE{p:Prop}(h:p:=by
 rw[e4,←e3]
 simp[Instr.mapUpdate,run_underlying ht,MapKept.run_getObj_map hF.map,jL,oL,gE hF.map]):p:=h
theorem zbG{p:Prop}(h:p:=by
 show dI ((nG p fs 0 i).getD a 0)=dI ((nG p fs 0 (i+1)).getD a 0)
 exact congrArg dI (PX ha y2.symm)):p:=h
theorem zbH{p:Prop}(h:p:=by
 intro w' r h
 simp[execOp,ho,resolve,invoke,builtin,h]):p:=h
theorem zbI{p:Prop}(h:p:=by exact⟨rfl,aM.bD aA [] rfl ⟨bQ,bQ,⟨rfl,aY.of_eq (by rw[h];rfl)⟩,oO⟩ ⟨qZ,qZ,qZ,oO⟩⟩):p:=h
theorem zbJ{p:Prop}(h:p:=by exact aM.of [] (by rw[aA];rfl) rfl ⟨bQ,bQ,bQ,bQ,bQ,oO⟩ ⟨qZ,qZ,qZ,⟨rfl,aU.int ew⟩,oO⟩):p:=h
theorem zbK{p:Prop}(h:p:=by
 split at h2
 case h_2=>exact h2.elim
 rename_i b k
 simp only [Z7 b (by simp[b9,reach])]
 exact h2):p:=h
theorem zbL{p:Prop}(h:p:=by
 intro x bx b c ex hx
 obtain⟨kx,b0,g0,e0⟩:=live x bx b c ex hx
 exact i.apart _ b0 b c g0 e0):p:=h
theorem zbM{p:Prop}(h:p:=by
 rintro a' w' ⟨σ',M',β',rfl,h2,h3,h4⟩
 exact⟨_,M',β',hk,by rw[OF hd];exact h2,h3,h4⟩):p:=h
theorem zbN{p:Prop}(h:p:=by
 by_cases qT:b<w.heap.size
 ·simp only [F,if_pos qT]at e
  exact hg.new b o u e
 ·exact .inr oM):p:=h
theorem zbO{p:Prop}(h:p:=by
 refine⟨.inl rfl,fun e1=>?_⟩
 obtain⟨_,_,_,_,_,hg,_⟩:=gF
 rw[←e1,hF.map]at hg;cases hg):p:=h
theorem zbP{p:Prop}(h:p:=by simp[Builtin.append_,run_underlying dB,sizeOf,typeInfo,EU,y8,Builtin.lenOf,hn,hf,storeCells]):p:=h
theorem zbQ{p:Prop}(h:p:=by
 cases hq:fK p fs m p.aT.levels.length with
 |nil=>rw[hq]at TW;simp at TW;omega
 |cons _ _=>rfl):p:=h
theorem zbR{p:Prop}(h:p:=by
 have hc:c<13:=hc
 match c,hc with|0,_|1,_|2,_|3,_|4,_|5,_|6,_|7,_|8,_|9,_|10,_|11,_|12,_=>rfl):p:=h
theorem zbS{p:Prop}(h:p:=by
 simp only [aEQ]at hk
 split at hk
 ·rename_i ts uX;exact fin ts uX hk.1 hk.2
 ·exact hk.elim):p:=h
theorem zbT{p:Prop}(h:p:=by exact aM.bD aA [] rfl trivial ⟨qZ,qZ,qZ,qZ,oO⟩):p:=h
theorem zbU{p:Prop}(h:p:=by
 rw[hk,k0']
 unfold cK
 revert g1
 cases within f.a8 0 2 <;> cases within f.month 0 24 <;> simp):p:=h
theorem zbV{p:Prop}(h:p:=by
 simp only [MF]at hk
 split at hk
 ·rename_i ts uX;exact fin ts uX hk.1 hk.2
 ·exact hk.elim):p:=h
theorem zbW{p:Prop}(h:p:=by
 simp only [VL]at hk
 split at hk
 ·rename_i ts uX;exact fin ts uX hk.1 hk.2
 ·exact hk.elim):p:=h
theorem zbX{p:Prop}(h:p:=by
 show w.heap[h.bm]? =some (.map ((cW h.l j).map bO.nK).toArray h.clock)
 rw[KL];exact hF.map):p:=h
theorem zbZ{p:Prop}(h:p:=by
 rw[hk,k2']
 unfold cK
 revert g1 g4
 cases within f.month 1 24 <;> cases isName f.eS <;> simp):p:=h
theorem zb0{p:Prop}(h:p:=by rw[if_pos e];exact⟨_,rfl⟩):p:=h
theorem zb1{p:Prop}(h:p:=by
 have:i=0:=by have:i<1:=hi;omega
 have:j=0:=by have:j<1:=hj;omega
 subst i j;exact aK.refl _):p:=h
theorem zb2{p:Prop}(h:p:=by
 have h2:decide ((l.length:Int)>200)=true:=h2
 exact aC.of_eq (by unfold iI;rw[h1,h2];rfl)):p:=h
theorem zb3{p:Prop}(h:p:=by exact ints.congr (fun y hy=>he y (by simp[Op.operands,Call.operands];simpa using hy)) h):p:=h
theorem zb4{p:Prop}(h:p:=by
 show(y.bH++_).length≤_
 rw[List.length_append];simp only [List.length_singleton];omega):p:=h
theorem zb5{p:Prop}(h:p:=by
 refine⟨r,h1,fun K k=>?_⟩
 unfold lD
 simp only [gG,hu,nD,hs,cond_true]
 exact h2 K k):p:=h
theorem zb6{p:Prop}(h:p:=by
 simp only [names,List.mem_cons]at hz
 rcases hz with rfl|hz
 ·exact h
 ·exact h1 z hz):p:=h
theorem zb7{p:Prop}(h:p:=by
 refine aK.fU fun i j hi hj=>?_
 have:j=0:=oM
 have:i=0:=oM
 subst i j
 exact aK.of_eq h0):p:=h
theorem zb8{p:Prop}(h:p:=by exact aM.bD aA [] rfl ⟨bQ,bQ,bQ,bQ,oO⟩ ⟨qZ,qZ,qZ,qZ,qZ,qZ,qZ,qZ,qZ,qZ,qZ,oO⟩):p:=h
theorem zb9{p:Prop}(h:p:=by exact⟨rfl,aM.bD aA [] rfl ⟨bQ,bQ,bQ,bQ,oO⟩ ⟨qZ,qZ,qZ,qZ,qZ,qZ,qZ,qZ,oO⟩⟩):p:=h
theorem zca{p:Prop}(h:p:=by
 simp only [XP]at hk
 split at hk
 ·rename_i ts uX;exact fin ts uX hk
 ·exact hk.elim):p:=h
theorem zcb{p:Prop}(h:p:=by simp[Instr.mapUpdate,run_underlying dB,MapKept.run_getObj_map hh,jL,oL,e3,gE hh,q2]):p:=h
theorem zcc{p:Prop}(h:p:=by simp only [List.getD_eq_getElem?_getD,List.getElem?_concat_length,Option.getD_some]):p:=h
theorem zcd{p:Prop}(h:p:=by exact aC.of_eq (by unfold pC;rw[h1,h2,h3];rfl)):p:=h
theorem zce{p:Prop}(h:p:=by exact aC.of_eq (by unfold mU;rw[h1,h2,h3];rfl)):p:=h
theorem zcg{p:Prop}(h:p:=by
 intro y bx b1 c1 e1 g1
 obtain⟨_,e1⟩:=live _ _ e1
 exact i.apart y _ b1 c1 e1 g1):p:=h
theorem zch{p:Prop}(h:p:=by
 unfold iL
 rw[show((fF p fs ((0:Nat):Int) i).1==30000)=false by simpa using h3];rfl):p:=h
theorem zci{p:Prop}(h:p:=by
 simp only [dS]
 split
 ·rename_i e n s f hb
  exact b8 z x v r e n s f hb
 ·trivial):p:=h
theorem zcj{p:Prop}(h:p:=by exact⟨_,M',β',hk,by rw[UY hd];exact hi.put (σ:=⟨σ.env,_⟩) hN hr,hg,lB⟩):p:=h
theorem zck{p:Prop}(h:p:=by
 refine Sub.bD aA trivial ⟨rQ,⟨rfl,?_⟩,rQ,oO⟩
 exact congrArg vI (aG oM oM)):p:=h
theorem zcl{p:Prop}(h:p:=by
 unfold iL
 rw[show((fF p fs ((0:Nat):Int) i).1==30000)=true by simpa using h3];rfl):p:=h
theorem zcm{p:Prop}(h:p:=by exact aC.of_eq (by unfold dX;rw[h,h',h2];rfl)):p:=h
theorem zcn{p:Prop}(h:p:=by
 simp only [dS]
 split
 ·rename_i e n s f hb
  exact row x v r e n s f hb
 ·trivial):p:=h
theorem zco{p:Prop}(h:p:=by
 intro y bx b1 c1 e1 g1
 obtain⟨_,e1⟩:=live _ _ e1
 exact i.low y _ b1 c1 e1 g1):p:=h
theorem zcp{p:Prop}(h:p:=by exact⟨_,M',β',hk,hi.put (σ:=⟨(CB zs σ).env,bx⟩) hN hr,g1.trans hg,lB⟩):p:=h
theorem zcq{p:Prop}(h:p:=by
 rw[if_pos h]
 simp only [List.getD_eq_getElem?_getD,List.getElem?_append_left h]):p:=h
theorem zcr{p:Prop}(h:p:=by
 have h:qG p i=2:=by unfold qG;rw[h6,h7,h8];rfl
 exact aC.of_eq (by rw[hj,h];rfl)):p:=h
theorem zcs{p:Prop}(h:p:=by
 rcases jO with e|⟨_,_,e,_⟩|⟨_,_,e,_⟩
 ·cases e;rfl
 ·cases e
 ·cases e):p:=h
theorem zct{p:Prop}(h:p:=by
 cases vk with
 |int=>cases h
 |bool=>cases h;exact(show u=_ from r).trans (hb _)):p:=h
theorem zcu{p:Prop}(h:p:=by exact⟨by decide+kernel,by decide+kernel,by decide+kernel,by decide+kernel⟩):p:=h
theorem zcv{p:Prop}(h:p:=by exact WX dB c2 c3 EU y8 QZ SM JU run hd hb mT oW i e1 ex hh mL hn I9 cY ey hy):p:=h
theorem zcw{p:Prop}(h:p:=by exact aC.of_eq (by unfold j6;rw[h1,h2];rfl)):p:=h
theorem zcx{p:Prop}(h:p:=by simp only [cond_false,cond_true];rw[DT];rfl):p:=h
theorem zcy{p:Prop}(h:p:=by
 refine⟨_,w,M,β,.inl (run _ _ a7),?_,hw.1,Grow.refl _ _,hw.2⟩
 rw[h0];rfl):p:=h
theorem zcz{p:Prop}(h:p:=by
 have h:qG p i=5:=by unfold qG;rw[h6,h7];rfl
 exact aC.of_eq (by rw[hj,h];rfl)):p:=h
theorem zcA{p:Prop}(h:p:=by
 have h:wD l i=5:=by unfold wD;rw[h6,h7];rfl
 exact aC.of_eq (by rw[hj,h];rfl)):p:=h
theorem zcB{p:Prop}(h:p:=by exact aM.bD aA [] rfl trivial ⟨qZ,qZ,qZ,⟨rfl,aU.int (aG oM oM)⟩,oO⟩):p:=h
theorem zcC{p:Prop}(h:p:=by exact Sub.bD aA ⟨rQ,oO⟩ ⟨rQ,rQ,oO⟩):p:=h
theorem zcE{p:Prop}(h:p:=by exact aC.of_eq (by unfold nN;rw[hj,h];rfl)):p:=h
theorem zcF{p:Prop}(h:p:=by exact aC.of_eq (by unfold mO;rw[h,h'];rfl)):p:=h
theorem zcG{p:Prop}(h:p:=by
 have h:D1 y i=19:=by unfold D1;rw[h6];rfl
 exact aC.of_eq (by rw[hj,h];rfl)):p:=h
theorem zcI{p:Prop}(h:p:=by exact aM.bD aA [] rfl ⟨bQ,oO⟩ ⟨qZ,⟨rfl,aU.int (aG oM oM)⟩,oO⟩):p:=h
theorem zcJ{p:Prop}(h:p:=by
 have h:qG p i=6:=by unfold qG;rw[h6];rfl
 exact aC.of_eq (by rw[hj,h];rfl)):p:=h
theorem zcK{p:Prop}(h:p:=by
 have h:wD l i=4:=by unfold wD;rw[h6];rfl
 exact aC.of_eq (by rw[hj,h];rfl)):p:=h
theorem zcL{p:Prop}(h:p:=by
 rw[Nat.zero_add]at k2
 refine⟨j,k1,?_,k2⟩
 rw[k2]at hs
 simpa using hs):p:=h
theorem zcM{p:Prop}(h:p:=by
 rw[run,e2,hlen]
 simp[Builtin.len_,run_underlying (h1.isSlice e1),goInt]):p:=h
theorem zcN{p:Prop}(h:p:=by
 rename_i hs
 exact⟨_,h,fun K k=>by unfold J3;simp only [hs];exact k⟩):p:=h
theorem zcO{p:Prop}(h:p:=by
 rw[hk,k1']
 unfold cK
 revert g1
 cases within f.number 1 1000000 <;> simp):p:=h
theorem zcP{p:Prop}(h:p:=by
 have h1:(iI p l !=0)=true:=h1
 exact aC.of_eq (by unfold j6;rw[h1];rfl)):p:=h
theorem zcQ{p:Prop}(h:p:=by
 obtain⟨h,_⟩:=dF dC h
 simp only [decide_eq_false_iff_not]at h
 omega):p:=h
theorem zcR{p:Prop}(h:p:=by
 rw[e3]
 exact⟨rfl,aM.bD aA [] rfl ⟨bQ,oO⟩ ⟨qZ,qZ,qZ,qZ,oO⟩⟩):p:=h
theorem zcS{p:Prop}(h:p:=by
 intro l
 induction l with
 |nil=>rfl
 |cons v r ih=>cases v <;> exact ih):p:=h
theorem zcT{p:Prop}(h:p:=by
 have hh:=h x (by simp[b9,reach])
 cases u <;> first|rfl|simp only [hh]):p:=h
theorem zcU{p:Prop}(h:p:=by
 refine aB (D6 f.month oM oM) ?_
 refine aD ?_
 exact⟨aU.rfl,rfl,oO⟩):p:=h
theorem zcV{p:Prop}(h:p:=by
 have h1:(iG p !=0)=true:=h1
 exact aC.of_eq (by unfold iI;rw[h1];rfl)):p:=h
theorem zcW{p:Prop}(h:p:=by
 intro x p e
 exact cR.has (hβ x p e).1):p:=h
theorem zcX{p:Prop}(h:p:=by exact Sub.bD aA trivial ⟨rQ,rQ,oO⟩):p:=h
theorem zcY{p:Prop}(h:p:=by
 show aK (jM e.2.1.length F _ a c) _
 rw[WU hae]
 exact hFF a c hae hc):p:=h
theorem zcZ{p:Prop}(h:p:=by
 by_cases h1:a<i
 ·rw[if_pos h1,if_pos oM]
 ·rw[if_neg h1,if_neg oM]):p:=h
theorem zc0{p:Prop}(h:p:=by
 by_cases fZ:k<i
 ·rw[if_pos fZ,if_pos oM]
 ·rw[if_neg fZ,if_neg oM]):p:=h
theorem zc1{p:Prop}(h:p:=by exact aC.of_eq (by rw[hE 6 dC (by unfold pF;rw[h6,h7,h8];rfl)];rfl)):p:=h
theorem zc3{p:Prop}(h:p:=by
 rw[hs,decDigits_length]
 exact oD n.natAbs n.natAbs (Nat.le_refl _)):p:=h
theorem zc4{p:Prop}(h:p:=by simp only [List.getD_eq_getElem?_getD,List.getElem?_take_of_lt h1]):p:=h
theorem zc5{p:Prop}(h:p:=by
 unfold j8
 rw[A5]
 exact Nat.le_trans (List.length_filter_le _ _) hl):p:=h
theorem zc6{p:Prop}(h:p:=by rw[getD_set_ne true SL]at V9;exact V9):p:=h
theorem zc7{p:Prop}(h:p:=by exact aC.of_eq (by rw[hE 5 dC (by unfold pF;rw[h6,h7];rfl)];rfl)):p:=h
theorem zc8{p:Prop}(h:p:=by simp[execOp,ho,ex,ey,hv,hm]):p:=h
theorem zc9{p:Prop}(h:p:=by exact⟨_,M',β',hk,hi.put (σ:=⟨σ.env,bx⟩) hN hr,hg,lB⟩):p:=h
theorem zda{p:Prop}(h:p:=by
 match i,hi with
 |0,_=>exact aK.of_eq h0
 |1,_=>exact aK.of_eq h1):p:=h
theorem zdb{p:Prop}(h:p:=by exact⟨aU.rfl,rfl,rfl,rfl,rfl,oO⟩):p:=h
theorem zdc{p:Prop}(h:p:=by
 refine eX aA ?_
 exact aC.mo):p:=h
theorem zdd{p:Prop}(h:p:=by
 by_cases hx:x=d
 ·subst hx;rw[HX]at e;cases e
 ·simp[β',hx,e]):p:=h
theorem zde{p:Prop}(h:p:=by exact⟨_,h,fun _ cx N M β a w i=>key _ hs cx N M β a w i⟩):p:=h
theorem zdf{p:Prop}(h:p:=by exact aC.of_eq (by unfold iG;rw[h1,h2,h3,h4,h5,h8,ht,h10];rfl)):p:=h
theorem zdg{p:Prop}(h:p:=by cases ad <;> simp[Builtin.firstCells,loadCells,loadCellsFrom]):p:=h
theorem zdh{p:Prop}(h:p:=by exact⟨r,h1,fun K k=>by simp only [mD,hx,ht];exact h2 K k⟩):p:=h
theorem zdj{p:Prop}(h:p:=by obtain⟨r,h1,h2⟩:=fe.pJ h;exact⟨r,h1,fun K k=>h2 K k⟩):p:=h
theorem zdk{p:Prop}(h:p:=by obtain⟨r,h1,h2⟩:=lR.pt h;exact⟨r,h1,fun K k=>h2 K k⟩):p:=h
theorem zdl{p:Prop}(h:p:=by
 rw[L4 f bC]
 exact aAD (L5 (AP f i)) (by unfold yJ;rw[g];rfl)):p:=h
theorem zdm{p:Prop}(h:p:=by
 cases h:k==a with
 |true=>simp[gW,nS,h]
 |false=>simp[gW,nS,h]):p:=h
theorem zdn{p:Prop}(h:p:=by
 intro x b1 c1 h e
 rw[jA x h]at e
 exact .inr ⟨1001,c1,e⟩):p:=h
theorem zdo{p:Prop}(h:p:=by
 obtain⟨x,hx⟩:=Option.isSome_iff_exists.1 h'
 rw[hx];rfl):p:=h
theorem zdp{p:Prop}(h:p:=by exact aC.of_eq (by unfold iG;rw[h1,h2,h3,h4,h5,h6,h7];rfl)):p:=h
theorem zdq{p:Prop}(h:p:=by refine Sub.bD aA ⟨rQ,rQ,oO⟩ ⟨rQ,rQ,rQ,rQ,rQ,rQ,oO⟩):p:=h
theorem zdr{p:Prop}(h:p:=by
 rw[Nat.zero_add]at k2
 rw[←k2]
 exact List.getElem_mem fZ):p:=h
theorem zds{p:Prop}(h:p:=by
 subst this
 show Value.bool _=Value.bool _
 cases b <;> rfl):p:=h
theorem zdt{p:Prop}(h:p:=by ·simp only [JR];exact h2 σ rfl rfl rfl _ ⟨rfl,rfl⟩):p:=h
theorem zdu{p:Prop}(h:p:=by
 split at h
 ·cases h;exact r
 ·cases h;exact r
 ·cases h):p:=h
theorem zdv{p:Prop}(h:p:=by
 refine eX aA ?_
 exact⟨aU.rfl,rfl,rfl,rfl,rfl,rfl,oO⟩):p:=h
theorem zdw{p:Prop}(h:p:=by
 ·have h1:(fF p fs m i).2=false:=h1
  rw[h]at h1;cases h1):p:=h
theorem zdx{p:Prop}(h:p:=by
 simp only [List.getElem?_eq_getElem fZ]
 exact ih _ _ FJ):p:=h
theorem zdy{p:Prop}(h:p:=by exact List.mem_append_right _ hm):p:=h
theorem zdz{p:Prop}(h:p:=by
 rw[←BW]at hs
 unfold eR at hs
 split at hs <;> exact hs):p:=h
theorem zdA{p:Prop}(h:p:=by exact aC.of_eq (by unfold mU;rw[h1,h2,h3,h4,hj,h5];rfl)):p:=h
theorem zdB{p:Prop}(h:p:=by
 rw[mL,←Nat.succ_mul]
 exact Nat.mul_le_mul_right _ oM):p:=h
theorem zdC{p:Prop}(h:p:=by rw[if_pos e]at h;cases h):p:=h
theorem zdD{p:Prop}(h:p:=by
 rw[TT]at this
 cases this):p:=h
theorem zdE{p:Prop}(h:p:=by exact⟨_,M,β,_,hK,hw.1,mH.none,Grow.refl _ _,hw.2⟩):p:=h
theorem zdH{p:Prop}(h:p:=by rw[←qO];simp[execOp,ho,ex,a7]):p:=h
theorem zdI{p:Prop}(h:p:=by
 unfold jM
 rw[if_neg (Nat.not_lt_zero i),Nat.sub_zero]):p:=h
theorem zdJ{p:Prop}(h:p:=by unfold a6 xD;cases decide (s.lo<s.cur.length) <;> rfl):p:=h
theorem zdK{p:Prop}(h:p:=by
 intro x y b1 c1 c2 hx1 hy1 _ _
 rw[jA x hx1,jA y hy1]):p:=h
theorem zdL{p:Prop}(h:p:=by
 have h1:(fF p fs m i).2=true:=h1
 rw[h]at h1;cases h1):p:=h
theorem zdN{p:Prop}(h:p:=by exact aC.of_eq (by unfold iG;rw[h1,h2,h3,h4,h5];rfl)):p:=h
theorem zdO{p:Prop}(h:p:=by exact aC.of_eq (by unfold jS;rw[h1,h2,h3,hb,h8];rfl)):p:=h
theorem zdP{p:Prop}(h:p:=by exact⟨_,M',β',hk,by rw[aDW hd];exact hi,hg,lB⟩):p:=h
theorem zdQ{p:Prop}(h:p:=by
 by_cases hmk:m=k
 ·rw[hmk];exact EW
 ·exact hm m oM):p:=h
theorem zdS{p:Prop}(h:p:=by simp[World.setCell,Array.getElem?_modify,Ne.symm h]):p:=h
theorem zdT{p:Prop}(h:p:=by subst y7;exact .inr ⟨hil,oi,ei,fi,hi,hfi,hy,H⟩):p:=h
theorem zdU{p:Prop}(h:p:=by rw[show(M:Int).toNat=M from rfl,mK oM];exact uS bC):p:=h
theorem zdV{p:Prop}(h:p:=by exact aC.of_eq (by unfold mU;rw[h1,h2,h3,h4];rfl)):p:=h
theorem zdW{p:Prop}(h:p:=by
 ·have g:¬(j:Int)<xs.length:=bF g
  exact hE oM _):p:=h
theorem zdX{p:Prop}(h:p:=by
 have:=lC x hx
 simp only [decide_eq_true_eq];omega):p:=h
theorem zdY{p:Prop}(h:p:=by exact aC.of_eq (by unfold iG;rw[h1,h2,h3,h4];rfl)):p:=h
theorem zdZ{p:Prop}(h:p:=by exact aC.of_eq (by unfold jS;rw[h1,h2,h3,h4];rfl)):p:=h
theorem zd0{p:Prop}(h:p:=by
 split at h
 ·exact⟨_,h,fun K k=>k⟩
 ·cases h):p:=h
theorem zd1{p:Prop}(h:p:=by exact aM.bD aA [] rfl ⟨bQ,oO⟩ ⟨qZ,qZ,oO⟩):p:=h
theorem zd2{p:Prop}(h:p:=by
 have:kind=1:=by simpa using a
 subst this;cases b):p:=h
theorem zd4{p:Prop}(h:p:=by
 unfold nW at h
 split at h
 ·rfl
 ·rfl
 ·cases h):p:=h
theorem zd5{p:Prop}(h:p:=by
 rw[Nat.add_mul]at this
 omega):p:=h
theorem zd6{p:Prop}(h:p:=by
 simp only [cond_false]
 omega):p:=h
theorem zd7{p:Prop}(h:p:=by
 repeat refine aR ?_
 exact⟨aC.refl _,rfl,oO⟩):p:=h
theorem zd8{p:Prop}(h:p:=by
 refine aD ?_
 exact aC.refl _):p:=h
theorem zd9{p:Prop}(h:p:=by
 simp only [fH,cond_true]
 rfl):p:=h
theorem zea{p:Prop}(h:p:=by
 refine⟨by simp;omega,?_⟩
 rw[h2]
 simp
 omega):p:=h
theorem zeb{p:Prop}(h:p:=by exact aC.of_eq (by unfold mU;rw[h1,h2,EW];rfl)):p:=h
theorem zec{p:Prop}(h:p:=by exact⟨a1.trans b1,a2.trans b2,a3.trans b3⟩):p:=h
theorem zed{p:Prop}(h:p:=by exact aC.of_eq (by unfold R6;rw[h1,h2,h3];rfl)):p:=h
theorem zee{p:Prop}(h:p:=by exact aC.of_eq (by unfold qI;rw[h1,h2,h3];rfl)):p:=h
theorem zef{p:Prop}(h:p:=by exact aC.of_eq (by unfold iG;rw[h1,h2,h3];rfl)):p:=h
theorem zeg{p:Prop}(h:p:=by exact aC.of_eq (by unfold jS;rw[h1,h2,h3];rfl)):p:=h
theorem zeh{p:Prop}(h:p:=by exact aC.of_eq (by unfold vN;rw[h1,h2,h3];rfl)):p:=h
theorem zei{p:Prop}(h:p:=by exact hF.II j1 j2 x1 x2 r1 r2 q1 q2 hr1 YL eg):p:=h
theorem zej{p:Prop}(h:p:=by simp[execOp,ho,run_makeMap]):p:=h
theorem zek{p:Prop}(h:p:=by exact⟨u,by rw[Nat.add_assoc];exact hu,FJ⟩):p:=h
theorem zel{p:Prop}(h:p:=by simp[execOp,ho,ex,Op.unary]):p:=h
theorem zem{p:Prop}(h:p:=by exact aC.of_eq (by rw[kC,he,h4,h5,h6,h7];rfl)):p:=h
theorem zen{p:Prop}(h:p:=by rw[beq_eq_false_iff_ne];rintro rfl;simp at hb):p:=h
theorem zeo{p:Prop}(h:p:=by
 rw[e,e2]
 exact aC.t ⟨aK.nil,aK.refl _,oO⟩):p:=h
theorem zep{p:Prop}(h:p:=by exact⟨rfl,rfl,oO⟩):p:=h
theorem zeq{p:Prop}(h:p:=by
 simp only [cond_true]
 omega):p:=h
theorem zer{p:Prop}(h:p:=by
 have:f.kind=1:=by simpa using h2
 rw[this];rfl):p:=h
theorem zes{p:Prop}(h:p:=by exact wpIn_region_list (by simpa using this)):p:=h
theorem zet{p:Prop}(h:p:=by ·simp only [hk,decide_false,cond_false]at h):p:=h
theorem zeu{p:Prop}(h:p:=by
 rw[List.any_eq_false]at a
 simpa using a n hn):p:=h
theorem zev{p:Prop}(h:p:=by
 rintro⟨k,s⟩ hJ
 have aI0:=hJ.lo
 have hlen:=hJ.len
 have T0:=hJ.few
 have hvb:=hJ.v
 simp only at aI0 hlen T0 hvb
 refine AW.seq (sX aA ?_)
 refine AW.cond ?_
 refine aI (fun h1=>AW.skip ?_) (fun h1=>AW.exit ?_)
 ·exact za
 exact xx):p:=h
theorem zex{p:Prop}(h:p:=by rw[aA];rfl):p:=h
theorem zey{p:Prop}(h:p:=by show HSub _ _ _ _ ⟨[(7,.s (.own 100)),(1,vI M),(2,.s (.d (cZ (dA p fs (M+1))))),(3,.s (.ptr 3 0)),(8,dQ k.bm),(9,.s (.ptr 9 0)),(11,vI (dH p)),(12,vI i),(23,iD (cH (bN p M i x) 0 []).out),(51,vI p.aT.levels.length),(52,vI i),(97,iC xs),(98,vI xs.length),(99,vI j)],[(3,some (.cells (l0 p fs))),(9,some (.cells (kQ p))),(100,some (.row 109 (py::po).length 7 (eJ (py::po))))]⟩ _;exact HSub.of (fC.of [] (by rw[aA];rfl) rfl ⟨bQ,bQ,bQ,oO⟩ ⟨qZ,qZ,qZ,qZ,qZ,qZ,qZ,qZ,qZ,qZ,qZ,qZ,qZ,qZ,oO⟩)):p:=h
theorem zez{p:Prop}(h:p:=by show HSub _ _ _ _ ⟨[(7,.s (.d eO)),(1,vI M),(2,.s (.d (cZ (dA p fs (M+1))))),(3,.s (.ptr 3 0)),(8,dQ k.bm),(9,.s (.ptr 9 0)),(11,vI (dH p)),(12,vI i),(23,iD (cH (bN p M i x) 0 []).out),(51,vI p.aT.levels.length),(52,vI i),(97,iC xs),(98,vI xs.length),(99,vI j)],[(3,some (.cells (l0 p fs))),(9,some (.cells (kQ p)))]⟩ _;exact HSub.of (fC.of [] (by rw[aA];rfl) rfl ⟨bQ,bQ,oO⟩ ⟨qZ,qZ,qZ,qZ,qZ,qZ,qZ,qZ,qZ,qZ,qZ,qZ,qZ,qZ,oO⟩)):p:=h
theorem zeA{p:Prop}(h:p:=by simp[Op.operands]):p:=h
theorem zeB{p:Prop}(h:p:=by simp[Op.operands,Call.operands]):p:=h
theorem zeC{p:Prop}(h:p:=by simp;omega):p:=h
theorem zeD{p:Prop}(h:p:=by simpa [LA]using hi):p:=h
theorem zeE{p:Prop}(h:p:=by decide):p:=h
theorem zeF{p:Prop}(h:p:=by rw[ho]at hc;cases hc):p:=h
theorem zeG{p:Prop}(h:p:=by show(i:Int).toNat<y.aQ.length;omega):p:=h
theorem zeH{p:Prop}(h:p:=by rw[show j=0 by omega];exact hf):p:=h
theorem zeI{p:Prop}(h:p:=by simpa using h):p:=h
theorem zeJ{p:Prop}(h:p:=by rw[List.getD_eq_getElem?_getD,List.getElem?_eq_getElem bC];exact List.getElem_mem _):p:=h
theorem zeK{p:Prop}(h:p:=by show jK.smap .int _=jK.smap .int (kL l (i+1));rw[hG2]):p:=h
theorem zeL{p:Prop}(h:p:=by simp[names]):p:=h
theorem zeM{p:Prop}(h:p:=by rw[Array.length_toList];exact hz):p:=h
theorem zeN{p:Prop}(h:p:=by rw[←hw];rfl):p:=h
theorem zeO{p:Prop}(h:p:=by rw[show j=0 by omega];exact hg):p:=h
theorem zeP{p:Prop}(h:p:=by simp[Region.wanted,hg]):p:=h
theorem zeQ{p:Prop}(h:p:=by simp[Op.operands,Call.operands];exact .inr (by simpa using hy)):p:=h
theorem zeR{p:Prop}(h:p:=by simp only [reach,hb];exact List.mem_cons_of_mem _ (iT hc hm)):p:=h
theorem zeS{p:Prop}(h:p:=by rw[dK];show(((l.take i).map FH).length+1)*8≤_;rw[hlen];omega):p:=h
theorem zeT{p:Prop}(h:p:=by show 0≤aW ((k:Int)+1)∧aW ((k:Int)+1)<_;rw[e];exact⟨oM,oM⟩):p:=h
theorem zeU{p:Prop}(h:p:=by unfold maxLen;omega):p:=h
theorem zeV{p:Prop}(h:p:=by rw[dK];show((fK p fs m i).length+1)*8≤_;rw[TW];omega):p:=h
theorem zeW{p:Prop}(h:p:=by simp[reach]):p:=h
theorem zeY{p:Prop}(h:p:=by unfold vZ R5;rw[h];rfl):p:=h
theorem ze0{p:Prop}(h:p:=by rw[y8];exact hl):p:=h
theorem ze2{p:Prop}(h:p:=by rw[h]at hr;cases hr):p:=h
theorem ze3{p:Prop}(h:p:=by simpa using hy):p:=h
theorem ze4{p:Prop}(h:p:=by simpa using hi):p:=h
theorem ze5{p:Prop}(h:p:=by rw[hc,hb];exact List.mem_map.2 ⟨e',DT,rfl⟩):p:=h
theorem ze6{p:Prop}(h:p:=by cases gY p fs m p.aT.levels.length <;> rfl):p:=h
theorem ze7{p:Prop}(h:p:=by rw[show i+1+q=i+(q+1) by omega];exact h):p:=h
theorem ze8{p:Prop}(h:p:=by rw[List.all_eq_true]at h1;exact h1 x hx):p:=h
theorem ze9{p:Prop}(h:p:=by rw[hg];exact hf _ (List.getElem_mem bC)):p:=h
theorem zfa{p:Prop}(h:p:=by rw[h];rfl):p:=h
theorem zfb{p:Prop}(h:p:=by cases h):p:=h
theorem zfc{p:Prop}(h:p:=by simp only [Int.natCast_zero]at*;omega):p:=h
theorem zfd{p:Prop}(h:p:=by rw[hg];simp):p:=h
theorem zfe{p:Prop}(h:p:=by rw[←hw];exact trivial):p:=h
theorem zff{p:Prop}(h:p:=by simp[b9,reach]):p:=h
theorem zfg{p:Prop}(h:p:=by simpa using hj):p:=h
theorem zfh{p:Prop}(h:p:=by rw[h1];rfl):p:=h
theorem zfi{p:Prop}(h:p:=by rw[h6];rfl):p:=h
theorem zfj{p:Prop}(h:p:=by rw[eq_of_beq e];simp):p:=h
theorem zfk{p:Prop}(h:p:=by rw[←h.box];exact e):p:=h
theorem zfl{p:Prop}(h:p:=by rw[←hb];exact e):p:=h
end Go.Ax
namespace Go
theorem oM{p:Prop}(h:p:=by omega):p:=h
theorem kR{p:Prop}(h:p:=by kernel_rfl):p:=h
theorem dC{p:Prop}(h:p:=by decide):p:=h
theorem sM{p:Prop}(h:p:=by simp):p:=h
end Go
namespace Go.Ax
open Go
end Go.Ax
namespace Go.Ax
open Go.RowKit
abbrev Mem:=Nat→Nat→Option Value
abbrev Nm:=Nat→Option (Nat×(Nat×Nat))
inductive DV where
 |val (v:Value)
 |lit (b:Bool)
 |rp (m:Nat) (f:Nat→DV)
 |fU (n s:Nat) (f:Nat→Nat→DV)
 |dZ (f:FuncId) (k:Nat) (c:Nat→DV)
 |bnd (f:FuncId) (n:Nat) (c:Nat→DV)
 |err (b:Bool)
 |bL
def DV.bI(M:Mem):DV→Value→Prop
 |.val u,v=>v=u
 |.lit b,v=>v=.bool b
 |.rp m f,v=>∃b o,v=.pointer (some ⟨b,o,none⟩)∧∀j,j<m→∃u,M b (o+j)=some u∧(f j).bI M u
 |.fU n s f,v=>∃a cap,v=.slice a n cap∧n≤cap∧(n=0∨∃b o,a=some ⟨b,o,none⟩∧∀i j,i<n→j<s→∃u,M b (o+i*s+j)=some u∧(f i j).bI M u)
 |.dZ f k c,v=>∃cs:List Value,v=.func (.func f) #[] cs.toArray∧cs.length=k∧∀i u,cs[i]? =some u→(c i).bI M u
 |.bnd f k c,v=>∃cs:List Value,v=.func (.func f) #[.agg cs.toArray] #[]∧cs.length=k∧∀i u,cs[i]? =some u→(c i).bI M u
 |.err b,v=>(b=false∧v=.nilIface)∨(b=true∧∃t u,v=.iface t u)
 |.bL,_=>True
def Mem.le(M M':Mem):Prop:=∀b o u,M b o=some u→M' b o=some u
theorem Mem.le_refl(M:Mem):Mem.le M M:=fun _ _ _ h=>h
theorem Mem.le_trans{A B C:Mem}(h:Mem.le A B)(k:Mem.le B C):Mem.le A C:=fun b o u x=>k b o u (h b o u x)
theorem DV.bI.mono{M M':Mem}(h:Mem.le M M'):∀{x:DV} {v:Value},x.bI M v→x.bI M' v:=by
 intro x;induction x with
 |val u=>exact fun r=>r
 |lit b=>exact fun r=>r
 |rp m f ih=>rintro v ⟨b,o,e,hc⟩;exact⟨b,o,e,fun j hj=>let⟨u,hu,hr⟩:=hc j hj;⟨u,h _ _ _ hu,ih j hr⟩⟩
 |fU n s f ih=>rintro v ⟨a,cap,e,hn,hc⟩;refine⟨a,cap,e,hn,hc.imp id ?_⟩;rintro⟨b,o,ea,hc⟩;exact⟨b,o,ea,fun i j hi hj=>let⟨u,hu,hr⟩:=hc i j hi hj;⟨u,h _ _ _ hu,ih i j hr⟩⟩
 |dZ f k c ih=>rintro v ⟨cs,e,hk,hc⟩;exact⟨cs,e,hk,fun i u hu=>ih i (hc i u hu)⟩
 |bnd f k c ih=>rintro v ⟨cs,e,hk,hc⟩;exact⟨cs,e,hk,fun i u hu=>ih i (hc i u hu)⟩
 |err b=>exact fun r=>r
 |bL=>exact fun _=>trivial
inductive CV where
 |d (x:DV)
 |ptr (x off:Nat)
inductive VK where
 |int|bool
def VK.val:VK→Int→Value
 |.int,n=>.int .i64 n
 |.bool,n=>.bool (n !=0)
def VK.dv:VK→Int→DV
 |.int,n=>.val (.int .i64 n)
 |.bool,n=>.val (.bool (n !=0))
def iN(vk:VK):List (Int×Int)→Nat→List MapEntry
 |[],_=>[]
 |(k,v)::r,i=>{key:=.int .i64 k,val:=vk.val v,born:=i}::iN vk r (i+1)
def eL(vk:VK):List (ByteArray×Int)→Nat→List MapEntry
 |[],_=>[]
 |(k,v)::r,i=>{key:=.string k,val:=vk.val v,born:=i}::eL vk r (i+1)
inductive SV where
 |d (x:DV)
 |ptr (x off:Nat)
 |own (x:Nat)
 |mo (z:Bool) (x:Nat)
 |rw(x i s o:Nat)
 |dZ (f:FuncId) (cs:List CV)
 |j0 (x s lo n:Nat)
 |mp (x:Nat)
def CV.bI(M:Mem)(β:Nm):CV→Value→Prop
 |.d x,v=>x.bI M v
 |.ptr x off,v=>∃b c,β x=some (b,c)∧v=.pointer (some ⟨b,off,none⟩)
def vO(M:Mem)(β:Nm):List CV→List Value→Prop
 |[],[]=>True
 |c::cs,v::vs=>c.bI M β v∧vO M β cs vs
 |_,_=>False
def SV.bI(M:Mem)(β:Nm):SV→Value→Prop
 |.d x,v=>x.bI M v
 |.ptr x off,v=>∃b c,β x=some (b,c)∧v=.pointer (some ⟨b,off,none⟩)
 |.own x,v=>∃b c,β x=some (b,c)∧v=.slice (some ⟨b,0,none⟩) c.2 c.1∧c.2≤c.1
 |.mo z x,v=>(z=true→v=.slice none 0 0)∧(z=false→∃b c,β x=some (b,c)∧v=.slice (some ⟨b,0,none⟩) c.2 c.1∧c.2≤c.1)
 |.rw x i s o,v=>∃b c,β x=some (b,c)∧v=.pointer (some ⟨b,i*s+o,none⟩)
 |.dZ f cs,v=>∃vs:List Value,v=.func (.func f) #[] vs.toArray∧vO M β cs vs
 |.j0 x s lo n,v=>∃b c o,β x=some (b,c)∧v=.slice (some ⟨b,o,none⟩) n (c.1 - lo)∧(lo<c.1→o=lo*s)∧lo+n≤c.2∧c.2≤c.1
 |.mp x,v=>∃b c,β x=some (b,c)∧v=.map (some b)
def cV(M:Mem)(β:Nm):List SV→List Value→Prop
 |[],[]=>True
 |c::cs,v::vs=>c.bI M β v∧cV M β cs vs
 |_,_=>False
inductive TV where
 |s (x:SV)
 |g (cs:List SV)
def TV.bI(M:Mem)(β:Nm):TV→Value→Prop
 |.s x,v=>x.bI M β v
 |.g cs,v=>∃vs:List Value,v=.agg vs.toArray∧cV M β cs vs
def rF(M:Mem)(β:Nm):List TV→List Value→Prop
 |[],[]=>True
 |c::cs,v::vs=>c.bI M β v∧rF M β cs vs
 |_,_=>False
inductive AV where
 |s (x:SV)
 |g (cs:List SV)
 |ib (b:Bool) (x:SV)
 |ig (b:Bool) (cs:List SV)
 |t (ts:List TV)
def AV.bI(M:Mem)(β:Nm):AV→Value→Prop
 |.s x,v=>x.bI M β v
 |.g cs,v=>∃vs:List Value,v=.agg vs.toArray∧cV M β cs vs
 |.ib b x,v=>(b=true→x.bI M β v)∧(b=false→v=undef)
 |.ig b cs,v=>(b=true→∃vs:List Value,v=.agg vs.toArray∧cV M β cs vs)∧(b=false→v=undef)
 |.t ts,v=>∃vs:List Value,v=.tuple vs.toArray∧rF M β ts vs
def Nm.le(β β':Nm):Prop:=∀x p,β x=some p→β' x=some p
theorem Nm.le_refl(β:Nm):Nm.le β β:=fun _ _ h=>h
section mono
variable{M M':Mem}{β β':Nm}(hM:Mem.le M M')(hβ:Nm.le β β')
include hM hβ
theorem CV.bI.mono{x:CV}{v:Value}(r:x.bI M β v):x.bI M' β' v:=by
 cases x with
 |d x=>exact DV.bI.mono hM r
 |ptr x off=>obtain⟨b,c,e,hv⟩:=r;exact⟨b,c,hβ _ _ e,hv⟩
theorem vO.mono:∀{cs:List CV} {vs:List Value},vO M β cs vs→vO M' β' cs vs
 |[],[],_=>trivial
 |_::_,_::_,⟨h,r⟩=>⟨CV.bI.mono hM hβ h,vO.mono r⟩
 |[],_::_,h=>h.elim
 |_::_,[],h=>h.elim
theorem SV.bI.mono{x:SV}{v:Value}(r:x.bI M β v):x.bI M' β' v:=by
 cases x with
 |d x=>exact DV.bI.mono hM r
 |ptr x off=>obtain⟨b,c,e,hv⟩:=r;exact⟨b,c,hβ _ _ e,hv⟩
 |own x=>obtain⟨b,c,e,hv⟩:=r;exact⟨b,c,hβ _ _ e,hv⟩
 |mo z x=>exact⟨r.1,fun h=>let⟨b,c,e,hv⟩:=r.2 h;⟨b,c,hβ _ _ e,hv⟩⟩
 |rw x i s o=>obtain⟨b,c,e,hv⟩:=r;exact⟨b,c,hβ _ _ e,hv⟩
 |dZ f cs=>obtain⟨vs,e,hv⟩:=r;exact⟨vs,e,vO.mono hM hβ hv⟩
 |j0 x s lo n=>obtain⟨b,c,o,e,hv⟩:=r;exact⟨b,c,o,hβ _ _ e,hv⟩
 |mp x=>obtain⟨b,c,e,hv⟩:=r;exact⟨b,c,hβ _ _ e,hv⟩
theorem cV.mono:∀{cs:List SV} {vs:List Value},cV M β cs vs→cV M' β' cs vs
 |[],[],_=>trivial
 |_::_,_::_,⟨h,r⟩=>⟨SV.bI.mono hM hβ h,cV.mono r⟩
 |[],_::_,h=>h.elim
 |_::_,[],h=>h.elim
theorem TV.bI.mono{x:TV}{v:Value}(r:x.bI M β v):x.bI M' β' v:=by
 cases x with
 |s x=>exact SV.bI.mono hM hβ r
 |g cs=>obtain⟨vs,e,hv⟩:=r;exact⟨vs,e,cV.mono hM hβ hv⟩
theorem rF.mono:∀{cs:List TV} {vs:List Value},rF M β cs vs→rF M' β' cs vs
 |[],[],_=>trivial
 |_::_,_::_,⟨h,r⟩=>⟨TV.bI.mono hM hβ h,rF.mono r⟩
 |[],_::_,h=>h.elim
 |_::_,[],h=>h.elim
theorem AV.bI.mono{x:AV}{v:Value}(r:x.bI M β v):x.bI M' β' v:=by
 cases x with
 |s x=>exact SV.bI.mono hM hβ r
 |g cs=>obtain⟨vs,e,hv⟩:=r;exact⟨vs,e,cV.mono hM hβ hv⟩
 |ib b x=>exact⟨fun hb=>SV.bI.mono hM hβ (r.1 hb),r.2⟩
 |ig b cs=>exact⟨fun hb=>let⟨vs,e,hv⟩:=r.1 hb;⟨vs,e,cV.mono hM hβ hv⟩,r.2⟩
 |t ts=>obtain⟨vs,e,hv⟩:=r;exact⟨vs,e,rF.mono hM hβ hv⟩
end mono
theorem cV.length:∀{M β} {cs:List SV} {vs:List Value},cV M β cs vs→vs.length=cs.length
 |_,_,[],[],_=>rfl
 |_,_,_::_,_::_,⟨_,r⟩=>by simp[cV.length r]
 |_,_,[],_::_,h=>h.elim
 |_,_,_::_,[],h=>h.elim
theorem cV.get:∀{M β} {cs:List SV} {vs:List Value} {j:Nat} {c:SV},cV M β cs vs→cs[j]? =some c→∃v,vs[j]? =some v∧c.bI M β v
 |_,_,[],[],j,c,_,h=>by simp at h
 |_,_,_::_,v::_,0,c,⟨hv,_⟩,h=>⟨v,rfl,by simp at h;exact h▸hv⟩
 |_,_,_::_,_::_,j+1,c,⟨_,r⟩,h=>by have:=cV.get (j:=j) r zeI;simpa using this
 |_,_,[],_::_,_,_,h,_=>h.elim
 |_,_,_::_,[],_,_,h,_=>h.elim
theorem rF.get:∀{M β} {cs:List TV} {vs:List Value} {j:Nat} {c:TV},rF M β cs vs→cs[j]? =some c→∃v,vs[j]? =some v∧c.bI M β v
 |_,_,[],[],j,c,_,h=>by simp at h
 |_,_,_::_,v::_,0,c,⟨hv,_⟩,h=>⟨v,rfl,by simp at h;exact h▸hv⟩
 |_,_,_::_,_::_,j+1,c,⟨_,r⟩,h=>by have:=rF.get (j:=j) r zeI;simpa using this
 |_,_,[],_::_,_,_,h,_=>h.elim
 |_,_,_::_,[],_,_,h,_=>h.elim
theorem cV.append:∀{M β} {cs ds:List SV} {vs us:List Value},cV M β cs vs→cV M β ds us→cV M β (cs++ds) (vs++us)
 |_,_,[],_,[],_,_,h=>h
 |_,_,_::_,_,_::_,_,⟨h,r⟩,k=>⟨h,cV.append r k⟩
 |_,_,[],_,_::_,_,h,_=>h.elim
 |_,_,_::_,_,[],_,h,_=>h.elim
theorem cV.take:∀{M β} {cs:List SV} {vs:List Value} (n:Nat),cV M β cs vs→cV M β (cs.take n) (vs.take n)
 |_,_,[],[],n,_=>by simp[cV]
 |_,_,_::_,_::_,0,_=>trivial
 |_,_,_::_,_::_,n+1,⟨h,r⟩=>⟨h,cV.take n r⟩
 |_,_,[],_::_,_,h=>h.elim
 |_,_,_::_,[],_,h=>h.elim
theorem cV.drop:∀{M β} {cs:List SV} {vs:List Value} (n:Nat),cV M β cs vs→cV M β (cs.drop n) (vs.drop n)
 |_,_,[],[],n,_=>by simp[cV]
 |_,_,_::_,_::_,0,h=>h
 |_,_,_::_,_::_,n+1,⟨_,r⟩=>cV.drop n r
 |_,_,[],_::_,_,h=>h.elim
 |_,_,_::_,[],_,h=>h.elim
def DV.one:DV→Bool
 |.val v=>v.oneCell'
 |.bL=>false
 |_=>true
def SV.one:SV→Bool
 |.d x=>x.one
 |_=>true
theorem DV.bI.k8{M:Mem}{x:DV}{v:Value}(r:x.bI M v)(h:x.one=true):v.oneCell'=true:=by
 cases x with
 |val u=>cases r;exact h
 |lit b=>cases r;rfl
 |rp m f=>obtain⟨b,o,rfl,_⟩:=r;rfl
 |fU n s f=>obtain⟨a,cap,rfl,_⟩:=r;rfl
 |dZ f k c=>obtain⟨cs,rfl,_⟩:=r;rfl
 |bnd f k c=>obtain⟨cs,rfl,_⟩:=r;rfl
 |err b=>rcases r with⟨_,rfl⟩|⟨_,t,u,rfl⟩ <;> rfl
 |bL=>cases h
theorem SV.bI.k8{M:Mem}{β:Nm}{x:SV}{v:Value}(r:x.bI M β v)(h:x.one=true):v.oneCell'=true:=by
 cases x with
 |d x=>exact DV.bI.k8 r h
 |ptr x off=>obtain⟨b,c,_,rfl⟩:=r;rfl
 |own x=>obtain⟨b,c,_,rfl,_⟩:=r;rfl
 |mo z x=>
  cases z with
  |true=>rw[r.1 rfl];rfl
  |false=>obtain⟨b,c,_,rfl,_⟩:=r.2 rfl;rfl
 |rw x i s o=>obtain⟨b,c,_,rfl⟩:=r;rfl
 |dZ f cs=>obtain⟨vs,rfl,_⟩:=r;rfl
 |j0 x s lo n=>obtain⟨b,c,o,_,rfl,_⟩:=r;rfl
 |mp x=>obtain⟨b,c,_,rfl⟩:=r;rfl
def l9:List SV→Bool
 |[]=>true
 |x::r=>x.one&&l9 r
theorem cV.k8:∀{M β} {cs:List SV} {vs:List Value},cV M β cs vs→l9 cs=true→∀v∈vs,v.oneCell'=true
 |_,_,[],[],_,_,v,hv=>by cases hv
 |_,_,_::_,_::_,⟨h,r⟩,ha,v,hv=>by
  simp only [l9,Bool.and_eq_true]at ha
  cases hv with
  |head=>exact h.k8 ha.1
  |tail _ hv=>exact cV.k8 r ha.2 v hv
 |_,_,[],_::_,h,_,_,_=>h.elim
 |_,_,_::_,[],h,_,_,_=>h.elim
inductive jK where
 |cells (cs:List SV)
 |row (e:TypeId) (n s:Nat) (f:Nat→Nat→DV)
 |b8 (e:TypeId) (n s:Nat) (f:Nat→Nat→DV)
 |map (vk:VK) (l:List (Int×Int))
 |smap (vk:VK) (l:List (ByteArray×Int))
 |dm (l:List (ByteArray×Nat×DV)) (n:Nat)
 |fresh (T:TypeId) (vs:List Value)
 |iter (m n:Nat) (seen:List Nat)
structure St where
 env:List (Nat×AV)
 box:List (Nat×Option jK)
def fL:List (Nat×AV)→Nat→AV
 |[],_=>.s (.d .bL)
 |(k,v)::r,t=>bif Nat.beq k t then v else fL r t
def aH:List (Nat×Option jK)→Nat→Option (Option jK)
 |[],_=>none
 |(k,v)::r,t=>bif Nat.beq k t then some v else aH r t
theorem UU{a b:Nat}(h:a≠b):Nat.beq a b=false:=by
 cases hb:Nat.beq a b with
 |false=>rfl
 |true=>exact absurd (Nat.eq_of_beq_eq_true hb) h
theorem gP(k:Nat)(v:AV)(r:List (Nat×AV))(t:Nat):fL ((k,v)::r) t=if k=t then v else fL r t:=by
 by_cases h:k=t
 ·subst h;simp[fL]
 simp[fL,UU h,h]
theorem aL(k:Nat)(v:Option jK)(r:List (Nat×Option jK))(t:Nat):aH ((k,v)::r) t=if k=t then some v else aH r t:=by
 by_cases h:k=t
 ·subst h;simp[aH]
 simp[aH,UU h,h]
theorem CO{α:Type}{vs us:List α}{j:Nat}{v:α}(h:vs[j]? =some v):(vs++us)[j]? =some v:=by have:=(List.getElem?_eq_some_iff.1 h).1;rw[List.getElem?_append_left this];exact h
def lY:List (ByteArray×Nat×DV)→List Value→List MapEntry
 |(k,b,_)::r,v::vs=>{key:=.string k,val:=v,born:=b}::lY r vs
 |_,_=>[]
def wO(M:Mem):List (ByteArray×Nat×DV)→List Value→Prop
 |[],[]=>True
 |(_,_,x)::r,v::vs=>x.bI M v∧wO M r vs
 |_,_=>False
theorem wO.mono{M M':Mem}(h:Mem.le M M'):∀{l:List (ByteArray×Nat×DV)} {vs:List Value},wO M l vs→wO M' l vs
 |[],[],_=>trivial
 |(_,_,_)::_,_::_,k=>⟨DV.bI.mono h k.1,wO.mono h k.2⟩
 |[],_::_,k=>k.elim
 |(_,_,_)::_,[],k=>k.elim
def cN(M:Mem)(β:Nm)(w:World)(x:Nat):jK→Prop
 |.cells cs=>∃b c vs T us,β x=some (b,c)∧w.heap[b]? =some (.cells (List.toArray (vs++us)) T (0,0))∧cV M β cs vs
 |.row e n s f=>∃b c cur,β x=some (b,c)∧w.heap[b]? =some (.cells cur e (0,0))∧c.2=n∧cur.size=c.1*s∧n≤c.1∧c.1≤maxLen∧
   ∀i j,i<n→j<s→∃u,cur[i*s+j]? =some u∧(f i j).bI M u
 |.b8 e n s f=>∀b c,β x=some (b,c)→∃cur,w.heap[b]? =some (.cells cur e (0,0))∧c.2=n∧cur.size=c.1*s∧n≤c.1∧c.1≤maxLen∧
   ∀i j,i<n→j<s→∃u,cur[i*s+j]? =some u∧(f i j).bI M u
 |.map vk l=>∃b c,β x=some (b,c)∧w.heap[b]? =some (.map (iN vk l 0).toArray l.length)
 |.smap vk l=>∃b c,β x=some (b,c)∧w.heap[b]? =some (.map (eL vk l 0).toArray l.length)
 |.dm l n=>∃b c vs,β x=some (b,c)∧w.heap[b]? =some (.map (lY l vs).toArray n)∧wO M l vs
 |.fresh T vs=>∃b c,β x=some (b,c)∧w.heap[b]? =some (.cells vs.toArray T (0,0))
 |.iter m n seen=>∃b c bm cm,β x=some (b,c)∧β m=some (bm,cm)∧w.heap[b]? =some (.mapIter (some bm) n seen.reverse.toArray n)
structure Grow(B:Nat)(M M':Mem):Prop where
 le:Mem.le M M'
 new:∀b o u,M' b o=some u→M b o=some u∨B≤b
theorem Grow.refl(B:Nat)(M:Mem):Grow B M M:=⟨Mem.le_refl M,fun _ _ _ h=>.inl h⟩
theorem Grow.trans{B:Nat}{a b c:Mem}(h:Grow B a b)(k:Grow B b c):Grow B a c:=
 ⟨Mem.le_trans h.le k.le,fun x o u e=>(k.new x o u e).elim (fun e=>h.new x o u e) .inr⟩
structure Cx where
 B:Nat
 ref:List Nat
 β0:Nm
 rd:Option Nat:=none
 df:List Deferred:=[]
def FW(r:Option Nat):Fence:={Fence.wide with round:=r}
def Cx.xC(cx:Cx)(k:Nat):Prop:=∃x c,x∈cx.ref∧cx.β0 x=some (k,c)
def Dr(_ _:World):Prop:=True
structure cE(cx:Cx)(w w':World):Prop where
 os:w'.os=w.os
 tape:w'.tape=w.tape
 output:w'.output=w.output
 size:w.heap.size≤w'.heap.size
 block:∀k,k<cx.B→¬cx.xC k→w'.heap[k]? =w.heap[k]?
 drawn:Dr w w'
theorem cE.refl(cx:Cx)(w:World):cE cx w w:=⟨rfl,rfl,rfl,Nat.le_refl _,fun _ _ _=>rfl,trivial⟩
theorem cE.trans{cx:Cx}{a b c:World}(h:cE cx a b)(k:cE cx b c):cE cx a c:=
 ⟨k.os.trans h.os,k.tape.trans h.tape,k.output.trans h.output,Nat.le_trans h.size k.size,fun i hi hm=>(k.block i hi hm).trans (h.block i hi hm),trivial⟩
def CU(bs:aD2)(w:World):Prop:=∀g t,(g,t)∈tE bs→∃e fr,w.heap[g]? =some (.cells t e fr)
def aKJ(w:World):Prop:=∃bs,CU bs w
theorem CU.lt{bs:aD2}{w:World}(h:CU bs w){g:Nat}{t:Array Value}(m:(g,t)∈tE bs):g<w.heap.size:=by obtain⟨e,fr,c⟩:=h g t m;exact(Array.getElem?_eq_some_iff.1 c).1
structure Hp(cx:Cx)(w:World):Prop where
 le:cx.B≤w.heap.size
 tab:∃bs,CU bs w∧∀g t,(g,t)∈tE bs→g<cx.B∧¬cx.xC g
theorem Hp.aFU{cx:Cx}{w:World}(h:Hp cx w):aKJ w:=let⟨bs,h,_⟩:=h.tab;⟨bs,h⟩
theorem Hp.keep{cx:Cx}{w w':World}(h:Hp cx w)(k:cE cx w w'):Hp cx w':=
 ⟨Nat.le_trans h.le k.size,by obtain⟨bs,h1,h2⟩:=h.tab;refine⟨bs,fun g t m=>?_,h2⟩;obtain⟨e,fr,c⟩:=h1 g t m;obtain⟨a,b⟩:=h2 g t m;exact⟨e,fr,(k.block g a b).trans c⟩⟩
structure Inv(cx:Cx)(N:Nat)(M:Mem)(β:Nm)(σ:St)(a:Act)(w:World):Prop where
 defers:a.defers=cx.df
 tmps:a.tmps.size=N
 heap:Hp cx w
 env:∀t,(fL σ.env t).bI M β (a.tmps.getD t undef)
 mem:∀b o u,M b o=some u→w.cell? ⟨b,o,none⟩=some u
 keys:∀x p,β x=some p→∃y,aH σ.box x=some y
 box:∀x bc,aH σ.box x=some (some bc)→cN M β w x bc
 inj:∀x y bx zB b c c',aH σ.box x=some (some bx)→aH σ.box y=some (some zB)→β x=some (b,c)→β y=some (b,c')→x=y
 apart:∀x bc b c,aH σ.box x=some (some bc)→β x=some (b,c)→∀o,M b o=none
 low:∀x bc b c,aH σ.box x=some (some bc)→β x=some (b,c)→cx.B≤b∨cx.xC b
 ref:∀x,x∈cx.ref→β x=cx.β0 x∧∃p,β x=some p
def AW(P:Program)(cx:Cx)(N:Nat)(c:Code)(σ:St)(K:Exit→St→Prop):Prop:=
 ∀M β a w,Inv cx N M β σ a w→
  c.wpIn (FW cx.rd) 0 P (fun e a' w'=>∃σ' M' β',K e σ'∧Inv cx N M' β' σ' a' w'∧Grow cx.B M M'∧cE cx w w') a w
section rules
variable{P:Program}{cx:Cx}{N:Nat}{σ:St}{K:Exit→St→Prop}
theorem AW.mono{c:Code}{K':Exit→St→Prop}(h:AW P cx N c σ K)(hk:∀e s,K e s→K' e s):AW P cx N c σ K':=
 fun M β a w i=>wpIn_mono (h M β a w i) fun _ _ _ ⟨s,M',β',k,r⟩=>⟨s,M',β',hk _ _ k,r⟩
theorem AW.skip(h:K .normal σ):AW P cx N .skip σ K:=fun M β _ _ i=>wpIn_skip ⟨σ,M,β,h,i,Grow.refl _ _,cE.refl _ _⟩
theorem AW.ret(h:K .ret σ):AW P cx N .ret σ K:=fun M β _ _ i=>wpIn_ret ⟨σ,M,β,h,i,Grow.refl _ _,cE.refl _ _⟩
theorem AW.exit{id:Nat}(h:K (.exit id) σ):AW P cx N (.exit id) σ K:=fun M β _ _ i=>wpIn_exit ⟨σ,M,β,h,i,Grow.refl _ _,cE.refl _ _⟩
def OV(next:St→Prop)(K:Exit→St→Prop):Exit→St→Prop
 |.normal,s=>next s
 |e,s=>K e s
theorem AW.seq{x y:Code}(h:AW P cx N x σ (OV (fun s=>AW P cx N y s K) K)):AW P cx N (.seq x y) σ K:=by
 intro M β a w i;refine wpIn_seq (wpIn_mono (h M β a w i) ?_);rintro e a' w' ⟨s,M',β',k,i',hM,hk⟩
 cases e with
 |normal=>refine wpIn_mono (k M' β' a' w' i') ?_;rintro e2 a2 w2 ⟨s2,M2,β2,k2,i2,hM2,TX⟩;exact⟨s2,M2,β2,k2,i2,hM.trans hM2,hk.trans TX⟩
 |exit id=>exact⟨s,M',β',k,i',hM,hk⟩
 |goto l=>exact⟨s,M',β',k,i',hM,hk⟩
 |ret=>exact⟨s,M',β',k,i',hM,hk⟩
 |panic ch=>exact⟨s,M',β',k,i',hM,hk⟩
 |outgrown=>exact⟨s,M',β',k,i',hM,hk⟩
def OB(id:Nat)(K:Exit→St→Prop):Exit→St→Prop
 |.exit id',s=>bif Nat.beq id' id then K .normal s else K (.exit id') s
 |e,s=>K e s
theorem AW.block{id:Nat}{c:Code}(h:AW P cx N c σ (OB id K)):AW P cx N (.block id c) σ K:=by
 intro M β a w i;refine wpIn_block (wpIn_mono (h M β a w i) ?_);rintro e a' w' ⟨s,M',β',k,i',r⟩
 cases e with
 |exit id'=>
  by_cases hid:id'=id
  ·subst hid;simp only [Exit.inBlock,if_true];simp only [OB,Nat.beq_refl,cond_true]at k;exact⟨s,M',β',k,i',r⟩
  simp only [Exit.inBlock,hid,if_false];simp only [OB,UU hid,cond_false]at k;exact⟨s,M',β',k,i',r⟩
 |_=>exact⟨s,M',β',k,i',r⟩
structure Sub(cx:Cx)(σ σ':St):Prop where
 env:∀(M:Mem) (β β':Nm),(∀x p,β x=some p→(∃y,aH σ'.box x=some y)→β' x=some p)→∀t v,(fL σ.env t).bI M β v→(fL σ'.env t).bI M β' v
 box:∀(M:Mem) (β β':Nm) (w:World),(∀x p,β x=some p→(∃y,aH σ'.box x=some y)→β' x=some p)→∀x bc',aH σ'.box x=some (some bc')→∃bc,aH σ.box x=some (some bc)∧(cN M β w x bc→cN M β' w x bc')
 ref:∀x,x∈cx.ref→∃y,aH σ'.box x=some y
theorem Inv.sub{σ':St}{M:Mem}{β:Nm}{a:Act}{w:World}(i:Inv cx N M β σ a w)(h:Sub cx σ σ'):
  ∃β',Inv cx N M β' σ' a w:=by
 classical
 let β':Nm:=fun x=>if ∃y,aH σ'.box x=some y then β x else none
 have hb:∀x p,β' x=some p→β x=some p:=fun x p h=>by
  simp only [β']at h;split at h
  ·exact h
  cases h
 have Z7:∀x p,β x=some p→(∃y,aH σ'.box x=some y)→β' x=some p:=fun x p e k=>by simp only [β',if_pos k];exact e
 refine⟨β',i.defers,i.tmps,i.heap,fun t=>h.env M β β' Z7 t _ (i.env t),i.mem,?_,?_,?_,?_,?_,?_⟩
 ·intro x p e;simp only [β']at e;split at e
  ·assumption
  cases e
 ·intro x bc' e;obtain⟨bc,e1,hr⟩:=h.box M β β' w Z7 x bc' e;exact hr (i.box x bc e1)
 ·intro x y bx zB b c c' ex ey hx hy;obtain⟨bx',ex',_⟩:=h.box M β β' w Z7 x bx ex;obtain⟨by',Z8,_⟩:=h.box M β β' w Z7 y zB ey;exact i.inj x y bx' by' b c c' ex' Z8 (hb _ _ hx) (hb _ _ hy)
 ·intro x bc b c ex hx;obtain⟨bx',ex',_⟩:=h.box M β β' w Z7 x bc ex;exact i.apart x bx' b c ex' (hb _ _ hx)
 ·intro x bc b c ex hx;obtain⟨bx',ex',_⟩:=h.box M β β' w Z7 x bc ex;exact i.low x bx' b c ex' (hb _ _ hx)
 ·intro x hx;obtain⟨y,hy⟩:=h.ref x hx;have:β' x=β x:=by simp only [β',hy];simp
  rw[this];exact i.ref x hx
theorem AW.loop{S:Type}{c:Code}(UZ:S→St)(J:S→Prop)(μ:S→Nat)(s0:S)(hJ:J s0)(hs:Sub cx σ (UZ s0))
  (body:∀s,J s→AW P cx N c (UZ s) (OV (fun σ'=>∃s',J s'∧μ s'<μ s∧Sub cx σ' (UZ s')) K)):AW P cx N (.loop c) σ K:=by
 intro M β a w i
 obtain⟨β1,i1⟩:=i.sub hs
 intro b k cs hro hb hr
 have key:∀n s,μ s=n→J s→∀M β a w,Inv cx N M β (UZ s) a w→
   ∃e a' w',(∃σ' M' β',K e σ'∧Inv cx N M' β' σ' a' w'∧Grow cx.B M M'∧cE cx w w')∧ArrivesIn (Machine.fenced P (FW cx.rd)) P (lone (b.atR a (.code c::.inLoop c::k)) cs w) b k cs e a' w':=by
  intro n
  induction n using Nat.strongRecOn with
  |_ n ih=>
   intro s hn hJ M β a w i;obtain⟨e,a₁,w₁,⟨σ',M1,β1,hq,i1,hM,hk⟩,nI⟩:=body s hJ M β a w i b (.inLoop c::k) cs hro hb hr
   cases e with
   |normal=>obtain⟨s',hJ',fZ,fQ⟩:=hq;obtain⟨β2,i2⟩:=i1.sub fQ;exact jd
   |exit id=>exact⟨_,a₁,w₁,⟨σ',M1,β1,hq,i1,hM,hk⟩,.pass (x:=.inLoop c) rfl (fun _ _=>.inl sM) nI⟩
   |goto l=>exact⟨_,a₁,w₁,⟨σ',M1,β1,hq,i1,hM,hk⟩,.pass (x:=.inLoop c) rfl (fun _ _=>.inl sM) nI⟩
   |ret=>exact⟨_,a₁,w₁,⟨σ',M1,β1,hq,i1,hM,hk⟩,.pass (x:=.inLoop c) rfl (fun _ _=>.inl sM) nI⟩
   |panic ch=>exact⟨_,a₁,w₁,⟨σ',M1,β1,hq,i1,hM,hk⟩,.pass (x:=.inLoop c) rfl (fun _ _=>.inl sM) nI⟩
   |outgrown=>exact⟨_,a₁,w₁,⟨σ',M1,β1,hq,i1,hM,hk⟩,.pass (x:=.inLoop c) rfl (fun _ _=>.inl sM) nI⟩
 obtain⟨e,a',w',hq,nI⟩:=key _ s0 rfl hJ M β1 a w i1
 exact⟨e,a',w',hq,.of_steps (.one (fenced_calm hb hr rfl) stepR_loop) nI⟩
end rules
inductive SP where
 |bool|string|struct|func|pointer|iface|other
 |int (k:IntKind)|float (k:FloatKind)
 |slice (e:TypeId)|array (n:Nat) (e:TypeId)|map (k e:TypeId)
def SP.qJ:TypeDesc→SP
 |.bool=>.bool
 |.int k=>.int k
 |.float k=>.float k
 |.string=>.string
 |.slice e=>.slice e
 |.array n e=>.array n e
 |.map k e=>.map k e
 |.struct _=>.struct
 |.func _ _ _=>.func
 |.pointer _=>.pointer
 |.interface _=>.iface
 |_=>.other
structure bV where
 j7:SP
 size:Nat
 bytes:Nat
 agg:Bool
 zero:List Value
 wJ:List (Nat×Nat)
 ints:Bool
def xL:SV→Option (IntKind×Int)
 |.d (.val (.int k a))=>some (k,a)
 |_=>none
def wC:SV→Option ByteArray
 |.d (.val (.string s))=>some s
 |_=>none
def nW:SV→Option Bool
 |.d (.lit b)=>some b
 |.d (.val (.bool b))=>some b
 |_=>none
def uG:List SV→List SV→Option Bool
 |[],[]=>some true
 |x::r,y::s=>
  match xL x,xL y,uG r s with
  |some (k,a),some (k',b),some c=>bif decide (k=k')then some (a==b&&c)else none
  |_,_,some c=>match wC x,wC y with
   |some a,some b=>some (a.toList==b.toList&&c)
   |_,_=>match nW x,nW y with
    |some a,some b=>some (a==b&&c)
    |_,_=>none
  |_,_,none=>none
 |_,_=>none
def kOK:Value→SV→Bool
 |.int _ _,x=>(xL x).isSome
 |.string _,x=>(wC x).isSome
 |.bool _,x=>(nW x).isSome
 |_,_=>false
def gT:List Value→List SV→Bool
 |[],[]=>true
 |z::zs,x::xs=>kOK z x&&gT zs xs
 |_,_=>false
def sY(P:Program):List Field→List (Nat×Nat)→Prop
 |[],[]=>True
 |f::fs,(o,z)::r=>f.offset=o∧(∃ti,P.info? f.type=some ti∧ti.size=z)∧sY P fs r
 |_,_=>False
structure b6(P:Program)(t:TypeId)(i:bV):Prop where
 j7:∃d,P.underlying t=some d∧SP.qJ d=i.j7
 info:∃ti,P.info? t=some ti∧ti.size=i.size∧ti.bytes=i.bytes∧∃z,ti.zero=some z∧z.cells.toList=i.zero
 agg:(match i.j7 with|.struct|.array _ _=>true|_=>false)=i.agg
 wJ:∀fs,P.underlying t=some (.struct fs)→sY P fs.toList i.wJ
 one:i.agg=false→∃ti z,P.info? t=some ti∧ti.zero=some z∧i.zero=[z]
 eqg:i.ints=true→P.eqGuardType P.depth t=false
 ints:i.ints=true→∀(w:World) (xs ys:List SV) (vs us:List Value) (b:Bool),gT i.zero xs=true→gT i.zero ys=true→uG xs ys=some b→cV (fun _ _=>none) (fun _=>none) xs vs→cV (fun _ _=>none) (fun _=>none) ys us→
  (Op.equal t (.agg vs.toArray) (.agg us.toArray)).run P w=.ok b w
def dE:List (Nat×bV)→Nat→Option bV
 |[],_=>none
 |(k,v)::r,t=>bif Nat.beq k t then some v else dE r t
def cD(P:Program):List (Nat×bV)→Prop
 |[]=>True
 |(k,v)::r=>b6 P k v∧cD P r
theorem cD.get{P:Program}:∀{T:List (Nat×bV)} {t:Nat} {i:bV},cD P T→dE T t=some i→b6 P t i
 |[],_,_,_,h=>by cases h
 |(k,v)::r,t,i,⟨h,hr⟩,e=>by
  by_cases hk:k=t
  ·subst hk;simp only [dE,Nat.beq_refl,cond_true]at e
   cases e;exact h
  simp only [dE,UU hk,cond_false]at e;exact cD.get hr e
section aN7
variable{P:Program}{t:TypeId}{i:bV}(h:b6 P t i)
include h
theorem b6.isSlice{e:TypeId}(hu:i.j7=.slice e):P.underlying t=some (.slice e):=by exact ux
theorem b6.FV{n:Nat}{e:TypeId}(hu:i.j7=.array n e):P.underlying t=some (.array n e):=by exact ux
theorem b6.EM{k e:TypeId}(hu:i.j7=.map k e):P.underlying t=some (.map k e):=by exact ux
theorem b6.isInt{k:IntKind}(hu:i.j7=.int k):P.underlying t=some (.int k):=by exact ux
theorem b6.V3{k:FloatKind}(hu:i.j7=.float k):P.underlying t=some (.float k):=by exact ux
theorem b6.isBool(hu:i.j7=.bool):P.underlying t=some .bool:=by exact zbA
theorem b6.xI{e:TypeId}(hu:i.j7=.slice e):P.underlying t=some (.slice e):=by
 obtain⟨d,h1,h2⟩:=h.j7;rw[hu]at h2
 cases d <;> simp only [SP.qJ]at h2 <;> first|(cases h2;exact h1)|cases h2
theorem b6.isString(hu:i.j7=.string):P.underlying t=some .string:=by exact zbA
theorem b6.QJ(hu:i.j7=.struct):∃fs,P.underlying t=some (.struct fs):=by
 obtain⟨d,h1,h2⟩:=h.j7;rw[hu]at h2
 cases d <;> simp only [SP.qJ]at h2 <;> first|exact⟨_,h1⟩|cases h2
theorem b6.iE(w:World):(sizeOf t).run P w=.ok i.size w:=by obtain⟨ti,e,hs,_⟩:=h.info;simp[sizeOf,typeInfo,e,hs]
theorem b6.BC(w:World):(isAgg t).run P w=.ok i.agg w:=by
 have:=h.agg;obtain⟨d,h1,h2⟩:=h.j7;simp only [isAgg,Sem.run_bind,run_underlying h1,Result.andThen];rw[←this,←h2]
 cases d <;> rfl
theorem b6.w6(w:World):∃z:Value,(zeroValue t).run P w=.ok z w∧z.cells.toList=i.zero:=by obtain⟨ti,e,_,_,z,hz,hc⟩:=h.info;exact⟨z,by simp[zeroValue,typeInfo,e,hz],hc⟩
end aN7
def act(g:Option Bool):Prop:=∀b,g=some b→b=true
def imp(g:Option Bool)(p:Prop):Prop:=match g with|none=>p|some b=>b=true→p
theorem imp.get{g:Option Bool}{p:Prop}(h:imp g p)(ha:act g):p:=by
 cases g with
 |none=>exact h
 |some b=>exact h (ha b rfl)
def fe(g:Option Bool)(v:AV)(K:AV→Prop):Prop:=
 match v with
 |.ib b x=>match g with|none=>b=true∧K (.s x)|some gb=>(gb=true→b=true)∧K (.s x)
 |.ig b cs=>match g with|none=>b=true∧K (.g cs)|some gb=>(gb=true→b=true)∧K (.g cs)
 |.s x=>K (.s x)
 |.g cs=>K (.g cs)
 |.t ts=>K (.t ts)
theorem fe.spec{g:Option Bool}{v:AV}{K:AV→Prop}(h:fe g v K):
  ∃r,K r∧(act g→∀M β u,v.bI M β u→r.bI M β u):=by
 cases v with
 |s x=>exact⟨_,h,fun _ _ _ _ r=>r⟩
 |g cs=>exact⟨_,h,fun _ _ _ _ r=>r⟩
 |t ts=>exact⟨_,h,fun _ _ _ _ r=>r⟩
 |ib b x=>exact zaP
 |ig b cs=>exact zaP
def cvC(v:Value):AV:=
 match v with
 |.bool b=>.s (.d (.lit b))
 |.agg _=>.s (.d .bL)
 |.tuple _=>.s (.d .bL)
 |v=>.s (.d (.val v))
def ev(σ:St):Operand→AV
 |.tmp t=>fL σ.env t
 |.const v=>cvC v
 |.func f=>.s (.dZ f [])
 |.global _=>.s (.d .bL)
theorem cvC.rep(M:Mem)(β:Nm)(v:Value):(cvC v).bI M β v:=by cases v <;> first|exact rfl|exact trivial
theorem ev.rep{cx:Cx}{N:Nat}{M:Mem}{β:Nm}{σ:St}{a:Act}{w:World}(i:Inv cx N M β σ a w)(x:Operand):
  (ev σ x).bI M β (a.eval x):=by
 cases x with
 |tmp t=>exact i.env t
 |const v=>exact cvC.rep M β v
 |func f=>exact⟨[],rfl,trivial⟩
 |global g=>exact trivial
abbrev rH(k:IntKind)(n:Int):AV:=.s (.d (.val (.int k n)))
abbrev kY(b:Bool):AV:=.s (.d (.val (.bool b)))
def asB:AV→Option Bool
 |.s (.d (.lit b))=>some b
 |.s (.d (.val (.bool b)))=>some b
 |_=>none
theorem asB.spec{v:AV}{b:Bool}{M:Mem}{β:Nm}{u:Value}(h:asB v=some b)(r:v.bI M β u):u=.bool b:=by unfold asB at h;exact zdu
def ZO(k:IntKind)(x y:Int):Int:=k.wrap (BitVec.ofInt k.bits x&&&BitVec.ofInt k.bits y).toNat
def aAQ(k:IntKind)(x y:Int):Int:=x.fdiv (2^(min y.toNat k.bits))
def KD(op:BinOp)(k:IntKind)(g:Option Bool)(x y:Int)(K:AV→Prop):Prop:=
 match op with
 |.add=>K (rH k (k.wrap (x+y)))
 |.sub=>K (rH k (k.wrap (x - y)))
 |.mul=>K (rH k (k.wrap (x*y)))
 |.quo=>imp g (y≠0)∧K (rH k (k.wrap (x.tdiv y)))
 |.rem=>imp g (y≠0)∧K (rH k (x.tmod y))
 |.eql=>K (kY (x==y))
 |.neq=>K (kY (x !=y))
 |.lss=>K (kY (decide (x<y)))
 |.leq=>K (kY (decide (x≤y)))
 |.gtr=>K (kY (decide (x>y)))
 |.geq=>K (kY (decide (x≥y)))
 |.and=>K (rH k (ZO k x y))
 |.shr=>imp g (0≤y)∧K (rH k (aAQ k x y))
 |_=>False
theorem KD.spec{P:Program}{op:BinOp}{k:IntKind}{g:Option Bool}{x y:Int}{K:AV→Prop}(h:KD op k g x y K):
  ∃r,K r∧(act g→∀(t:TypeId) (w:World),∃v,(binOp op t (.int k x) (.int k y)).run P w=.ok v w∧∀M β,r.bI M β v):=by
 unfold KD at h
 split at h
 case h_1=>exact⟨_,h,fun _ t w=>⟨_,by simp[binOp,Op.intArith],fun _ _=>rfl⟩⟩
 case h_2=>exact⟨_,h,fun _ t w=>⟨_,by simp[binOp,Op.intArith],fun _ _=>rfl⟩⟩
 case h_3=>exact⟨_,h,fun _ t w=>⟨_,by simp[binOp,Op.intArith],fun _ _=>rfl⟩⟩
 case h_4=>exact⟨_,h.2,fun ha t w=>⟨_,by simp[binOp,Op.intDiv,h.1.get ha],fun _ _=>rfl⟩⟩
 case h_5=>exact⟨_,h.2,fun ha t w=>⟨_,by simp[binOp,Op.intDiv,h.1.get ha],fun _ _=>rfl⟩⟩
 case h_6=>exact⟨_,h,fun _ t w=>⟨_,by simp[binOp,Op.intCmp],fun _ _=>rfl⟩⟩
 case h_7=>exact⟨_,h,fun _ t w=>⟨_,by simp[binOp,Op.intCmp],fun _ _=>rfl⟩⟩
 case h_8=>exact⟨_,h,fun _ t w=>⟨_,by simp[binOp,Op.intCmp],fun _ _=>rfl⟩⟩
 case h_9=>exact⟨_,h,fun _ t w=>⟨_,by simp[binOp,Op.intCmp],fun _ _=>rfl⟩⟩
 case h_10=>exact⟨_,h,fun _ t w=>⟨_,by simp[binOp,Op.intCmp],fun _ _=>rfl⟩⟩
 case h_11=>exact⟨_,h,fun _ t w=>⟨_,by simp[binOp,Op.intCmp],fun _ _=>rfl⟩⟩
 case h_12=>exact⟨_,h,fun _ t w=>⟨.int k (ZO k x y),by simp only [binOp,if_neg (fun h:k≠k=>h rfl)];rfl,fun _ _=>rfl⟩⟩
 case h_13=>
  refine⟨_,h.2,fun ha t w=>⟨.int k (aAQ k x y),?_,fun _ _=>rfl⟩⟩;have hy:¬y<0:=by have:=h.1.get ha;omega
  simp only [binOp,Op.shift,if_neg hy];rfl
 case h_14=>cases h
def KC(op:BinOp)(g:Option Bool)(x y:ByteArray)(K:AV→Prop):Prop:=
 match op with
 |.eql=>K (kY (x.toList==y.toList))
 |.neq=>K (kY (!(x.toList==y.toList)))
 |.lss=>K (kY (Op.bytesLess x.toList y.toList))
 |.gtr=>K (kY (!(Op.bytesLess x.toList y.toList||x.toList==y.toList)))
 |.add=>imp g (x.size+y.size≤9223372036854775807)∧K (.s (.d (.val (.string (x++y)))))
 |_=>False
theorem KC.spec{P:Program}{op:BinOp}{g:Option Bool}{x y:ByteArray}{K:AV→Prop}(h:KC op g x y K):
  ∃r,K r∧(act g→∀(t:TypeId) (w:World),∃v,(binOp op t (.string x) (.string y)).run P w=.ok v w∧∀M β,r.bI M β v):=by
 unfold KC at h
 split at h
 case h_1=>exact⟨_,h,fun _ t w=>⟨_,by simp[binOp,Op.stringOp],fun _ _=>rfl⟩⟩
 case h_2=>exact⟨_,h,fun _ t w=>⟨_,by simp[binOp,Op.stringOp],fun _ _=>rfl⟩⟩
 case h_3=>exact⟨_,h,fun _ t w=>⟨_,by simp[binOp,Op.stringOp],fun _ _=>rfl⟩⟩
 case h_4=>exact⟨_,h,fun _ t w=>⟨_,by simp[binOp,Op.stringOp],fun _ _=>rfl⟩⟩
 case h_5=>
  refine⟨_,h.2,fun ha t w=>⟨_,?_,fun _ _=>rfl⟩⟩;have hb:=h.1.get ha;have:¬((x.size:Int)+(y.size:Int)>IntKind.i64.max):=by have:IntKind.i64.max=9223372036854775807:=dC;rw[this];omega
  simp[binOp,Op.stringOp];omega
 case h_6=>cases h
theorem FF{P:Program}(w:World)(d:Nat){t e:TypeId}(h:P.underlying t=some (.slice e)):(Op.equalIn (d+1) t (.slice none 0 0) (.slice none 0 0)).run P w=.ok true w:=by simp[Op.equalIn,run_underlying h]
theorem PB{P:Program}(w:World){t e:TypeId}(h:P.underlying t=some (.slice e)):(binOp .eql t (.slice none 0 0) (.slice none 0 0)).run P w=.ok (.bool true) w:=by simp only [binOp];simp[Op.equal,Op.maxDepth,FF w 9999 h]
theorem eK{P:Program}(op:BinOp)(t:TypeId)(x y:Operand)(a b:Value)(w:World)(h:a≠.nilIface)(ha:∀cs,a≠.agg cs):
  (eqGuard op t x y a b).run P w=.ok () w:=by
 unfold eqGuard
 cases a <;> first
  |exact absurd rfl h
  |exact absurd rfl (ha _)
  |(cases op <;> rfl)
theorem zV{P:Program}(w:World){t e:TypeId}{a:Option Addr}{n c:Nat}(h:P.underlying t=some (.slice e)):(binOp .eql t (.slice a n c) (.slice none 0 0)).run P w=.ok (.bool a.isNone) w:=by exact ke
theorem w7{P:Program}(w:World){t e:TypeId}{a:Option Addr}{n c:Nat}(h:P.underlying t=some (.slice e)):(binOp .neq t (.slice a n c) (.slice none 0 0)).run P w=.ok (.bool (!a.isNone)) w:=by exact ke
def bin(T:List (Nat×bV))(op:BinOp)(t:TypeId)(g:Option Bool)(x y:AV)(K:AV→Prop):Prop:=
 match x,y with
 |.s (.d (.val (.int k a))),.s (.d (.val (.int k' b)))=>bif decide (k=k')then KD op k g a b K else False
 |.s (.d (.val (.string a))),.s (.d (.val (.string b)))=>KC op g a b K
 |.s (.d (.val (.slice none 0 0))),.s (.d (.val (.slice none 0 0)))=>
  match dE T t with
  |some i=>match i.j7 with
   |.slice _=>match op with
    |.eql=>K (kY true)
    |_=>False
   |_=>False
  |none=>False
 |.g xs,.g ys=>
  match dE T t with
  |some i=>bif i.ints&&(gT i.zero xs&&gT i.zero ys)then
    match uG xs ys with
    |some b=>match op with
     |.eql=>K (kY b)
     |.neq=>K (kY (!b))
     |_=>False
    |none=>False
   else False
  |none=>False
 |.s (.own _),.s (.d (.val (.slice none 0 0)))=>
  match dE T t with
  |some i=>match i.j7 with
   |.slice _=>match op with
    |.eql=>K (match g with|none=>.s (.d (.lit false))|some _=>kY false)
    |.neq=>K (match g with|none=>.s (.d (.lit true))|some _=>kY true)
    |_=>False
   |_=>False
  |none=>False
 |.s (.mo z _),.s (.d (.val (.slice none 0 0)))=>
  match dE T t with
  |some i=>match i.j7 with
   |.slice _=>match op with
    |.eql=>K (kY z)
    |.neq=>K (kY (!z))
    |_=>False
   |_=>False
  |none=>False
 |x,y=>match asB x,asB y with
  |some a,some b=>match dE T t with
   |some i=>match i.j7 with
    |.bool=>match op with
     |.eql=>K (kY (a==b))
     |.neq=>K (kY (!(a==b)))
     |_=>False
    |_=>False
   |none=>False
  |_,_=>False
theorem xL.closed{x:SV}{a:IntKind×Int}{M:Mem}{β:Nm}{v:Value}(h:xL x=some a)(r:x.bI M β v):x.bI (fun _ _=>none) (fun _=>none) v:=by
 unfold xL at h;split at h
 ·exact r
 cases h
theorem wC.closed{x:SV}{a:ByteArray}{M M':Mem}{β β':Nm}{v:Value}(h:wC x=some a)(r:x.bI M β v):x.bI M' β' v:=by
 unfold wC at h;split at h
 ·exact r
 cases h
theorem nW.closed{x:SV}{a:Bool}{M M':Mem}{β β':Nm}{v:Value}(h:nW x=some a)(r:x.bI M β v):x.bI M' β' v:=by
 unfold nW at h;split at h
 ·exact r
 ·exact r
 cases h
theorem wC.val{x:SV}{a:ByteArray}{M:Mem}{β:Nm}{v:Value}(h:wC x=some a)(r:x.bI M β v):v=.string a:=by
 unfold wC at h;split at h
 ·cases h;exact r
 cases h
theorem nW.val{x:SV}{a:Bool}{M:Mem}{β:Nm}{v:Value}(h:nW x=some a)(r:x.bI M β v):v=.bool a:=by unfold nW at h;exact zdu
theorem uG.closed:∀{xs ys:List SV} {b:Bool} {M:Mem} {β:Nm} {vs us:List Value},uG xs ys=some b→cV M β xs vs→cV M β ys us→
  cV (fun _ _=>none) (fun _=>none) xs vs∧cV (fun _ _=>none) (fun _=>none) ys us
 |[],[],_,_,_,[],[],_,_,_=>⟨trivial,trivial⟩
 |x::r,y::s,b,M,β,v::vs,u::us,e,h,k=>by
  simp only [uG]at e;split at e
  ·rename_i k1 a k2 b c ha hb hc;obtain⟨i1,i2⟩:=uG.closed hc h.2 k.2;exact⟨⟨xL.closed ha h.1,i1⟩,⟨xL.closed hb k.1,i2⟩⟩
  ·rename_i c hc _;obtain⟨i1,i2⟩:=uG.closed hc h.2 k.2;split at e
   ·rename_i ha hb;exact⟨⟨wC.closed ha h.1,i1⟩,⟨wC.closed hb k.1,i2⟩⟩
   split at e
   ·rename_i ha hb;exact⟨⟨nW.closed ha h.1,i1⟩,⟨nW.closed hb k.1,i2⟩⟩
   cases e
  cases e
 |[],_::_,_,_,_,_,_,e,_,_=>by cases e
 |_::_,[],_,_,_,_,_,e,_,_=>by cases e
 |[],[],_,_,_,_::_,_,_,h,_=>h.elim
 |[],[],_,_,_,[],_::_,_,_,h=>h.elim
 |_::_,_::_,_,_,_,[],_,_,h,_=>h.elim
 |_::_,_::_,_,_,_,_::_,[],_,_,h=>h.elim
theorem bin.spec{P:Program}{T:List (Nat×bV)}(hT:cD P T){o:Oper}{op:BinOp}{t ty:TypeId}{x y:Operand}{g:Option Bool}{va vb:AV}{K:AV→Prop}
  (ho:o.op=.binOp op t x y ty) (h:bin T op t g va vb K):
  ∃r,K r∧(act g→∀(M:Mem) (β:Nm) (a:Act) (w:World),va.bI M β (a.eval x)→vb.bI M β (a.eval y)→∃v,(execOp a.eval o).run P w=.ok (.value v) w∧r.bI M β v):=by
 unfold bin at h
 split at h
 ·rename_i k a k' b;by_cases hk:k=k'
  ·subst hk;simp only [decide_true,cond_true]at h;obtain⟨r,hr,hs⟩:=KD.spec (P:=P) h;refine⟨r,hr,fun ha M β a' w rx ry=>?_⟩;obtain⟨v,e,rr⟩:=hs ha t w;have ex:a'.eval x=.int k a:=rx;have ey:a'.eval y=.int k b:=ry;refine⟨v,?_,rr M β⟩;simp only [execOp,ho,ex,ey,Sem.run_bind,eK op t x y (.int k a) (.int k b) w sM sM,Result.andThen,e,Sem.run_pure]
  exact zet
 ·rename_i a b;obtain⟨r,hr,hs⟩:=KC.spec (P:=P) h;refine⟨r,hr,fun ha M β a' w rx ry=>?_⟩;obtain⟨v,e,rr⟩:=hs ha t w;have ex:a'.eval x=.string a:=rx;have ey:a'.eval y=.string b:=ry;refine⟨v,?_,rr M β⟩;simp only [execOp,ho,ex,ey,Sem.run_bind,eK op t x y (.string a) (.string b) w sM sM,Result.andThen,e,Sem.run_pure]
 ·split at h
  ·rename_i i hi;have gF:=hT.get hi;split at h
   ·rename_i e hu;have WA:=gF.xI hu
    cases op <;> first|exact h.elim|skip
    refine⟨_,h,fun ha M β a' w rx ry=>?_⟩;have ex:a'.eval x=.slice none 0 0:=rx;have ey:a'.eval y=.slice none 0 0:=ry;refine⟨.bool true,?_,rfl⟩;simp only [execOp,ho,ex,ey,Sem.run_bind,eK BinOp.eql t x y (.slice none 0 0) (.slice none 0 0) w sM sM,Result.andThen,PB w WA,Sem.run_pure]
   cases h
  cases h
 ·rename_i xs ys;split at h
  ·rename_i i hi;have gF:=hT.get hi
   cases hc:(i.ints&&(gT i.zero xs&&gT i.zero ys))with
   |true=>
    rw[hc]at h;simp only [cond_true]at h;simp only [Bool.and_eq_true]at hc;split at h
    ·rename_i b hb;have key:∀(M:Mem) (β:Nm) (a':Act) (w:World),(AV.g xs).bI M β (a'.eval x)→(AV.g ys).bI M β (a'.eval y)→
       ∃vs us:List Value,a'.eval x=.agg vs.toArray∧a'.eval y=.agg us.toArray∧(Op.equal t (.agg vs.toArray) (.agg us.toArray)).run P w=.ok b w:=by
      rintro M β a' w ⟨vs,ex,rx⟩ ⟨us,ey,ry⟩
      obtain⟨c1,c2⟩:=uG.closed hb rx ry
      exact⟨vs,us,ex,ey,gF.ints hc.1 w xs ys vs us b hc.2.1 hc.2.2 hb c1 c2⟩
     have hq:=gF.eqg hc.1
     cases op <;> first|exact h.elim|skip
     ·refine⟨_,h,fun ha M β a' w rx ry=>?_⟩;obtain⟨vs,us,ex,ey,e⟩:=key M β a' w rx ry;refine⟨.bool b,?_,rfl⟩;simp only [execOp,ho,ex,ey,Sem.run_bind,run_eqGuard_agg (w:=w) .eql t x y vs.toArray us.toArray hq,Result.andThen,Sem.run_pure,binOp,e]
     refine⟨_,h,fun ha M β a' w rx ry=>?_⟩;obtain⟨vs,us,ex,ey,e⟩:=key M β a' w rx ry;refine⟨.bool (!b),?_,rfl⟩;simp only [execOp,ho,ex,ey,Sem.run_bind,run_eqGuard_agg (w:=w) .neq t x y vs.toArray us.toArray hq,Result.andThen,Sem.run_pure,binOp,e]
    cases h
   |false=>
    rw[hc]at h
    cases h
  cases h
 ·rename_i xo;split at h
  case h_2=>cases h
  rename_i i hi;have gF:=hT.get hi;split at h
  case h_2=>cases h
  rename_i e hu;have WA:=gF.xI hu
  cases op <;> first|exact h.elim|skip
  ·refine⟨_,h,fun ha M β a' w rx ry=>?_⟩;obtain⟨b,c,_,ex,_⟩:=rx;have ey:a'.eval y=.slice none 0 0:=ry;refine⟨.bool false,?_,by cases g <;> rfl⟩;simp only [execOp,ho,ex,ey,Sem.run_bind,eK BinOp.eql t x y (.slice (some ⟨b,0,none⟩) c.2 c.1) (.slice none 0 0) w sM sM,Result.andThen,zV w WA,Sem.run_pure,Option.isNone_some]
  refine⟨_,h,fun ha M β a' w rx ry=>?_⟩;obtain⟨b,c,_,ex,_⟩:=rx;have ey:a'.eval y=.slice none 0 0:=ry;refine⟨.bool true,?_,by cases g <;> rfl⟩;simp only [execOp,ho,ex,ey,Sem.run_bind,eK BinOp.neq t x y (.slice (some ⟨b,0,none⟩) c.2 c.1) (.slice none 0 0) w sM sM,Result.andThen,w7 w WA,Sem.run_pure,Option.isNone_some,Bool.not_false]
 ·rename_i z xo;split at h
  case h_2=>cases h
  rename_i i hi;have gF:=hT.get hi;split at h
  case h_2=>cases h
  rename_i e hu;have WA:=gF.xI hu;have key:∀(M:Mem) (β:Nm) (v:Value),(SV.mo z xo).bI M β v→∃a n c,v=.slice a n c∧a.isNone=z:=by
   intro M β v r
   cases z with
   |true=>exact⟨none,0,0,r.1 rfl,rfl⟩
   |false=>obtain⟨b,c,_,ex,_⟩:=r.2 rfl;exact⟨_,_,_,ex,rfl⟩
  cases op <;> first|exact h.elim|skip
  ·refine⟨_,h,fun ha M β a' w rx ry=>?_⟩;obtain⟨ad,n,c,ex,hz⟩:=key M β _ rx;have ey:a'.eval y=.slice none 0 0:=ry;refine⟨.bool z,?_,rfl⟩;simp only [execOp,ho,ex,ey,Sem.run_bind,eK BinOp.eql t x y (.slice ad n c) (.slice none 0 0) w sM sM,Result.andThen,zV w WA,Sem.run_pure,hz]
  refine⟨_,h,fun ha M β a' w rx ry=>?_⟩;obtain⟨ad,n,c,ex,hz⟩:=key M β _ rx;have ey:a'.eval y=.slice none 0 0:=ry;refine⟨.bool (!z),?_,rfl⟩;simp only [execOp,ho,ex,ey,Sem.run_bind,eK BinOp.neq t x y (.slice ad n c) (.slice none 0 0) w sM sM,Result.andThen,w7 w WA,Sem.run_pure,hz]
 ·split at h
  ·rename_i a b ha hb;split at h
   ·rename_i i hi;have gF:=hT.get hi;split at h
    ·rename_i hu;have WA:P.underlying t=some .bool:=gF.isBool hu
     cases op <;> first|exact h.elim|skip
     ·refine⟨_,h,fun _ M β a' w rx ry=>?_⟩;have ex:=asB.spec ha rx;have ey:=asB.spec hb ry;refine⟨.bool (a==b),?_,rfl⟩;simp only [execOp,ho,ex,ey,Sem.run_bind,eK BinOp.eql t x y (.bool a) (.bool b) w sM sM,Result.andThen,run_eql_bool (w:=w) t a b WA,Sem.run_pure]
     refine⟨_,h,fun _ M β a' w rx ry=>?_⟩;have ex:=asB.spec ha rx;have ey:=asB.spec hb ry;refine⟨.bool (!(a==b)),?_,rfl⟩;simp only [execOp,ho,ex,ey,Sem.run_bind,eK BinOp.neq t x y (.bool a) (.bool b) w sM sM,Result.andThen,run_neq_bool (w:=w) t a b WA,Sem.run_pure]
    cases h
   cases h
  cases h
def gen:Nat→Nat→(Nat→DV)→List SV
 |0,_,_=>[]
 |k+1,j,f=>.d (f j)::gen k (j+1) f
theorem jV{b o j:Nat}:(⟨b,o,none⟩:Addr).add j=⟨b,o+j,none⟩:=by unfold Addr.add;split <;> simp_all
theorem gen.rep{M:Mem}{β:Nm}{C:Nat→Value→Prop}{f:Nat→DV}:∀(k j:Nat),(∀i,j≤i→i<j+k→∃u,C i u∧(f i).bI M u)→
  ∃vs:List Value,vs.length=k∧cV M β (gen k j f) vs∧∀i v,vs[i]? =some v→C (j+i) v
 |0,_,_=>⟨[],rfl,trivial,sM⟩
 |k+1,j,h=>by
  obtain⟨u,hu,hr⟩:=h j (Nat.le_refl _) oM;obtain⟨vs,hl,YL,hm⟩:=gen.rep (M:=M) (β:=β) (C:=C) (f:=f) k (j+1) (fun i h1 h2=>h i oM oM);refine⟨u::vs,by simp[hl],⟨hr,YL⟩,?_⟩;intro i v hv
  cases i with
  |zero=>simp at hv;subst hv;exact hu
  |succ i=>have:=hm i v (by simpa using hv);rw[show j+(i+1)=j+1+i by omega];exact this
def cnt(agg:Bool)(size:Nat):Nat:=match agg with|true=>size|false=>1
def kH(σ:St)(agg:Bool)(size:Nat)(g:Option Bool)(va:AV)(K:AV→Prop):Prop:=
 match va with
 |.s (.ptr x off)=>
  match aH σ.box x with
  |some (some (.cells cs))=>
   match agg with
   |true=>bif Nat.ble (off+size) cs.length then K (.g ((cs.drop off).take size))else False
   |false=>match cs[off]? with
    |some c=>K (.s c)
    |none=>False
  |_=>False
 |.s (.rw x i s o)=>
  match aH σ.box x with
  |some (some (.row _ n s' f))=>
   bif Nat.beq s s'&&Nat.ble (o+cnt agg size) s then
    imp g (i<n)∧(match agg with
    |true=>K (.g (gen size 0 fun j=>f i (o+j)))
    |false=>K (.s (.d (f i o))))
   else False
  |some (some (.b8 _ n s' f))=>
   bif Nat.beq s s'&&Nat.ble (o+cnt agg size) s then
    imp g (i<n)∧(match agg with
    |true=>K (.g (gen size 0 fun j=>f i (o+j)))
    |false=>K (.s (.d (f i o))))
   else False
  |_=>False
 |.s (.d (.rp m f))=>
  match agg with
  |true=>bif Nat.ble size m then K (.g (gen size 0 f))else False
  |false=>bif Nat.ble 1 m then K (.s (.d (f 0)))else False
 |_=>False
section
variable{P:Program}{cx:Cx}{N:Nat}{M:Mem}{β:Nm}{σ:St}{a:Act}{w:World}
theorem kH.spec{agg:Bool}{size:Nat}{g:Option Bool}{va:AV}{K:AV→Prop}(h:kH σ agg size g va K):
  ∃r,K r∧(act g→∀(cx:Cx) N M β a w,Inv cx N M β σ a w→∀(t:TypeId) (u:Value),va.bI M β u→(∀w,(isAgg t).run P w=.ok agg w)→(∀w,(sizeOf t).run P w=.ok size w)→
   ∃v,(Instr.loadAt t u).run P w=.ok v w∧r.bI M β v):=by
 have many:∀(w:World) (t:TypeId) (b o:Nat) (vs:List Value),(∀w,(isAgg t).run P w=.ok true w)→(∀w,(sizeOf t).run P w=.ok vs.length w)→(∀j v,vs[j]? =some v→w.cell? ⟨b,o+j,none⟩=some v)→
   (Instr.loadAt t (.pointer (some ⟨b,o,none⟩))).run P w=.ok (.agg vs.toArray) w:=by
  intro w t b o vs ha hs hc
  have:=run_loadCells_list (P:=P) w ⟨b,o,none⟩ vs (fun j v hv=>by rw[jV];exact hc j v hv)
  simp[Instr.loadAt,Instr.sureAddr,loadVar,ha,hs,this]
 have one:∀(w:World) (t:TypeId) (b o:Nat) (v:Value),(∀w,(isAgg t).run P w=.ok false w)→w.cell? ⟨b,o,none⟩=some v→
   (Instr.loadAt t (.pointer (some ⟨b,o,none⟩))).run P w=.ok v w:=by
  intro w t b o v ha hc
  simp[Instr.loadAt,Instr.sureAddr,loadVar,ha,hc,run_load]
 unfold kH at h
 split at h
 ·rename_i x off;split at h
  ·rename_i cs hb;split at h
   ·cases hle:Nat.ble (off+size) cs.length with
    |false=>rw[hle]at h;cases h
    |true=>
     rw[hle]at h;have hle:=Nat.le_of_ble_eq_true hle;refine⟨_,h,fun _ cx N M β a w i t u ru ha hs=>?_⟩;obtain⟨b,c,e1,rfl⟩:=ru;obtain⟨b',c',vs,T,us,e2,zJ,hr⟩:=i.box x _ hb;rw[e1]at e2;cases e2;have hlen:=hr.length;refine⟨_,many w t b off ((vs.drop off).take size) ha ?_ ?_,_,rfl,(hr.drop off).take size⟩
     ·intro w;rw[hs];simp;omega
     intro j v hv;rw[List.getElem?_take]at hv;split at hv
     ·simp only [World.cell?,zJ];rw[List.getElem?_drop]at hv;have:=CO (us:=us) hv;simpa using this
     cases hv
   split at h
   ·rename_i c hc;refine⟨_,h,fun _ cx N M β a w i t u ru ha hs=>?_⟩;obtain⟨b,c',e1,rfl⟩:=ru;obtain⟨b',c'',vs,T,us,e2,zJ,hr⟩:=i.box x _ hb;rw[e1]at e2;cases e2;obtain⟨v,hv,TQ⟩:=hr.get hc;exact⟨v,one w t b off v ha (by have:=CO (us:=us) hv;simpa [World.cell?,zJ]using this),TQ⟩
   cases h
  cases h
 ·rename_i x i s o;split at h
  ·rename_i e n s' f hb;have row:∀(cx:Cx) N M β a w,Inv cx N M β σ a w→s=s'→i<n→∀u,(AV.s (.rw x i s o)).bI M β u→
     ∃b,u=.pointer (some ⟨b,i*s+o,none⟩)∧∀j,o+j<s→∃v,w.cell? ⟨b,i*s+o+j,none⟩=some v∧(f i (o+j)).bI M v:=by
    rintro cx N M β a w iv rfl hi u ⟨b,c,e1,rfl⟩
    obtain⟨b',c',cur,e2,zJ,_,mL,hn,I9,hc⟩:=iv.box x _ hb
    rw[e1]at e2;cases e2
    refine⟨b,rfl,fun j hj=>?_⟩
    obtain⟨v,hv,hr⟩:=hc i (o+j) hi hj
    exact⟨v,by simp[World.cell?,zJ];rw[Nat.add_assoc];exact hv,hr⟩
   exact zp
  ·rename_i e n s' f hb;have row:∀(cx:Cx) N M β a w,Inv cx N M β σ a w→s=s'→i<n→∀u,(AV.s (.rw x i s o)).bI M β u→
     ∃b,u=.pointer (some ⟨b,i*s+o,none⟩)∧∀j,o+j<s→∃v,w.cell? ⟨b,i*s+o+j,none⟩=some v∧(f i (o+j)).bI M v:=by
    rintro cx N M β a w iv rfl hi u ⟨b,c,e1,rfl⟩
    obtain⟨cur,zJ,_,mL,hn,I9,hc⟩:=iv.box x _ hb b c e1
    refine⟨b,rfl,fun j hj=>?_⟩
    obtain⟨v,hv,hr⟩:=hc i (o+j) hi hj
    exact⟨v,by simp[World.cell?,zJ];rw[Nat.add_assoc];exact hv,hr⟩
   exact zp
  cases h
 ·rename_i m f;split at h
  ·cases hle:Nat.ble size m with
   |false=>rw[hle]at h;cases h
   |true=>rw[hle]at h;have hle:=Nat.le_of_ble_eq_true hle;refine⟨_,h,fun _ cx N M β a w i t u ru ha hs=>?_⟩;obtain⟨b,o,rfl,hc⟩:=ru;obtain⟨vs,hl,hr,hm⟩:=gen.rep (M:=M) (β:=β) (C:=fun j v=>M b (o+j)=some v) (f:=f) size 0 (fun j _ hj=>hc j oM);exact⟨_,many w t b o vs ha (by intro w;rw[hs,hl]) (fun j v hv=>i.mem _ _ _ (by have:=hm j v hv;rwa [Nat.zero_add]at this)),vs,rfl,hr⟩
  cases hle:Nat.ble 1 m with
  |false=>rw[hle]at h;cases h
  |true=>rw[hle]at h;have hle:=Nat.le_of_ble_eq_true hle;refine⟨_,h,fun _ cx N M β a w i t u ru ha hs=>?_⟩;obtain⟨b,o,rfl,hc⟩:=ru;obtain⟨v,hv,hr⟩:=hc 0 oM;exact⟨v,one w t b o v ha (i.mem _ _ _ hv),hr⟩
 ·cases h
end
def jW(P:Program)(o:Oper)(σ:St)(g:Option Bool)(r:AV):Prop:=
 act g→∀cx N M β a w,Inv cx N M β σ a w→∃v,(execOp a.eval o).run P w=.ok (.value v) w∧r.bI M β v
section
variable{P:Program}{σ:St}{g:Option Bool}{K:AV→Prop}{o:Oper}
theorem fe.ev{x:Operand}(h:fe g (ev σ x) K):
  ∃r,K r∧(act g→∀cx N M β a w,Inv cx N M β σ a w→r.bI M β (a.eval x)):=by
 obtain⟨r,hk,hr⟩:=fe.spec h
 exact⟨r,hk,fun ha cx N M β a w i=>hr ha M β _ (Go.Ax.ev.rep i x)⟩
theorem move.spec{x:Operand}(ho:o.op=.move x∨o.op=.assign x)(h:fe g (ev σ x) K):∃r,K r∧jW P o σ g r:=by obtain⟨r,hk,hr⟩:=fe.ev h;refine⟨r,hk,fun ha cx N M β a w i=>⟨a.eval x,?_,hr ha cx N M β a w i⟩⟩;rcases ho with ho|ho <;> simp[execOp,ho]
theorem load.spec{T:List (Nat×bV)}(hT:cD P T){t:TypeId}{x:Operand}(ho:o.op=.load t x)
  (h:fe g (ev σ x) fun va=>match dE T t with|some ti=>kH σ ti.agg ti.size g va K|none=>False):∃r,K r∧jW P o σ g r:=by
 replace h:=fe.ev h
 obtain⟨va,h,hr⟩:=h
 split at h
 ·rename_i ti gG;have gF:=hT.get gG;obtain⟨r,hk,hs⟩:=kH.spec (P:=P) h;refine⟨r,hk,fun ha cx N M β a w i=>?_⟩;obtain⟨v,e,rv⟩:=hs ha cx N M β a w i t (a.eval x) (hr ha cx N M β a w i) gF.BC gF.iE;exact⟨v,by simp[execOp,ho,e],rv⟩
 ·cases h
def sP(T:List (Nat×bV))(s f:Nat)(va:AV)(K:AV→Prop):Prop:=
 match dE T s with
 |some ti=>match ti.wJ[f]? with
  |some (off,sz)=>match ti.j7 with
   |.struct=>bif Nat.beq sz 0 then False else
    match va with
    |.s (.ptr x o)=>K (.s (.ptr x (o+off)))
    |.s (.rw x i s' o)=>K (.s (.rw x i s' (o+off)))
    |.s (.d (.rp m f))=>K (.s (.d (.rp (m - off) fun j=>f (off+j))))
    |_=>False
   |_=>False
  |none=>False
 |none=>False
theorem sY.get:∀{fs:List Field} {l:List (Nat×Nat)} {k:Nat} {off sz:Nat},sY P fs l→l[k]? =some (off,sz)→
  ∃f,fs[k]? =some f∧f.offset=off∧∃ti,P.info? f.type=some ti∧ti.size=sz
 |[],[],_,_,_,_,h=>by simp at h
 |f::fs,(o,z)::r,0,off,sz,⟨h1,h2,_⟩,h=>by simp at h;obtain⟨rfl,rfl⟩:=h;exact⟨f,rfl,h1,h2⟩
 |f::fs,(o,z)::r,k+1,off,sz,⟨_,_,h3⟩,h=>by have:=sY.get (k:=k) h3 zeI;simpa using this
 |[],_::_,_,_,_,h,_=>h.elim
 |_::_,[],_,_,_,h,_=>h.elim
theorem field.spec{T:List (Nat×bV)}(hT:cD P T){s f:Nat}{x:Operand}(ho:o.op=.fieldAddr s x f)
  (h:fe g (ev σ x) fun va=>sP T s f va K):∃r,K r∧jW P o σ g r:=by
 replace h:=fe.ev h
 obtain⟨va,h,hr⟩:=h
 unfold sP at h
 split at h
 ·rename_i ti gG;have gF:=hT.get gG;split at h
  ·rename_i off sz hf;split at h
   ·rename_i hu;obtain⟨fs,dB⟩:=gF.QJ hu
    cases hz:Nat.beq sz 0 with
    |true=>rw[hz]at h;cases h
    |false=>
     rw[hz]at h;have hz:sz≠0:=fun e=>by subst e;cases hz
     obtain⟨fl,hfl,aPG,ti2,hi2,mL⟩:=(gF.wJ fs dB).get hf;have run:∀(b o:Nat) (w:World),(Instr.fieldAt s (.pointer (some ⟨b,o,none⟩)) f).run P w=.ok (.pointer (some ⟨b,o+off,none⟩)) w:=by
      intro b o w;have aPN:fs[f]? =some fl:=by simpa using hfl
      have:(underlying s).run P w=.ok (.struct fs) w:=by simp[underlying,dB]
      have hz':¬ti2.size=0:=by rw[mL];exact hz
      simp[Instr.fieldAt,this,aPN,Instr.sureAddr,fieldPlace,sizeOf,typeInfo,hi2,hz',jV,aPG]
     split at h
     ·refine⟨_,h,fun ha cx N M β a w i=>?_⟩;obtain⟨b,c,e1,e2⟩:=hr ha cx N M β a w i;exact⟨_,by simp[execOp,ho,e2,run],b,c,e1,rfl⟩
     ·refine⟨_,h,fun ha cx N M β a w i=>?_⟩;obtain⟨b,c,e1,e2⟩:=hr ha cx N M β a w i;exact⟨_,by simp[execOp,ho,e2,run];rfl,b,c,e1,by rw[Nat.add_assoc]⟩
     ·rename_i m fn;refine⟨_,h,fun ha cx N M β a w i=>?_⟩;obtain⟨b,o',e2,hc⟩:=hr ha cx N M β a w i;refine⟨_,by simp[execOp,ho,e2,run],b,o'+off,rfl,fun j hj=>?_⟩;obtain⟨u,hu,FJ⟩:=hc (off+j) oM;exact zek
     cases h
   cases h
  cases h
 ·cases h
def qN(T:List (Nat×bV))(σ:St)(t:Nat)(g:Option Bool)(va vi:AV)(K:AV→Prop):Prop:=
 match dE T t with
 |some ti=>match ti.j7 with
  |.slice e=>match dE T e with
   |some te=>match vi with
    |.s (.d (.val (.int _ n)))=>match va with
     |.s (.d (.fU len s f))=>bif Nat.beq s te.size then imp g (0≤n∧n<(len:Int))∧K (.s (.d (.rp s (f n.toNat))))else False
     |.s (.own x)=>match aH σ.box x with
      |some (some (.row _ len s _))=>bif Nat.beq s te.size then imp g (0≤n∧n<(len:Int))∧K (.s (.rw x n.toNat s 0))else False
      |_=>False
     |.s (.mo z x)=>match aH σ.box x with
      |some (some (.b8 _ len s _))=>bif Nat.beq s te.size then imp g (0≤n∧n<((bif z then 0 else len:Nat):Int))∧K (.s (.rw x n.toNat s 0))else False
      |_=>False
     |.s (.j0 x s lo m)=>match aH σ.box x with
      |some (some (.cells _))=>bif Nat.beq s te.size then imp g (0≤n∧n<(m:Int))∧K (.s (.ptr x ((lo+n.toNat)*s)))else False
      |_=>bif Nat.beq s te.size then imp g (0≤n∧n<(m:Int))∧K (.s (.rw x (lo+n.toNat) s 0))else False
     |_=>False
    |_=>False
   |none=>False
  |.array len e=>match dE T e with
   |some te=>match vi with
    |.s (.d (.val (.int _ n)))=>match va with
     |.s (.ptr x off)=>imp g (0≤n∧n<(len:Int))∧K (.s (.ptr x (off+n.toNat*te.size)))
     |.s (.rw x i s' off)=>imp g (0≤n∧n<(len:Int))∧K (.s (.rw x i s' (off+n.toNat*te.size)))
     |.s (.d (.rp m f))=>imp g (0≤n∧n<(len:Int))∧K (.s (.d (.rp (m - n.toNat*te.size) fun j=>f (n.toNat*te.size+j))))
     |_=>False
    |_=>False
   |none=>False
  |_=>False
 |none=>False
theorem idx.spec{T:List (Nat×bV)}(hT:cD P T){t:Nat}{x y:Operand}(ho:o.op=.indexAddr t x y)
  (h:fe g (ev σ x) fun va=>fe g (ev σ y) fun vi=>qN T σ t g va vi K):∃r,K r∧jW P o σ g r:=by
 replace h:=fe.ev h
 obtain⟨va,h,hr⟩:=h
 replace h:=fe.ev h
 obtain⟨vi,h,Z4⟩:=h
 unfold qN at h
 split at h
 case h_2=>cases h
 rename_i ti gG
 have gF:=hT.get gG
 split at h
 case h_3=>cases h
 rotate_left
 ·rename_i len e hu;have dB:P.underlying t=some (.array len e):=gF.FV hu;split at h
  case h_2=>cases h
  rename_i te nD;have mS:=hT.get nD;split at h
  case h_2=>cases h
  rename_i k n;have a7:∀(b off:Nat) (w:World),0≤n→n<(len:Int)→(Instr.indexAt t (.pointer (some ⟨b,off,none⟩)) (.int k n)).run P w=.ok (.pointer (some ⟨b,off+n.toNat*te.size,none⟩)) w:=by
   intro b off w h0 h1;have hu1:(underlying t).run P w=.ok (.array len e) w:=by simp[underlying,dB]
   have hs:=mS.iE w;simp[Instr.indexAt,asIntOf,hu1,h0,h1,hs,jV,Instr.sureAddr]
  split at h
  ·rename_i x' off;refine⟨_,h.2,fun ha cx N M β a w i=>?_⟩;obtain⟨h0,h1⟩:=h.1.get ha;obtain⟨b,c,e1,ex⟩:=hr ha cx N M β a w i;have ey:a.eval y=.int k n:=Z4 ha cx N M β a w i;exact⟨_,by simp only [execOp,ho,ex,ey,a7 b off w h0 h1,Sem.run_bind,Result.andThen,Sem.run_pure],b,c,e1,rfl⟩
  ·rename_i x' i' s' off;refine⟨_,h.2,fun ha cx N M β a w i=>?_⟩;obtain⟨h0,h1⟩:=h.1.get ha;obtain⟨b,c,e1,ex⟩:=hr ha cx N M β a w i;have ey:a.eval y=.int k n:=Z4 ha cx N M β a w i;exact⟨_,by simp only [execOp,ho,ex,ey,a7 b _ w h0 h1,Sem.run_bind,Result.andThen,Sem.run_pure];rfl,b,c,e1,by rw[Nat.add_assoc]⟩
  ·rename_i m fn;refine⟨_,h.2,fun ha cx N M β a w i=>?_⟩;obtain⟨h0,h1⟩:=h.1.get ha;obtain⟨b,o',ex,hc⟩:=hr ha cx N M β a w i;have ey:a.eval y=.int k n:=Z4 ha cx N M β a w i;refine⟨_,by simp only [execOp,ho,ex,ey,a7 b o' w h0 h1,Sem.run_bind,Result.andThen,Sem.run_pure],b,o'+n.toNat*te.size,rfl,fun j hj=>?_⟩;obtain⟨u,hu,FJ⟩:=hc (n.toNat*te.size+j) oM;exact zek
  cases h
 rename_i e hu
 have dB:P.underlying t=some (.slice e):=gF.isSlice hu
 split at h
 case h_2=>cases h
 rename_i te nD
 have mS:=hT.get nD
 split at h
 case h_2=>cases h
 rename_i k n
 have run:∀(b o:Nat) (len cap:Nat) (w:World),0≤n→n<(len:Int)→
   (Instr.indexAt t (.slice (some ⟨b,o,none⟩) len cap) (.int k n)).run P w=.ok (.pointer (some ⟨b,o+n.toNat*te.size,none⟩)) w:=by
  intro b o len cap w h0 h1
  have hu1:(underlying t).run P w=.ok (.slice e) w:=by simp[underlying,dB]
  have hs:=mS.iE w
  simp[Instr.indexAt,asIntOf,hu1,h0,h1,hs,jV]
 split at h
 ·rename_i len s f
  cases hs:Nat.beq s te.size with
  |false=>rw[hs]at h;cases h
  |true=>
   rw[hs]at h;have hs:=Nat.eq_of_beq_eq_true hs;refine⟨_,h.2,fun ha cx N M β a w i=>?_⟩;obtain⟨h0,h1⟩:=h.1.get ha;obtain⟨ad,cap,ex,wI,hc⟩:=hr ha cx N M β a w i;have ey:a.eval y=.int k n:=Z4 ha cx N M β a w i;rcases hc with h0'|⟨b,o',rfl,hc⟩
   ·omega
   refine⟨_,by simp only [execOp,ho,ex,ey,run b o' len cap w h0 h1,Sem.run_bind,Result.andThen,Sem.run_pure];rfl,b,_,rfl,fun j hj=>?_⟩;obtain⟨u,hu,FJ⟩:=hc n.toNat j oM hj;exact⟨u,by rw[←hs];exact hu,FJ⟩
 ·rename_i x';split at h
  case h_2=>cases h
  rename_i e' len s f hb
  cases hs:Nat.beq s te.size with
  |false=>rw[hs]at h;cases h
  |true=>rw[hs]at h;have hs:=Nat.eq_of_beq_eq_true hs;refine⟨_,h.2,fun ha cx N M β a w i=>?_⟩;obtain⟨h0,h1⟩:=h.1.get ha;obtain⟨b,c,e1,ex,wI⟩:=hr ha cx N M β a w i;obtain⟨b2,c2,cur,e2,_,hlen,_⟩:=i.box x' _ hb;rw[e1]at e2;cases e2;exact ki
 ·rename_i zz x';split at h
  case h_2=>cases h
  rename_i e' len s f hb
  cases hs:Nat.beq s te.size with
  |false=>rw[hs]at h;cases h
  |true=>
   rw[hs]at h;have hs:=Nat.eq_of_beq_eq_true hs;refine⟨_,h.2,fun ha cx N M β a w i=>?_⟩;obtain⟨h0,h1⟩:=h.1.get ha
   cases zz with
   |true=>simp only [cond_true]at h1;omega
   |false=>simp only [cond_false]at h1;obtain⟨b,c,e1,ex,wI⟩:=(hr ha cx N M β a w i).2 rfl;obtain⟨cur,_,hlen,_⟩:=i.box x' _ hb b c e1;exact ki
 ·rename_i x' s lo m;split at h
  ·cases hs:Nat.beq s te.size with
   |false=>rw[hs]at h;cases h
   |true=>rw[hs]at h;have hs:=Nat.eq_of_beq_eq_true hs;refine⟨_,h.2,fun ha cx N M β a w i=>?_⟩;obtain⟨h0,h1⟩:=h.1.get ha;obtain⟨b,c,o',e1,ex,hoo,hc1,JA⟩:=hr ha cx N M β a w i;have ey:a.eval y=.int k n:=Z4 ha cx N M β a w i;refine⟨_,by simp only [execOp,ho,ex,ey,run b o' m (c.1 - lo) w h0 h1,Sem.run_bind,Result.andThen,Sem.run_pure];rfl,b,c,e1,?_⟩;rw[hoo oM,hs,Nat.add_mul]
  cases hs:Nat.beq s te.size with
  |false=>rw[hs]at h;cases h
  |true=>rw[hs]at h;have hs:=Nat.eq_of_beq_eq_true hs;refine⟨_,h.2,fun ha cx N M β a w i=>?_⟩;obtain⟨h0,h1⟩:=h.1.get ha;obtain⟨b,c,o',e1,ex,hoo,hc1,JA⟩:=hr ha cx N M β a w i;have ey:a.eval y=.int k n:=Z4 ha cx N M β a w i;refine⟨_,by simp only [execOp,ho,ex,ey,run b o' m (c.1 - lo) w h0 h1,Sem.run_bind,Result.andThen,Sem.run_pure];rfl,b,c,e1,?_⟩;rw[hoo oM,hs,Nat.add_mul];rfl
 ·cases h
def C7(T:List (Nat×bV))(t:Nat)(g:Option Bool)(va vi:AV)(K:AV→Prop):Prop:=
 match dE T t with
 |some ti=>match ti.j7 with
  |.string=>match va,vi with
   |.s (.d (.val (.string s))),.s (.d (.val (.int _ n)))=>imp g (0≤n∧n<(s.size:Int))∧K (rH .u8 (s[n.toNat]!).toNat)
   |_,_=>False
  |.array len e=>match dE T e with
   |some te=>match va,vi with
    |.g cs,.s (.d (.val (.int _ n)))=>imp g (0≤n∧n<(len:Int))∧(match te.agg with
     |true=>bif Nat.ble (n.toNat*te.size+te.size) cs.length then K (.g ((cs.drop (n.toNat*te.size)).take te.size))else False
     |false=>match cs[n.toNat*te.size]? with
      |some c=>K (.s c)
      |none=>False)
    |_,_=>False
   |none=>False
  |_=>False
 |none=>False
theorem str.spec{T:List (Nat×bV)}(hT:cD P T){t:Nat}{x y:Operand}(ho:o.op=.index t x y)
  (h:fe g (ev σ x) fun va=>fe g (ev σ y) fun vi=>C7 T t g va vi K):∃r,K r∧jW P o σ g r:=by
 replace h:=fe.ev h
 obtain⟨va,h,hr⟩:=h
 replace h:=fe.ev h
 obtain⟨vi,h,Z4⟩:=h
 unfold C7 at h
 split at h
 case h_2=>cases h
 rename_i ti gG
 have gF:=hT.get gG
 split at h
 case h_3=>cases h
 ·rename_i hu;have dB:P.underlying t=some .string:=gF.isString hu;split at h
  case h_2=>cases h
  rename_i s k n;refine⟨_,h.2,fun ha cx N M β a w i=>?_⟩;obtain⟨h0,h1⟩:=h.1.get ha;have ex:a.eval x=.string s:=hr ha cx N M β a w i;have ey:a.eval y=.int k n:=Z4 ha cx N M β a w i;have hu1:(underlying t).run P w=.ok .string w:=by simp[underlying,dB]
  have fZ:n.toNat<s.size:=oM;have hg:s[n.toNat]? =some s[n.toNat]! :=by rw[getElem?_pos s n.toNat fZ,getElem!_pos s n.toNat fZ]
  refine⟨_,?_,rfl⟩;simp[execOp,ho,ex,ey,Instr.index,asIntOf,hu1,h0,hg]
 ·rename_i len e hu;have dB:P.underlying t=some (.array len e):=gF.FV hu;split at h
  case h_2=>cases h
  rename_i te nD;have mS:=hT.get nD;split at h
  case h_2=>cases h
  rename_i cs k n;obtain⟨jA,h⟩:=h;split at h
  ·rename_i H2
   cases hle:Nat.ble (n.toNat*te.size+te.size) cs.length with
   |false=>rw[hle]at h;cases h
   |true=>
    rw[hle]at h;refine⟨_,h,fun ha cx N M β a w i=>?_⟩;obtain⟨h0,h1⟩:=jA.get ha;obtain⟨vs,ex,YJ⟩:=hr ha cx N M β a w i;have ey:a.eval y=.int k n:=Z4 ha cx N M β a w i;have hu1:(underlying t).run P w=.ok (.array len e) w:=by simp[underlying,dB]
    have ha1:=mS.BC w;rw[H2]at ha1;refine⟨.agg ((vs.drop (n.toNat*te.size)).take te.size).toArray,?_,_,rfl,(YJ.drop _).take _⟩;simp[execOp,ho,ex,ey,Instr.index,asIntOf,hu1,h0,h1,part,ha1,mS.iE,List.extract_eq_take_drop]
  rename_i H2;split at h
  case h_2=>cases h
  rename_i c hc;refine⟨_,h,fun ha cx N M β a w i=>?_⟩;obtain⟨h0,h1⟩:=jA.get ha;obtain⟨vs,ex,YJ⟩:=hr ha cx N M β a w i;have ey:a.eval y=.int k n:=Z4 ha cx N M β a w i;have hu1:(underlying t).run P w=.ok (.array len e) w:=by simp[underlying,dB]
  have ha1:=mS.BC w;rw[H2]at ha1;obtain⟨v,hv,TQ⟩:=YJ.get hc;refine⟨v,?_,TQ⟩;simp[execOp,ho,ex,ey,Instr.index,asIntOf,hu1,h0,h1,part,ha1,mS.iE,hv]
def J3(k:Nat)(va:AV)(K:AV→Prop):Prop:=
 match va with
 |.t ts=>match ts[k]? with
  |some (.s x)=>K (.s x)
  |some (.g cs)=>K (.g cs)
  |none=>False
 |_=>False
theorem ext.spec{k:Nat}{x:Operand}(ho:o.op=.extract x k)(h:J3 k (ev σ x) K):∃r,K r∧jW P o σ g r:=by
 unfold J3 at h;split at h
 case h_2=>cases h
 rename_i ts uX;have key:∀tv,ts[k]? =some tv→∀cx N M β a w,Inv cx N M β σ a w→∃v,(execOp a.eval o).run P w=.ok (.value v) w∧tv.bI M β v:=by intro tv htv cx N M β a w i;have:=ev.rep i x;rw[uX]at this;obtain⟨vs,ex,hv⟩:=this;obtain⟨v,hv1,Z3⟩:=hv.get htv;exact⟨v,by simp[execOp,ho,ex,Instr.extract,hv1],Z3⟩
 split at h
 case h_3=>cases h
 ·rename_i s hs;exact zde
 rename_i cs hs;exact zde
def unV(op:UnOp)(va:AV)(K:AV→Prop):Prop:=
 match op,va with
 |.not,.s (.d (.lit b))=>match b with|true=>K (.s (.d (.lit false)))|false=>K (.s (.d (.lit true)))
 |.not,.s (.d (.val (.bool b)))=>K (kY (!b))
 |.neg,.s (.d (.val (.int k n)))=>K (rH k (k.wrap (0 - n)))
 |_,_=>False
theorem un.spec{op:UnOp}{t:Nat}{x:Operand}(ho:o.op=.unOp op t x)(h:fe g (ev σ x) fun va=>unV op va K):∃r,K r∧jW P o σ g r:=by
 replace h:=fe.ev h;obtain⟨va,h,hr⟩:=h;unfold unV at h;split at h
 case h_4=>cases h
 ·rename_i b
  cases b with
  |true=>refine⟨_,h,fun ha cx N M β a w i=>⟨.bool false,?_,rfl⟩⟩;have ex:a.eval x=.bool true:=hr ha cx N M β a w i;exact zel
  |false=>refine⟨_,h,fun ha cx N M β a w i=>⟨.bool true,?_,rfl⟩⟩;have ex:a.eval x=.bool false:=hr ha cx N M β a w i;exact zel
 ·rename_i b;refine⟨_,h,fun ha cx N M β a w i=>⟨.bool (!b),?_,rfl⟩⟩;have ex:a.eval x=.bool b:=hr ha cx N M β a w i;exact zel
 rename_i k n;refine⟨_,h,fun ha cx N M β a w i=>⟨_,?_,rfl⟩⟩;have ex:a.eval x=.int k n:=hr ha cx N M β a w i;simp[execOp,ho,ex,Op.unary,Op.intArith]
def CI:AV→Option (Bool×Option Bool)
 |.s (.d (.lit b))=>some (b,none)
 |.s (.d (.val (.bool b)))=>some (b,none)
 |.ib c (.d (.lit b))=>some (b,some c)
 |.ib c (.d (.val (.bool b)))=>some (b,some c)
 |_=>none
theorem CI.spec{v:AV}{b:Bool}{c:Option Bool}{M:Mem}{β:Nm}{u:Value}(h:CI v=some (b,c))(r:v.bI M β u)(hc:act c):u=.bool b:=by
 unfold CI at h;split at h
 ·cases h;exact r
 ·cases h;exact r
 ·cases h;exact r.1 (hc _ rfl)
 ·cases h;exact r.1 (hc _ rfl)
 cases h
def Q3(p:Prop):Option Bool→Prop
 |none=>True
 |some c=>p→c=true
theorem Q3.act{p:Prop}{c:Option Bool}(h:Q3 p c)(hp:p):act c:=by intro b e;subst e;exact h hp
def isL(b:Bool):AV→Bool
 |.s (.d (.lit c))=>match b,c with|true,true=>true|false,false=>true|_,_=>false
 |_=>false
theorem isL.eq{b:Bool}{v:AV}(h:isL b v=true):v=.s (.d (.lit b)):=by
 unfold isL at h;split at h
 ·rename_i c
  cases b <;> cases c <;> first|rfl|cases h
 cases h
def vV(g:Option Bool)(vc vx vy:AV)(K:AV→Prop):Prop:=
 match vc with
 |.s (.d (.lit b))=>match b with
  |true=>fe g vx K
  |false=>fe g vy K
 |.s (.d (.val (.bool b)))=>
  match CI vx,CI vy with
  |some (p,gp),some (q,gq)=>imp g (Q3 (b=true) gp)∧imp g (Q3 (b=false) gq)∧
    (bif isL false vy then K (kY (b&&p))else bif isL true vx then K (kY (b||q))else K (kY (bif b then p else q)))
  |_,_=>False
 |_=>False
theorem pick.spec{c x y:Operand}(ho:o.op=.pick c x y)(h:fe g (ev σ c) fun vc=>vV g vc (ev σ x) (ev σ y) K):∃r,K r∧jW P o σ g r:=by
 replace h:=fe.ev h;obtain⟨vc,h,hr⟩:=h;unfold vV at h;split at h
 case h_3=>cases h
 ·rename_i b
  cases b with
  |true=>obtain⟨r,hk,hx⟩:=fe.ev h;refine⟨r,hk,fun ha cx N M β a w i=>⟨a.eval x,?_,hx ha cx N M β a w i⟩⟩;have ex:a.eval c=.bool true:=hr ha cx N M β a w i;simp[execOp,ho,ex,asBool]
  |false=>obtain⟨r,hk,hx⟩:=fe.ev h;refine⟨r,hk,fun ha cx N M β a w i=>⟨a.eval y,?_,hx ha cx N M β a w i⟩⟩;have ex:a.eval c=.bool false:=hr ha cx N M β a w i;simp[execOp,ho,ex,asBool]
 rename_i b;split at h
 case h_2=>cases h
 rename_i p gp q gq hp hq;obtain⟨h1,h2,h⟩:=h;have key:∀cx N M β a w,act g→Inv cx N M β σ a w→(execOp a.eval o).run P w=.ok (.value (.bool (bif b then p else q))) w:=by
  intro cx N M β a w ha i;have ex:a.eval c=.bool b:=hr ha cx N M β a w i
  cases b with
  |true=>have:=CI.spec hp (ev.rep i x) ((imp.get h1 ha).act rfl);simp[execOp,ho,ex,asBool,this]
  |false=>have:=CI.spec hq (ev.rep i y) ((imp.get h2 ha).act rfl);simp[execOp,ho,ex,asBool,this]
 cases e1:isL false (ev σ y)with
 |true=>
  rw[e1]at h;refine⟨_,h,fun ha cx N M β a w i=>⟨_,key cx N M β a w ha i,?_⟩⟩;have:q=false:=by rw[isL.eq e1]at hq;simp only [CI,Option.some.injEq,Prod.mk.injEq]at hq;exact hq.1.symm
  exact zds
 |false=>
  rw[e1]at h
  cases e2:isL true (ev σ x)with
  |true=>
   rw[e2]at h;refine⟨_,h,fun ha cx N M β a w i=>⟨_,key cx N M β a w ha i,?_⟩⟩;have:p=true:=by rw[isL.eq e2]at hp;simp only [CI,Option.some.injEq,Prod.mk.injEq]at hp;exact hp.1.symm
   exact zds
  |false=>rw[e2]at h;exact⟨_,h,fun ha cx N M β a w i=>⟨_,key cx N M β a w ha i,rfl⟩⟩
end
section
variable{P:Program}{σ:St}{g:Option Bool}{K:AV→Prop}{o:Oper}
def tY(T:List (Nat×bV))(src dst:Nat)(va:AV)(K:AV→Prop):Prop:=
 match dE T src,dE T dst with
 |some ts,some td=>match ts.j7,td.j7,va with
  |.int _,.int k,.s (.d (.val (.int _ n)))=>K (rH k (k.wrap n))
  |.string,.string,.s (.d (.val (.string s)))=>K (.s (.d (.val (.string s))))
  |.int _,.float k,.s (.d (.val (.int _ n)))=>K (.s (.d (.val (.float k (k.nearest n)))))
  |.float _,.int k,.s (.d (.val (.float s b)))=>∃n:Int,((s.decode b).toInt .zero=some n∧k.min≤n∧n≤k.max)∧K (rH k n)
  |_,_,_=>False
 |_,_=>False
theorem conv.spec{T:List (Nat×bV)}(hT:cD P T){src dst:Nat}{x:Operand}(ho:o.op=.convert src dst x)
  (h:fe g (ev σ x) fun va=>tY T src dst va K):∃r,K r∧jW P o σ g r:=by
 replace h:=fe.ev h
 obtain⟨va,h,hr⟩:=h
 unfold tY at h
 split at h
 case h_2=>cases h
 rename_i ts td uX htd
 have k1:=hT.get uX
 have k2:=hT.get htd
 split at h
 case h_5=>cases h
 ·rename_i k0 k kk n e1 e2;have h1:=k1.isInt e1;have h2:=k2.isInt e2;refine⟨_,h,fun ha cx N M β a w i=>⟨_,?_,rfl⟩⟩;have ex:a.eval x=.int kk n:=hr ha cx N M β a w i;simp[execOp,ho,ex,convert,run_underlying h1,run_underlying h2,Conv.intToInt]
 ·rename_i s e1 e2;have h1:=k1.isString e1;have h2:=k2.isString e2;refine⟨_,h,fun ha cx N M β a w i=>⟨_,?_,rfl⟩⟩;have ex:a.eval x=.string s:=hr ha cx N M β a w i;simp[execOp,ho,ex,convert,run_underlying h1,run_underlying h2]
 ·rename_i k0 k kk n e1 e2;have h1:=k1.isInt e1;have h2:=k2.V3 e2;refine⟨_,h,fun ha cx N M β a w i=>⟨_,?_,rfl⟩⟩;have ex:a.eval x=.int kk n:=hr ha cx N M β a w i;simp[execOp,ho,ex,convert,run_underlying h1,run_underlying h2,Conv.intToFloat]
 ·rename_i k0 k s b e1 e2;have h1:=k1.V3 e1;have h2:=k2.isInt e2;obtain⟨n,⟨hn,DR,TZ⟩,h⟩:=h;refine⟨_,h,fun ha cx N M β a w i=>⟨_,?_,rfl⟩⟩;have ex:a.eval x=.float s b:=hr ha cx N M β a w i;simp[execOp,ho,ex,convert,run_underlying h1,run_underlying h2,Conv.floatToInt,hn,DR,TZ]
def MT(va:AV)(K:AV→Prop):Prop:=
 match va with
 |.s (.ptr x o)=>K (.s (.ptr x o))
 |.s (.rw x i s o)=>K (.s (.rw x i s o))
 |.s (.d (.rp m f))=>K (.s (.d (.rp m f)))
 |.s (.dZ f cs)=>K (.s (.dZ f cs))
 |.s (.d (.dZ f k c))=>K (.s (.d (.dZ f k c)))
 |_=>False
theorem nil.spec{x:Operand}(ho:o.op=.nilCheck x)(h:fe g (ev σ x) fun va=>MT va K):∃r,K r∧jW P o σ g r:=by
 replace h:=fe.ev h;obtain⟨va,h,hr⟩:=h;unfold MT at h;split at h
 case h_6=>cases h
 ·exact zay
 ·exact zay
 ·refine⟨_,h,fun ha cx N M β a w i=>?_⟩;obtain⟨b,c,e2,e1⟩:=hr ha cx N M β a w i;exact⟨_,by simp[execOp,ho,e2],b,c,rfl,e1⟩
 ·exact zaD
 exact zaD
def aKQ:AV→Option CV
 |.s (.d x)=>some (.d x)
 |.s (.ptr x o)=>some (.ptr x o)
 |_=>none
def qC(σ:St):List Operand→Option (List CV)
 |[]=>some []
 |x::r=>match aKQ (ev σ x),qC σ r with
  |some c,some cs=>some (c::cs)
  |_,_=>none
theorem qC.rep{cx:Cx}{N:Nat}{M:Mem}{β:Nm}{a:Act}{w:World}(i:Inv cx N M β σ a w):∀{l:List Operand} {cs:List CV},qC σ l=some cs→vO M β cs (l.map a.eval)
 |[],cs,h=>by simp[qC]at h;subst h;trivial
 |x::r,cs,h=>by
  simp only [qC]at h;split at h
  ·rename_i c cs' hc nR
   cases h
   refine⟨?_,qC.rep i nR⟩;have:=ev.rep i x;unfold aKQ at hc;split at hc
   ·rename_i e;cases hc;rw[e]at this;exact this
   ·rename_i e;cases hc;rw[e]at this;exact this
   cases hc
  cases h
theorem mkf.spec{f:FuncId}{IV:Array Operand}(ho:o.op=.makeFunc (.func f) #[] IV)
  (h:match qC σ IV.toList with|some cs=>K (.s (.dZ f cs))|none=>False):∃r,K r∧jW P o σ g r:=by
 split at h
 case h_2=>cases h
 rename_i cs nR
 refine⟨_,h,fun ha cx N M β a w i=>⟨_,?_,(IV.toList.map a.eval),rfl,qC.rep i nR⟩⟩
 simp[execOp,ho,Instr.makeFunc]
 apply Array.ext'
 simp
def J9(T:List (Nat×bV))(t:Nat)(va:AV)(K:AV→Prop):Prop:=
 match dE T t with
 |some ti=>match ti.j7,va with
  |.slice _,.s (.d (.val (.slice _ _ c)))=>K (rH .i64 c)
  |_,_=>False
 |none=>False
theorem cap.spec{T:List (Nat×bV)}(hT:cD P T){t:Nat}{x:Operand}(ho:o.op=.call {callee:=.builtin .cap,args:= #[x],argTypes:= #[t]})
  (h:fe g (ev σ x) fun va=>J9 T t va K):∃r,K r∧jW P o σ g r:=by
 replace h:=fe.ev h
 obtain⟨va,h,hr⟩:=h
 unfold J9 at h
 split at h
 case h_2=>cases h
 rename_i ti gG
 split at h
 case h_2=>cases h
 rename_i e b n c hu
 have dB:=(hT.get gG).isSlice hu
 refine⟨_,h,fun ha cx N M β a w i=>⟨_,?_,rfl⟩⟩
 have ex:a.eval x=.slice b n c:=hr ha cx N M β a w i
 simp[execOp,ho,ex,resolve,invoke,builtin,Builtin.cap_,run_underlying dB,goInt]
def qL(T:List (Nat×bV))(σ:St)(t:Nat)(va:AV)(K:AV→Prop):Prop:=
 match dE T t with
 |some ti=>match ti.j7,va with
  |.slice _,.s (.d (.fU n _ _))=>K (rH .i64 n)
  |.slice _,.s (.own x)=>match aH σ.box x with
   |some (some (.row _ n _ _))=>K (rH .i64 n)
   |_=>False
  |.slice _,.s (.mo z x)=>match aH σ.box x with
   |some (some (.b8 _ n _ _))=>K (rH .i64 ((bif z then 0 else n:Nat):Int))
   |_=>False
  |.slice _,.s (.j0 _ _ _ n)=>K (rH .i64 n)
  |.slice _,.s (.d (.val (.slice _ n _)))=>K (rH .i64 n)
  |.string,.s (.d (.val (.string s)))=>K (rH .i64 s.size)
  |.array n _,_=>K (rH .i64 n)
  |_,_=>False
 |none=>False
theorem len.spec{T:List (Nat×bV)}(hT:cD P T){t:Nat}{x:Operand}(ho:o.op=.call {callee:=.builtin .len,args:= #[x],argTypes:= #[t]})
  (h:fe g (ev σ x) fun va=>qL T σ t va K):∃r,K r∧jW P o σ g r:=by
 replace h:=fe.ev h
 obtain⟨va,h,hr⟩:=h
 unfold qL at h
 split at h
 case h_2=>cases h
 rename_i ti gG
 have h1:=hT.get gG
 have run:∀(a:Act) (w:World),(execOp a.eval o).run P w=((Builtin.len_ #[t] o.type #[a.eval x]).run P w).andThen fun v w'=>.ok (.value v) w':=by intro a w;simp[execOp,ho,resolve,invoke,builtin]
 split at h
 case h_8=>cases h
 ·rename_i e1;refine⟨_,h,fun ha cx N M β a w i=>⟨_,?_,rfl⟩⟩;obtain⟨ad,cap,e2,_⟩:=hr ha cx N M β a w i;exact k7
 ·rename_i e1;split at h
  case h_2=>cases h
  rename_i hb;refine⟨_,h,fun ha cx N M β a w i=>⟨_,?_,rfl⟩⟩;obtain⟨b,c,e0,e2,_⟩:=hr ha cx N M β a w i;obtain⟨b2,c2,cur,e3,_,hlen,_⟩:=i.box _ _ hb;rw[e0]at e3;cases e3;exact zcM
 ·rename_i zz x' e1;split at h
  case h_2=>cases h
  rename_i hb;refine⟨_,h,fun ha cx N M β a w i=>?_⟩
  cases zz with
  |true=>have e2:=(hr ha cx N M β a w i).1 rfl;refine⟨_,?_,rfl⟩;exact k7
  |false=>obtain⟨b,c,e0,e2,_⟩:=(hr ha cx N M β a w i).2 rfl;obtain⟨cur,_,hlen,_⟩:=i.box _ _ hb b c e0;refine⟨_,?_,rfl⟩;exact zcM
 ·rename_i e1;refine⟨_,h,fun ha cx N M β a w i=>⟨_,?_,rfl⟩⟩;obtain⟨b,c,o',e0,e2,_⟩:=hr ha cx N M β a w i;exact k7
 ·rename_i e1;refine⟨_,h,fun ha cx N M β a w i=>⟨_,?_,rfl⟩⟩;have e2:=hr ha cx N M β a w i;simp only [AV.bI,SV.bI,DV.bI]at e2;exact k7
 ·rename_i e1;refine⟨_,h,fun ha cx N M β a w i=>⟨_,?_,rfl⟩⟩;have e2:=hr ha cx N M β a w i;simp only [AV.bI,SV.bI,DV.bI]at e2;rw[run,e2];simp[Builtin.len_,run_underlying (h1.isString e1),goInt]
 ·rename_i e1;refine⟨_,h,fun ha cx N M β a w i=>⟨_,?_,rfl⟩⟩;rw[run];simp[Builtin.len_,run_underlying (h1.FV e1),goInt]
def mm(mx:Bool)(x y:Int):Int:=match mx with|true=>if y>x then y else x|false=>if y<x then y else x
def ints(g:Option Bool)(σ:St):List Operand→(List (IntKind×Int)→Prop)→Prop
 |[],K=>K []
 |x::r,K=>fe g (ev σ x) fun va=>match va with
  |.s (.d (.val (.int k n)))=>ints g σ r fun l=>K ((k,n)::l)
  |_=>False
theorem ints.spec:∀{l:List Operand} {K:List (IntKind×Int)→Prop},ints g σ l K→
  ∃ns,K ns∧(act g→∀cx N M β a w,Inv cx N M β σ a w→l.map a.eval=ns.map fun p=>Value.int p.1 p.2)
 |[],_,h=>⟨[],h,fun _ _ _ _ _ _ _ _=>rfl⟩
 |x::r,K,h=>by
  replace h:=fe.ev h;obtain⟨va,h,hr⟩:=h;split at h
  case h_2=>cases h
  rename_i k n;obtain⟨ns,hk,hs⟩:=ints.spec h;refine⟨_,hk,fun ha cx N M β a w i=>?_⟩;have ex:a.eval x=.int k n:=hr ha cx N M β a w i;simp[hs ha cx N M β a w i,ex]
def mmL(mx:Bool)(k:IntKind)(x:Int):List (IntKind×Int)→AV
 |[]=>rH k x
 |(_,y)::r=>mmL mx k (mm mx x y) r
theorem mmL.spec(mx:Bool)(k:IntKind):∀(l:List (IntKind×Int)) (x:Int) (w:World),∃v,((l.map fun p=>Value.int p.1 p.2).foldlM (match mx with|true=>Builtin.max2|false=>Builtin.min2) (Value.int k x):Sem Value).run P w=.ok v w∧∀M β,(mmL mx k x l).bI M β v
 |[],x,w=>⟨_,rfl,fun _ _=>rfl⟩
 |(k',y)::r,x,w=>by
  obtain⟨v,e,hv⟩:=mmL.spec mx k r (mm mx x y) w;refine⟨v,?_,hv⟩
  cases mx <;> simp[Builtin.max2,Builtin.min2,mm]at e ⊢ <;> exact e
theorem mm.spec(mx:Bool){args:Array Operand}{wR:Array TypeId}(ho:o.op=.call {callee:=.builtin (match mx with|true=>.max|false=>.min),args:=args,argTypes:=wR})
  (h:ints g σ args.toList fun l=>match l with|(k,n)::r=>K (mmL mx k n r)|[]=>False):∃r,K r∧jW P o σ g r:=by
 replace h:=ints.spec h
 obtain⟨ns,h,hs⟩:=h
 split at h
 case h_2=>cases h
 rename_i k n r
 refine⟨_,h,fun ha cx N M β a w i=>?_⟩
 obtain⟨v,e,hv⟩:=mmL.spec (P:=P) mx k r n w
 refine⟨v,?_,hv M β⟩
 have hm:=hs ha cx N M β a w i
 have NC:(args.map a.eval).toList=Value.int k n::r.map fun p=>Value.int p.1 p.2:=by simpa using hm
 cases mx
 ·simp only [execOp,ho,resolve,invoke,builtin,Builtin.min_,Sem.run_bind,Sem.run_pure,Result.andThen,NC,e]
 ·simp only [execOp,ho,resolve,invoke,builtin,Builtin.max_,Sem.run_bind,Sem.run_pure,Result.andThen,NC,e]
end
theorem PN(off:Nat):∀(l:List Value) (k:Nat) (A:Array Value),off+k+l.length≤A.size→
  (l.zipIdx k).foldl (fun cs p=>cs.setIfInBounds (off+p.2) p.1) A=(A.toList.take (off+k)++l++A.toList.drop (off+k+l.length)).toArray
 |[],k,A,_=>by simp
 |v::r,k,A,h=>by
  simp only [List.length_cons]at h;have ih:=PN off r (k+1) (A.setIfInBounds (off+k) v) zeC;simp only [List.zipIdx_cons,List.foldl_cons];rw[ih];congr 1;have t1:(A.toList.set (off+k) v).take (off+(k+1))=A.toList.take (off+k)++ [v]:=by rw[show off+(k+1)=(off+k)+1 by omega,List.take_succ_eq_append_getElem zeC,List.getElem_set_self];congr 1;exact List.take_set_of_le (Nat.le_refl _)
  have t2:(A.toList.set (off+k) v).drop (off+(k+1)+r.length)=A.toList.drop (off+k+(r.length+1)):=by rw[List.drop_set_of_lt oM];congr 1;omega
  simp only [Array.toList_setIfInBounds,t1,t2,List.length_cons,List.append_assoc,List.cons_append,List.nil_append]
def qW(place:Nat→Option (Nat×Nat))(cells:List SV):List (Nat×List SV)→Option (List SV)
 |[]=>some cells
 |(i,cs)::r=>match place i with
  |some (off,sz)=>bif Nat.beq cs.length sz&&Nat.ble (off+sz) cells.length then qW place (cells.take off++(cs++cells.drop (off+sz))) r else none
  |none=>none
def aKE(M:Mem)(β:Nm):List (Nat×List SV)→List (Nat×Value)→Prop
 |[],[]=>True
 |(i,cs)::r,(j,v)::s=>i=j∧(∃vs:List Value,v.cells.toList=vs∧cV M β cs vs)∧aKE M β r s
 |_,_=>False
theorem qW.spec{M:Mem}{β:Nm}{pl pl':Nat→Option (Nat×Nat)}(hpl:∀i p,pl i=some p→pl' i=some p):∀{ps:List (Nat×List SV)} {qs:List (Nat×Value)} {cells cs':List SV} {zS:List Value},qW pl cells ps=some cs'→aKE M β ps qs→cV M β cells zS→
  ∃D8:List Value,Instr.fill pl' zS.toArray qs=some D8.toArray∧cV M β cs' D8
 |[],[],cells,cs',zS,h,_,hr=>by simp only [qW,Option.some.injEq]at h;subst h;exact⟨zS,rfl,hr⟩
 |(i,cs)::r,(j,v)::s,cells,cs',zS,h,hp,hr=>by
  obtain⟨rfl,⟨vs,hv,nR⟩,hp⟩:=hp;simp only [qW]at h;split at h
  ·rename_i off sz hpi
   cases hc:(Nat.beq cs.length sz&&Nat.ble (off+sz) cells.length)with
   |false=>rw[hc]at h;cases h
   |true=>
    rw[hc]at h;simp only [cond_true]at h;simp only [Bool.and_eq_true]at hc;have h1:=Nat.eq_of_beq_eq_true hc.1;have h2:=Nat.le_of_ble_eq_true hc.2;have l1:=nR.length;have l2:=hr.length;have mL:v.cells.size=sz:=by rw[←Array.length_toList,hv];omega
    have YO:cV M β (cells.take off++(cs++cells.drop (off+sz))) (zS.take off++(vs++zS.drop (off+sz))):=
     (hr.take off).append (nR.append (hr.drop (off+sz)))
    obtain⟨D8,e,C1⟩:=qW.spec hpl h hp YO;refine⟨D8,?_,C1⟩;simp only [Instr.fill,hpl _ _ hpi];rw[if_neg (by simp[mL];omega)];rw[←e];congr 1;have:=PN off vs 0 zS.toArray zeC;simp only [Nat.add_zero]at this;rw[←Array.foldl_toList,Array.toList_zipIdx,hv,this];apply Array.ext';have h3:vs.length=sz:=oM;simp[h3]
  cases h
 |[],_::_,_,_,_,_,h,_=>h.elim
 |_::_,[],_,_,_,_,h,_=>h.elim
section
variable{P:Program}{σ:St}{g:Option Bool}{K:AV→Prop}{o:Oper}
def pH:AV→Option (List SV)
 |.s x=>some [x]
 |.g cs=>some cs
 |_=>none
theorem pH.rep{v:AV}{cs:List SV}{M:Mem}{β:Nm}{u:Value}(h:pH v=some cs)(ho:l9 cs=true)(r:v.bI M β u):∃vs:List Value,u.cells.toList=vs∧cV M β cs vs:=by
 unfold pH at h;split at h
 ·cases h
  refine⟨[u],?_,r,trivial⟩;have:u.oneCell'=true:=SV.bI.k8 r (by simpa [l9]using ho)
  cases u <;> first|rfl|cases this
 ·cases h
  obtain⟨vs,rfl,hr⟩:=r;exact⟨vs,rfl,hr⟩
 cases h
def parts(g:Option Bool)(σ:St):List (Nat×Operand)→(List (Nat×List SV)→Prop)→Prop
 |[],K=>K []
 |(i,x)::r,K=>fe g (ev σ x) fun va=>match pH va with
  |some cs=>bif l9 cs then parts g σ r fun l=>K ((i,cs)::l)else False
  |none=>False
theorem parts.spec:∀{l:List (Nat×Operand)} {K:List (Nat×List SV)→Prop},parts g σ l K→
  ∃ps,K ps∧(act g→∀cx N M β a w,Inv cx N M β σ a w→aKE M β ps (l.map fun p=>(p.1,a.eval p.2)))
 |[],_,h=>⟨[],h,fun _ _ _ _ _ _ _ _=>trivial⟩
 |(i,x)::r,K,h=>by
  replace h:=fe.ev h;obtain⟨va,h,hr⟩:=h;split at h
  case h_2=>cases h
  rename_i cs nR
  cases ho:l9 cs with
  |false=>rw[ho]at h;cases h
  |true=>rw[ho]at h;obtain⟨ps,hk,hs⟩:=parts.spec h;exact⟨_,hk,fun ha cx N M β a w i=>⟨rfl,pH.rep nR ho (hr ha cx N M β a w i),hs ha cx N M β a w i⟩⟩
def zv:Value→SV
 |.bool b=>.d (.lit b)
 |v=>.d (.val v)
def iB:List Value→List SV
 |[]=>[]
 |v::r=>zv v::iB r
theorem iB.rep(M:Mem)(β:Nm):∀l:List Value,cV M β (iB l) l
 |[]=>trivial
 |v::r=>⟨by cases v <;> exact rfl,iB.rep M β r⟩
def q9(T:List (Nat×bV))(t:Nat)(ps:List (Nat×List SV))(K:AV→Prop):Prop:=
 match dE T t with
 |some ti=>match ti.j7 with
  |.struct=>match qW (fun i=>ti.wJ[i]?) (iB ti.zero) ps with
   |some cs=>K (.g cs)
   |none=>False
  |.array _ e=>match dE T e with
   |some te=>match qW (fun i=>some (i*te.size,te.size)) (iB ti.zero) ps with
    |some cs=>K (.g cs)
    |none=>False
   |none=>False
  |_=>False
 |none=>False
theorem sY.places(w:World):∀{fs:List Field} {l:List (Nat×Nat)},sY P fs l→
  (fs.mapM (fun f=>(do pure (f.offset,←sizeOf f.type):Sem (Nat×Nat)))).run P w=.ok l w
 |[],[],_=>by simp
 |f::fs,(o,z)::r,⟨h1,⟨ti,h2,h3⟩,h4⟩=>by have:=sY.places w h4;simp[sizeOf,typeInfo,h1,h2,h3]at this ⊢;simp[this]
 |[],_::_,h=>h.elim
 |_::_,[],h=>h.elim
theorem build.spec{T:List (Nat×bV)}(hT:cD P T){t:Nat}{pa:Array (Nat×Operand)}(ho:o.op=.build t pa)
  (h:parts g σ pa.toList fun ps=>q9 T t ps K):∃r,K r∧jW P o σ g r:=by
 replace h:=parts.spec h
 obtain⟨ps,h,hs⟩:=h
 unfold q9 at h
 split at h
 case h_2=>cases h
 rename_i ti gG
 have gF:=hT.get gG
 have run:∀(a:Act) (w:World) (r:Value),(Instr.build t (pa.map fun (i,x)=>(i,a.eval x))).run P w=.ok r w→(execOp a.eval o).run P w=.ok (.value r) w:=by intro a w r h;simp[execOp,ho,h]
 split at h
 case h_3=>cases h
 ·rename_i hu;obtain⟨fs,dB⟩:=gF.QJ hu;split at h
  case h_2=>cases h
  rename_i cs nR;refine⟨_,h,fun ha cx N M β a w i=>?_⟩;have hp:=hs ha cx N M β a w i;obtain⟨z,hz,LB⟩:=gF.w6 w;obtain⟨D8,e,hr⟩:=qW.spec (pl':=fun i=>ti.wJ.toArray[i]?) (by intro i p h;simpa using h) nR hp (iB.rep M β ti.zero);have hpl:=sY.places w (gF.wJ fs dB);refine⟨_,run a w _ ?_,D8,rfl,hr⟩;have aPE:(fs.mapM (fun f=>(do pure (f.offset,←sizeOf f.type):Sem (Nat×Nat)))).run P w=.ok ti.wJ.toArray w:=by rw[←Array.toArray_toList (xs:=fs),List.mapM_toArray];simp only [Sem.run_map,hpl,Result.andThen]
  have aIT:z.cells=ti.zero.toArray:=by rw[←LB]
  simp only [Instr.build,Sem.run_bind,hz,Result.andThen,run_underlying dB,aPE,aIT];simp only [Array.toList_map,e,Sem.run_pure]
 ·rename_i n e hu;split at h
  case h_2=>cases h
  rename_i te nD;split at h
  case h_2=>cases h
  rename_i cs nR;refine⟨_,h,fun ha cx N M β a w i=>?_⟩;have hp:=hs ha cx N M β a w i;obtain⟨z,hz,LB⟩:=gF.w6 w;obtain⟨D8,e',hr⟩:=qW.spec (pl':=fun i=>some (i*te.size,te.size)) (fun _ _ h=>h) nR hp (iB.rep M β ti.zero);have dB:P.underlying t=some (.array n e):=gF.FV hu;refine⟨_,run a w _ ?_,D8,rfl,hr⟩;have aIT:z.cells=ti.zero.toArray:=by rw[←LB]
  simp only [Instr.build,Sem.run_bind,hz,Result.andThen,run_underlying dB,(hT.get nD).iE,aIT];simp only [Array.toList_map,e',Sem.run_pure]
end
section world
variable{w:World}{cx:Cx}{N:Nat}{M:Mem}{β:Nm}{σ:St}{a:Act}
theorem nX{w:World}{b:Nat}{ob:Obj}(h:w.heap[b]? =some ob):b<w.heap.size:=(Array.getElem?_eq_some_iff.1 h).1
theorem Inv.HC(i:Inv cx N M β σ a w){b o:Nat}{u:Value}(h:M b o=some u):b<w.heap.size:=World.block_lt_of_cell? w ⟨b,o,none⟩ (i.mem b o u h)
theorem Inv.vM(i:Inv cx N M β σ a w){x:Nat}{bc:jK}{b:Nat}{c:Nat×Nat}(h:aH σ.box x=some (some bc))(e:β x=some (b,c)):b<w.heap.size:=by
 have:=i.box x bc h
 cases bc with
 |cells cs=>obtain⟨b',c',vs,T,us,e',hh,_⟩:=this;rw[e]at e';cases e';exact nX hh
 |row et n s f=>obtain⟨b',c',cur,e',hh,_⟩:=this;rw[e]at e';cases e';exact nX hh
 |b8 et n s f=>obtain⟨cur,hh,_⟩:=this b c e;exact nX hh
 |map vk l=>obtain⟨b',c',e',hh⟩:=this;rw[e]at e';cases e';exact nX hh
 |smap vk l=>obtain⟨b',c',e',hh⟩:=this;rw[e]at e';cases e';exact nX hh
 |dm l n=>obtain⟨b',c',vs,e',hh,_⟩:=this;rw[e]at e';cases e';exact nX hh
 |fresh T vs=>obtain⟨b',c',e',hh⟩:=this;rw[e]at e';cases e';exact nX hh
 |iter m n seen=>obtain⟨b',c',bm,cm,e',_,hh⟩:=this;rw[e]at e';cases e';exact nX hh
def jK.real:jK→Bool
 |.b8 _ _ _ _=>false
 |_=>true
theorem cN.exb{x:Nat}{bc:jK}(kJ:bc.real=true)(h:cN M β w x bc):∃b c,β x=some (b,c):=by
 cases bc with
 |cells cs=>obtain⟨b',c',vs,T,us,e',_⟩:=h;exact⟨b',c',e'⟩
 |row et n s f=>obtain⟨b',c',cur,e',_⟩:=h;exact⟨b',c',e'⟩
 |b8 et n s f=>cases kJ
 |map vk l=>obtain⟨b',c',e',_⟩:=h;exact⟨b',c',e'⟩
 |smap vk l=>obtain⟨b',c',e',_⟩:=h;exact⟨b',c',e'⟩
 |dm l n=>obtain⟨b',c',_,e',_⟩:=h;exact⟨b',c',e'⟩
 |fresh T vs=>obtain⟨b',c',e',_⟩:=h;exact⟨b',c',e'⟩
 |iter m n seen=>obtain⟨b',c',bm,cm,e',_⟩:=h;exact⟨b',c',e'⟩
theorem cN.mono{M':Mem}{β':Nm}{w':World}{x:Nat}{bc:jK}(hM:Mem.le M M')(hβ:Nm.le β β')(hx:β' x=β x)(hw:∀b c,β x=some (b,c)→w'.heap[b]? =w.heap[b]?)
  (h:cN M β w x bc):cN M' β' w' x bc:=by
 cases bc with
 |cells cs=>obtain⟨b,c,vs,T,us,e,hh,hr⟩:=h;exact⟨b,c,vs,T,us,hβ _ _ e,(hw b c e).trans hh,cV.mono hM hβ hr⟩
 |row et n s f=>obtain⟨b,c,cur,e,hh,h0,h1,h2,h3,h4⟩:=h;exact⟨b,c,cur,hβ _ _ e,(hw b c e).trans hh,h0,h1,h2,h3,fun i j hi hj=>let⟨u,hu,hr⟩:=h4 i j hi hj;⟨u,hu,DV.bI.mono hM hr⟩⟩
 |b8 et n s f=>intro b c e;rw[hx]at e;obtain⟨cur,hh,h0,h1,h2,h3,h4⟩:=h b c e;exact⟨cur,(hw b c e).trans hh,h0,h1,h2,h3,fun i j hi hj=>let⟨u,hu,hr⟩:=h4 i j hi hj;⟨u,hu,DV.bI.mono hM hr⟩⟩
 |map vk l=>exact zaM
 |smap vk l=>exact zaM
 |dm l n=>obtain⟨b,c,vs,e,hh,hr⟩:=h;exact⟨b,c,vs,hβ _ _ e,(hw b c e).trans hh,hr.mono hM⟩
 |fresh T vs=>exact zaM
 |iter m n seen=>obtain⟨b,c,bm,cm,e,em,hh⟩:=h;exact⟨b,c,bm,cm,hβ _ _ e,hβ _ _ em,(hw b c e).trans hh⟩
theorem Inv.new{d:Nat}{bc:jK}{ob:Obj}{c:Nat×Nat}(i:Inv cx N M β σ a w)(hd:aH σ.box d=none){w':World}
  (hw:w'.heap=w.heap.push ob) (ho:w'.os=w.os) (ht:w'.tape=w.tape) (aCF:w'.output=w.output)
  (hb:∀β':Nm,β' d=some (w.heap.size,c)→Nm.le β β'→cN M β' w' d bc) (hdr:Dr w w':=by exact trivial):
  ∃β',β' d=some (w.heap.size,c)∧Nm.le β β'∧Inv cx N M β' ⟨σ.env,(d,some bc)::σ.box⟩ a w'∧cE cx w w':=by
 have HX:β d=none:=by exact xk
 let β':Nm:=fun x=>if x=d then some (w.heap.size,c)else β x
 have iX:β' d=some (w.heap.size,c):=by simp[β']
 have hβ:Nm.le β β':=fun x p e=>by exact zdd
 have oE:∀x,x≠d→β' x=β x:=fun x hx=>by simp[β',hx]
 have hold:∀k,k<w.heap.size→w'.heap[k]? =w.heap[k]? :=fun k hk=>by rw[hw,Array.getElem?_push,if_neg oM]
 have mL:w.heap.size≤w'.heap.size:=by rw[hw];simp
 have kK:∀b o u,M b o=some u→w'.cell? ⟨b,o,none⟩=some u:=fun b o u e=>by rw[World.cell?_of_block (w:=w) (w':=w') (a:=⟨b,o,none⟩) (hold b (i.HC e))];exact i.mem b o u e
 have cQ:∀x bx,aH ((d,some bc)::σ.box) x=some (some bx)→(x=d∧bx=bc)∨(x≠d∧aH σ.box x=some (some bx)):=fun x bx e=>by exact jm
 have hblk:∀x bx b c',aH σ.box x=some (some bx)→β x=some (b,c')→b<w.heap.size:=fun x bx b c' e1 e2=>i.vM e1 e2
 have kp:cE cx w w':=⟨ho,ht,aCF,mL,fun k hk _=>hold k (Nat.lt_of_lt_of_le hk i.heap.le),hdr⟩
 refine⟨β',iX,hβ,⟨i.defers,i.tmps,i.heap.keep kp,fun t=>AV.bI.mono (Mem.le_refl M) hβ (i.env t),kK,?_,?_,?_,?_,?_,?_⟩,kp⟩
 ·exact kv
 ·intro x bx e;rcases cQ x bx e with⟨rfl,rfl⟩|⟨hx,e⟩
  ·exact hb β' iX hβ
  have hr:=i.box x bx e;exact cN.mono (Mem.le_refl M) hβ (oE x hx) (fun b c' e'=>hold b (hblk x bx b c' e e')) hr
 ·intro x y bx zB b c1 c2 ex ey hx hy;by_cases DQ:x=d
  ·by_cases EO:y=d
   ·rw[DQ,EO]
   rcases cQ y zB ey with⟨h,_⟩|⟨_,Z8⟩
   ·exact absurd h EO
   rw[DQ,iX]at hx;cases hx;rw[oE y EO]at hy;have:=hblk y zB _ _ Z8 hy;omega
  rcases cQ x bx ex with⟨h,_⟩|⟨_,ex'⟩
  ·exact absurd h DQ
  rw[oE x DQ]at hx;by_cases EO:y=d
  ·rw[EO,iX]at hy;cases hy;have:=hblk x bx _ _ ex' hx;omega
  rcases cQ y zB ey with⟨h,_⟩|⟨_,Z8⟩
  ·exact absurd h EO
  rw[oE y EO]at hy;exact i.inj x y bx zB b c1 c2 ex' Z8 hx hy
 ·intro x bx b c1 ex hx o;rcases cQ x bx ex with⟨rfl,rfl⟩|⟨DQ,ex⟩
  ·rw[iX]at hx;cases hx
   cases h:M w.heap.size o with
   |none=>rfl
   |some u=>have:=i.HC h;omega
  rw[oE x DQ]at hx;exact i.apart x bx b c1 ex hx o
 ·intro x bx b c1 ex hx;rcases cQ x bx ex with⟨rfl,rfl⟩|⟨DQ,ex⟩
  ·rw[iX]at hx;cases hx;exact .inl i.heap.le
  rw[oE x DQ]at hx;exact i.low x bx b c1 ex hx
 ·intro x hx;obtain⟨h1,p,h2⟩:=i.ref x hx;by_cases DQ:x=d
  ·subst DQ;rw[HX]at h2;cases h2
  rw[oE x DQ];exact⟨h1,p,h2⟩
theorem Inv.write{x:Nat}{bc bc':jK}{b:Nat}{c:Nat×Nat}(i:Inv cx N M β σ a w)(hx:aH σ.box x=some (some bc))(hβ:β x=some (b,c)){w':World}
  (mL:w'.heap.size=w.heap.size) (hold:∀k,k≠b→w'.heap[k]? =w.heap[k]?) (ho:w'.os=w.os) (ht:w'.tape=w.tape) (aCF:w'.output=w.output)
  (hb:cN M β w' x bc') (hdr:Dr w w':=by exact trivial):Inv cx N M β ⟨σ.env,(x,some bc')::σ.box⟩ a w'∧cE cx w w':=by
 have cQ:∀y bx,aH ((x,some bc')::σ.box) y=some (some bx)→(y=x∧bx=bc')∨(y≠x∧aH σ.box y=some (some bx)):=fun y bx e=>by exact jm
 have C2:=i.apart x bc b c hx hβ
 have aCJ:∀k o u,M k o=some u→k≠b:=fun k o u e h=>by subst h;rw[C2 o]at e;cases e
 have hl:∀y bx,aH ((x,some bc')::σ.box) y=some (some bx)→∃bx',aH σ.box y=some (some bx'):=fun y bx e=>by
  rcases cQ y bx e with⟨rfl,_⟩|⟨_,e⟩
  ·exact⟨_,hx⟩
  exact⟨_,e⟩
 have kp:cE cx w w':=⟨ho,ht,aCF,oM,fun k hk hm=>by
   refine hold k (fun h=>?_);subst h;rcases i.low x bc k c hx hβ with h|h
   ·omega
   exact hm h,hdr⟩
 refine⟨⟨i.defers,i.tmps,i.heap.keep kp,i.env,?_,?_,?_,?_,?_,?_,i.ref⟩,kp⟩
 ·exact za3
 ·intro y p e;obtain⟨z,hz⟩:=i.keys y p e;by_cases hy:x=y
  ·exact⟨_,by rw[aL,if_pos hy]⟩
  exact⟨z,by rw[aL,if_neg hy];exact hz⟩
 ·intro y bx e;rcases cQ y bx e with⟨rfl,rfl⟩|⟨hy,e⟩
  ·exact hb
  have hr:=i.box y bx e;have fJ:∀b' c',β y=some (b',c')→b'≠b:=fun b' c' e' h=>by subst h;exact hy (i.inj y x bx bc b' c' c e hx e' hβ)
  exact cN.mono (Mem.le_refl M) (Nm.le_refl β) rfl (fun b' c' e'=>hold b' (fJ b' c' e')) hr
 ·intro y z bx bz b1 c1 c2 ey ez hy hz;obtain⟨_,ey⟩:=hl y bx ey;obtain⟨_,ez⟩:=hl z bz ez;exact i.inj y z _ _ b1 c1 c2 ey ez hy hz
 ·intro y bx b1 c1 ey hy;obtain⟨_,ey⟩:=hl y bx ey;exact i.apart y _ b1 c1 ey hy
 ·intro y bx b1 c1 ey hy;obtain⟨_,ey⟩:=hl y bx ey;exact i.low y _ b1 c1 ey hy
end world
def nb:Nm:=fun _=>none
def full(w:World):Mem:=fun b o=>w.cell? ⟨b,o,none⟩
def lA(M:Mem)(w:World):Prop:=∀b o u,M b o=some u→w.cell? ⟨b,o,none⟩=some u
def dS:Nat→St→SV→DV
 |_,_,.d x=>x
 |n+1,σ,.ptr x off=>match aH σ.box x with
  |some (some (.cells cs))=>.rp (cs.length - off) fun j=>match cs[off+j]? with
   |some c=>dS n σ c
   |none=>.bL
  |_=>.bL
 |_,σ,.own x=>match aH σ.box x with
  |some (some (.row _ n s f))=>.fU n s f
  |_=>.bL
 |_,σ,.mo z x=>match aH σ.box x with
  |some (some (.b8 _ n s f))=>.fU (bif z then 0 else n) s f
  |_=>.bL
 |0,σ,.j0 x s lo n=>match aH σ.box x with
  |some (some (.row _ _ s' f))=>bif Nat.beq s s' then .fU n s (fun i=>f (lo+i))else .bL
  |_=>.bL
 |m+1,σ,.j0 x s lo n=>match aH σ.box x with
  |some (some (.row _ _ s' f))=>bif Nat.beq s s' then .fU n s (fun i=>f (lo+i))else .bL
  |some (some (.cells cs))=>bif Nat.ble ((lo+n)*s) cs.length then .fU n s (fun i j=>match cs[(lo+i)*s+j]? with
   |some c=>dS m σ c
   |none=>.bL)else .bL
  |_=>.bL
 |n+1,σ,.dZ f cs=>.dZ f cs.length fun i=>match cs[i]? with
  |some (.d x)=>x
  |some (.ptr x off)=>dS n σ (.ptr x off)
  |none=>.bL
 |_,_,_=>.bL
theorem vO.get:∀{M β} {cs:List CV} {vs:List Value} {j:Nat} {v:Value},vO M β cs vs→vs[j]? =some v→∃c,cs[j]? =some c∧c.bI M β v
 |_,_,[],[],j,c,_,h=>by simp at h
 |_,_,c::_,_::_,0,v,⟨hv,_⟩,h=>⟨c,rfl,by simp at h;exact h▸hv⟩
 |_,_,_::_,_::_,j+1,c,⟨_,r⟩,h=>by have:=vO.get (j:=j) r zeI;simpa using this
 |_,_,[],_::_,_,_,h,_=>h.elim
 |_,_,_::_,[],_,_,h,_=>h.elim
theorem vO.length:∀{M β} {cs:List CV} {vs:List Value},vO M β cs vs→vs.length=cs.length
 |_,_,[],[],_=>rfl
 |_,_,_::_,_::_,⟨_,r⟩=>by simp[vO.length r]
 |_,_,[],_::_,h=>h.elim
 |_,_,_::_,[],h=>h.elim
theorem dS.rep{cx:Cx}{N:Nat}{M F:Mem}{β:Nm}{σ:St}{a:Act}{w:World}(i:Inv cx N M β σ a w)(hM:Mem.le M F)
  (hF:∀x bc b c,aH σ.box x=some (some bc)→β x=some (b,c)→∀o u,w.cell? ⟨b,o,none⟩=some u→F b o=some u):∀(n:Nat) (x:SV) (v:Value),x.bI M β v→(dS n σ x).bI F v:=by
 have row:∀(x:Nat) (v:Value),(SV.own x).bI M β v→∀e n s f,aH σ.box x=some (some (.row e n s f))→(DV.fU n s f).bI F v:=by intro x v r e n s f hb;obtain⟨b,c,e1,rfl,hc⟩:=r;obtain⟨b',c',cur,e2,hh,hl,mL,hn,_,cY⟩:=i.box x _ hb;rw[e1]at e2;cases e2;refine⟨some ⟨b,0,none⟩,c.1,by rw[hl],hn,.inr ⟨b,0,rfl,fun k j hk hj=>?_⟩⟩;exact zbc
 have b8:∀(z:Bool) (x:Nat) (v:Value),(SV.mo z x).bI M β v→∀e n s f,aH σ.box x=some (some (.b8 e n s f))→(DV.fU (bif z then 0 else n) s f).bI F v:=by
  intro z x v r e n s f hb
  cases z with
  |true=>exact⟨none,0,r.1 rfl,Nat.le_refl _,.inl rfl⟩
  |false=>obtain⟨b,c,e1,rfl,hc⟩:=r.2 rfl;obtain⟨cur,hh,hl,mL,hn,_,cY⟩:=i.box x _ hb b c e1;refine⟨some ⟨b,0,none⟩,c.1,by rw[hl];rfl,hn,.inr ⟨b,0,rfl,fun k j hk hj=>?_⟩⟩;exact zbc
 have view:∀(x s lo n:Nat) (v:Value),(SV.j0 x s lo n).bI M β v→∀e m f,aH σ.box x=some (some (.row e m s f))→(DV.fU n s fun i=>f (lo+i)).bI F v:=by
  intro x s lo n v r e m f hb;obtain⟨b,c,o,e1,rfl,ho,hc1,JA⟩:=r;obtain⟨b',c',cur,e2,hh,hl,mL,hn,_,cY⟩:=i.box x _ hb;rw[e1]at e2;cases e2;refine⟨some ⟨b,o,none⟩,c.1 - lo,rfl,oM,?_⟩;by_cases h0:n=0
  ·exact .inl h0
  refine .inr ⟨b,o,rfl,fun k j hk hj=>?_⟩;obtain⟨u,hu,hr⟩:=cY (lo+k) j oM hj;refine⟨u,hF x _ b c hb e1 _ u ?_,DV.bI.mono hM hr⟩;rw[ho oM,show lo*s+k*s+j=(lo+k)*s+j by rw[Nat.add_mul]];simp[World.cell?,hh,hu]
 intro n
 induction n with
 |zero=>
  intro x v r
  cases x with
  |d x=>exact DV.bI.mono hM r
  |j0 x s lo n=>
   simp only [dS];split
   ·exact zae
   trivial
  |own x=>exact zcn
  |mo z x=>exact zci
  |_=>exact trivial
 |succ n ih=>
  intro x v r
  cases x with
  |d x=>exact DV.bI.mono hM r
  |ptr x off=>
   simp only [dS];split
   ·rename_i cs hb;obtain⟨b,c,e1,rfl⟩:=r;obtain⟨b',c',vs,T,us,e2,hh,hr⟩:=i.box x _ hb;rw[e1]at e2;cases e2;refine⟨b,off,rfl,fun j hj=>?_⟩;have fZ:off+j<cs.length:=oM;obtain⟨u,hu,FJ⟩:=hr.get (List.getElem?_eq_getElem fZ);refine⟨u,hF x _ b c hb e1 _ u (by have:=CO (us:=us) hu;simpa [World.cell?,hh]using this),?_⟩;exact zdx
   trivial
  |own x=>exact zcn
  |mo z x=>exact zci
  |rw x i s o=>exact trivial
  |mp x=>exact trivial
  |j0 x s lo n=>
   simp only [dS];split
   ·exact zae
   ·rename_i cs hb
    cases hle:Nat.ble ((lo+n)*s) cs.length with
    |false=>exact trivial
    |true=>
     have hle:=Nat.le_of_ble_eq_true hle;obtain⟨b,c,o,e1,rfl,ho,hc1,JA⟩:=r;obtain⟨b',c',vs,T,us,e2,hh,hr⟩:=i.box x _ hb;rw[e1]at e2;cases e2;refine⟨some ⟨b,o,none⟩,c.1 - lo,rfl,oM,?_⟩;by_cases h0:n=0
     ·exact .inl h0
     have ho:=ho oM;refine .inr ⟨b,o,rfl,fun k j hk hj=>?_⟩;have fZ:(lo+k)*s+j<cs.length:=by have:(lo+k+1)*s≤(lo+n)*s:=Nat.mul_le_mul_right _ oM;rw[Nat.add_mul _ 1]at this;omega
     obtain⟨u,hu,FJ⟩:=hr.get (List.getElem?_eq_getElem fZ);have he:o+k*s+j=(lo+k)*s+j:=by rw[ho,Nat.add_mul]
     refine⟨u,hF x _ b c hb e1 _ u (by have:=CO (us:=us) hu;rw[he];simpa [World.cell?,hh]using this),?_⟩;exact zdx
   trivial
  |dZ f cs=>
   obtain⟨vs,rfl,hv⟩:=r;refine⟨vs,rfl,hv.length,fun k u hu=>?_⟩;obtain⟨c,hc,hr⟩:=hv.get hu;simp only [hc]
   cases c with
   |d x=>exact DV.bI.mono hM hr
   |ptr x off=>exact ih (.ptr x off) u hr
def vX(σ:St)(x:SV):SV:=.d (dS 3 σ x)
def kW(σ:St):List SV→List SV
 |[]=>[]
 |x::r=>vX σ x::kW σ r
def pO(σ:St):AV→AV
 |.s x=>.s (vX σ x)
 |.g cs=>.g (kW σ cs)
 |_=>.s (.d .bL)
def jD(σ:St):List AV→List AV
 |[]=>[]
 |x::r=>pO σ x::jD σ r
def aKY:SV→Bool
 |.d _=>false
 |_=>true
def GS:List SV→Bool
 |[]=>false
 |x::r=>aKY x||GS r
def aOC:AV→Bool
 |.s x=>aKY x
 |.g cs=>GS cs
 |_=>true
def tI:List AV→Bool
 |[]=>false
 |x::r=>aOC x||tI r
def gZ(M:Mem)(β:Nm):List AV→List Value→Prop
 |[],[]=>True
 |c::cs,v::vs=>c.bI M β v∧gZ M β cs vs
 |_,_=>False
section
variable{cx:Cx}{N:Nat}{M F:Mem}{β:Nm}{σ:St}{a:Act}{w:World}(i:Inv cx N M β σ a w)(hM:Mem.le M F)
  (hF:∀x bc b c,aH σ.box x=some (some bc)→β x=some (b,c)→∀o u,w.cell? ⟨b,o,none⟩=some u→F b o=some u)
include i hM hF
theorem kW.rep:∀{cs:List SV} {vs:List Value},cV M β cs vs→cV F nb (kW σ cs) vs
 |[],[],_=>trivial
 |_::_,_::_,⟨h,r⟩=>⟨dS.rep i hM hF 3 _ _ h,kW.rep r⟩
 |[],_::_,h=>h.elim
 |_::_,[],h=>h.elim
theorem pO.rep{x:AV}{v:Value}(r:x.bI M β v):(pO σ x).bI F nb v:=by
 cases x with
 |s x=>exact dS.rep i hM hF 3 _ _ r
 |g cs=>obtain⟨vs,rfl,hr⟩:=r;exact⟨vs,rfl,kW.rep i hM hF hr⟩
 |_=>exact trivial
theorem jD.rep:∀{cs:List AV} {vs:List Value},gZ M β cs vs→gZ F nb (jD σ cs) vs
 |[],[],_=>trivial
 |_::_,_::_,⟨h,r⟩=>⟨pO.rep i hM hF h,jD.rep r⟩
 |[],_::_,h=>h.elim
 |_::_,[],h=>h.elim
end
theorem GS.rep{M:Mem}{β:Nm}{σ:St}:∀{cs:List SV} {vs:List Value},GS cs=false→cV M β cs vs→cV M nb (kW σ cs) vs
 |[],[],_,_=>trivial
 |c::_,_::_,h,⟨hc,r⟩=>by
  simp only [GS,Bool.or_eq_false_iff]at h;refine⟨?_,GS.rep h.2 r⟩
  cases c <;> first|exact hc|cases h.1
 |[],_::_,_,h=>h.elim
 |_::_,[],_,h=>h.elim
theorem tI.rep{M:Mem}{β:Nm}{σ:St}:∀{cs:List AV} {vs:List Value},tI cs=false→gZ M β cs vs→gZ M nb (jD σ cs) vs
 |[],[],_,_=>trivial
 |c::_,_::_,h,⟨hc,r⟩=>by
  simp only [tI,Bool.or_eq_false_iff]at h;refine⟨?_,tI.rep h.2 r⟩
  cases c with
  |s x=>cases x <;> first|exact hc|cases h.1
  |g cs=>obtain⟨vs,rfl,hr⟩:=hc;exact⟨vs,rfl,GS.rep h.1 hr⟩
  |_=>exact trivial
 |[],_::_,_,h=>h.elim
 |_::_,[],_,h=>h.elim
def xR:SV→Bool
 |.d (.val _)=>true
 |.d (.lit _)=>true
 |.d .bL=>true
 |_=>false
def oG:List SV→Bool
 |[]=>true
 |x::r=>xR x&&oG r
def WE:TV→Bool
 |.s x=>xR x
 |.g cs=>oG cs
def qV:List TV→Bool
 |[]=>true
 |x::r=>WE x&&qV r
def B4:AV→Bool
 |.s x=>xR x
 |.g cs=>oG cs
 |.t ts=>qV ts
 |_=>false
theorem xR.rep{M M':Mem}{β β':Nm}{x:SV}{v:Value}(h:xR x=true)(r:x.bI M β v):x.bI M' β' v:=by unfold xR at h;split at h <;> first|exact r|cases h
theorem oG.rep{M M':Mem}{β β':Nm}:∀{cs:List SV} {vs:List Value},oG cs=true→cV M β cs vs→cV M' β' cs vs
 |[],[],_,_=>trivial
 |_::_,_::_,h,⟨a,r⟩=>by simp only [oG,Bool.and_eq_true]at h;exact⟨xR.rep h.1 a,oG.rep h.2 r⟩
 |[],_::_,_,h=>h.elim
 |_::_,[],_,h=>h.elim
theorem WE.rep{M M':Mem}{β β':Nm}{x:TV}{v:Value}(h:WE x=true)(r:x.bI M β v):x.bI M' β' v:=by
 cases x with
 |s x=>exact xR.rep h r
 |g cs=>obtain⟨vs,e,hr⟩:=r;exact⟨vs,e,oG.rep h hr⟩
theorem qV.rep{M M':Mem}{β β':Nm}:∀{cs:List TV} {vs:List Value},qV cs=true→rF M β cs vs→rF M' β' cs vs
 |[],[],_,_=>trivial
 |_::_,_::_,h,⟨a,r⟩=>by simp only [qV,Bool.and_eq_true]at h;exact⟨WE.rep h.1 a,qV.rep h.2 r⟩
 |[],_::_,_,h=>h.elim
 |_::_,[],_,h=>h.elim
theorem B4.rep{M M':Mem}{β β':Nm}{x:AV}{v:Value}(h:B4 x=true)(r:x.bI M β v):x.bI M' β' v:=by
 cases x with
 |s x=>exact xR.rep h r
 |g cs=>obtain⟨vs,e,hr⟩:=r;exact⟨vs,e,oG.rep h hr⟩
 |t ts=>obtain⟨vs,e,hr⟩:=r;exact⟨vs,e,qV.rep h hr⟩
 |_=>cases h
structure Bel(w w':World):Prop where
 below:Below w.heap.size w w'
 drawn:Dr w w'
def aF(P:Program)(f:FuncId)(args:List AV)(r:AV):Prop:=
 (∀vs w,(callFunc f vs).run P w=.ok (.enter f vs) w)∧
 ∀(M:Mem) (w:World) (vs:List Value),aKJ w→gZ M nb args vs→lA M w→
  Calls P f vs.toArray w fun e w'=>∃v M',e=.returned v∧r.bI M' nb v∧Grow w.heap.size M M'∧lA M' w'∧Bel w w'
theorem Inv.after{cx:Cx}{N:Nat}{M M':Mem}{β:Nm}{σ:St}{a:Act}{w w':World}(i:Inv cx N M β σ a w)(T4:Bel w w')(hg:Grow w.heap.size M M')(hm:lA M' w'):
  Inv cx N M' β σ a w'∧Grow cx.B M M'∧cE cx w w':=by
 have hb:=T4.below
 have hi:=i.heap.le
 have kp:cE cx w w':=⟨hb.os,hb.tape,hb.output,hb.size,fun k hk _=>hb.block k oM,T4.drawn⟩
 refine⟨⟨i.defers,i.tmps,i.heap.keep kp,fun t=>AV.bI.mono hg.le (Nm.le_refl β) (i.env t),hm,i.keys,?_,i.inj,?_,i.low,i.ref⟩,⟨hg.le,fun b o u e=>(hg.new b o u e).imp id (fun h=>Nat.le_trans hi h)⟩,kp⟩
 ·intro x bc e;have hr:=i.box x bc e;exact cN.mono hg.le (Nm.le_refl β) rfl (fun b c e'=>hb.block b (i.vM e e')) hr
 ·intro x bc b c e e' o
  cases h:M' b o with
  |none=>rfl
  |some u=>
   rcases hg.new b o u h with h1|h1
   ·rw[i.apart x bc b c e e' o]at h1;cases h1
   have:=i.vM e e';omega
section
variable{P:Program}{σ:St}{g:Option Bool}{K:AV→Prop}{o:Oper}
def dY(g:Option Bool)(σ:St):List Operand→(List AV→Prop)→Prop
 |[],K=>K []
 |x::r,K=>fe g (ev σ x) fun va=>dY g σ r fun l=>K (va::l)
theorem dY.spec:∀{l:List Operand} {K:List AV→Prop},dY g σ l K→
  ∃ars,K ars∧(act g→∀cx N M β a w,Inv cx N M β σ a w→gZ M β ars (l.map a.eval))
 |[],_,h=>⟨[],h,fun _ _ _ _ _ _ _ _=>trivial⟩
 |x::r,K,h=>by replace h:=fe.ev h;obtain⟨va,h,hr⟩:=h;obtain⟨ns,hk,hs⟩:=dY.spec h;exact⟨_,hk,fun ha cx N M β a w i=>⟨hr ha cx N M β a w i,hs ha cx N M β a w i⟩⟩
def wM:List CV→List AV
 |[]=>[]
 |.d x::r=>.s (.d x)::wM r
 |.ptr x off::r=>.s (.ptr x off)::wM r
theorem wM.rep{M:Mem}{β:Nm}:∀{cs:List CV} {vs:List Value},vO M β cs vs→gZ M β (wM cs) vs
 |[],[],_=>trivial
 |.d _::_,_::_,⟨h,r⟩=>⟨h,wM.rep r⟩
 |.ptr _ _::_,_::_,⟨h,r⟩=>⟨h,wM.rep r⟩
 |[],_::_,h=>h.elim
 |_::_,[],h=>h.elim
def jF(c:Nat→DV):Nat→Nat→List AV
 |0,_=>[]
 |k+1,j=>.s (.d (c j))::jF c k (j+1)
theorem jF.rep{M:Mem}{β:Nm}{c:Nat→DV}:∀{vs:List Value} {j:Nat},(∀i u,vs[i]? =some u→(c (j+i)).bI M u)→gZ M β (jF c vs.length j) vs
 |[],_,_=>trivial
 |v::r,j,h=>⟨h 0 v rfl,jF.rep (fun i u hu=>by have:=h (i+1) u (by simpa using hu);rwa [show j+(i+1)=j+1+i by omega]at this)⟩
theorem gZ.append:∀{M β} {cs ds:List AV} {vs us:List Value},gZ M β cs vs→gZ M β ds us→gZ M β (cs++ds) (vs++us)
 |_,_,[],_,[],_,_,h=>h
 |_,_,_::_,_,_::_,_,⟨h,r⟩,k=>⟨h,gZ.append r k⟩
 |_,_,[],_,_::_,_,h,_=>h.elim
 |_,_,_::_,_,[],_,h,_=>h.elim
def gD(c:Nat→DV):Nat→Nat→List SV
 |0,_=>[]
 |k+1,j=>.d (c j)::gD c k (j+1)
theorem gD.rep{M:Mem}{β:Nm}{c:Nat→DV}:∀{vs:List Value} {j:Nat},(∀i u,vs[i]? =some u→(c (j+i)).bI M u)→cV M β (gD c vs.length j) vs
 |[],_,_=>trivial
 |v::r,j,h=>⟨h 0 v rfl,gD.rep (fun i u hu=>by have:=h (i+1) u (by simpa using hu);rwa [show j+(i+1)=j+1+i by omega]at this)⟩
def mV(P:Program)(σ:St)(g:Option Bool)(f:FuncId)(args:List AV)(K:AV→Prop):Prop:=
 ∃r,imp g (aF P f (jD σ args) r)∧(bif !B4 r&&tI args then False else K r)
theorem call.aLT{fo:Operand}{args:Array Operand}{wR:Array TypeId}(ho:o.op=.call {callee:=.value fo,args:=args,argTypes:=wR}){ars:List AV}
  (has:act g→∀cx N M β a w,Inv cx N M β σ a w→gZ M β ars (args.toList.map a.eval)):∀{f:FuncId} {pre extra:List AV},mV P σ g f (pre++(ars++extra)) K→
   (act g→∀cx N M β a w,Inv cx N M β σ a w→∃ps us:List Value,a.eval fo=.func (.func f) ps.toArray us.toArray∧gZ M β pre ps∧gZ M β extra us)→
   ∃r,K r∧(act g→∀cx N M β a w,Inv cx N M β σ a w→∃f vs,(execOp a.eval o).run P w=.ok (.enter f vs) w∧
   Calls P f vs w fun e w'=>∃v M',e=.returned v∧r.bI M' β v∧Inv cx N M' β σ a w'∧Grow cx.B M M'∧cE cx w w'):=by
 intro f pre extra ⟨r,hc,hk⟩ hx
 cases hb:(!B4 r&&tI (pre++(ars++extra)))with
 |true=>rw[hb]at hk;exact hk.elim
 |false=>
  rw[hb]at hk;refine⟨r,hk,fun ha cx N M β a w i=>?_⟩;obtain⟨ps,us,eu,hps,SG⟩:=hx ha cx N M β a w i;have xP:=hps.append ((has ha cx N M β a w i).append SG);obtain⟨z7,eF⟩:=hc.get ha;refine⟨f,(ps++(args.toList.map a.eval++us)).toArray,?_,?_⟩
  ·have:(ps.toArray++(args.map a.eval++us.toArray))=(ps++(args.toList.map a.eval++us)).toArray:=by apply Array.ext';simp
   simp[execOp,ho,resolve,eu,Deferred.ofValue,invoke,this,z7]
  by_cases hr:tI (pre++(ars++extra))=true
  ·have hfl:B4 r=true:=by rw[hr]at hb;simpa using hb
   refine(eF (full w) w _ i.heap.aFU (jD.rep i i.mem (fun _ _ _ _ _ _ _ _ h=>h) xP) (fun _ _ _ h=>h)).mono ?_;rintro e w' ⟨v,M',rfl,TQ,hg,hm,Q2⟩;have:=i.after Q2 (Grow.refl _ M) (fun b o u h=>by rw[Q2.below.cell (p:=⟨b,o,none⟩) (i.HC h)];exact i.mem b o u h);exact⟨v,M,rfl,B4.rep hfl TQ,this⟩
  have hr:tI (pre++(ars++extra))=false:=by simpa using hr
  refine(eF M w _ i.heap.aFU (tI.rep hr xP) i.mem).mono ?_;rintro e w' ⟨v,M',rfl,TQ,hg,hm,Q2⟩;exact⟨v,M',rfl,AV.bI.mono (Mem.le_refl _) (fun _ _ h=>by cases h) TQ,i.after Q2 hg hm⟩
theorem call.key{fo:Operand}{args:Array Operand}{wR:Array TypeId}(ho:o.op=.call {callee:=.value fo,args:=args,argTypes:=wR}){ars:List AV}
  (has:act g→∀cx N M β a w,Inv cx N M β σ a w→gZ M β ars (args.toList.map a.eval)):∀{f:FuncId} {extra:List AV},mV P σ g f (ars++extra) K→
   (act g→∀cx N M β a w,Inv cx N M β σ a w→∃us:List Value,a.eval fo=.func (.func f) #[] us.toArray∧gZ M β extra us)→
   ∃r,K r∧(act g→∀cx N M β a w,Inv cx N M β σ a w→∃f vs,(execOp a.eval o).run P w=.ok (.enter f vs) w∧
   Calls P f vs w fun e w'=>∃v M',e=.returned v∧r.bI M' β v∧Inv cx N M' β σ a w'∧Grow cx.B M M'∧cE cx w w'):=by
 intro f extra hd hx
 exact call.aLT (pre:=[]) ho has hd fun ha cx N M β a w i=>by obtain⟨us,e,h⟩:=hx ha cx N M β a w i;exact⟨[],us,e,trivial,h⟩
end
abbrev aP:=List (Nat×Option jK)
def KI(P:Program)(o:Oper)(σ:St)(r:AV)(bx:aP):Prop:=
 ∀cx N M β a w,Inv cx N M β σ a w→∃v w' M' β',
  ((execOp a.eval o).run P w=.ok (.value v) w'∨((execOp a.eval o).run P w=.ok .skip w'∧v=undef))∧
  r.bI M' β' v∧Inv cx N M' β' ⟨σ.env,bx⟩ a w'∧Grow cx.B M M'∧cE cx w w'
section
variable{P:Program}{σ:St}{K:AV→aP→Prop}{o:Oper}
def x9(T:List (Nat×bV))(σ:St)(d t:Nat)(K:AV→aP→Prop):Prop:=
 match dE T t with
 |some ti=>match aH σ.box d with
  |none=>K (.s (.ptr d 0)) ((d,some (bif L7.contains t then .fresh t ti.zero else .cells (iB ti.zero)))::σ.box)
  |some _=>False
 |none=>False
theorem alloc.spec{T:List (Nat×bV)}(hT:cD P T){d t:Nat}(ho:o.op=.alloc t)(h:x9 T σ d t K):∃r bx,K r bx∧KI P o σ r bx:=by
 unfold x9 at h;split at h
 case h_2=>cases h
 rename_i ti gG;have gF:=hT.get gG;split at h
 case h_2=>cases h
 rename_i hd;refine⟨_,_,h,fun cx N M β a w i=>?_⟩;obtain⟨z,hz,LB⟩:=gF.w6 w;have a7:(execOp a.eval o).run P w=.ok (.value (.pointer (some ⟨w.heap.size,0,none⟩))) (w.alloc (.cells z.cells t)):=by simp[execOp,ho,Instr.alloc,hz,newVar,newRow]
 obtain⟨β',h1,h2,h3,h4⟩:=i.new (w':=(w.alloc (.cells z.cells t))) (c:=(0,0)) hd (ob:=.cells z.cells t) rfl rfl rfl rfl (bc:=bif L7.contains t then .fresh t ti.zero else .cells (iB ti.zero)) (by
  intro β' e _;have:z.cells=ti.zero.toArray:=by rw[←LB]
  cases L7.contains t with
  |true=>exact⟨_,_,e,by rw[this];exact heap_alloc_new w _⟩
  |false=>refine⟨_,_,ti.zero,t,[],e,?_,iB.rep M β' _⟩;rw[this,List.append_nil];exact heap_alloc_new w _)
 exact vw
def KB(σ:St)(d:Nat)(x:Operand)(K:AV→aP→Prop):Prop:=
 fe none (ev σ x) fun va=>match pH va with
  |some cs=>bif l9 cs then match aH σ.box d with
   |none=>K (.s (.ptr d 0)) ((d,some (.cells cs))::σ.box)
   |some _=>False
   else False
  |none=>False
theorem iY:act none:=fun _ h=>by cases h
theorem box.spec{d t:Nat}{x:Operand}(ho:o.op=.box t x)(h:KB σ d x K):∃r bx,K r bx∧KI P o σ r bx:=by
 unfold KB at h;replace h:=fe.ev h;obtain⟨va,h,hr⟩:=h;split at h
 case h_2=>cases h
 rename_i cs nR
 cases oU:l9 cs with
 |false=>rw[oU]at h;cases h
 |true=>
  rw[oU]at h;simp only [cond_true]at h;split at h
  case h_2=>cases h
  rename_i hd;refine⟨_,_,h,fun cx N M β a w i=>?_⟩;obtain⟨vs,hvs,eD⟩:=pH.rep nR oU (hr iY cx N M β a w i);have a7:(execOp a.eval o).run P w=.ok (.value (.pointer (some ⟨w.heap.size,0,none⟩))) (w.alloc (.cells (a.eval x).cells t)):=by simp[execOp,ho,Instr.box,newVar,newRow]
  obtain⟨β',h1,h2,h3,h4⟩:=i.new (w':=(w.alloc (.cells (a.eval x).cells t))) (c:=(0,0)) hd (ob:=.cells (a.eval x).cells t) rfl rfl rfl rfl (bc:=.cells cs) (by
   intro β' e hle;refine⟨_,_,vs,t,[],e,?_,cV.mono (Mem.le_refl _) hle eD⟩;have:(a.eval x).cells=vs.toArray:=by rw[←hvs]
   rw[this,List.append_nil];exact heap_alloc_new w _)
  exact vw
def OP:SV→DV
 |.d x=>x
 |_=>.bL
def o5:List SV→Bool
 |[]=>true
 |.d _::r=>o5 r
 |_::_=>false
theorem o5.OP:∀{cs:List SV} {j:Nat} {c:SV},o5 cs=true→cs[j]? =some c→c=.d (OP c)
 |[],_,_,_,h=>by simp at h
 |.d x::r,0,c,_,h=>by simp at h;subst h;rfl
 |.d x::r,j+1,c,ha,h=>o5.OP (cs:=r) ha zeI
 |.ptr _ _::_,_,_,h,_=>by cases h
 |.own _::_,_,_,h,_=>by cases h
 |.rw _ _ _ _::_,_,_,h,_=>by cases h
 |.j0 _ _ _ _::_,_,_,h,_=>by cases h
 |.mp _::_,_,_,h,_=>by cases h
 |.dZ _ _::_,_,_,h,_=>by cases h
def eT(f:Nat→Nat→DV)(i o:Nat)(cs:List SV):Nat→Nat→DV:=fun i' j=>
 if i'=i then(bif Nat.ble o j&&Nat.blt j (o+cs.length)then match cs[j - o]? with|some c=>OP c|none=>.bL else f i' j)else f i' j
def o7(T:List (Nat×bV))(σ:St)(t:Nat)(x y:Operand)(K:AV→aP→Prop):Prop:=
 fe none (ev σ x) fun va=>fe none (ev σ y) fun vv=>match dE T t,pH vv with
  |some ti,some cs=>bif l9 cs&&Nat.beq cs.length ti.size then
    match va with
    |.s (.ptr b off)=>match aH σ.box b with
     |some (some (.cells Z2))=>bif Nat.ble (off+ti.size) Z2.length then
       K (.s (.d .bL)) ((b,some (.cells (Z2.take off++(cs++Z2.drop (off+cs.length)))))::σ.box)else False
     |_=>False
    |.s (.rw b i s off)=>match aH σ.box b with
     |some (some (.row e n s' f))=>bif o5 cs&&Nat.beq s s'&&Nat.ble (off+ti.size) s then
       i<n∧K (.s (.d .bL)) ((b,some (.row e n s' (eT f i off cs)))::σ.box)else False
     |some (some (.b8 e n s' f))=>bif o5 cs&&Nat.beq s s'&&Nat.ble (off+ti.size) s then
       i<n∧K (.s (.d .bL)) ((b,some (.b8 e n s' (eT f i off cs)))::σ.box)else False
     |_=>False
    |_=>False
   else False
  |_,_=>False
theorem jB(w:World)(g:Nat)(cur:Array Value)(t:TypeId)(o:Nat)(vs:List Value)(hg:w.heap[g]? =some (.cells cur t (0,0)))(hl:o+vs.length≤cur.size)(h1:∀v∈vs,v.oneCell'=true)(P:Program):
  (storeCells ⟨g,o,none⟩ vs).run P w=.ok () (w.setRow g (cur.toList.take o++(vs++cur.toList.drop (o+vs.length))).toArray):=by
 have:=run_storeCells_at P g o t vs 0 cur w hg (by simpa using hl) h1
 simpa using this
theorem store.spec{T:List (Nat×bV)}(hT:cD P T){t:Nat}{x y:Operand}(ho:o.op=.store t x y)(h:o7 T σ t x y K):∃r bx,K r bx∧KI P o σ r bx:=by
 unfold o7 at h;replace h:=fe.ev h;obtain⟨va,h,hr⟩:=h;replace h:=fe.ev h;obtain⟨vv,h,TQ⟩:=h;split at h
 case h_2=>cases h
 rename_i ti cs gG nR;have gF:=hT.get gG
 cases oU:(l9 cs&&Nat.beq cs.length ti.size)with
 |false=>rw[oU]at h;cases h
 |true=>
  rw[oU]at h;simp only [Bool.and_eq_true]at oU;have hlen:=Nat.eq_of_beq_eq_true oU.2;simp only [cond_true]at h;split at h
  case h_3=>cases h
  ·rename_i b off;split at h
   case h_2=>cases h
   rename_i Z2 hb
   cases hle:Nat.ble (off+ti.size) Z2.length with
   |false=>rw[hle]at h;cases h
   |true=>
    rw[hle]at h;have hle:=Nat.le_of_ble_eq_true hle;refine⟨_,_,h,fun cx N M β a w i=>?_⟩;obtain⟨k,c,e1,ea⟩:=hr iY cx N M β a w i;obtain⟨k',c',vs,ty,zs,e2,hh,eD⟩:=i.box b _ hb;rw[e1]at e2;cases e2;obtain⟨us,SG,FJ⟩:=pH.rep nR oU.1 (TQ iY cx N M β a w i);have hlu:=FJ.length;have SJ:=eD.length;have jO:=jB w k (vs++zs).toArray ty off us hh zeC (FJ.k8 oU.1) P;have mL:(a.eval y).cells.size=ti.size:=by rw[←Array.length_toList,SG];omega
    have aPT:(vs++zs).toArray.toList.take off++(us++(vs++zs).toArray.toList.drop (off+us.length))=(vs.take off++(us++vs.drop (off+us.length)))++zs:=by show(vs++zs).take off++(us++(vs++zs).drop (off+us.length))=_;rw[List.take_append_of_le_length oM,List.drop_append_of_le_length oM];simp
    have a7:(execOp a.eval o).run P w=.ok .skip (w.setRow k ((vs.take off++(us++vs.drop (off+us.length)))++zs).toArray):=by rw[←aPT];simp[execOp,ho,Instr.storeAt,Instr.sureAddr,ea,storeVar,gF.iE,mL,SG,jO]
    have hw:=i.write (bc':=.cells (Z2.take off++(cs++Z2.drop (off+cs.length)))) hb e1 (w':=w.setRow k ((vs.take off++(us++vs.drop (off+us.length)))++zs).toArray) sM (fun j hj=>setRow_other w k j _ hj) rfl rfl rfl
     ⟨k,c,_,ty,zs,e1,setRow_heap w k (vs++zs).toArray _ ty _ hh,(eD.take off).append (FJ.append (by rw[←hlu];exact eD.drop _))⟩
    exact jf
  rename_i b ix s off;split at h
  case h_3=>cases h
  ·rename_i e n s' f hb
   cases hc:(o5 cs&&Nat.beq s s'&&Nat.ble (off+ti.size) s)with
   |false=>rw[hc]at h;cases h
   |true=>
    rw[hc]at h;simp only [Bool.and_eq_true]at hc;have hs:=Nat.eq_of_beq_eq_true hc.1.2;have hle:=Nat.le_of_ble_eq_true hc.2;subst hs;obtain⟨hix,h⟩:=h;refine⟨_,_,h,fun cx N M β a w i=>?_⟩;obtain⟨k,c,e1,ea⟩:=hr iY cx N M β a w i;obtain⟨k',c',cur,e2,hh,hl0,mL,hn,I9,cY⟩:=i.box b _ hb;rw[e1]at e2;cases e2;obtain⟨us,SG,FJ⟩:=pH.rep nR oU.1 (TQ iY cx N M β a w i);have hlu:=FJ.length;have hbound:ix*s+s≤cur.size:=by exact zdB
    have jO:=jB w k cur e (ix*s+off) us hh oM (FJ.k8 oU.1) P;have a7:(execOp a.eval o).run P w=.ok .skip (w.setRow k (cur.toList.take (ix*s+off)++(us++cur.toList.drop (ix*s+off+us.length))).toArray):=by exact zai
    have hw:=i.write (bc':=.row e n s (eT f ix off cs)) hb e1 (w':=w.setRow k (cur.toList.take (ix*s+off)++(us++cur.toList.drop (ix*s+off+us.length))).toArray) sM (fun j hj=>setRow_other w k j _ hj) rfl rfl rfl
     ⟨k,c,_,e1,setRow_heap w k cur _ e _ hh,hl0,by simp;omega,hn,I9,fun i' j bC hj=>?_⟩
    ·exact jf
    exact zg
  rename_i e n s' f hb
  cases hc:(o5 cs&&Nat.beq s s'&&Nat.ble (off+ti.size) s)with
  |false=>rw[hc]at h;cases h
  |true=>
   rw[hc]at h;simp only [Bool.and_eq_true]at hc;have hs:=Nat.eq_of_beq_eq_true hc.1.2;have hle:=Nat.le_of_ble_eq_true hc.2;subst hs;obtain⟨hix,h⟩:=h;refine⟨_,_,h,fun cx N M β a w i=>?_⟩;obtain⟨k,c,e1,ea⟩:=hr iY cx N M β a w i;obtain⟨cur,hh,hl0,mL,hn,I9,cY⟩:=i.box b _ hb k c e1;obtain⟨us,SG,FJ⟩:=pH.rep nR oU.1 (TQ iY cx N M β a w i);have hlu:=FJ.length;have hbound:ix*s+s≤cur.size:=by exact zdB
   have jO:=jB w k cur e (ix*s+off) us hh oM (FJ.k8 oU.1) P;have a7:(execOp a.eval o).run P w=.ok .skip (w.setRow k (cur.toList.take (ix*s+off)++(us++cur.toList.drop (ix*s+off+us.length))).toArray):=by exact zai
   have hq:∀i' j,i'<n→j<s→∃u,(cur.toList.take (ix*s+off)++(us++cur.toList.drop (ix*s+off+us.length))).toArray[i'*s+j]? =some u∧(eT f ix off cs i' j).bI M u:=by intro i' j bC hj;exact zg
   have hw:=i.write (bc':=.b8 e n s (eT f ix off cs)) hb e1 (w':=w.setRow k (cur.toList.take (ix*s+off)++(us++cur.toList.drop (ix*s+off+us.length))).toArray) sM (fun j hj=>setRow_other w k j _ hj) rfl rfl rfl
    (fun b1 c1 e3=>by rw[e1]at e3;cases e3;exact⟨_,setRow_heap w k cur _ e _ hh,hl0,by simp;omega,hn,I9,fun i' j bC hj=>hq i' j bC hj⟩)
   exact jf
def S1(s:Nat)(cs:List SV):Nat→Nat→DV:=fun i j=>match cs[i*s+j]? with
 |some c=>OP c
 |none=>.bL
def S3(z:List SV):Nat→List SV
 |0=>[]
 |n+1=>z++S3 z n
def KA(T:List (Nat×bV))(σ:St)(d t len:Nat)(pa:List (Nat×Operand))(K:AV→aP→Prop):Prop:=
 parts none σ pa fun ps=>match dE T t with
  |some ti=>match ti.j7 with
   |.slice e=>match dE T e with
    |some te=>match qW (fun i=>some (i*te.size,te.size)) (S3 (iB te.zero) len) ps with
     |some cs=>bif o5 cs&&Nat.ble (len*te.size) 16777216&&Nat.blt 0 te.size&&Nat.beq te.zero.length te.size then match aH σ.box d with
      |none=>K (.s (.own d)) ((d,some (.row e len te.size (S1 te.size cs)))::σ.box)
      |some _=>False
      else False
     |none=>False
    |none=>False
   |_=>False
  |none=>False
theorem S3.rep{M:Mem}{β:Nm}{z:List SV}{zv:List Value}(h:cV M β z zv):∀n,∃vs:List Value,cV M β (S3 z n) vs∧vs.length=n*zv.length∧∀j,j<n*zv.length→vs[j]? =zv[j%zv.length]?
 |0=>⟨[],trivial,sM,sM⟩
 |n+1=>by
  obtain⟨vs,hr,hl,hj⟩:=S3.rep h n;refine⟨zv++vs,h.append hr,by simp[hl,Nat.succ_mul,Nat.add_comm],fun j tC=>?_⟩;by_cases h1:j<zv.length
  ·rw[List.getElem?_append_left h1,Nat.mod_eq_of_lt h1]
  rw[List.getElem?_append_right oM,hj _ (by rw[Nat.succ_mul]at tC;omega)];congr 1;rw[Nat.mod_eq_sub_mod (show j≥zv.length by omega)]
theorem bsl.spec{T:List (Nat×bV)}(hT:cD P T){d t len:Nat}{pa:Array (Nat×Operand)}(ho:o.op=.buildSlice t len pa)(h:KA T σ d t len pa.toList K):∃r bx,K r bx∧KI P o σ r bx:=by
 unfold KA at h;replace h:=parts.spec h;obtain⟨ps,h,hs⟩:=h;split at h
 case h_2=>cases h
 rename_i ti gG;have gF:=hT.get gG;split at h
 case h_2=>cases h
 rename_i e hu;have dB:P.underlying t=some (.slice e):=gF.isSlice hu;split at h
 case h_2=>cases h
 rename_i te nD;have mS:=hT.get nD;split at h
 case h_2=>cases h
 rename_i cs nR
 cases hc:(o5 cs&&Nat.ble (len*te.size) 16777216&&Nat.blt 0 te.size&&Nat.beq te.zero.length te.size)with
 |false=>rw[hc]at h;cases h
 |true=>
  rw[hc]at h;simp only [cond_true]at h;simp only [Bool.and_eq_true]at hc;have c2:=Nat.le_of_ble_eq_true hc.1.1.2;have c3:0<te.size:=Nat.le_of_ble_eq_true hc.1.2;have c4:=Nat.eq_of_beq_eq_true hc.2;split at h
  case h_2=>cases h
  rename_i hd;refine⟨_,_,h,fun cx N M β a w i=>?_⟩;obtain⟨z,hz,LB⟩:=mS.w6 w;obtain⟨zs,hzr,hzl,hzj⟩:=S3.rep (iB.rep M β te.zero) len;obtain⟨zS,aG4,eD⟩:=qW.spec (pl':=fun i=>some (i*te.size,te.size)) (fun _ _ h=>h) nR (hs iY cx N M β a w i) hzr;have hzero:(Array.range (len*te.size)).map (z.cells[· %z.cells.size]!)=zs.toArray:=by
   apply Array.ext';apply List.ext_getElem?;intro j;have hzs:z.cells.size=te.size:=by rw[←Array.length_toList,LB,c4]
   by_cases hj:j<len*te.size
   ·have h1:=hzj j (by rw[c4];exact hj);have h2:j%te.size<z.cells.size:=by rw[hzs];exact Nat.mod_lt _ c3
    simp only [Array.toList_map,Array.toList_range,List.getElem?_map,List.getElem?_range hj,Option.map_some,h1];rw[c4,←LB,hzs,getElem!_pos z.cells _ h2];simp[h2]
   rw[List.getElem?_eq_none zeC,List.getElem?_eq_none (by simp[hzl,c4];omega)]
  have z6:¬len*te.size>2^24:=oM;have aQM:=eD.length;have hlc:cs.length=len*te.size:=by
   have:∀{ps:List (Nat×List SV)} {cells cs:List SV},qW (fun i=>some (i*te.size,te.size)) cells ps=some cs→cs.length=cells.length:=by
    intro ps;induction ps with
    |nil=>intro cells cs h;simp[qW]at h;rw[h]
    |cons p r ih=>
     intro cells cs h;obtain⟨i,c⟩:=p;simp only [qW]at h
     cases pV:(Nat.beq c.length te.size&&Nat.ble (i*te.size+te.size) cells.length)with
     |false=>rw[pV]at h;cases h
     |true=>rw[pV]at h;simp only [Bool.and_eq_true]at pV;have k1:=Nat.eq_of_beq_eq_true pV.1;have k2:=Nat.le_of_ble_eq_true pV.2;rw[ih h];simp;omega
   rw[this nR];have:=hzr.length;rw[←this,hzl,c4]
  have aL2:(Instr.buildSlice t len (pa.map fun (i,x)=>(i,a.eval x))).run P w=.ok (.slice (some ⟨w.heap.size,0,none⟩) len len) (w.alloc (.cells zS.toArray e)):=by
   by_cases h0:len*te.size=0
   ·obtain rfl:len=0:=by
     rcases Nat.eq_zero_or_pos len with h|h
     ·exact h
     exact absurd h0 (Nat.ne_of_gt (Nat.mul_pos h c3))
    have:zs=[]:=List.eq_nil_of_length_eq_zero (by rw[hzl];simp);subst this;simp[Instr.buildSlice,run_underlying dB,mS.iE,newRow];have e0:∀f:Nat→Value,Array.map f (Array.range 0)= #[]:=fun f=>by apply Array.ext';simp[Array.toList_range]
    simp[e0,aG4]
   obtain⟨ie,EU,y8,_,z',hz',_⟩:=mS.info;have hzz:z'=z:=by simp[zeroValue,typeInfo,EU,hz']at hz;exact hz
   subst hzz;have aFS:¬len*ie.size>2^24:=by rw[y8];exact z6
   refine run_buildSlice w t e len _ zS.toArray ie z' dB EU hz' aFS (by rw[y8];exact h0) ?_;rw[y8,hzero,Array.toList_map];exact aG4
  have a7:(execOp a.eval o).run P w=.ok (.value (.slice (some ⟨w.heap.size,0,none⟩) len len)) (w.alloc (.cells zS.toArray e)):=by simp[execOp,ho,aL2]
  obtain⟨β',h1,h2,h3,h4⟩:=i.new (w':=w.alloc (.cells zS.toArray e)) (c:=(len,len)) hd (ob:=.cells zS.toArray e) rfl rfl rfl rfl (bc:=.row e len te.size (S1 te.size cs)) (by
   intro β' iX hle;refine⟨_,_,zS.toArray,iX,heap_alloc_new w _,rfl,by simp;omega,Nat.le_refl _,?_,fun k j hk hj=>?_⟩
   ·have:len≤len*te.size:=Nat.le_mul_of_pos_right _ c3;unfold maxLen;omega
   have fZ:k*te.size+j<cs.length:=by rw[hlc];have:(k+1)*te.size≤len*te.size:=Nat.mul_le_mul_right _ hk;exact qp
   obtain⟨u,hu,hr⟩:=eD.get (List.getElem?_eq_getElem fZ);refine⟨u,by simpa using hu,?_⟩;simp only [S1,List.getElem?_eq_getElem fZ];have:=o5.OP hc.1.1.1 (List.getElem?_eq_getElem fZ);rw[this]at hr;exact hr)
  exact⟨_,_,M,β',.inl a7,⟨_,_,h1,rfl,Nat.le_refl _⟩,h3,Grow.refl _ _,h4⟩
end
section world
variable{w:World}{cx:Cx}{N:Nat}{M:Mem}{β:Nm}{σ:St}{a:Act}
theorem Inv.kill{x:Nat}{y:Option jK}(i:Inv cx N M β σ a w)(_hx:aH σ.box x=some y):Inv cx N M β ⟨σ.env,(x,none)::σ.box⟩ a w:=by
 have hl:∀z bc,aH ((x,none)::σ.box) z=some (some bc)→aH σ.box z=some (some bc):=fun z bc e=>by
  rw[aL]at e;split at e
  ·cases e
  exact e
 refine⟨i.defers,i.tmps,i.heap,i.env,i.mem,fun z p e=>?_,fun z bc e=>i.box z bc (hl z bc e),fun z u bz bu b c c' ez eu=>i.inj z u bz bu b c c' (hl _ _ ez) (hl _ _ eu),fun z bc b c e=>i.apart z bc b c (hl _ _ e),fun z bc b c e=>i.low z bc b c (hl _ _ e),i.ref⟩;obtain⟨q,hq⟩:=i.keys z p e;by_cases hz:x=z
 ·exact⟨_,by rw[aL,if_pos hz]⟩
 exact⟨q,by rw[aL,if_neg hz];exact hq⟩
theorem Inv.move{x d:Nat}{bc bc':jK}{b:Nat}{c c':Nat×Nat}(i:Inv cx N M β σ a w)(hx:aH σ.box x=some (some bc))(hβ:β x=some (b,c))(hd:aH σ.box d=none){w':World}
  (mL:w'.heap.size=w.heap.size) (hold:∀k,k≠b→w'.heap[k]? =w.heap[k]?) (ho:w'.os=w.os) (ht:w'.tape=w.tape) (aCF:w'.output=w.output)
  (hb:∀β':Nm,β' d=some (b,c')→Nm.le β β'→cN M β' w' d bc') (hdr:Dr w w':=by exact trivial):
  ∃β',β' d=some (b,c')∧Nm.le β β'∧Inv cx N M β' ⟨σ.env,(d,some bc')::(x,none)::σ.box⟩ a w'∧cE cx w w':=by
 have HX:β d=none:=by exact xk
 have DQ:x≠d:=fun h=>by subst h;rw[hd]at hx;cases hx
 let β':Nm:=fun y=>if y=d then some (b,c')else β y
 have iX:β' d=some (b,c'):=by simp[β']
 have HT:Nm.le β β':=fun y p e=>by
  by_cases hy:y=d
  ·subst hy;rw[HX]at e;cases e
  simp[β',hy,e]
 have oE:∀y,y≠d→β' y=β y:=fun y hy=>by simp[β',hy]
 have C2:=i.apart x bc b c hx hβ
 have aCJ:∀k o u,M k o=some u→k≠b:=fun k o u e h=>by subst h;rw[C2 o]at e;cases e
 have cQ:∀y bx,aH ((d,some bc')::(x,none)::σ.box) y=some (some bx)→(y=d∧bx=bc')∨(y≠d∧y≠x∧aH σ.box y=some (some bx)):=fun y bx e=>by
  rw[aL]at e;split at e
  ·rename_i h;subst h;simp at e;exact .inl ⟨rfl,e.symm⟩
  rename_i h;rw[aL]at e;split at e
  ·cases e
  rename_i h2;exact .inr ⟨fun k=>h k.symm,fun k=>h2 k.symm,e⟩
 have TR:∀y bx b' c1,y≠x→aH σ.box y=some (some bx)→β y=some (b',c1)→b'≠b:=fun y bx b' c1 hy e e' h=>by subst h;exact hy (i.inj y x bx bc b' c1 c e hx e' hβ)
 have kp:cE cx w w':=⟨ho,ht,aCF,oM,fun k hk hm=>by
   refine hold k (fun h=>?_);subst h;rcases i.low x bc k c hx hβ with h|h
   ·omega
   exact hm h,hdr⟩
 refine⟨β',iX,HT,⟨i.defers,i.tmps,i.heap.keep kp,fun t=>AV.bI.mono (Mem.le_refl M) HT (i.env t),?_,?_,?_,?_,?_,?_,?_⟩,kp⟩
 ·exact za3
 ·intro y p e;by_cases hy:y=d
  ·subst hy;exact⟨_,by rw[aL,if_pos rfl]⟩
  rw[oE y hy]at e;obtain⟨z,hz⟩:=i.keys y p e;by_cases hyx:x=y
  ·exact⟨_,by rw[aL,if_neg (fun h=>hy h.symm),aL,if_pos hyx]⟩
  exact⟨z,by rw[aL,if_neg (fun h=>hy h.symm),aL,if_neg hyx];exact hz⟩
 ·intro y bx e;rcases cQ y bx e with⟨rfl,rfl⟩|⟨hy,hyx,e⟩
  ·exact hb β' iX HT
  have hr:=i.box y bx e;exact cN.mono (Mem.le_refl M) HT (oE y hy) (fun b' c1 e'=>hold b' (TR y bx b' c1 hyx e e')) hr
 ·intro y z bx bz k c1 c2 ey ez hy hz;by_cases EO:y=d
  ·by_cases hzd:z=d
   ·rw[EO,hzd]
   rcases cQ z bz ez with⟨h,_⟩|⟨_,hzx,ez'⟩
   ·exact absurd h hzd
   rw[EO,iX]at hy;cases hy;rw[oE z hzd]at hz;exact absurd rfl (TR z bz _ _ hzx ez' hz)
  rcases cQ y bx ey with⟨h,_⟩|⟨_,hyx,Z8⟩
  ·exact absurd h EO
  rw[oE y EO]at hy;by_cases hzd:z=d
  ·rw[hzd,iX]at hz;cases hz;exact absurd rfl (TR y bx _ _ hyx Z8 hy)
  rcases cQ z bz ez with⟨h,_⟩|⟨_,hzx,ez'⟩
  ·exact absurd h hzd
  rw[oE z hzd]at hz;exact i.inj y z bx bz k c1 c2 Z8 ez' hy hz
 ·intro y bx k c1 ey hy o;by_cases EO:y=d
  ·rw[EO,iX]at hy;cases hy;exact C2 o
  rcases cQ y bx ey with⟨h,_⟩|⟨_,_,Z8⟩
  ·exact absurd h EO
  rw[oE y EO]at hy;exact i.apart y bx k c1 Z8 hy o
 ·intro y bx k c1 ey hy;by_cases EO:y=d
  ·rw[EO,iX]at hy;cases hy;exact i.low x bc b c hx hβ
  rcases cQ y bx ey with⟨h,_⟩|⟨_,_,Z8⟩
  ·exact absurd h EO
  rw[oE y EO]at hy;exact i.low y bx k c1 Z8 hy
 ·intro y hy;obtain⟨h1,p,h2⟩:=i.ref y hy;by_cases EO:y=d
  ·subst EO;rw[HX]at h2;cases h2
  rw[oE y EO];exact⟨h1,p,h2⟩
end world
def sF(σ:St):AV→Option (Nat×Nat×(Nat→Nat→DV))
 |.s (.own y)=>match aH σ.box y with
  |some (some (.row _ m s f))=>some (m,s,f)
  |_=>none
 |.s (.d (.fU m s f))=>some (m,s,f)
 |.s (.j0 y s lo n)=>match aH σ.box y with
  |some (some (.row _ _ s' f))=>bif Nat.beq s s' then some (n,s,fun i=>f (lo+i))else none
  |_=>none
 |_=>none
theorem sF.rep{cx:Cx}{N:Nat}{M:Mem}{β:Nm}{σ:St}{a:Act}{w:World}(i:Inv cx N M β σ a w){va:AV}{m s:Nat}{f:Nat→Nat→DV}{v:Value}(h:sF σ va=some (m,s,f))(r:va.bI M β v):
  ∃ad cap,v=.slice ad m cap∧(m=0∨∃b o,ad=some ⟨b,o,none⟩∧∀k j,k<m→j<s→∃u,w.cell? ⟨b,o+k*s+j,none⟩=some u∧(f k j).bI M u):=by
 unfold sF at h
 split at h
 ·split at h
  ·rename_i hb
   cases h
   obtain⟨b,c,e1,rfl,hc⟩:=r;obtain⟨b',c',cur,e2,hh,hl,mL,hn,_,cY⟩:=i.box _ _ hb;rw[e1]at e2;cases e2;refine⟨some ⟨b,0,none⟩,c.1,by rw[hl],.inr ⟨b,0,rfl,fun k j hk hj=>?_⟩⟩;obtain⟨u,hu,hr⟩:=cY k j hk hj;exact⟨u,by simp[World.cell?,hh,hu],hr⟩
  cases h
 ·cases h
  obtain⟨ad,cap,rfl,_,hc⟩:=r;refine⟨ad,cap,rfl,hc.imp id ?_⟩;rintro⟨b,o,e,hc⟩;exact⟨b,o,e,fun k j hk hj=>let⟨u,hu,hr⟩:=hc k j hk hj;⟨u,i.mem _ _ _ hu,hr⟩⟩
 ·rename_i y s lo n;split at h
  ·rename_i s' f' hb
   cases hs:Nat.beq s s' with
   |false=>rw[hs]at h;cases h
   |true=>
    rw[hs]at h;have hs:=Nat.eq_of_beq_eq_true hs;subst hs
    cases h
    obtain⟨b,c,o,e1,rfl,ho,h1,h2⟩:=r;obtain⟨b',c',cur,e2,hh,hl,mL,hn,_,cY⟩:=i.box _ _ hb;rw[e1]at e2;cases e2;refine⟨_,_,rfl,?_⟩;by_cases h0:m=0
    ·exact .inl h0
    refine .inr ⟨b,o,rfl,fun k j hk hj=>?_⟩;obtain⟨u,hu,hr⟩:=cY (lo+k) j oM hj;refine⟨u,?_,hr⟩;rw[ho oM,←Nat.add_mul];simp[World.cell?,hh,hu]
  cases h
 ·cases h
def DV.fit:DV→Bool
 |.val v=>v.oneCell'
 |.bL=>false
 |_=>true
def jM(n:Nat)(f g:Nat→Nat→DV):Nat→Nat→DV:=fun i j=>if i<n then f i j else g (i - n) j
theorem aAW{M:Mem}{C:Nat→Nat→Value→Prop}{f:Nat→Nat→DV}(s:Nat):∀(m:Nat),(∀k j,k<m→j<s→∃u,C k j u∧(f k j).bI M u)→
  ∃vs:List Value,vs.length=m*s∧∀k j,k<m→j<s→∃u,vs[k*s+j]? =some u∧C k j u∧(f k j).bI M u:=by
 intro m
 induction m with
 |zero=>intro _;exact⟨[],sM,fun k j hk=>by omega⟩
 |succ m ih=>
  intro h;obtain⟨vs,hl,hc⟩:=ih (fun k j hk hj=>h k j oM hj);have last:∀t,t≤s→∃us:List Value,us.length=t∧∀j,j<t→∃u,us[j]? =some u∧C m j u∧(f m j).bI M u:=by
   intro t;induction t with
   |zero=>intro _;exact⟨[],rfl,fun j hj=>by omega⟩
   |succ t iht=>
    intro ht;obtain⟨us,hul,huc⟩:=iht oM;obtain⟨u,hu,hr⟩:=h m t oM oM;refine⟨us++ [u],by simp[hul],fun j hj=>?_⟩;by_cases hjt:j<t
    ·obtain⟨v,h1,h2⟩:=huc j hjt;exact⟨v,by rw[List.getElem?_append_left oM];exact h1,h2⟩
    have:j=t:=oM;subst this;exact⟨u,by rw[List.getElem?_append_right oM,hul];simp,hu,hr⟩
  obtain⟨us,hul,huc⟩:=last s (Nat.le_refl _);refine⟨vs++us,by simp[hl,hul,Nat.succ_mul],fun k j hk hj=>?_⟩;by_cases hkm:k<m
  ·obtain⟨u,h1,h2⟩:=hc k j hkm hj;have fZ:k*s+j<m*s:=by have:(k+1)*s≤m*s:=Nat.mul_le_mul_right _ hkm;exact qp
   exact⟨u,by rw[List.getElem?_append_left oM];exact h1,h2⟩
  have:k=m:=oM;subst this;obtain⟨u,h1,h2⟩:=huc j hj;exact⟨u,by rw[List.getElem?_append_right oM,hl];rw[show k*s+j - k*s=j by omega];exact h1,h2⟩
theorem DI{w:World}{M:Mem}{g:Nat→Nat→DV}{m s:Nat}{ad:Option Addr}(hs:0<s)(hm:0<m)
  (h:m=0∨∃b o,ad=some ⟨b,o,none⟩∧∀k j,k<m→j<s→∃u,w.cell? ⟨b,o+k*s+j,none⟩=some u∧(g k j).bI M u):
  ∃(b:Addr) (news:List Value),ad=some b∧news.length=m*s∧(∀j u,news[j]? =some u→w.cell? (b.add j)=some u)∧∀k j,k<m→j<s→∃u,news[k*s+j]? =some u∧(g k j).bI M u:=by
 rcases h with h|⟨b,o,rfl,hc⟩
 ·omega
 obtain⟨news,hl,hn⟩:=aAW (M:=M) (C:=fun k j u=>w.cell? ⟨b,o+k*s+j,none⟩=some u) (f:=g) s m hc
 refine⟨⟨b,o,none⟩,news,rfl,hl,fun j u hu=>?_,fun k j hk hj=>let⟨u,h1,_,h3⟩:=hn k j hk hj;⟨u,h1,h3⟩⟩
 have hj:j<m*s:=by have:=(List.getElem?_eq_some_iff.1 hu).1;omega
 have h1:j / s<m:=Nat.div_lt_of_lt_mul (by rw[Nat.mul_comm];exact hj)
 have h2:j%s<s:=Nat.mod_lt _ hs
 obtain⟨v,hv,cY,_⟩:=hn (j / s) (j%s) h1 h2
 have e:j / s*s+j%s=j:=by rw[Nat.mul_comm];exact Nat.div_add_mod j s
 rw[e,hu]at hv
 cases hv
 rw[jV]
 rw[show o+j=o+j / s*s+j%s by omega]
 exact cY
section
variable{P:Program}{σ:St}{K:AV→aP→Prop}{o:Oper}
def fitAll(m s:Nat)(g:Nat→Nat→DV):Prop:=∀k j,k<m→j<s→(g k j).fit=true
def x8(T:List (Nat×bV))(σ:St)(_ref:List Nat)(d t:Nat)(x y:Operand)(K:AV→aP→Prop):Prop:=
 fe none (ev σ x) fun vx=>fe none (ev σ y) fun vy=>match dE T t with
  |some ti=>match ti.j7 with
   |.slice e=>match dE T e with
    |some te=>match aH σ.box d with
     |none=>match sF σ vy with
      |some (m,s',g)=>bif Nat.beq s' te.size&&Nat.blt 0 te.size&&Nat.blt 0 te.bytes&&Nat.beq te.zero.length te.size then
       match vx with
       |.s (.own b)=>match aH σ.box b with
        |some (some (.row e' n s f))=>bif Nat.beq e' e&&Nat.beq s te.size then
          (n+m)*te.bytes≤140737488355328∧fitAll m s' g∧K (.s (.own d)) ((d,some (.row e (n+m) te.size (jM n f g)))::(b,none)::σ.box)
          else False
        |_=>False
       |.s (.mo z b)=>match aH σ.box b with
        |some (some (.b8 e' n s f))=>bif Nat.beq e' e&&Nat.beq s te.size then
          0<m∧((bif z then 0 else n)+m)*te.bytes≤140737488355328∧fitAll m s' g∧K (.s (.own d)) ((d,some (.row e ((bif z then 0 else n)+m) te.size (jM (bif z then 0 else n) f g)))::(b,none)::σ.box)
          else False
        |_=>False
       |.s (.d (.val (.slice none 0 0)))=>0<m∧m*te.bytes≤140737488355328∧K (.s (.own d)) ((d,some (.row e m te.size g))::σ.box)
       |_=>False
       else False
      |none=>False
     |some _=>False
    |none=>False
   |_=>False
  |none=>False
theorem b6.K8{P:Program}{t:Nat}{i:bV}(h:b6 P t i):∃ti z,P.info? t=some ti∧ti.size=i.size∧ti.bytes=i.bytes∧ti.zero=some z∧z.cells.toList=i.zero:=by obtain⟨ti,h1,h2,h3,z,h4,h5⟩:=h.info;exact⟨ti,z,h1,h2,h3,h4,h5⟩
def OI(P:Program)(o:Oper)(σ:St)(cx:Cx)(N:Nat)(M:Mem)(a:Act)(w:World)(r:AV)(bx:aP):Prop:=∃v w' M' β',
  ((execOp a.eval o).run P w=.ok (.value v) w'∨((execOp a.eval o).run P w=.ok .skip w'∧v=undef))∧
  r.bI M' β' v∧Inv cx N M' β' ⟨σ.env,bx⟩ a w'∧Grow cx.B M M'∧cE cx w w'
theorem WX{d t e':Nat}{x y:Operand}{te:bV}{ie:TypeInfo}{z:Value}{n m b k:Nat}{f g:Nat→Nat→DV}{bc:jK}{cx:Cx}{N:Nat}{M:Mem}{β:Nm}{a:Act}{w:World}{c:Nat×Nat}{cur:Array Value}{ad:Option Addr}{cap:Nat}
  (dB:P.underlying t=some (.slice e')) (c2:0<te.size) (c3:0<te.bytes) (EU:P.info? e'=some ie) (y8:ie.size=te.size) (QZ:ie.bytes=te.bytes) (SM:ie.zero=some z) (JU:z.cells.size=te.size)
  (run:∀(a:Act) (w w':World) (r:Value),(Builtin.append_ #[t,t] o.type #[a.eval x,a.eval y]).run P w=.ok r w'→(execOp a.eval o).run P w=.ok (.value r) w')
  (hd:aH σ.box d=none) (hb:aH σ.box b=some (some bc)) (mT:(n+m)*te.bytes≤140737488355328) (oW:fitAll m te.size g) (i:Inv cx N M β σ a w) (e1:β b=some (k,c)) (ex:a.eval x=.slice (some ⟨k,0,none⟩) n c.1)
  (hh:w.heap[k]? =some (.cells cur e' (0,0))) (mL:cur.size=c.1*te.size) (hn:n≤c.1) (I9:c.1≤maxLen) (cY:∀i j,i<n→j<te.size→∃u,cur[i*te.size+j]? =some u∧(f i j).bI M u)
  (ey:a.eval y=.slice ad m cap) (hy:m=0∨∃b o,ad=some ⟨b,o,none⟩∧∀k j,k<m→j<te.size→∃u,w.cell? ⟨b,o+k*te.size+j,none⟩=some u∧(g k j).bI M u):
  OI P o σ cx N M a w (.s (.own d)) ((d,some (.row e' (n+m) te.size (jM n f g)))::(b,none)::σ.box):=by
 have hnm:n+m≤140737488355328:=Nat.le_trans (Nat.le_mul_of_pos_right _ c3) mT
 have aQK:n*te.size≤cur.size:=by rw[mL];exact Nat.mul_le_mul_right _ hn
 by_cases rY:n+m≤c.1
 ·
  have ES:∃news:List Value,(Builtin.append_ #[t,t] o.type #[a.eval x,a.eval y]).run P w=.ok (.slice (some ⟨k,0,none⟩) (n+m) c.1) (w.setRow k (cur.toList.take (n*te.size)++news++cur.toList.drop (n*te.size+news.length)).toArray)∧
    news.length=m*te.size∧∀p j,p<m→j<te.size→∃u,news[p*te.size+j]? =some u∧(g p j).bI M u:=by
   by_cases hm:m=0
   ·subst hm
    refine⟨[],?_,sM,fun p j hp=>by omega⟩
    have aL1:w.setRow k (cur.toList.take (n*te.size)++ []++cur.toList.drop (n*te.size+([]:List Value).length)).toArray=w:=by
     simp[setRow_self w k cur e' (0,0) hh]
    rw[aL1,ex,ey]
    have hf:(Builtin.firstCells te.size 0 (.slice ad 0 cap)).run P w=.ok #[] w:=by
     exact zdg
    exact zbP
   ·obtain⟨bad,news,rfl,hl,kB,pL⟩:=DI c2 oM hy
    refine⟨news,?_,hl,pL⟩
    have h1:∀u∈news,u.oneCell'=true:=by
     exact ui
    rw[ex,ey]
    have:=run_append_room (P:=P) w t o.type e' ie dB EU k n c.1 cur hh bad m cap news ze0 kB h1 rY (by rw[y8,hl,mL,←Nat.add_mul];exact Nat.mul_le_mul_right _ rY)
    rw[y8]at this
    exact this
  obtain⟨news,aCD,hnl,hnr⟩:=ES
  have TP:(cur.toList.take (n*te.size)).length=n*te.size:=by simp;omega
  have aLY:n*te.size+m*te.size≤cur.size:=by rw[mL,←Nat.add_mul];exact Nat.mul_le_mul_right _ rY
  obtain⟨β',iX,HT,hinv,qQ⟩:=i.move (c':=(c.1,n+m)) (bc':=.row e' (n+m) te.size (jM n f g)) hb e1 hd
   (w':=w.setRow k (cur.toList.take (n*te.size)++news++cur.toList.drop (n*te.size+news.length)).toArray) sM (fun j hj=>setRow_other w k j _ hj) rfl rfl rfl (by
    intro β' iX _
    refine⟨k,_,_,iX,setRow_heap w k cur _ e' _ hh,rfl,by simp;omega,rY,I9,fun p j hp hj=>?_⟩
    simp only [List.getElem?_toArray,jM]
    by_cases QT:p<n
    ·obtain⟨u,hu,hr⟩:=cY p j QT hj
     have fZ:p*te.size+j<n*te.size:=by
      exact xr
     exact zaw
    ·obtain⟨u,hu,hr⟩:=hnr (p - n) j oM hj
     refine⟨u,?_,by rw[if_neg QT];exact hr⟩
     have hpe:p*te.size+j=n*te.size+((p - n)*te.size+j):=by
      exact za1
     have fZ:(p - n)*te.size+j<m*te.size:=by
      exact xg
     rw[hpe,List.append_assoc,List.getElem?_append_right oM,TP,Nat.add_sub_cancel_left,List.getElem?_append_left oM]
     exact hu)
  exact⟨_,_,M,β',.inl (run a w _ _ aCD),⟨_,_,iX,rfl,rY⟩,hinv,Grow.refl _ _,qQ⟩
 ·
  obtain⟨bad,news,rfl,hl,kB,pL⟩:=DI c2 oM hy
  have SN:=run_append_grow (P:=P) w t o.type e' ie z dB EU SM ⟨k,0,none⟩ n c.1 (cur.toList.take (n*te.size)) (by simp[y8];omega) (by
   intro j v hv
   rw[List.getElem?_take]at hv
   split at hv
   ·rw[jV];simp[World.cell?,hh];simpa using hv
   ·cases hv) bad m cap news ze0 kB oM oM (by
    rw[QZ];exact growslice_fits oM mT)
  rw[←ex,←ey]at SN
  have FK:=grownCap_ge w (n+m) c.1 e'
  have T2:=grownCap_le_maxLen w (n+m) c.1 e' zeU
  have ik:=i.kill hb
  have hd':aH ((b,none)::σ.box) d=none:=by
   exact za4
  obtain⟨β',h1,h2,h3,h4⟩:=ik.new (σ:=⟨σ.env,(b,none)::σ.box⟩) (c:=(grownCap w (n+m) c.1 e',n+m)) (w':=w.drew.alloc (.cells ((cur.toList.take (n*te.size)).toArray++news.toArray++Builtin.zeroCells z.cells (grownCap w (n+m) c.1 e' - (n+m))) e')) hd' rfl rfl rfl rfl (bc:=.row e' (n+m) te.size (jM n f g)) (by
   intro β' iX _
   have TP:(cur.toList.take (n*te.size)).length=n*te.size:=by simp;omega
   refine⟨_,_,_,iX,heap_alloc_new w.drew _,rfl,?_,FK,T2,fun p j hp hj=>?_⟩
   ·simp only [Array.size_append,List.size_toArray,size_zeroCells,JU,hl,TP,←Nat.add_mul]
    congr 1;omega
   ·have nI:((cur.toList.take (n*te.size)).toArray++news.toArray++Builtin.zeroCells z.cells (grownCap w (n+m) c.1 e' - (n+m)))[p*te.size+j]? =(cur.toList.take (n*te.size)++(news++(Builtin.zeroCells z.cells (grownCap w (n+m) c.1 e' - (n+m))).toList))[p*te.size+j]? :=by
     rw[←Array.getElem?_toList]
     simp
    rw[nI]
    simp only [jM]
    by_cases QT:p<n
    ·obtain⟨u,hu,hr⟩:=cY p j QT hj
     have fZ:p*te.size+j<n*te.size:=by
      exact xr
     refine⟨u,?_,by rw[if_pos QT];exact hr⟩
     rw[List.getElem?_append_left oM,List.getElem?_take_of_lt fZ]
     simpa using hu
    ·obtain⟨u,hu,hr⟩:=pL (p - n) j oM hj
     refine⟨u,?_,by rw[if_neg QT];exact hr⟩
     have hpe:p*te.size+j=n*te.size+((p - n)*te.size+j):=by
      exact za1
     have fZ:(p - n)*te.size+j<m*te.size:=by
      exact xg
     rw[hpe,List.getElem?_append_right oM,TP,Nat.add_sub_cancel_left,List.getElem?_append_left oM]
     exact hu)
  exact⟨_,_,M,β',.inl (run a w _ _ SN),⟨_,_,h1,rfl,FK⟩,h3,Grow.refl _ _,h4⟩
theorem WY{d t e:Nat}{x y:Operand}{te:bV}{ie:TypeInfo}{z:Value}{m:Nat}{g:Nat→Nat→DV}{cx:Cx}{N:Nat}{M:Mem}{β:Nm}{a:Act}{w:World}{ad:Option Addr}{cap:Nat}
  (dB:P.underlying t=some (.slice e)) (c2:0<te.size) (c3:0<te.bytes) (EU:P.info? e=some ie) (y8:ie.size=te.size) (QZ:ie.bytes=te.bytes) (SM:ie.zero=some z) (JU:z.cells.size=te.size)
  (run:∀(a:Act) (w w':World) (r:Value),(Builtin.append_ #[t,t] o.type #[a.eval x,a.eval y]).run P w=.ok r w'→(execOp a.eval o).run P w=.ok (.value r) w')
  (hd:aH σ.box d=none) (hm:0<m) (mT:m*te.bytes≤140737488355328) (i:Inv cx N M β σ a w) (ex:a.eval x=.slice none 0 0)
  (ey:a.eval y=.slice ad m cap) (hy:m=0∨∃b o,ad=some ⟨b,o,none⟩∧∀k j,k<m→j<te.size→∃u,w.cell? ⟨b,o+k*te.size+j,none⟩=some u∧(g k j).bI M u):
  OI P o σ cx N M a w (.s (.own d)) ((d,some (.row e m te.size g))::σ.box):=by
 obtain⟨bad,news,rfl,hl,kB,pL⟩:=DI c2 hm hy
 have hmb:m≤140737488355328:=Nat.le_trans (Nat.le_mul_of_pos_right _ c3) mT
 have SN:=run_append_nil (P:=P) w t o.type e ie z dB EU SM bad m cap news ze0 kB hm oM (by rw[QZ];omega)
 rw[←ex,←ey]at SN
 have FK:=grownCap_ge w m 0 e
 have T2:=grownCap_le_maxLen w m 0 e zeU
 obtain⟨β',h1,h2,h3,h4⟩:=i.new (c:=(grownCap w m 0 e,m)) (w':=w.drew.alloc (.cells (news.toArray++Builtin.zeroCells z.cells (grownCap w m 0 e - m)) e)) hd rfl rfl rfl rfl (bc:=.row e m te.size g) (by
  intro β' iX _;refine⟨_,_,_,iX,heap_alloc_new w.drew _,rfl,?_,FK,T2,fun p j hp hj=>?_⟩
  ·simp only [Array.size_append,List.size_toArray,size_zeroCells,JU,hl,←Nat.add_mul];congr 1;omega
  obtain⟨u,hu,hr⟩:=pL p j hp hj;have fZ:p*te.size+j<m*te.size:=by have:(p+1)*te.size≤m*te.size:=Nat.mul_le_mul_right _ hp;exact qp
  refine⟨u,?_,hr⟩;rw[←Array.getElem?_toList];simp only [Array.toList_append];rw[List.getElem?_append_left oM];exact hu)
 exact⟨_,_,M,β',.inl (run a w _ _ SN),⟨_,_,h1,rfl,FK⟩,h3,Grow.refl _ _,h4⟩
theorem app.spec{T:List (Nat×bV)}(hT:cD P T){ref:List Nat}{d t:Nat}{x y:Operand}(ho:o.op=.call {callee:=.builtin .append,args:= #[x,y],argTypes:= #[t,t]})
  (h:x8 T σ ref d t x y K):∃r bx,K r bx∧∀cx N M β a w,cx.ref=ref→Inv cx N M β σ a w→∃v w' M' β',
  ((execOp a.eval o).run P w=.ok (.value v) w'∨((execOp a.eval o).run P w=.ok .skip w'∧v=undef))∧
  r.bI M' β' v∧Inv cx N M' β' ⟨σ.env,bx⟩ a w'∧Grow cx.B M M'∧cE cx w w':=by
 unfold x8 at h
 replace h:=fe.ev h
 obtain⟨vx,h,tB⟩:=h
 replace h:=fe.ev h
 obtain⟨vy,h,JV⟩:=h
 split at h
 case h_2=>cases h
 rename_i ti gG
 have gF:=hT.get gG
 split at h
 case h_2=>cases h
 rename_i e hu
 have dB:P.underlying t=some (.slice e):=gF.isSlice hu
 split at h
 case h_2=>cases h
 rename_i te nD
 have mS:=hT.get nD
 split at h
 case h_2=>cases h
 rename_i hd
 split at h
 case h_2=>cases h
 rename_i m s' g xN
 cases hc:(Nat.beq s' te.size&&Nat.blt 0 te.size&&Nat.blt 0 te.bytes&&Nat.beq te.zero.length te.size)with
 |false=>rw[hc]at h;cases h
 |true=>
  rw[hc]at h
  simp only [cond_true]at h
  simp only [Bool.and_eq_true]at hc
  have c1:=Nat.eq_of_beq_eq_true hc.1.1.1
  have c2:0<te.size:=Nat.le_of_ble_eq_true hc.1.1.2
  have c3:0<te.bytes:=Nat.le_of_ble_eq_true hc.1.2
  have c4:=Nat.eq_of_beq_eq_true hc.2
  subst c1
  obtain⟨ie,z,EU,y8,QZ,SM,LB⟩:=mS.K8
  have JU:z.cells.size=te.size:=by rw[←Array.length_toList,LB,c4]
  have run:∀(a:Act) (w w':World) (r:Value),(Builtin.append_ #[t,t] o.type #[a.eval x,a.eval y]).run P w=.ok r w'→(execOp a.eval o).run P w=.ok (.value r) w':=by
   intro a w w' r h
   simp[execOp,ho,resolve,invoke,builtin,h]
  split at h
  case h_4=>cases h
  ·
   rename_i b
   split at h
   case h_2=>cases h
   rename_i e' n s f hb
   cases pV:(Nat.beq e' e&&Nat.beq s te.size)with
   |false=>rw[pV]at h;cases h
   |true=>
    rw[pV]at h
    simp only [Bool.and_eq_true]at pV
    have k1:=Nat.eq_of_beq_eq_true pV.1
    have k2:=Nat.eq_of_beq_eq_true pV.2
    subst k1;subst k2
    obtain⟨mT,oW,h⟩:=h
    refine⟨_,_,h,fun cx N M β a w _ i=>?_⟩
    obtain⟨k,c,e1,ex,wI⟩:=tB iY cx N M β a w i
    obtain⟨k',c',cur,e2,hh,hlen,mL,hn,I9,cY⟩:=i.box b _ hb
    rw[e1]at e2;cases e2
    rw[hlen]at ex
    obtain⟨ad,cap,ey,hy⟩:=sF.rep i xN (JV iY cx N M β a w i)
    exact zcv
  ·
   rename_i zz b
   split at h
   case h_2=>cases h
   rename_i e' n s f hb
   cases pV:(Nat.beq e' e&&Nat.beq s te.size)with
   |false=>rw[pV]at h;cases h
   |true=>
    rw[pV]at h
    simp only [Bool.and_eq_true]at pV
    have k1:=Nat.eq_of_beq_eq_true pV.1
    have k2:=Nat.eq_of_beq_eq_true pV.2
    subst k1;subst k2
    obtain⟨hm,mT,oW,h⟩:=h
    refine⟨_,_,h,fun cx N M β a w _ i=>?_⟩
    obtain⟨ad,cap,ey,hy⟩:=sF.rep i xN (JV iY cx N M β a w i)
    have tB:=tB iY cx N M β a w i
    cases zz with
    |false=>
     obtain⟨k,c,e1,ex,wI⟩:=tB.2 rfl
     obtain⟨cur,hh,hlen,mL,hn,I9,cY⟩:=i.box b _ hb k c e1
     rw[hlen]at ex
     exact zcv
    |true=>
     have ik:=i.kill hb
     have hd':aH ((b,none)::σ.box) d=none:=by
      exact za4
     simp only [cond_true,Nat.zero_add]at mT ⊢
     exact WY (σ:=⟨σ.env,(b,none)::σ.box⟩) dB c2 c3 EU y8 QZ SM JU run hd' hm mT ik (tB.1 rfl) ey hy
  ·
   obtain⟨hm,mT,h⟩:=h
   refine⟨_,_,h,fun cx N M β a w _ i=>?_⟩
   have ex:a.eval x=.slice none 0 0:=tB iY cx N M β a w i
   obtain⟨ad,cap,ey,hy⟩:=sF.rep i xN (JV iY cx N M β a w i)
   exact WY dB c2 c3 EU y8 QZ SM JU run hd hm mT i ex ey hy
end
section
variable{P:Program}{σ:St}{g:Option Bool}{K:AV→Prop}{o:Oper}
def gM(g:Option Bool)(σ:St)(x:Option Operand)(K:Option Int→Prop):Prop:=
 match x with
 |none=>K none
 |some x=>fe g (ev σ x) fun va=>match va with
  |.s (.d (.val (.int _ n)))=>K (some n)
  |_=>False
theorem gM.spec{x:Option Operand}{K:Option Int→Prop}(h:gM g σ x K):
  ∃r,K r∧(act g→∀cx N M β a w,Inv cx N M β σ a w→(r=none∧x.map a.eval=none)∨∃k n,r=some n∧x.map a.eval=some (.int k n)):=by
 cases x with
 |none=>exact⟨none,h,fun _ _ _ _ _ _ _ _=>.inl ⟨rfl,rfl⟩⟩
 |some x=>
  simp only [gM]at h;replace h:=fe.ev h;obtain⟨va,h,hr⟩:=h;split at h
  case h_2=>cases h
  rename_i k n;refine⟨_,h,fun ha cx N M β a w i=>.inr ⟨k,n,rfl,?_⟩⟩;have:a.eval x=.int k n:=hr ha cx N M β a w i;simp[this]
def lD(T:List (Nat×bV))(σ:St)(t:Nat)(g:Option Bool)(vx:AV)(lo hi:Option Operand)(K:AV→Prop):Prop:=
 match dE T t with
 |some ti=>match ti.j7 with
  |.slice e=>match dE T e with
   |some te=>match vx with
    |.s (.d (.fU n s f))=>bif Nat.beq s te.size then gM g σ lo fun l=>gM g σ hi fun h=>
      imp g (0≤l.getD 0∧l.getD 0≤h.getD n∧h.getD n≤n)∧
      (match l with
      |none=>K (.s (.d (.fU (h.getD n).toNat s f)))
      |some l=>K (.s (.d (.fU (h.getD n - l).toNat s fun i=>f (l.toNat+i)))))
      else False
    |.s (.own x)=>match aH σ.box x with
     |some (some (.row _ n s _))=>bif Nat.beq s te.size then gM g σ lo fun l=>gM g σ hi fun h=>
       imp g (0≤l.getD 0∧l.getD 0≤h.getD n∧h.getD n≤n)∧K (.s (.j0 x s (l.getD 0).toNat ((h.getD n).toNat - (l.getD 0).toNat)))else False
     |_=>False
    |.s (.j0 x s C0 n)=>bif Nat.beq s te.size then gM g σ lo fun l=>gM g σ hi fun h=>
       imp g (0≤l.getD 0∧l.getD 0≤h.getD n∧h.getD n≤n)∧K (.s (.j0 x s (C0+(l.getD 0).toNat) ((h.getD n).toNat - (l.getD 0).toNat)))else False
    |.s (.d (.val (.slice none 0 0)))=>gM g σ lo fun l=>gM g σ hi fun h=>
       imp g (l.getD 0=0∧h.getD 0=0)∧K (.s (.d (.val (.slice none 0 0))))
    |_=>False
   |none=>False
  |.string=>match vx with
   |.s (.d (.val (.string s)))=>gM g σ lo fun l=>gM g σ hi fun h=>
      imp g (0≤l.getD 0∧l.getD 0≤h.getD s.size∧h.getD s.size≤s.size)∧
      K (.s (.d (.val (.string (s.extract (l.getD 0).toNat (h.getD s.size).toNat)))))
   |_=>False
  |_=>False
 |none=>False
theorem lD.spec{T:List (Nat×bV)}(hT:cD P T){t:Nat}{x:Operand}{lo hi:Option Operand}(ho:o.op=.slice t x lo hi none)
  (h:fe g (ev σ x) fun va=>lD T σ t g va lo hi K):∃r,K r∧jW P o σ g r:=by
 replace h:=fe.ev h
 obtain⟨va,h,hr⟩:=h
 unfold lD at h
 split at h
 case h_2=>cases h
 rename_i ti gG
 have gF:=hT.get gG
 have bounds:∀(isS:Bool) (n cap:Nat) (l h:Option Int) (lv hv:Option Value) (w:World),n≤cap→0≤l.getD 0→l.getD 0≤h.getD n→h.getD n≤n→
   ((l=none∧lv=none)∨∃k q,l=some q∧lv=some (.int k q))→((h=none∧hv=none)∨∃k q,h=some q∧hv=some (.int k q))→
   (Instr.sliceBounds isS n cap lv hv none).run P w=.ok ((l.getD 0).toNat,(h.getD n).toNat,cap) w:=by
  intro isS n cap l h lv hv w hn h0 h1 h2 hl hh
  have hB:∀(code:Instr.sliceBound=Instr.sliceBound) (k:IntKind) (q:Int) (y:Nat) (c:BoundsCode),0≤q→q≤y→(Instr.sliceBound (.int k q) y c).run P w=.ok q.toNat w:=by intro _ k q y c q0 q1;simp[Instr.sliceBound,asIntOf,q0,q1]
  rcases hl with⟨rfl,rfl⟩|⟨kl,ql,rfl,rfl⟩ <;> rcases hh with⟨rfl,rfl⟩|⟨kh,qh,rfl,rfl⟩
  ·simp[Instr.sliceBounds]
  ·simp only [Option.getD_some,Option.getD_none]at h0 h1 h2 ⊢;simp[Instr.sliceBounds,hB rfl kh qh cap _ h1 oM]
  ·simp only [Option.getD_some,Option.getD_none]at h0 h1 h2 ⊢;simp[Instr.sliceBounds,hB rfl kl ql n _ h0 h1]
  ·simp only [Option.getD_some]at h0 h1 h2 ⊢;simp[Instr.sliceBounds,hB rfl kh qh cap _ oM oM,hB rfl kl ql qh.toNat _ h0 oM]
 split at h
 case h_3=>cases h
 ·rename_i e hu;have dB:P.underlying t=some (.slice e):=gF.isSlice hu;split at h
  case h_2=>cases h
  rename_i te nD;have mS:=hT.get nD;split at h
  case h_5=>cases h
  case h_4=>replace h:=gM.spec h;obtain⟨l,h,hl⟩:=h;replace h:=gM.spec h;obtain⟨hh,h,hhh⟩:=h;obtain⟨hb,h⟩:=h;refine⟨_,h,fun ha cx N M β a w i=>⟨.slice none 0 0,?_,rfl⟩⟩;obtain⟨h0,h1⟩:=hb.get ha;have ex:a.eval x=.slice none 0 0:=hr ha cx N M β a w i;have T4:=bounds true 0 0 l hh (lo.map a.eval) (hi.map a.eval) w (Nat.le_refl _) oM zfc zfc (hl ha cx N M β a w i) (hhh ha cx N M β a w i);rw[h0,show hh.getD ((0:Nat):Int)=0 from h1]at T4;exact zaz
  rotate_left
  ·rename_i x';split at h
   case h_2=>cases h
   rename_i e' n s f rJ
   cases hs:Nat.beq s te.size with
   |false=>rw[hs]at h;cases h
   |true=>
    rw[hs]at h;have hs:=Nat.eq_of_beq_eq_true hs;simp only [cond_true]at h;replace h:=gM.spec h;obtain⟨l,h,hl⟩:=h;replace h:=gM.spec h;obtain⟨hh,h,hhh⟩:=h;obtain⟨hb,h⟩:=h;refine⟨_,h,fun ha cx N M β a w i=>?_⟩;obtain⟨h0,h1,h2⟩:=hb.get ha;obtain⟨b,c,e1,ex,pV⟩:=hr ha cx N M β a w i;obtain⟨b2,c2,cur,e2,_,hlen,_⟩:=i.box x' _ rJ;rw[e1]at e2;cases e2;rw[hlen]at ex pV;have T4:=bounds true n c.1 l hh (lo.map a.eval) (hi.map a.eval) w pV h0 h1 h2 (hl ha cx N M β a w i) (hhh ha cx N M β a w i);refine⟨.slice (some ⟨b,(if c.1=(l.getD 0).toNat then 0 else(l.getD 0).toNat*te.size),none⟩) ((hh.getD n).toNat - (l.getD 0).toNat) (c.1 - (l.getD 0).toNat),?_,b,c,_,e1,rfl,fun fZ=>?_,by rw[hlen];omega,by rw[hlen];exact pV⟩
    ·have a7:(execOp a.eval o).run P w=.ok (.value (.slice (if c.1=(l.getD 0).toNat then some ⟨b,0,none⟩else(some (⟨b,0,none⟩:Addr)).map (·.add ((l.getD 0).toNat*te.size))) ((hh.getD n).toNat - (l.getD 0).toNat) (c.1 - (l.getD 0).toNat))) w:=by exact zaz
     rw[a7];by_cases hq:c.1=(l.getD 0).toNat
     ·rw[if_pos hq,if_pos hq]
     rw[if_neg hq,if_neg hq];simp[jV]
    rw[if_neg oM,hs]
  ·rename_i x' s C0 n
   cases hs:Nat.beq s te.size with
   |false=>rw[hs]at h;cases h
   |true=>
    rw[hs]at h;have hs:=Nat.eq_of_beq_eq_true hs;simp only [cond_true]at h;replace h:=gM.spec h;obtain⟨l,h,hl⟩:=h;replace h:=gM.spec h;obtain⟨hh,h,hhh⟩:=h;obtain⟨hb,h⟩:=h;refine⟨_,h,fun ha cx N M β a w i=>?_⟩;obtain⟨h0,h1,h2⟩:=hb.get ha;obtain⟨b,c,o',e1,ex,hoo,hc1,JA⟩:=hr ha cx N M β a w i;have T4:=bounds true n (c.1 - C0) l hh (lo.map a.eval) (hi.map a.eval) w oM h0 h1 h2 (hl ha cx N M β a w i) (hhh ha cx N M β a w i);refine⟨.slice (some ⟨b,(if c.1 - C0=(l.getD 0).toNat then o' else o'+(l.getD 0).toNat*te.size),none⟩) ((hh.getD n).toNat - (l.getD 0).toNat) (c.1 - C0 - (l.getD 0).toNat),?_,b,c,_,e1,by rw[Nat.sub_sub],fun fZ=>?_,oM,JA⟩
    ·have a7:(execOp a.eval o).run P w=.ok (.value (.slice (if c.1 - C0=(l.getD 0).toNat then some ⟨b,o',none⟩else(some (⟨b,o',none⟩:Addr)).map (·.add ((l.getD 0).toNat*te.size))) ((hh.getD n).toNat - (l.getD 0).toNat) (c.1 - C0 - (l.getD 0).toNat))) w:=by exact zaz
     rw[a7];by_cases hq:c.1 - C0=(l.getD 0).toNat
     ·rw[if_pos hq,if_pos hq]
     rw[if_neg hq,if_neg hq];simp[jV]
    rw[if_neg oM,hoo oM,hs,Nat.add_mul]
  rename_i n s f
  cases hs:Nat.beq s te.size with
  |false=>rw[hs]at h;cases h
  |true=>
   rw[hs]at h;have hs:=Nat.eq_of_beq_eq_true hs;simp only [cond_true]at h;replace h:=gM.spec h;obtain⟨l,h,hl⟩:=h;replace h:=gM.spec h;obtain⟨hh,h,hhh⟩:=h;obtain⟨hb,h⟩:=h;have run:∀(ha:act g) cx N M β a w,Inv cx N M β σ a w→∃ad cap,n≤cap∧(n=0∨∃b o,ad=some ⟨b,o,none⟩∧∀i j,i<n→j<s→∃u,M b (o+i*s+j)=some u∧(f i j).bI M u)∧
     (execOp a.eval o).run P w=.ok (.value (.slice (if cap=(l.getD 0).toNat then ad else ad.map (·.add ((l.getD 0).toNat*te.size))) ((hh.getD n).toNat - (l.getD 0).toNat) (cap - (l.getD 0).toNat))) w:=by
    intro ha cx N M β a w i
    obtain⟨h0,h1,h2⟩:=hb.get ha
    obtain⟨ad,cap,ex,wI,hc⟩:=hr ha cx N M β a w i
    refine⟨ad,cap,wI,hc,?_⟩
    have T4:=bounds true n cap l hh (lo.map a.eval) (hi.map a.eval) w wI h0 h1 h2 (hl ha cx N M β a w i) (hhh ha cx N M β a w i)
    simp[execOp,ho,ex,Instr.sliceAt,Instr.slice,run_underlying dB,T4,mS.iE]
   cases l with
   |none=>
    refine⟨_,h,fun ha cx N M β a w i=>?_⟩;obtain⟨ad,cap,wI,hc,a7⟩:=run ha cx N M β a w i;obtain⟨h0,h1,h2⟩:=hb.get ha;have e1:(if cap=((none:Option Int).getD 0).toNat then ad else ad.map (·.add (((none:Option Int).getD 0).toNat*te.size)))=ad:=by
     cases ad with
     |none=>simp
     |some q=>simp[Addr.add]
    rw[e1]at a7;refine⟨_,a7,ad,cap,sM,oM,?_⟩;by_cases hz:(hh.getD n).toNat=0
    ·exact .inl hz
    rcases hc with hc|⟨b,o',rfl,hc⟩
    ·omega
    exact .inr ⟨b,o',rfl,fun i j hi hj=>hc i j oM hj⟩
   |some l=>
    refine⟨_,h,fun ha cx N M β a w i=>?_⟩;obtain⟨ad,cap,wI,hc,a7⟩:=run ha cx N M β a w i;obtain⟨h0,h1,h2⟩:=hb.get ha;simp only [Option.getD_some]at h0 h1 h2 a7;have hq:(hh.getD n).toNat - l.toNat=(hh.getD n - l).toNat:=oM;rw[hq]at a7;refine⟨_,a7,(if cap=l.toNat then ad else ad.map (·.add (l.toNat*te.size))),cap - l.toNat,rfl,oM,?_⟩;by_cases hz:(hh.getD n - l).toNat=0
    ·exact .inl hz
    rcases hc with hc|⟨b,o',rfl,hc⟩
    ·omega
    refine .inr ⟨b,o'+l.toNat*te.size,?_,fun i j hi hj=>?_⟩
    ·rw[if_neg oM];simp[jV]
    obtain⟨u,hu,FJ⟩:=hc (l.toNat+i) j oM hj;refine⟨u,?_,FJ⟩;rw[←hs,Nat.add_assoc o',←Nat.add_mul];exact hu
 ·rename_i hu;have dB:P.underlying t=some .string:=gF.isString hu;split at h
  case h_2=>cases h
  rename_i s;replace h:=gM.spec h;obtain⟨l,h,hl⟩:=h;replace h:=gM.spec h;obtain⟨hh,h,hhh⟩:=h;obtain⟨hb,h⟩:=h;refine⟨_,h,fun ha cx N M β a w i=>⟨_,?_,rfl⟩⟩;obtain⟨h0,h1,h2⟩:=hb.get ha;have ex:a.eval x=.string s:=hr ha cx N M β a w i;have T4:=bounds false s.size s.size l hh (lo.map a.eval) (hi.map a.eval) w (Nat.le_refl _) h0 h1 h2 (hl ha cx N M β a w i) (hhh ha cx N M β a w i);simp[execOp,ho,ex,Instr.sliceAt,Instr.slice,run_underlying dB,T4]
end
section
variable{P:Program}{σ:St}{K:AV→aP→Prop}{o:Oper}
def mkX(T:List (Nat×bV))(σ:St)(d t:Nat)(x y:Operand)(K:AV→aP→Prop):Prop:=
 fe none (ev σ x) fun vx=>fe none (ev σ y) fun vy=>match vx,vy with
  |.s (.d (.val (.int .i64 n))),.s (.d (.val (.int .i64 c)))=>match dE T t with
   |some ti=>match ti.j7 with
    |.slice e=>match dE T e with
     |some te=>bif Nat.blt 0 te.size&&Nat.blt 0 te.bytes&&Nat.beq te.zero.length te.size then match aH σ.box d with
      |none=>0≤n∧n≤c∧te.bytes*c≤281474976710656∧
        K (.s (.own d)) ((d,some (.row e n.toNat te.size fun _ j=>match (iB te.zero)[j]? with|some c=>OP c|none=>.bL))::σ.box)
      |some _=>False
      else False
     |none=>False
    |_=>False
   |none=>False
  |_,_=>False
theorem mk.spec{T:List (Nat×bV)}(hT:cD P T){d t:Nat}{x y:Operand}(ho:o.op=.makeSlice t x y)(h:mkX T σ d t x y K):∃r bx,K r bx∧KI P o σ r bx:=by
 unfold mkX at h;replace h:=fe.ev h;obtain⟨vx,h,tB⟩:=h;replace h:=fe.ev h;obtain⟨vy,h,JV⟩:=h;split at h
 case h_2=>cases h
 rename_i n c;split at h
 case h_2=>cases h
 rename_i ti gG;have gF:=hT.get gG;split at h
 case h_2=>cases h
 rename_i e hu;have dB:P.underlying t=some (.slice e):=gF.isSlice hu;split at h
 case h_2=>cases h
 rename_i te nD;have mS:=hT.get nD
 cases hc:(Nat.blt 0 te.size&&Nat.blt 0 te.bytes&&Nat.beq te.zero.length te.size)with
 |false=>rw[hc]at h;cases h
 |true=>
  rw[hc]at h;simp only [cond_true]at h;simp only [Bool.and_eq_true]at hc;have c2:0<te.size:=Nat.le_of_ble_eq_true hc.1.1;have c3:0<te.bytes:=Nat.le_of_ble_eq_true hc.1.2;have c4:=Nat.eq_of_beq_eq_true hc.2;split at h
  case h_2=>cases h
  rename_i hd;obtain⟨h0,h1,h2,h⟩:=h;refine⟨_,_,h,fun cx N M β a w i=>?_⟩;have ex:a.eval x=.int .i64 n:=tB iY cx N M β a w i;have ey:a.eval y=.int .i64 c:=JV iY cx N M β a w i;obtain⟨ie,z,EU,y8,QZ,SM,LB⟩:=mS.K8;have hzs:z.cells.size=te.size:=by rw[←Array.length_toList,LB,c4]
  have hcb:c≤(te.bytes:Int)*c:=by have:(1:Int)*c≤(te.bytes:Int)*c:=Int.mul_le_mul_of_nonneg_right oM oM;omega
  have V7:IntKind.i64.wrap n=n:=IntWalk.i64_in n ⟨oM,oM⟩;have V6:IntKind.i64.wrap c=c:=IntWalk.i64_in c ⟨oM,oM⟩;have ES:(Instr.makeSlice t (.int .i64 n) (.int .i64 c)).run P w=.ok (.slice (some ⟨w.heap.size,0,none⟩) n.toNat c.toNat) (w.alloc (.cells ((Array.range (c.toNat*te.size)).map (z.cells[· %z.cells.size]!)) e)):=by
   have t1:¬(c<0):=oM;have t2:¬(n<0):=oM;have t3:¬(n>c):=oM;by_cases hz:c.toNat*te.size=0
   ·have e0:∀f:Nat→Value,Array.map f (Array.range 0)= #[]:=fun f=>by apply Array.ext';simp[Array.toList_range]
    simp[Instr.makeSlice,run_underlying dB,asInt,asIntOf,typeInfo,EU,QZ,V7,V6,t1,t2,t3,sizeOf,y8,hz,e0,newRow];omega
   simp[Instr.makeSlice,run_underlying dB,asInt,asIntOf,typeInfo,EU,QZ,V7,V6,t1,t2,t3,sizeOf,y8,hz,zeroValue,SM,newRow];omega
  have a7:(execOp a.eval o).run P w=.ok (.value (.slice (some ⟨w.heap.size,0,none⟩) n.toNat c.toNat)) (w.alloc (.cells ((Array.range (c.toNat*te.size)).map (z.cells[· %z.cells.size]!)) e)):=by simp[execOp,ho,ex,ey,ES]
  obtain⟨β',b1,b2,b3,b4⟩:=i.new (w':=w.alloc (.cells ((Array.range (c.toNat*te.size)).map (z.cells[· %z.cells.size]!)) e)) (c:=(c.toNat,n.toNat)) hd (ob:=.cells ((Array.range (c.toNat*te.size)).map (z.cells[· %z.cells.size]!)) e) rfl rfl rfl rfl
   (bc:=.row e n.toNat te.size fun _ j=>match (iB te.zero)[j]? with|some c=>OP c|none=>.bL) (by
   intro β' iX _
   refine⟨_,_,_,iX,heap_alloc_new w _,rfl,sM,by show n.toNat≤c.toNat;omega,by show c.toNat≤maxLen;unfold maxLen;omega,fun k j hk hj=>?_⟩
   have fZ:k*te.size+j<c.toNat*te.size:=by have:(k+1)*te.size≤c.toNat*te.size:=Nat.mul_le_mul_right _ oM;exact qp
   have aIX:(k*te.size+j)%te.size=j:=by rw[Nat.mul_comm,Nat.mul_add_mod,Nat.mod_eq_of_lt hj]
   have hjz:j<z.cells.size:=by rw[hzs];exact hj
   refine⟨z.cells[j],?_,?_⟩
   ·simp only [Array.getElem?_map,Array.getElem?_range,fZ,if_true,Option.map_some,hzs,aIX,getElem!_pos z.cells j hjz]
   ·have tC:j<te.zero.length:=by rw[c4];exact hj
    have hzj:z.cells[j]=te.zero[j]:=by
     have:z.cells.toList[j]? =te.zero[j]? :=by rw[LB]
     simpa [hjz,tC]using this
    have hlen:(iB te.zero).length=te.zero.length:=by have:=(iB.rep M β te.zero).length;omega
    obtain⟨u,hu,hr⟩:=(iB.rep M β te.zero).get (List.getElem?_eq_getElem (by rw[hlen];exact tC:j<(iB te.zero).length));rw[List.getElem?_eq_getElem tC]at hu
    cases hu
    simp only [List.getElem?_eq_getElem (by rw[hlen];exact tC:j<(iB te.zero).length)];rw[hzj];have had:∀l:List Value,o5 (iB l)=true:=by exact zcS
    have:=o5.OP (had te.zero) (List.getElem?_eq_getElem (by rw[hlen];exact tC:j<(iB te.zero).length));rw[this]at hr;exact hr)
  exact⟨_,_,M,β',.inl a7,⟨_,_,b1,rfl,by show n.toNat≤c.toNat;omega⟩,b3,Grow.refl _ _,b4⟩
end
def aDJ(s:ByteArray):Nat→Nat→DV:=fun i _=>.val (.int .u8 (s[i]!).toNat)
section
variable{P:Program}{σ:St}{K:AV→aP→Prop}{o:Oper}
def aDK(T:List (Nat×bV))(σ:St)(src dst:Nat)(x:Operand)(K:AV→aP→Prop):Prop:=
 fe none (ev σ x) fun va=>match dE T src,dE T dst,va with
  |some ts,some td,.s (.d (.val (.string s)))=>match ts.j7,td.j7 with
   |.string,.slice e=>match dE T e with
    |some te=>match te.j7 with
     |.int .u8=>K (.s (.d (.fU s.size 1 (aDJ s)))) σ.box
     |_=>False
    |none=>False
   |_,_=>False
  |_,_,_=>False
theorem byte.spec{T:List (Nat×bV)}(hT:cD P T){src dst:Nat}{x:Operand}(ho:o.op=.convert src dst x)(h:aDK T σ src dst x K):∃r bx,K r bx∧KI P o σ r bx:=by
 unfold aDK at h;replace h:=fe.ev h;obtain⟨va,h,hr⟩:=h;split at h
 case h_2=>cases h
 rename_i ts td s uX htd;have k1:=hT.get uX;have k2:=hT.get htd;split at h
 case h_2=>cases h
 rename_i e e1 e2;split at h
 case h_2=>cases h
 rename_i te nD;split at h
 case h_2=>cases h
 rename_i e3;have h1:=k1.isString e1;have h2:=k2.isSlice e2;have h3:=(hT.get nD).isInt e3;refine⟨_,_,h,fun cx N M β a w i=>?_⟩;have ex:a.eval x=.string s:=hr iY cx N M β a w i;have a7:(execOp a.eval o).run P w=.ok (.value (.slice (some ⟨w.heap.size,0,none⟩) s.size (grownCap w s.size 0 e))) (Lib.bytesWorld w e s):=by simp[execOp,ho,ex,Lib.run_convert_string_bytes w src dst e s h1 h2 h3]
 let M':Mem:=fun b o=>if b=w.heap.size∧o<s.size then some (.int .u8 (s[o]!).toNat)else M b o
 have hM:∀b o u,M b o=some u→b<w.heap.size:=fun b o u e=>i.HC e
 have hm:lA M' (Lib.bytesWorld w e s):=by
  intro b o u hu;simp only [M']at hu;split at hu
  ·rename_i hc
   cases hu
   obtain⟨rfl,fZ⟩:=hc;rw[Lib.bytesWorld_cell w e s o fZ];have hd:s.data.size=s.size:=rfl;rw[getElem!_pos s o fZ,List.getD,List.getElem?_eq_getElem (by simpa [hd]using fZ)];rfl
  rw[Lib.bytesWorld_old w e s ⟨b,o,none⟩ (hM b o u hu)];exact i.mem b o u hu
 have hg:Grow w.heap.size M M':=by
  refine⟨fun b o u hu=>?_,fun b o u hu=>?_⟩
  ·have:=hM b o u hu;simp only [M'];rw[if_neg oM];exact hu
  simp only [M']at hu;split at hu
  ·rename_i hc;exact .inr oM
  exact .inl hu
 have qT:Bel w (Lib.bytesWorld w e s):=by
  refine⟨⟨?_,?_,?_,?_,fun k hk=>Lib.bytesWorld_at_old w e s k hk⟩,?_⟩
  ·exact xl
  ·exact xl
  ·exact xl
  ·rw[Lib.bytesWorld_size];omega
  exact trivial
 obtain⟨i',g',kp⟩:=i.after qT hg hm;refine⟨_,_,M',β,.inl a7,⟨_,_,rfl,grownCap_ge _ _ _ _,.inr ⟨_,0,rfl,fun k j hk hj=>⟨_,?_,rfl⟩⟩⟩,i',g',kp⟩;have:j=0:=oM;subst this;rw[show 0+k*1+0=k by omega];exact if_pos ⟨rfl,hk⟩
def aKA(f:FuncId)(cs:List SV):DV:=.bnd f cs.length fun i=>match cs[i]? with|some c=>OP c|none=>.bL
theorem cV.get'{M:Mem}{β:Nm}:∀{cs:List SV} {vs:List Value},cV M β cs vs→∀{i:Nat} {u:Value},vs[i]? =some u→∃c,cs[i]? =some c∧c.bI M β u
 |[],[],_,i,u,h=>by simp at h
 |c::cs,v::vs,⟨h,r⟩,0,u,e=>by simp at e;subst e;exact⟨c,rfl,h⟩
 |c::cs,v::vs,⟨h,r⟩,i+1,u,e=>cV.get' r (by simpa using e)
 |[],_::_,h,_,_,_=>h.elim
 |_::_,[],h,_,_,_=>h.elim
theorem mkb.spec{g:Option Bool}{K:AV→Prop}{f:FuncId}{y:Operand}(ho:o.op=.makeFunc (.func f) #[y] #[])
  (h:fe g (ev σ y) fun va=>match va with|.g cs=>bif o5 cs then K (.s (.d (aKA f cs)))else False|_=>False):∃r,K r∧jW P o σ g r:=by
 replace h:=fe.ev h
 obtain⟨va,h,hr⟩:=h
 split at h
 case h_2=>cases h
 rename_i cs
 cases hc:o5 cs with
 |false=>rw[hc]at h;cases h
 |true=>
  rw[hc]at h;refine⟨_,h,fun ha cx N M β a w i=>?_⟩;obtain⟨vs,e,hv⟩:=hr ha cx N M β a w i;refine⟨.func (.func f) #[.agg vs.toArray] #[],?_,vs,rfl,hv.length,fun i u hu=>?_⟩
  ·simp[execOp,ho,Instr.makeFunc,e]
  obtain⟨c,h1,h2⟩:=cV.get' hv hu;rw[o5.OP hc h1]at h2;simp only [h1];exact h2
end
def aNA:AV→Option (Nat×Nat×Option Nat)
 |.s (.own y)=>some (y,0,none)
 |.s (.j0 y 1 lo n)=>some (y,lo,some n)
 |_=>none
def N1(lo q:Nat)(f g:Nat→Nat→DV):Nat→Nat→DV:=fun i j=>if lo≤i∧i<lo+q then g (i - lo) j else f i j
section
variable{P:Program}{σ:St}{K:AV→aP→Prop}{o:Oper}
def zN(T:List (Nat×bV))(σ:St)(t:Nat)(x y:Operand)(K:AV→aP→Prop):Prop:=
 fe none (ev σ x) fun vx=>fe none (ev σ y) fun vy=>match dE T t with
 |some ti=>match ti.j7 with
  |.slice e=>match dE T e with
   |some te=>match sF σ vy with
    |some (k,s',g)=>match aNA vx with
     |some (b,lo,m)=>match aH σ.box b with
      |some (some (.row e' n s f))=>bif Nat.beq te.size 1&&Nat.beq s 1&&Nat.beq s' 1 then
        fitAll k 1 g∧K (rH .i64 ((Nat.min k (m.getD n):Nat):Int)) ((b,some (.row e' n s (N1 lo (Nat.min k (m.getD n)) f g)))::σ.box)else False
      |_=>False
     |none=>False
    |none=>False
   |none=>False
  |_=>False
 |none=>False
theorem copy.spec{T:List (Nat×bV)}(hT:cD P T){t t':Nat}{x y:Operand}(ho:o.op=.call {callee:=.builtin .copy,args:= #[x,y],argTypes:= #[t,t']})
  (h:zN T σ t x y K):∃r bx,K r bx∧KI P o σ r bx:=by
 unfold zN at h
 replace h:=fe.ev h
 obtain⟨vx,h,tB⟩:=h
 replace h:=fe.ev h
 obtain⟨vy,h,JV⟩:=h
 split at h
 case h_2=>cases h
 rename_i ti gG
 have gF:=hT.get gG
 split at h
 case h_2=>cases h
 rename_i e hu
 have dB:P.underlying t=some (.slice e):=gF.isSlice hu
 split at h
 case h_2=>cases h
 rename_i te nD
 have mS:=hT.get nD
 split at h
 case h_2=>cases h
 rename_i k s' g xN
 split at h
 case h_2=>cases h
 rename_i b lo m T1
 split at h
 case h_2=>cases h
 rename_i e' n s f hb
 cases hc:(Nat.beq te.size 1&&Nat.beq s 1&&Nat.beq s' 1)with
 |false=>rw[hc]at h;cases h
 |true=>
  rw[hc]at h;simp only [cond_true]at h;simp only [Bool.and_eq_true]at hc;have c1:=Nat.eq_of_beq_eq_true hc.1.1;have c2:=Nat.eq_of_beq_eq_true hc.1.2;have c3:=Nat.eq_of_beq_eq_true hc.2;subst c2;subst c3;obtain⟨oW,h⟩:=h;refine⟨_,_,h,fun cx N M β a w i=>?_⟩;obtain⟨ie,z,EU,y8,QZ,SM,LB⟩:=mS.K8;have LC:(P.info? e).map (·.size)=some 1:=by simp[EU,y8,c1]
  obtain⟨ad,cap,ey,hy⟩:=sF.rep i xN (JV iY cx N M β a w i);obtain⟨k0,c,cur,e1,hh,hlen,mL,hn,I9,cY⟩:=i.box b _ hb;obtain⟨o',dc,ex,hoo,jA⟩:∃o' dc,a.eval x=.slice (some ⟨k0,o',none⟩) (m.getD n) dc∧(0<m.getD n→o'=lo)∧lo+m.getD n≤n:=by
   have hr:=tB iY cx N M β a w i;unfold aNA at T1;split at T1
   ·cases T1
    obtain⟨b2,c2,e2,ex,_⟩:=hr;rw[e1]at e2;cases e2;exact⟨0,c.1,by rw[ex,hlen];rfl,fun _=>rfl,sM⟩
   ·cases T1
    obtain⟨b2,c2,o2,e2,ex,h1,h2,h3⟩:=hr;rw[e1]at e2;cases e2;rename_i n';refine⟨o2,_,ex,fun hp=>?_,by rw[←hlen];exact h2⟩;have:=h1 (by simp at hp;omega);omega
   cases T1
  have run:∀(w':World) (r:Value),(Builtin.copy_ #[t,t'] o.type #[a.eval x,a.eval y]).run P w=.ok r w'→(execOp a.eval o).run P w=.ok (.value r) w':=by exact zbH
  generalize hq:Nat.min k (m.getD n)=q;have hqk:q≤k:=hq▸Nat.min_le_left _ _;have hqm:q≤m.getD n:=hq▸Nat.min_le_right _ _;by_cases h0:q=0
  ·have a7:=run_copy_none (P:=P) w t t' o.type e (some ⟨k0,o',none⟩) ad (m.getD n) dc k cap dB LC (by rw[←h0];exact hq);rw[←ex,←ey]at a7;have hw:=i.write (bc':=.row e' n 1 (N1 lo q f g)) hb e1 (w':=w) rfl (fun _ _=>rfl) rfl rfl rfl
    ⟨k0,c,cur,e1,hh,hlen,mL,hn,I9,fun i' j bC hj=>by
     have:N1 lo q f g i' j=f i' j:=by unfold N1;rw[if_neg oM]
     rw[this];exact cY i' j bC hj⟩
   exact zcy
  have y1:0<q:=oM;rcases hy with hy|⟨sb,so,rfl,hy⟩
  ·omega
  obtain⟨bad,news,NI,hl,kB,pL⟩:=DI (w:=w) (M:=M) (g:=g) (m:=q) (s:=1) (ad:=some ⟨sb,so,none⟩) oM y1 (.inr ⟨sb,so,rfl,fun k1 j hk hj=>hy k1 j oM hj⟩)
  cases NI
  have h1:∀u∈news,u.oneCell'=true:=by
   intro u hu;obtain⟨j,hj⟩:=List.getElem?_of_mem hu;have tC:j<q:=by have:=(List.getElem?_eq_some_iff.1 hj).1;omega
   obtain⟨v,hv,hr⟩:=pL j 0 tC oM;rw[show j*1+0=j by omega,hj]at hv;cases hv;have xO:=oW j 0 oM oM;exact DV.bI.k8 hr (by cases hx:g j 0 <;> rw[hx]at xO <;> first|exact xO|rfl|cases xO)
  have sO:=hoo oM;subst sO;have a7:=run_copy_row (P:=P) w t t' o.type e k0 o' (m.getD n) dc ⟨sb,so,none⟩ k cap cur e' news dB LC hh (by rw[hl,Nat.mul_one];exact hq.symm) kB (by rw[hl,mL];omega) h1;rw[←ex,←ey]at a7;have hw:=i.write (bc':=.row e' n 1 (N1 o' q f g)) hb e1 (w':=w.setRow k0 (cur.toList.take o'++news++cur.toList.drop (o'+news.length)).toArray) sM (fun j hj=>setRow_other w k0 j _ hj) rfl rfl rfl
   ⟨k0,c,_,e1,setRow_heap w k0 cur _ e' _ hh,hlen,by simp;omega,hn,I9,fun i' j bC hj=>by
    have TP:(cur.toList.take o').length=o':=by simp;omega
    have hj0:j=0:=oM;subst hj0;simp only [List.getElem?_toArray];by_cases l7:o'≤i'∧i'<o'+q
    ·obtain⟨u,hu,hr⟩:=pL (i' - o') 0 oM oM;refine⟨u,?_,by unfold N1;rw[if_pos l7];exact hr⟩;rw[List.append_assoc,List.getElem?_append_right oM,TP,List.getElem?_append_left oM];rw[show i'*1+0 - o'=(i' - o')*1+0 by omega];exact hu
    obtain⟨u,hu,hr⟩:=cY i' 0 bC oM;refine⟨u,?_,by unfold N1;rw[if_neg l7];exact hr⟩;by_cases fZ:i'<o'
    ·rw[List.append_assoc,List.getElem?_append_left oM,List.getElem?_take_of_lt oM];simpa using hu
    rw[List.append_assoc,List.getElem?_append_right oM,TP,List.getElem?_append_right oM,List.getElem?_drop];rw[show o'+news.length+(i'*1+0 - o' - news.length)=i'*1+0 by omega];simpa using hu⟩
  refine⟨_,_,M,β,.inl (run _ _ a7),?_,hw.1,Grow.refl _ _,hw.2⟩;rw[hl,Nat.mul_one];rfl
theorem JK(w:World)(dT sT ty elem:TypeId)(g aDD aJL:Nat)(a:Addr)(DB S0:Nat)(cur:Array Value)(t:TypeId)(cs:List Value)(n sz:Nat)
  (hu:P.underlying dT=some (.slice elem)) (hs:(P.info? elem).map (·.size)=some sz)
  (hg:w.heap[g]? =some (.cells cur t (0,0))) (hm:n=Nat.min DB aDD) (hn:cs.length=n*sz)
  (xN:∀j v,cs[j]? =some v→w.cell? (a.add j)=some v) (oW:cs.length≤cur.size) (h1:∀v∈cs,v.oneCell'=true):
  (Builtin.copy_ #[dT,sT] ty #[.slice (some ⟨g,0,none⟩) aDD aJL,.slice (some a) DB S0]).run P w=
   .ok (goInt n) (w.setRow g (cs++cur.toList.drop cs.length).toArray):=by
 have hl:=run_loadCells_list (P:=P) w a cs xN
 have jO:=run_storeCells_at P g 0 t cs 0 cur w hg (by simpa using oW) h1
 simp only [Nat.zero_add,Nat.add_zero,List.take_zero,List.nil_append]at jO
 cases hq:P.info? elem with
 |none=>simp[hq]at hs
 |some i=>
  have hi:i.size=sz:=by simpa [hq]using hs
  simp[Builtin.copy_,run_underlying hu,Builtin.lenOf,Builtin.firstCells,sizeOf,typeInfo,hq,hi,←hm,←hn,hl,jO]
theorem GK(w:World)(dT sT ty elem:TypeId)(d a:Option Addr)(aDD aJL DB S0 sz:Nat)(hu:P.underlying dT=some (.slice elem))(hs:(P.info? elem).map (·.size)=some sz)(hn:Nat.min DB aDD=0):
  (Builtin.copy_ #[dT,sT] ty #[.slice d aDD aJL,.slice a DB S0]).run P w=.ok (goInt 0) w:=by
 cases hq:P.info? elem with
 |none=>simp[hq]at hs
 |some i=>
  have hl:∀(x:Addr),(loadCells x 0).run P w=.ok #[] w:=fun x=>by simpa using run_loadCells_list (P:=P) w x [] sM
  cases d <;> cases a <;> simp[Builtin.copy_,run_underlying hu,Builtin.lenOf,Builtin.firstCells,sizeOf,typeInfo,hq,hn,storeCells,hl]
def UJ(T:List (Nat×bV))(σ:St)(t:Nat)(x y:Operand)(K:AV→aP→Prop):Prop:=
 fe none (ev σ x) fun vx=>fe none (ev σ y) fun vy=>match dE T t with
 |some ti=>match ti.j7 with
  |.slice e=>match dE T e with
   |some te=>match sF σ vy,vx with
    |some (k,s',g),.s (.own b)=>match aH σ.box b with
     |some (some (.row e' n s f))=>bif Nat.blt 0 te.size&&Nat.beq s te.size&&Nat.beq s' te.size then
       fitAll k s g∧K (rH .i64 ((Nat.min k n:Nat):Int)) ((b,some (.row e' n s (N1 0 (Nat.min k n) f g)))::σ.box)else False
     |_=>False
    |_,_=>False
   |none=>False
  |_=>False
 |none=>False
theorem aNE.spec{T:List (Nat×bV)}(hT:cD P T){t t':Nat}{x y:Operand}(ho:o.op=.call {callee:=.builtin .copy,args:= #[x,y],argTypes:= #[t,t']})
  (h:UJ T σ t x y K):∃r bx,K r bx∧KI P o σ r bx:=by
 unfold UJ at h
 replace h:=fe.ev h
 obtain⟨vx,h,tB⟩:=h
 replace h:=fe.ev h
 obtain⟨vy,h,JV⟩:=h
 split at h
 case h_2=>cases h
 rename_i ti gG
 have gF:=hT.get gG
 split at h
 case h_2=>cases h
 rename_i e hu
 have dB:P.underlying t=some (.slice e):=gF.isSlice hu
 split at h
 case h_2=>cases h
 rename_i te nD
 have mS:=hT.get nD
 split at h
 case h_2=>cases h
 rename_i k s' g b xN
 split at h
 case h_2=>cases h
 rename_i e' n s f hb
 cases hc:(Nat.blt 0 te.size&&Nat.beq s te.size&&Nat.beq s' te.size)with
 |false=>rw[hc]at h;cases h
 |true=>
  rw[hc]at h;simp only [cond_true]at h;simp only [Bool.and_eq_true]at hc;have c0:0<te.size:=Nat.le_of_ble_eq_true hc.1.1;have c2:=Nat.eq_of_beq_eq_true hc.1.2;have c3:=Nat.eq_of_beq_eq_true hc.2;subst c2;subst c3;obtain⟨oW,h⟩:=h;refine⟨_,_,h,fun cx N M β a w i=>?_⟩;obtain⟨ie,z,EU,y8,QZ,SM,LB⟩:=mS.K8;have LC:(P.info? e).map (·.size)=some te.size:=by simp[EU,y8]
  obtain⟨ad,cap,ey,hy⟩:=sF.rep i xN (JV iY cx N M β a w i);obtain⟨k0,c,cur,e1,hh,hlen,mL,hn,I9,cY⟩:=i.box b _ hb;obtain⟨b2,c2,e2,ex,_⟩:=tB iY cx N M β a w i;rw[e1]at e2;cases e2;rw[hlen]at ex;have run:∀(w':World) (r:Value),(Builtin.copy_ #[t,t'] o.type #[a.eval x,a.eval y]).run P w=.ok r w'→(execOp a.eval o).run P w=.ok (.value r) w':=by exact zbH
  generalize hq:Nat.min k n=q;have hqk:q≤k:=hq▸Nat.min_le_left _ _;have hqm:q≤n:=hq▸Nat.min_le_right _ _;by_cases h0:q=0
  ·have a7:=GK (P:=P) w t t' o.type e (some ⟨k0,0,none⟩) ad n c.1 k cap te.size dB LC (by rw[←h0];exact hq);rw[←ex,←ey]at a7;have hw:=i.write (bc':=.row e' n te.size (N1 0 q f g)) hb e1 (w':=w) rfl (fun _ _=>rfl) rfl rfl rfl
    ⟨k0,c,cur,e1,hh,hlen,mL,hn,I9,fun i' j bC hj=>by
     have:N1 0 q f g i' j=f i' j:=by unfold N1;rw[if_neg oM]
     rw[this];exact cY i' j bC hj⟩
   exact zcy
  have y1:0<q:=oM;rcases hy with hy|⟨sb,so,rfl,hy⟩
  ·omega
  obtain⟨bad,news,NI,hl,kB,pL⟩:=DI (w:=w) (M:=M) (g:=g) (m:=q) (s:=te.size) (ad:=some ⟨sb,so,none⟩) c0 y1 (.inr ⟨sb,so,rfl,fun k1 j hk hj=>hy k1 j oM hj⟩)
  cases NI
  have h1:∀u∈news,u.oneCell'=true:=by
   intro u hu;obtain⟨j,hj⟩:=List.getElem?_of_mem hu;have tC:j<q*te.size:=by have:=(List.getElem?_eq_some_iff.1 hj).1;omega
   have hd:=Nat.div_add_mod j te.size;have fZ:j / te.size<q:=(Nat.div_lt_iff_lt_mul c0).2 tC;obtain⟨v,hv,hr⟩:=pL (j / te.size) (j%te.size) fZ (Nat.mod_lt _ c0);rw[show j / te.size*te.size+j%te.size=j by rw[Nat.mul_comm];exact hd,hj]at hv;cases hv;have xO:=oW (j / te.size) (j%te.size) oM (Nat.mod_lt _ c0);exact DV.bI.k8 hr (by cases hx:g (j / te.size) (j%te.size) <;> rw[hx]at xO <;> first|exact xO|rfl|cases xO)
  have hnq:n*te.size≤cur.size:=by rw[mL];exact Nat.mul_le_mul_right _ hn
  have hqn:q*te.size≤n*te.size:=Nat.mul_le_mul_right _ hqm;have a7:=JK (P:=P) w t t' o.type e k0 n c.1 ⟨sb,so,none⟩ k cap cur e' news q te.size dB LC hh hq.symm hl kB oM h1;rw[←ex,←ey]at a7;have hw:=i.write (bc':=.row e' n te.size (N1 0 q f g)) hb e1 (w':=w.setRow k0 (news++cur.toList.drop news.length).toArray) sM (fun j hj=>setRow_other w k0 j _ hj) rfl rfl rfl
   ⟨k0,c,_,e1,setRow_heap w k0 cur _ e' _ hh,hlen,by simp;omega,hn,I9,fun i' j bC hj=>by
    simp only [List.getElem?_toArray];by_cases l7:i'<q
    ·obtain⟨u,hu,hr⟩:=pL i' j l7 hj;refine⟨u,?_,by unfold N1;rw[if_pos ⟨Nat.zero_le _,oM⟩];exact hr⟩;have fZ:i'*te.size+j<news.length:=(List.getElem?_eq_some_iff.1 hu).1;rw[List.getElem?_append_left fZ];exact hu
    obtain⟨u,hu,hr⟩:=cY i' j bC hj;refine⟨u,?_,by unfold N1;rw[if_neg oM];exact hr⟩;have FK:q*te.size≤i'*te.size:=Nat.mul_le_mul_right _ oM;rw[List.getElem?_append_right oM,List.getElem?_drop,show news.length+(i'*te.size+j - news.length)=i'*te.size+j by omega];simpa using hu⟩
  exact⟨_,_,M,β,.inl (run _ _ a7),rfl,hw.1,Grow.refl _ _,hw.2⟩
def szE(T:List (Nat×bV))(t:Nat):Nat:=match dE T t with
 |some ti=>match ti.j7 with
  |.slice e=>match dE T e with
   |some te=>te.size
   |none=>0
  |_=>0
 |none=>0
def LX(T:List (Nat×bV))(σ:St)(t:Nat)(x y:Operand)(K:AV→aP→Prop):Prop:=
 match Nat.beq (szE T t) 1 with
 |true=>zN T σ t x y K
 |false=>UJ T σ t x y K
theorem LX.spec{T:List (Nat×bV)}(hT:cD P T){t t':Nat}{x y:Operand}(ho:o.op=.call {callee:=.builtin .copy,args:= #[x,y],argTypes:= #[t,t']})
  (h:LX T σ t x y K):∃r bx,K r bx∧KI P o σ r bx:=by
 unfold LX at h
 split at h
 ·exact copy.spec hT ho h
 ·exact aNE.spec hT ho h
end
end Go.Ax
namespace Go.Ax
open Go.RowKit
open Go.ChangeMaps (setBlock)
def oX:List (Int×Int)→Int→Option Int
 |[],_=>none
 |(a,v)::r,k=>bif k==a then some v else oX r k
def NJ(l:List (Int×Int))(k:Int):Bool:=(oX l k).isSome
def getM(l:List (Int×Int))(k:Int):Int:=(oX l k).getD 0
def pU:List (Int×Int)→Int→Int→List (Int×Int)
 |[],k,v=>[(k,v)]
 |(a,u)::r,k,v=>bif k==a then(a,v)::r else(a,u)::pU r k v
def aKM(T:List (Nat×bV))(e:Nat):Option VK:=match dE T e with
 |some te=>match te.j7 with
  |.int .i64=>some .int
  |.bool=>some .bool
  |_=>none
 |none=>none
def TK(T:List (Nat×bV))(k:Nat):Bool:=match dE T k with
 |some tk=>match tk.j7 with
  |.int .i64=>true
  |_=>false
 |none=>false
theorem TK.spec{P:Program}{T:List (Nat×bV)}(hT:cD P T){k:Nat}(h:TK T k=true):P.underlying k=some (.int .i64):=by
 unfold TK at h;split at h
 ·rename_i tk hk;split at h
  ·rename_i hu;exact(hT.get hk).isInt hu
  cases h
 cases h
def UF(vk:VK):AV→Option Int
 |.s (.d (.val (.int .i64 n)))=>match vk with|.int=>some n|.bool=>none
 |.s (.d (.val (.bool b)))=>match vk with|.bool=>some (bif b then 1 else 0)|.int=>none
 |.s (.d (.lit b))=>match vk with|.bool=>some (bif b then 1 else 0)|.int=>none
 |_=>none
theorem UF.spec{vk:VK}{v:AV}{n:Int}{M:Mem}{β:Nm}{u:Value}(h:UF vk v=some n)(r:v.bI M β u):u=vk.val n:=by
 have hb:∀b:Bool,Value.bool b=VK.val .bool (bif b then 1 else 0):=fun b=>by cases b <;> rfl
 unfold UF at h;split at h
 ·cases vk with
  |int=>cases h;exact r
  |bool=>cases h
 ·exact zct
 ·exact zct
 cases h
def findAt(vk:VK):List (Int×Int)→Int→Nat→Option (Nat×Value)
 |[],_,_=>none
 |(a,v)::r,k,i=>bif k==a then some (i,vk.val v)else findAt vk r k (i+1)
theorem B5(vk:VK)(k:Int):∀(l:List (Int×Int)) (i:Nat),Instr.findNow (.int .i64) (.int .i64 k) (iN vk l i) i=some (findAt vk l k i)
 |[],_=>rfl
 |(a,v)::r,i=>by
  simp only [iN,Instr.findNow,Instr.sameNow,if_true,findAt]
  cases h:k==a with
  |true=>rfl
  |false=>simp only [cond_false];exact B5 vk k r (i+1)
theorem run_findKey{P:Program}(w:World){kt:TypeId}(hk:P.underlying kt=some (.int .i64))(vk:VK)(k:Int)(l:List (Int×Int)):
  (Instr.findKey kt (.int .i64 k) (iN vk l 0)).run P w=.ok (findAt vk l k 0) w:=by
 simp[Instr.findKey,run_underlying hk,B5]
theorem run_checkKey{P:Program}(w:World){kt:TypeId}(hk:P.underlying kt=some (.int .i64))(b:Bool)(k:Int)(n:Nat):(Instr.checkKey b (n+1) kt (.int .i64 k)).run P w=.ok () w:=by simp[Instr.checkKey,run_underlying hk]
theorem E3(vk:VK)(k:Int):∀(l:List (Int×Int)) (i:Nat),(findAt vk l k i).map (·.2)=(oX l k).map vk.val
 |[],_=>rfl
 |(a,v)::r,i=>by
  simp only [findAt,oX]
  cases h:k==a with
  |true=>rfl
  |false=>simp only [cond_false];exact E3 vk k r (i+1)
theorem xV(vk:VK):∀(l:List (Int×Int)) (i:Nat),(iN vk l i).length=l.length
 |[],_=>rfl
 |(_,_)::r,i=>by simp[iN,xV vk r (i+1)]
theorem LQ(vk:VK):∀(l:List (Int×Int)) (i:Nat),(iN vk l i).map (·.born)=List.range' i l.length
 |[],_=>rfl
 |(_,_)::r,i=>by simp[iN,LQ vk r (i+1),List.range'_succ]
theorem xW(vk:VK):∀(l:List (Int×Int)) (i j:Nat) (e:MapEntry),(iN vk l i)[j]? =some e→j<l.length∧e= {key:=.int .i64 (l.getD j (0,0)).1,val:=vk.val (l.getD j (0,0)).2,born:=i+j}
 |[],_,_,_,h=>by simp[iN]at h
 |(a,v)::r,i,0,e,h=>by simp[iN]at h;exact⟨sM,by rw[←h];rfl⟩
 |(a,v)::r,i,j+1,e,h=>by
  have h:(iN vk r (i+1))[j]? =some e:=by simpa [iN]using h
  obtain⟨h1,h2⟩:=xW vk r (i+1) j e h;exact zea
theorem O7(vk:VK)(k v:Int):∀(l:List (Int×Int)) (i j:Nat) (u:Value),findAt vk l k i=some (i+j,u)→(∃e,(iN vk l i)[j]? =some e∧e.key=.int .i64 k)∧
   (iN vk l i).modify j (fun e=>{e with key:=.int .i64 k,val:=vk.val v})=iN vk (pU l k v) i∧(pU l k v).length=l.length
 |[],_,_,_,h=>by cases h
 |(a,b)::r,i,j,u,h=>by
  simp only [findAt]at h
  cases hk:k==a with
  |true=>
   rw[hk]at h;simp only [cond_true,Option.some.injEq,Prod.mk.injEq]at h;obtain rfl:j=0:=oM;have:k=a:=by simpa using hk
   subst this;simp[iN,pU]
  |false=>
   rw[hk]at h;simp only [cond_false]at h;have hj:∃q,j=q+1:=by
    cases j with
    |zero=>
     exfalso;have:∀(l:List (Int×Int)) (i p:Nat) (u:Value),findAt vk l k i=some (p,u)→i≤p:=by
      intro l;induction l with
      |nil=>intro i p u h;cases h
      |cons x r ih=>intro i p u h;obtain⟨a,b⟩:=x;simp only [findAt]at h;exact zaj
     have:=this r (i+1) _ u h;omega
    |succ q=>exact⟨q,rfl⟩
   obtain⟨q,rfl⟩:=hj;obtain⟨⟨e,h1,JX⟩,h2,h3⟩:=O7 vk k v r (i+1) q u ze7;refine⟨⟨e,by simpa [iN]using h1,JX⟩,?_,by simp[pU,hk,h3]⟩;simp[iN,pU,hk,h2]
theorem O8(vk:VK)(k v:Int):∀(l:List (Int×Int)) (i:Nat),findAt vk l k i=none→iN vk l i++ [{key:=.int .i64 k,val:=vk.val v,born:=i+l.length}]=iN vk (pU l k v) i∧(pU l k v).length=l.length+1
 |[],i,_=>by simp[iN,pU]
 |(a,b)::r,i,h=>by
  simp only [findAt]at h
  cases hk:k==a with
  |true=>rw[hk]at h;cases h
  |false=>rw[hk]at h;obtain⟨h1,h2⟩:=O8 vk k v r (i+1) h;have e:i+(r.length+1)=i+1+r.length:=oM;simp[iN,pU,hk,h2,←h1,e]
section
variable{P:Program}{σ:St}{K:AV→aP→Prop}{o:Oper}
def TF(T:List (Nat×bV))(σ:St)(d t:Nat)(K:AV→aP→Prop):Prop:=
 match dE T t with
 |some ti=>match ti.j7 with
  |.map k e=>match aKM T e with
   |some vk=>bif TK T k then match aH σ.box d with
    |none=>K (.s (.mp d)) ((d,some (.map vk []))::σ.box)
    |some _=>False
    else False
   |none=>False
  |_=>False
 |none=>False
theorem mkMap.spec{T:List (Nat×bV)}{d t:Nat}(ho:o.op=.makeMap t none)(h:TF T σ d t K):∃r bx,K r bx∧KI P o σ r bx:=by
 unfold TF at h;split at h
 case h_2=>cases h
 split at h
 case h_2=>cases h
 split at h
 case h_2=>cases h
 rename_i vk hvk
 cases hk:TK T _ with
 |false=>rw[hk]at h;cases h
 |true=>
  rw[hk]at h;simp only [cond_true]at h;split at h
  case h_2=>cases h
  rename_i hd;refine⟨_,_,h,fun cx N M β a w i=>?_⟩;have a7:(execOp a.eval o).run P w=.ok (.value (.map (some w.heap.size))) (w.alloc (.map #[] 0)):=by exact zej
  obtain⟨β',h1,h2,h3,h4⟩:=i.new (w':=w.alloc (.map #[] 0)) (c:=(0,0)) hd (ob:=.map #[] 0) rfl rfl rfl rfl (bc:=.map vk []) (by intro β' e _;exact⟨_,_,e,heap_alloc_new w _⟩);exact vw
theorem gE{w:World}{r:Nat}{es es':Array MapEntry}{c c':Nat}(hr:w.heap[r]? =some (.map es c)):(setObj r (.map es' c')).run P w=.ok () (setBlock w r (.map es' c')):=by simp[setObj,Sem.run,hr,setBlock]
theorem gC(w:World)(r:Nat)(ob:Obj):(setBlock w r ob).heap.size=w.heap.size:=by simp[setBlock]
theorem fD(w:World)(r:Nat)(ob:Obj){k:Nat}(h:k≠r):(setBlock w r ob).heap[k]? =w.heap[k]? :=by simp[setBlock,Array.getElem?_setIfInBounds_ne (Ne.symm h)]
theorem iS{w:World}{r:Nat}{ob ob':Obj}(h:w.heap[r]? =some ob):(setBlock w r ob').heap[r]? =some ob':=by have:=nX h;simp[setBlock,this]
def aHQ(T:List (Nat×bV))(σ:St)(t:Nat)(x y z:Operand)(K:AV→aP→Prop):Prop:=
 fe none (ev σ x) fun vx=>fe none (ev σ y) fun vy=>fe none (ev σ z) fun vz=>match vx,vy with
  |.s (.mp b),.s (.d (.val (.int .i64 k)))=>match aH σ.box b with
   |some (some (.map vk l))=>match dE T t with
    |some ti=>match ti.j7 with
     |.map kt _=>bif TK T kt then match UF vk vz with
      |some n=>K (.s (.d .bL)) ((b,some (.map vk (pU l k n)))::σ.box)
      |none=>False
      else False
     |_=>False
    |none=>False
   |_=>False
  |_,_=>False
theorem upd.spec{T:List (Nat×bV)}(hT:cD P T){t:Nat}{x y z:Operand}(ho:o.op=.mapUpdate t x y z)(h:aHQ T σ t x y z K):∃r bx,K r bx∧KI P o σ r bx:=by
 unfold aHQ at h;replace h:=fe.ev h;obtain⟨vx,h,tB⟩:=h;replace h:=fe.ev h;obtain⟨vy,h,JV⟩:=h;replace h:=fe.ev h;obtain⟨vz,h,hrz⟩:=h;split at h
 case h_2=>cases h
 rename_i b k;split at h
 case h_2=>cases h
 rename_i vk l hb;split at h
 case h_2=>cases h
 rename_i ti gG;split at h
 case h_2=>cases h
 rename_i kt et hu
 cases hk:TK T kt with
 |false=>rw[hk]at h;cases h
 |true=>
  rw[hk]at h;simp only [cond_true]at h;split at h
  case h_2=>cases h
  rename_i n hn;have SK:=TK.spec hT hk;have dB:=(hT.get gG).EM hu;refine⟨_,_,h,fun cx N M β a w i=>?_⟩;obtain⟨bb,c,e1,ex⟩:=tB iY cx N M β a w i;obtain⟨b',c',e2,hh⟩:=i.box b _ hb;rw[e1]at e2;cases e2;have ey:a.eval y=.int .i64 k:=JV iY cx N M β a w i;have ez:a.eval z=vk.val n:=UF.spec hn (hrz iY cx N M β a w i);have jL:(Instr.checkKey false 10000 kt (.int .i64 k)).run P w=.ok () w:=run_checkKey w SK false k 9999;have oL:=run_findKey (P:=P) w SK vk k l;have YQ:(Instr.mapUpdate t (.map (some bb)) (.int .i64 k) (vk.val n)).run P w=.ok () (setBlock w bb (.map (iN vk (pU l k n) 0).toArray (pU l k n).length)):=by
   cases hf:findAt vk l k 0 with
   |none=>
    rw[hf]at oL;obtain⟨q1,q2⟩:=O8 vk k n l 0 hf;have e3:((iN vk l 0).toArray.push {key:=.int .i64 k,val:=vk.val n,born:=l.length})=(iN vk (pU l k n) 0).toArray:=by rw[←q1];simp
    exact zcb
   |some pr=>
    obtain⟨p,u⟩:=pr;rw[hf]at oL;obtain⟨⟨e,q0,q0'⟩,q1,q2⟩:=O7 vk k n l 0 p u (by rw[Nat.zero_add];exact hf);have HU:(Instr.keyThatStays (.int .i64 k) (.int .i64 k)).run P w=.ok (.int .i64 k) w:=by simp[Instr.keyThatStays,Instr.sameBits]
    have e3:(iN vk l 0).modify p (fun e=>{key:=.int .i64 k,val:=vk.val n,born:=e.born})=iN vk (pU l k n) 0:=q1;have e4:(((iN vk l 0).toArray[p]?).map (·.key)).getD (.int .i64 k)=.int .i64 k:=by simp[q0,q0']
    exact zaK
  have a7:(execOp a.eval o).run P w=.ok .skip (setBlock w bb (.map (iN vk (pU l k n) 0).toArray (pU l k n).length)):=by simp[execOp,ho,ex,ey,ez,YQ]
  have hw:=i.write (bc':=.map vk (pU l k n)) hb e1 (w':=setBlock w bb (.map (iN vk (pU l k n) 0).toArray (pU l k n).length)) (gC _ _ _) (fun j hj=>fD _ _ _ hj) rfl rfl rfl
   ⟨bb,c,e1,iS hh⟩
  exact jf
def S6(T:List (Nat×bV))(σ:St)(d t:Nat)(x:Operand)(K:AV→aP→Prop):Prop:=
 fe none (ev σ x) fun vx=>match vx with
  |.s (.mp b)=>match aH σ.box b with
   |some (some (.map _ l))=>match dE T t with
    |some ti=>match ti.j7 with
     |.map _ _=>match aH σ.box d with
      |none=>K (.s (.ptr d 0)) ((d,some (.iter b l.length []))::σ.box)
      |some _=>False
     |_=>False
    |none=>False
   |_=>False
  |_=>False
theorem range.spec{T:List (Nat×bV)}(hT:cD P T){d t:Nat}{x:Operand}(ho:o.op=.range t x)(h:S6 T σ d t x K):∃r bx,K r bx∧KI P o σ r bx:=by unfold S6 at h;exact zo
def aBM(σ:St)(x:Operand)(K:AV→aP→Prop):Prop:=
 fe none (ev σ x) fun vx=>match vx with
  |.s (.ptr b 0)=>match aH σ.box b with
   |some (some (.iter m n seen))=>match aH σ.box m with
    |some (some (.map vk l))=>l.length=n∧((∀i,i<n→i∈seen)→K (.t [.s (.d (.lit false))]) σ.box)∧
      (∀i,i<n→i∉seen→K (.t [.s (.d (.lit true)),.s (.d (.val (.int .i64 (l.getD i (0,0)).1))),.s (.d (vk.dv (l.getD i (0,0)).2))]) ((b,some (.iter m n (i::seen)))::σ.box))
    |_=>False
   |_=>False
  |_=>False
theorem VK.vJ(vk:VK)(n:Int)(M:Mem):(vk.dv n).bI M (vk.val n):=by cases vk <;> rfl
theorem vK{w w1:World}(h:w1=w∨w1=w.drew):w1.heap=w.heap∧w1.os=w.os∧w1.tape=w.tape∧w1.output=w.output:=by rcases h with rfl|rfl <;> exact⟨rfl,rfl,rfl,rfl⟩
theorem next.spec{x:Operand}(ho:o.op=.next x false)(h:aBM σ x K){cx:Cx}{N:Nat}{M:Mem}{β:Nm}{a:Act}{w:World}(i:Inv cx N M β σ a w):
  ∃r bx,K r bx∧∃v w',(execOp a.eval o).run P w=.ok (.value v) w'∧r.bI M β v∧Inv cx N M β ⟨σ.env,bx⟩ a w'∧cE cx w w':=by
 unfold aBM at h
 replace h:=fe.ev h
 obtain⟨vx,h,tB⟩:=h
 split at h
 case h_2=>cases h
 rename_i b
 split at h
 case h_2=>cases h
 rename_i m n seen hb
 split at h
 case h_2=>cases h
 rename_i vk l hm
 obtain⟨hl,h1,h2⟩:=h
 subst hl
 obtain⟨bb,c,e1,ex⟩:=tB iY cx N M β a w i
 obtain⟨b',c',bm,cm,e2,em,hh⟩:=i.box b _ hb
 rw[e1]at e2;cases e2
 obtain⟨bm',cm',RG,hhm⟩:=i.box m _ hm
 rw[em]at RG;cases RG
 have hold:∀x∈(iN vk l 0).toArray.toList,x.born<l.length:=by intro x hx;obtain⟨j,hj⟩:=List.getElem?_of_mem hx;obtain⟨k1,k2⟩:=xW vk l 0 j x zfg;rw[k2];simpa using k1
 have kK:∀e,e∈(leftOf (iN vk l 0).toArray seen.reverse.toArray).toList↔∃j,j<l.length∧j∉seen∧e= {key:=.int .i64 (l.getD j (0,0)).1,val:=vk.val (l.getD j (0,0)).2,born:=j}:=by
  intro e;unfold leftOf;simp only [Array.toList_filter,List.mem_filter];constructor
  ·rintro⟨hx,hs⟩;obtain⟨j,hj⟩:=List.getElem?_of_mem hx;obtain⟨k1,k2⟩:=xW vk l 0 j e zfg;exact zcL
  rintro⟨j,hj,hs,rfl⟩;refine⟨?_,by simpa using hs⟩;have fZ:j<(iN vk l 0).length:=by rw[xV];exact hj
  have hg:=List.getElem?_eq_getElem fZ;obtain⟨_,k2⟩:=xW vk l 0 j _ hg;exact zdr
 rcases run_next_at (P:=P) w o.type bb bm l.length l.length seen.reverse.toArray (iN vk l 0).toArray l.length hh hhm hold (Nat.le_refl _)with⟨hz,a7⟩|⟨e,he,w1,V7,a7⟩
 ·refine⟨_,_,h1 (fun j hj=>?_),_,w,by simp[execOp,ho,ex,a7],⟨[.bool false],rfl,rfl,trivial⟩,i,cE.refl _ _⟩;refine Classical.byContradiction fun hs=>?_
  have:=(kK _).2 ⟨j,hj,hs,rfl⟩;have TT:(leftOf (iN vk l 0).toArray seen.reverse.toArray).toList=[]:=List.eq_nil_of_length_eq_zero zeM;exact zdD
 ·obtain⟨j,hj,hs,rfl⟩:=(kK e).1 he;obtain⟨q1,q2,q3,q4⟩:=vK V7;have hh1:w1.heap[bb]? =some (.mapIter (some bm) l.length seen.reverse.toArray l.length):=by rw[q1];exact hh
  have qO:seen.reverse.toArray.push j=(j::seen).reverse.toArray:=sM;have QR:(execOp a.eval o).run P w=.ok (.value (.tuple #[.bool true,.int .i64 (l.getD j (0,0)).1,vk.val (l.getD j (0,0)).2])) (setBlock w1 bb (.mapIter (some bm) l.length (j::seen).reverse.toArray l.length)):=by exact zdH
  exact qn
end
section
variable{P:Program}{σ:St}{g:Option Bool}{K:AV→Prop}{o:Oper}
def UE(σ:St)(va:AV)(K:AV→Prop):Prop:=match va with
 |.s (.ptr b 0)=>match aH σ.box b with
  |some (some (.iter m n (i::_)))=>match aH σ.box m with
   |some (some (.map vk l))=>l.length=n∧i<l.length∧K (.t [.s (.d (.val (.int .i64 (l.getD i (0,0)).1))),.s (.d (vk.dv (l.getD i (0,0)).2))])
   |_=>False
  |_=>False
 |_=>False
def zOK(T:List (Nat×bV))(e:Nat)(vk:VK):Bool:=match dE T e with
 |some te=>match te.zero,vk with
  |[.int .i64 n],.int=>n==0&& !te.agg
  |[.bool b],.bool=> !b&& !te.agg
  |_,_=>false
 |none=>false
theorem zOK.spec{T:List (Nat×bV)}(hT:cD P T){e:Nat}{vk:VK}(h:zOK T e vk=true)(w:World):(zeroValue e).run P w=.ok (vk.val 0) w:=by
 unfold zOK at h;split at h
 case h_2=>cases h
 rename_i te nD;split at h
 case h_3=>cases h
 ·rename_i n hn;simp only [Bool.and_eq_true,beq_iff_eq,Bool.not_eq_true']at h;exact zaL
 rename_i b hn;simp only [Bool.and_eq_true,Bool.not_eq_true']at h;exact zaL
def xE(T:List (Nat×bV))(σ:St)(t:Nat)(ok:Bool)(g:Option Bool)(vx vy:AV)(K:AV→Prop):Prop:=match vx,vy with
 |.s (.mp b),.s (.d (.val (.int .i64 k)))=>match aH σ.box b with
  |some (some (.map vk l))=>match dE T t with
   |some ti=>match ti.j7 with
    |.map kt et=>bif TK T kt&&(dE T et).isSome then match ok with
     |true=>K (.t [.s (.d (bif NJ l k then vk.dv (getM l k)else .bL)),.s (.d (.val (.bool (NJ l k))))])
     |false=>imp g (NJ l k=true∨zOK T et vk=true)∧K (.s (.d (vk.dv (getM l k))))
     else False
    |_=>False
   |none=>False
  |_=>False
 |_,_=>False
theorem look.spec{T:List (Nat×bV)}(hT:cD P T){t:Nat}{x y:Operand}{ok:Bool}(ho:o.op=.lookup t x y ok)(h:fe g (ev σ x) fun va=>fe g (ev σ y) fun vb=>xE T σ t ok g va vb K):
  ∃r,K r∧jW P o σ g r:=by
 replace h:=fe.ev h
 obtain⟨vx,h,tB⟩:=h
 replace h:=fe.ev h
 obtain⟨vy,h,JV⟩:=h
 unfold xE at h
 split at h
 case h_2=>cases h
 rename_i b k
 split at h
 case h_2=>cases h
 rename_i vk l hb
 split at h
 case h_2=>cases h
 rename_i ti gG
 split at h
 case h_2=>cases h
 rename_i kt et hu
 cases hk:(TK T kt&&(dE T et).isSome)with
 |false=>rw[hk]at h;cases h
 |true=>
  rw[hk]at h;simp only [cond_true]at h;simp only [Bool.and_eq_true]at hk;have SK:=TK.spec hT hk.1;have dB:=(hT.get gG).EM hu;obtain⟨te,nD⟩:=Option.isSome_iff_exists.1 hk.2;have mS:=hT.get nD;have key:∀(ha:act g) cx N M β a w,Inv cx N M β σ a w→∃(v:Value) (z:Value),(zeroValue et).run P w=.ok z w∧(execOp a.eval o).run P w=.ok (.value v) w∧v=(if ok=true then .tuple #[((oX l k).map vk.val).getD z,.bool (NJ l k)]else((oX l k).map vk.val).getD z):=by
   intro ha cx N M β a w i;obtain⟨bb,c,e1,ex⟩:=tB ha cx N M β a w i;obtain⟨b',c',e2,hh⟩:=i.box b _ hb;rw[e1]at e2;cases e2;have ey:a.eval y=.int .i64 k:=JV ha cx N M β a w i;obtain⟨z,hz,_⟩:=mS.w6 w;have jL:(Instr.checkKey (iN vk l 0).toArray.isEmpty 10000 kt (.int .i64 k)).run P w=.ok () w:=run_checkKey w SK _ k 9999;have oL:=run_findKey (P:=P) w SK vk k l;have hf:=E3 vk k l 0
   cases hfa:findAt vk l k 0 with
   |none=>
    rw[hfa]at oL hf;have hf:(oX l k).map vk.val=none:=hf.symm;have hn:oX l k=none:=by simpa using hf
    refine⟨_,z,hz,?_,rfl⟩;simp only [List.isEmpty_toArray]at jL;simp only [execOp,ho,ex,ey];simp[Instr.lookup,run_underlying dB,MapKept.run_getObj_map hh,jL,oL,hz,hn,NJ]
   |some pr=>obtain⟨p,u⟩:=pr;rw[hfa]at oL hf;have hf:(oX l k).map vk.val=some u:=hf.symm;obtain⟨n,hn,WA⟩:=Option.map_eq_some_iff.1 hf;refine⟨_,z,hz,?_,rfl⟩;simp only [List.isEmpty_toArray]at jL;simp only [execOp,ho,ex,ey];simp[Instr.lookup,run_underlying dB,MapKept.run_getObj_map hh,jL,oL,hn,WA,NJ]
  cases ok with
  |true=>
   refine⟨_,h,fun ha cx N M β a w i=>?_⟩;obtain⟨v,z,_,a7,hv⟩:=key ha cx N M β a w i;refine⟨v,a7,_,hv,?_,rfl,trivial⟩;show(bif NJ l k then vk.dv (getM l k)else .bL).bI M (((oX l k).map vk.val).getD z);unfold NJ getM
   cases oX l k with
   |none=>trivial
   |some n=>exact VK.vJ vk n M
  |false=>
   refine⟨_,h.2,fun ha cx N M β a w i=>?_⟩;obtain⟨v,z,hz,a7,hv⟩:=key ha cx N M β a w i;refine⟨v,a7,?_⟩;rw[hv]
   cases hn:oX l k with
   |some n=>simp only [hn,getM,Option.getD_some,Option.map_some];exact VK.vJ vk n M
   |none=>
    have hh:=(h.1.get ha).resolve_left (by unfold NJ;rw[hn];simp);have:=hz.symm.trans (zOK.spec hT hh w)
    cases this
    simp only [hn,getM,Option.getD_none,Option.map_none];exact VK.vJ vk 0 M
theorem entry.spec{x:Operand}(ho:o.op=.entry x)(h:fe g (ev σ x) fun va=>UE σ va K):∃r,K r∧jW P o σ g r:=by
 replace h:=fe.ev h;obtain⟨vx,h,tB⟩:=h;unfold UE at h;split at h
 case h_2=>cases h
 rename_i b;split at h
 case h_2=>cases h
 rename_i m n j seen hb;split at h
 case h_2=>cases h
 rename_i vk l hm;obtain⟨hl,hj,h⟩:=h;subst hl;refine⟨_,h,fun ha cx N M β a w i=>?_⟩;obtain⟨bb,c,e1,ex⟩:=tB ha cx N M β a w i;obtain⟨b',c',bm,cm,e2,em,hh⟩:=i.box b _ hb;rw[e1]at e2;cases e2;obtain⟨bm',cm',RG,hhm⟩:=i.box m _ hm;rw[em]at RG;cases RG;have fZ:j<(iN vk l 0).length:=by rw[xV];exact hj
 have hg:=List.getElem?_eq_getElem fZ;obtain⟨_,k2⟩:=xW vk l 0 j _ hg;rw[Nat.zero_add]at k2;have kK:=List.getElem_mem fZ;generalize (iN vk l 0)[j]=e at*;subst k2;have qO:(j::seen).reverse.toArray=seen.reverse.toArray.push j:=sM;rw[qO]at hh;have a7:=run_entry_at (P:=P) w bb bm l.length seen.reverse.toArray (iN vk l 0).toArray l.length {key:=.int .i64 (l.getD j (0,0)).1,val:=vk.val (l.getD j (0,0)).2,born:=j} hh hhm (by simpa using kK) (by rw[show(iN vk l 0).toArray.toList=iN vk l 0 from rfl,LQ];exact List.nodup_range');exact⟨.tuple #[.int .i64 (l.getD j (0,0)).1,vk.val (l.getD j (0,0)).2],by simp[execOp,ho,ex,a7],[.int .i64 (l.getD j (0,0)).1,vk.val (l.getD j (0,0)).2],rfl,rfl,VK.vJ _ _ _,trivial⟩
end
end Go.Ax
