/- Part 8: lemmas that the proofs of this seat share; by itself it claims nothing. -/
import Derived.Handy
import Derived.Test.YthpblceoeonkbaaGreatDoorPt7
set_option maxRecDepth 100000
set_option maxHeartbeats 2000000
namespace Go.Pj
open Go Go.Ax Go.Ch Go.Proofs Go.Proofs.Tryz
theorem aCP(a b:bJ):(!(Op.bytesLess (bs a).toList (bs b).toList||(bs a).toList==(bs b).toList))=decide (b<a):=by
 rw[MZ,bsL,bsL,Bool.eq_iff_iff];simp only [Bool.not_eq_true',Bool.or_eq_false_iff,decide_eq_false_iff_not,beq_eq_false_iff_ne,decide_eq_true_eq];constructor
 ·rintro⟨h1,h2⟩;apply Classical.byContradiction;intro h;exact h2 (List.le_antisymm (List.not_lt.1 h) (List.not_lt.1 h1))
 intro h;exact⟨List.lt_asymm h,fun e=>List.lt_irrefl _ (e▸h)⟩
theorem aEM{l o:List Fact}{key:bJ}{f x:Fact}(h:x∈Z1 l key o f):x∈o∨x=f:=by
 unfold Z1 rvP MB at h;revert h
 cases VH l key f with
 |false=>exact .inl
 |true=>
  cases decide ((o.length:Int)>0)&&decide (f.seq>(o.getD 0 default).seq)with
  |true=>intro h;right;simpa using h
  |false=>
   simp only [cond_true,cond_false]
   cases(o.length:Int)==0||f.seq==(o.getD 0 default).seq with
   |true=>intro h;simpa using h
   |false=>exact .inl
theorem GN{l:List Fact}{key:bJ}:∀{i:Nat},i≤l.length→∀x∈kO l key i,x∈l
 |0,_,x,h=>by cases h
 |i+1,hi,x,h=>by
  rw[yI hi]at h;rcases aEM h with h|rfl
  ·exact GN oM x h
  exact bP hi
def R3(b f:Fact):Fact:=bif decide (dR b<dR f)then f else b
def pY(r:List Fact)(k:Nat):Fact:=(r.take k).foldl R3 (r.getD 0 default)
theorem yS{r:List Fact}{k:Nat}(h:k<r.length):pY r (k+1)=R3 (pY r k) (r.getD k default):=by unfold pY;exact uy
theorem aDM{r:List Fact}(h:0<r.length):pY r 1=r.getD 0 default:=by rw[yS h];show R3 (r.getD 0 default) (r.getD 0 default)=_;unfold R3;rw[decide_eq_false (List.lt_irrefl _)];rfl
theorem IY{r:List Fact}(h:0<r.length):∀{k:Nat},k≤r.length→pY r k∈r
 |0,_=>bP h
 |k+1,hk=>by
  rw[yS hk];unfold R3
  cases decide (dR (pY r k)<dR (r.getD k default))with
  |true=>exact bP hk
  |false=>exact IY h oM
def J6(l:List Fact)(key:bJ):Option Fact:=bif ((kO l key l.length).length:Int)==0 then none else some (jE (pY (kO l key l.length) (kO l key l.length).length))
def sQ(l:List Fact)(n:Nat):List Fact:=((fV l l.length).take n).filterMap (J6 l)
theorem ZE{l:List Fact}{n:Nat}(h:n<(fV l l.length).length):sQ l (n+1)=sQ l n++(J6 l ((fV l l.length).getD n [])).toList:=by
 unfold sQ;rw[List.take_add_one,List.getElem?_eq_getElem h,aX h,List.filterMap_append]
 cases hh:J6 l (fV l l.length)[n] <;> simp[hh]
theorem aDF(l:List Fact)(n:Nat):(sQ l n).length≤n:=by unfold sQ;exact Nat.le_trans (List.length_filterMap_le _ _) zeC
abbrev aOD(l:List Fact)(i:Nat):St:=⟨[(0,cJ l),(3,.s (.mo (sQ l i).isEmpty 100)),(4,.s (.d (J4 (fV l l.length)))),(5,vI i)],[(100,some (.b8 55 (sQ l i).length 13 (nE (sQ l i))))]⟩
theorem aBC(l:List Fact)(hf:∀f∈l,f.fits)(hv:∀f∈l,f.levels.length≤1000000)(hl:l.length≤1000):aF prog 10 [cJ l] (cJ (sQ l (fV l l.length).length)):=by
 have ND:=DL l l.length (Nat.le_refl _)
 refine eW func10 rfl rfl call10 rfl rfl (fun cx aA=>?_)
 refine sX aA ?_
 refine sX aA ?_
 refine sX aA ?_
 refine aB (aK5 l hf hl) ?_
 refine AW.seq (sX aA ?_)
 refine AW.block ?_
 refine AW.cG (fun i:Nat=>aOD l i) (fun i=>i≤(fV l l.length).length) (fun i=>(fV l l.length).length - i) 0 (Nat.zero_le _) ?_ ?_
 ·exact aM.bD aA [(100,1000)] rfl ⟨⟨rfl,rfl⟩,oO⟩ ⟨qZ,⟨rfl,aU.nil rfl⟩,qZ,qZ,oO⟩
 intro i hi
 have hlen:=aDF l i
 refine sX aA ?_
 refine aI (fun h=>?_) (fun h=>?_)
 ·have h:(i:Int)<(fV l l.length).length:=bG h
  have bC:i<(fV l l.length).length:=oM
  have hs:=ZE bC
  obtain⟨key,hkk⟩:∃key,(fV l l.length).getD i []=key:=⟨_,rfl⟩
  rw[hkk]at hs
  have YJ:=GO l key l.length (Nat.le_refl _)
  have hrm:=GN (key:=key) (Nat.le_refl l.length)
  refine AW.cut (σ':=⟨[(0,cJ l),(3,.s (.mo (sQ l (i+1)).isEmpty 100)),(4,.s (.d (J4 (fV l l.length)))),(5,vI i)],[(100,some (.b8 55 (sQ l (i+1)).length 13 (nE (sQ l (i+1)))))]⟩) (AW.block ?_) ?_
  ·refine AW.cut (σ':=⟨[(0,cJ l),(3,.s (.mo (sQ l i).isEmpty 100)),(4,.s (.d (J4 (fV l l.length)))),(5,vI i),(6,cJ (kO l key l.length))],[(100,some (.b8 55 (sQ l i).length 13 (nE (sQ l i))))]⟩) (eX aA ?_) ?_
   ·refine oi ⟨oM,oM⟩ ?_
    repeat refine aR ?_
    refine aB (aEW l ((fV l l.length).getD i []) hf hl) ?_
    exact⟨rfl,aM.bD aA [] rfl ⟨bQ,oO⟩ ⟨qZ,qZ,qZ,qZ,⟨rfl,aU.of_eq (by rw[←hkk];rfl)⟩,oO⟩⟩
   have ho:J6 l key=bif ((kO l key l.length).length:Int)==0 then none else some (jE (pY (kO l key l.length) (kO l key l.length).length)):=rfl
   generalize kO l key l.length=r at ho YJ hrm
   refine AW.seq (sX aA ?_)
   refine AW.cond ?_
   refine aI (fun h2=>AW.exit ?_) (fun h2=>AW.skip ?_)
   ·have h2:((r.length:Int)==0)=true:=h2
    rw[h2]at ho
    have ho:J6 l key=none:=ho
    rw[hs,ho]
    simp only [Option.toList_none,List.append_nil]
    exact xh
   have h2:((r.length:Int)==0)=false:=h2
   rw[h2]at ho
   have ho:J6 l key=some (jE (pY r r.length)):=ho
   have hr0:0<r.length:=by
    have:(r.length:Int)≠0:=by simpa using h2
    omega
   rw[hs,ho]
   simp only [Option.toList_some]
   refine sX aA ?_
   refine oi ⟨oM,oM⟩ ?_
   repeat refine aR ?_
   refine AW.seq (sX aA ?_)
   refine AW.block ?_
   refine AW.cG (fun k:Nat=>⟨[(0,cJ l),(3,.s (.mo (sQ l i).isEmpty 100)),(4,.s (.d (J4 (fV l l.length)))),(5,vI i),(6,cJ r),(7,.s (.ptr 7 0)),(8,vI k)],[(100,some (.b8 55 (sQ l i).length 13 (nE (sQ l i)))),(7,some (.cells (xT (pY r k))))]⟩) (fun k=>1≤k∧k≤r.length) (fun k=>r.length - k) 1 ⟨Nat.le_refl 1,hr0⟩ ?_ ?_
   ·exact aM.bD aA [] rfl ⟨bQ,⟨rfl,aY.of_eq (by rw[aDM hr0];rfl)⟩,oO⟩ ⟨qZ,qZ,qZ,qZ,qZ,qZ,qZ,oO⟩
   rintro k ⟨hk1,TX⟩
   have FX:=IY hr0 TX
   refine sX aA ?_
   refine aI (fun h3=>?_) (fun h3=>?_)
   ·have h3:(k:Int)<r.length:=bG h3
    have hk3:k<r.length:=oM
    have hb:=yS hk3
    have ew:aW ((k:Int)+1)=((k+1:Nat):Int):=aG oM oM
    refine AW.seq (AW.block ?_)
    refine sX aA ?_
    refine oi ⟨oM,oM⟩ ?_
    repeat refine aR ?_
    refine aB (ED (r.getD k default) (hf _ (hrm _ (bP hk3)))) ?_
    refine sX aA ?_
    refine aB (ED (pY r k) (hf _ (hrm _ FX))) ?_
    refine sX aA ?_
    repeat refine aR ?_
    refine AW.cond ?_
    refine aI (fun h4=>?_) (fun h4=>AW.skip ?_)
    ·have h4:decide (dR (pY r k)<dR (r.getD k default))=true:=(aCP _ _).symm.trans h4
     have e4:pY r (k+1)=r.getD k default:=by rw[hb];unfold R3;rw[h4];rfl
     refine eX aA ?_
     refine oi ⟨oM,oM⟩ ?_
     repeat refine aR ?_
     exact xt
    ·have h4:decide (dR (pY r k)<dR (r.getD k default))=false:=(aCP _ _).symm.trans h4
     have e4:pY r (k+1)=pY r k:=by rw[hb];unfold R3;rw[h4];rfl
     exact xt
   ·have h3:¬(k:Int)<r.length:=bF h3
    obtain rfl:k=r.length:=oM
    refine eX aA ?_
    refine aB (aID (pY r r.length) (hv _ (hrm _ FX))) ?_
    refine ob dC ?_
    refine ob (by rw[dK];show((sQ l i).length+1)*144≤_;omega) ?_
    refine ob (nJ fun c hc=>by match c,hc with|0,_|1,_|2,_|3,_|4,_|5,_|6,_|7,_|8,_|9,_|10,_|11,_|12,_=>rfl) ?_
    refine⟨rfl,aM.bD aA [(100,63)] rfl ⟨⟨rfl,?_⟩,oO⟩ ⟨qZ,⟨rfl,aU.mo (cA _ _)⟩,qZ,qZ,oO⟩⟩
    refine aY.snoc (el:=J0) (x:=jE (pY r r.length)) fun c hc=>?_
    exact qz
  ·refine eX aA ?_
   refine⟨i+1,oM,oM,?_⟩
   exact qu
 ·have h:¬(i:Int)<(fV l l.length).length:=bF h
  obtain rfl:i=(fV l l.length).length:=oM
  exact zdc
end Go.Pj
--K78
namespace Go.Ax
end Go.Ax
namespace Go.Pj
open Go Go.Ax Go.Ch Go.Proofs Go.Proofs.Tryz
set_option maxRecDepth 100000
set_option maxHeartbeats 1000000
end Go.Pj
namespace Go.Pj
open Go Go.Ax Go.Ch Go.Proofs Go.Proofs.Tryz
theorem yM{f:Fact}(he:fR f=0):DN f=(f.kind==3)∧(f.kind=3→Lib.trimPrefix (bT f) W7=gQ f∧bT f=W7++gQ f):=by
 obtain⟨h1,_⟩:=kN he;have hb:=lO h1
 cases h3:f.kind==3 with
 |true=>
  rw[h3]at hb;have hk:bT f=W7++gQ f:=hb;have hp:DN f=true:=by unfold DN;rw[hk];exact List.isPrefixOf_iff_prefix.2 ⟨_,rfl⟩
  refine⟨hp,fun _=>⟨?_,hk⟩⟩;unfold DN at hp;unfold Lib.trimPrefix;rw[if_pos hp,hk];exact List.drop_left
 |false=>
  rw[h3]at hb;have hk:bT f=gQ f:=hb;refine⟨?_,fun h=>by rw[h]at h3;cases h3⟩;have h0:cK (fW f) f=0:=by rw[←xG];exact h1
  unfold DN;rw[hk];unfold gQ;have fJ:∀w:bJ,∀r:List bJ,Lib.hasPrefix w [119,105]=false→2≤w.length→Lib.hasPrefix (iO (w::r)) W7=false:=fun w r hw hl=>by
   match w,hl,hw with
   |a::b::w,_,hw=>
    have e:∃t,iO ((a::b::w)::r)=a::b::t:=by
     cases r with
     |nil=>exact⟨w,nB _⟩
     |cons x r=>exact⟨w++ [32]++iO (x::r),by rw[eY];simp⟩
    obtain⟨t,ht⟩:=e;rw[ht];unfold Lib.hasPrefix at hw ⊢;unfold W7;simp only [List.isPrefixOf,Bool.and_true,Bool.and_eq_false_iff]at hw ⊢;rcases hw with hw|hw
    ·exact .inl hw
    exact .inr (.inl hw)
  rcases iV h0 with⟨e,_⟩|⟨e,_⟩|⟨e,_⟩ <;> rw[e]
  ·exact fJ pR _ dC dC
  ·exact fJ AX _ dC dC
  exact fJ uK _ dC dC
theorem get_some{l:List Fact}{i:Nat}(h:i<l.length):l[i]? =some (l.getD i default):=by rw[aX h,List.getElem?_eq_getElem h]
theorem H7{l:List Fact}(hv:∀f∈l,fR f=0)(k:bJ):∀i,i≤l.length→
  (0≤tT (kL l i) k∧tT (kL l i) k≤1000001)∧∀x,0≤x→(x<tT (kL l i) k↔∃w∈l.take i,w.kind=3∧gQ w=k∧x≤w.seq)
 |0,_=>⟨⟨Int.le_refl 0,show(0:Int)≤1000001 by decide⟩,fun x hx=>⟨fun h=>by have h:x<0:=h;omega,fun ⟨w,h,_⟩=>by cases h⟩⟩
 |i+1,hi=>by
  obtain⟨ih0,ih⟩:=H7 hv k i oM;have bC:i<l.length:=hi;have hf:=hv _ (bP bC);have hm:∀w,w∈l.take (i+1)↔w∈l.take i∨w=l.getD i default:=fun w=>by rw[List.take_add_one,get_some bC];simp
  rw[LH bC];generalize l.getD i default=f at hf hm;obtain⟨w1,w2⟩:=yM hf;obtain⟨_,h2⟩:=kN hf;have hs:=within_iff.1 (lK h2);have hw:aW (f.seq+1)=f.seq+1:=aG oM oM;unfold stepG;rw[w1]
  cases h3:f.kind==3 with
  |false=>
   have h3:f.kind≠3:=by simpa using h3
   refine⟨ih0,fun x hx=>(ih x hx).trans ⟨fun ⟨w,h,r⟩=>⟨w,(hm w).2 (.inl h),r⟩,fun ⟨w,h,r⟩=>?_⟩⟩;rcases(hm w).1 h with h|rfl
   ·exact⟨w,h,r⟩
   exact absurd r.1 h3
  |true=>
   have h3:f.kind=3:=by simpa using h3
   obtain⟨e1,_⟩:=w2 h3;rw[e1,hw,cond_true];unfold tT at ih0 ih ⊢;rw[yO,sB]
   cases hk:k==gQ f with
   |false=>
    have hk:k≠gQ f:=by simpa using hk
    refine⟨ih0,fun x hx=>(ih x hx).trans ⟨fun ⟨w,h,r⟩=>⟨w,(hm w).2 (.inl h),r⟩,fun ⟨w,h,r⟩=>?_⟩⟩;rcases(hm w).1 h with h|rfl
    ·exact⟨w,h,r⟩
    exact absurd r.2.1.symm hk
   |true=>
    have hk:k=gQ f:=by simpa using hk
    subst hk;rw[cond_true];have em:mm true (gW (kL l i) (bs (gQ f))) (f.seq+1)=max (gW (kL l i) (bs (gQ f))) (f.seq+1):=by show(if f.seq+1>gW (kL l i) (bs (gQ f))then f.seq+1 else gW (kL l i) (bs (gQ f)))=_;omega
    rw[em];refine⟨oM,fun x hx=>⟨fun h=>?_,fun ⟨w,h,r⟩=>?_⟩⟩
    ·by_cases h5:x<gW (kL l i) (bs (gQ f))
     ·obtain⟨w,a,b⟩:=(ih x hx).1 h5;exact⟨w,(hm w).2 (.inl a),b⟩
     exact⟨f,(hm f).2 (.inr rfl),h3,rfl,oM⟩
    rcases(hm w).1 h with h|rfl
    ·have:=(ih x hx).2 ⟨w,h,r⟩;omega
    have:=r.2.2;omega
def AH(l:List Fact)(k:bJ)(i:Nat):List Fact:=(l.take i).filter fun f=>f.kind !=3&&bT f==k
def U9(l:List Fact)(k:bJ)(i:Nat):List bJ:=(AH l k i).map dR
theorem YX{l:List Fact}{k:bJ}{i:Nat}(h:i<l.length):AH l k (i+1)=AH l k i++(bif (l.getD i default).kind !=3&&bT (l.getD i default)==k then [l.getD i default]else []):=by
 unfold AH;rw[List.take_add_one,get_some h,List.filter_append];simp only [Option.toList_some,List.filter_cons,List.filter_nil]
 cases((l.getD i default).kind !=3&&bT (l.getD i default)==k) <;> rfl
theorem aBL{E:List gL}(hn:(E.map (·.1)).Nodup){i j:Nat}{e x:gL}(hi:E[i]? =some e)(hj:E[j]? =some x)(h:e.1=x.1):i=j:=by have h1:=LN (i:=0) hn hi;have h2:=LN (i:=0) hn hj;rw[h,h2]at h1;have:=congrArg Prod.fst (Option.some.inj h1);simpa using this.symm
theorem NV{l:List Fact}(hv:∀f∈l,fR f=0):∀i,i≤l.length→(∀e∈fM l i,e.2.1=U9 l e.1 i)∧∀k,AH l k i≠[]→k∈(fM l i).map (·.1)
 |0,_=>⟨fun e h=>zfb,fun k h=>absurd rfl h⟩
 |i+1,hi=>by
  obtain⟨ih1,ih2⟩:=NV hv i oM;have bC:i<l.length:=hi;have hf:=hv _ (bP bC);have hn:=(rZ l i).keys;have hs:∀k,AH l k (i+1)=_:=fun k=>YX (k:=k) bC
  rw[p9 bC];generalize l.getD i default=f at hf hs;obtain⟨w1,_⟩:=yM hf;unfold A3;rw[w1]
  cases h3:f.kind==3 with
  |true=>
   have e:∀k,AH l k (i+1)=AH l k i:=fun k=>by rw[hs,show(f.kind !=3)=false by simp[bne,h3]];simp
   refine⟨fun x hx=>?_,fun k hk=>?_⟩
   ·rw[ih1 x hx];unfold U9;rw[e]
   rw[e]at hk;exact ih2 k hk
  |false=>
   have e:∀k,AH l k (i+1)=AH l k i++bif bT f==k then [f]else []:=fun k=>by rw[hs,show(f.kind !=3)=true by simp[bne,h3],Bool.true_and]
   have eo:∀k,bT f≠k→AH l k (i+1)=AH l k i:=fun k hk=>by rw[e,show(bT f==k)=false by simpa using hk];simp
   have es:U9 l (bT f) (i+1)=U9 l (bT f) i++ [dR f]:=by unfold U9;rw[e,beq_self_eq_true];simp
   rw[cond_false];unfold o6
   cases uZ:fE (fM l i) (bT f) 0 with
   |some p=>
    obtain⟨j,e0⟩:=p;obtain⟨_,q2,q3⟩:=xU uZ;have q2:(fM l i)[j]? =some e0:=q2;have q3:e0.1=bT f:=q3;refine⟨fun x hx=>?_,fun k hk=>?_⟩
    ·obtain⟨m,hm⟩:=List.getElem?_of_mem hx;rw[List.getElem?_modify]at hm;by_cases hjm:j=m
     ·subst hjm;rw[q2]at hm;simp only [if_true,Option.map_eq_map,Option.map_some,Option.some.injEq]at hm;subst hm;show e0.2.1++ [dR f]=U9 l e0.1 (i+1);rw[ih1 e0 (List.mem_of_getElem? q2),q3,es]
     simp only [if_neg hjm]at hm;have hm:(fM l i)[m]? =some x:=by
      cases hq:(fM l i)[m]? with
      |none=>rw[hq]at hm;cases hm
      |some y=>rw[hq]at hm;simpa using hm
     have fJ:bT f≠x.1:=fun hx=>hjm (aBL hn q2 hm (q3.trans hx))
     rw[ih1 x (List.mem_of_getElem? hm)];unfold U9;rw[eo _ fJ]
    have:((fM l i).modify j fun e=>(e.1,e.2.1++ [dR f],e.2.2)).map (·.1)=(fM l i).map (·.1):=by
     apply List.ext_getElem?;intro m;rw[List.getElem?_map,List.getElem?_map,List.getElem?_modify]
     cases(fM l i)[m]? with
     |none=>rfl
     |some y=>by_cases hjm:j=m <;> simp[hjm]
    rw[this];by_cases hkk:bT f=k
    ·subst hkk;exact List.mem_map.2 ⟨e0,List.mem_of_getElem? q2,q3⟩
    rw[eo k hkk]at hk;exact ih2 k hk
   |none=>
    have hnk:=NR uZ;have h0:AH l (bT f) i=[]:=Classical.byContradiction fun h=>hnk (ih2 _ h)
    refine⟨fun x hx=>?_,fun k hk=>?_⟩
    ·rcases List.mem_append.1 hx with hx|hx
     ·have fJ:bT f≠x.1:=fun h=>hnk (h▸List.mem_map.2 ⟨x,hx,rfl⟩)
      rw[ih1 x hx];unfold U9;rw[eo _ fJ]
     obtain rfl:=List.mem_singleton.1 hx;show [dR f]=U9 l (bT f) (i+1);rw[es];unfold U9;rw[h0];rfl
    rw[List.map_append];by_cases hkk:bT f=k
    ·subst hkk;exact List.mem_append_right _ (List.mem_singleton.2 rfl)
    rw[eo k hkk]at hk;exact List.mem_append_left _ (ih2 k hk)
def zT(L:List Fact):List Fact:=L.filter fun f=>L.all fun h=>decide (h.seq≤f.seq)
theorem BP{L:List Fact}{x:Fact}:x∈zT L↔x∈L∧∀h∈L,h.seq≤x.seq:=by unfold zT;rw[List.mem_filter,List.all_eq_true];simp only [decide_eq_true_eq]
theorem aEC:∀{L:List Fact},L≠[]→zT L≠[]
 |[],h=>absurd rfl h
 |a::L,_=>by
  have:∃x∈a::L,∀h∈a::L,h.seq≤x.seq:=by
   induction L with
   |nil=>exact⟨a,List.mem_cons_self ..,fun h hh=>by rw[List.mem_singleton.1 hh];exact Int.le_refl _⟩
   |cons b L ih=>
    obtain⟨x,hx,hm⟩:=ih sM;by_cases h:b.seq≤x.seq
    ·refine⟨x,?_,fun y hy=>?_⟩
     ·rcases List.mem_cons.1 hx with rfl|hx
      ·exact List.mem_cons_self ..
      exact List.mem_cons_of_mem _ (List.mem_cons_of_mem _ hx)
     rcases List.mem_cons.1 hy with rfl|hy
     ·exact hm _ (List.mem_cons_self ..)
     rcases List.mem_cons.1 hy with rfl|hy
     ·exact h
     exact hm _ (List.mem_cons_of_mem _ hy)
    refine⟨b,List.mem_cons_of_mem _ (List.mem_cons_self ..),fun y hy=>?_⟩;rcases List.mem_cons.1 hy with rfl|hy
    ·have:=hm _ (List.mem_cons_self ..);omega
    rcases List.mem_cons.1 hy with rfl|hy
    ·exact Int.le_refl _
    have:=hm _ (List.mem_cons_of_mem _ hy);omega
  obtain⟨x,hx,hm⟩:=this;exact List.ne_nil_of_mem (BP.2 ⟨hx,hm⟩)
theorem aAG(L:List Fact)(f:Fact):rvP (MB (zT L) f) f=zT (L++ [f]):=by
 cases hL:L with
 |nil=>simp[zT,MB,rvP]
 |cons a L'=>
  rw[←hL];have fJ:=aEC (L:=L) (by rw[hL];simp)
  cases ht:zT L with
  |nil=>exact absurd ht fJ
  |cons o r=>
   have ho:=BP.1 (show o∈zT L by rw[ht];exact List.mem_cons_self ..);have e1:zT (L++ [f])=(zT L).filter (fun x=>decide (f.seq≤x.seq))++(bif decide (o.seq≤f.seq)then [f]else []):=by
    unfold zT;rw[List.filter_append,List.filter_filter];congr 1
    ·refine List.filter_congr fun x _=>?_
     rw[List.all_append];simp only [List.all_cons,List.all_nil,Bool.and_true];rw[Bool.and_comm]
    simp only [List.filter_cons,List.filter_nil,List.all_append,List.all_cons,List.all_nil,Bool.and_true,Int.le_refl,decide_true];have:(L.all fun h=>decide (h.seq≤f.seq))=decide (o.seq≤f.seq):=by rw[Bool.eq_iff_iff,List.all_eq_true,decide_eq_true_eq];simp only [decide_eq_true_eq];exact⟨fun h=>h _ ho.1,fun h x hx=>Int.le_trans (ho.2 x hx) h⟩
    rw[this]
    cases decide (o.seq≤f.seq) <;> rfl
   rw[e1,ht];have lC:∀x∈o::r,x.seq=o.seq:=fun x hx=>by have hx:=BP.1 (ht▸hx);have:=ho.2 x hx.1;have:=hx.2 o ho.1;omega
   have g0:(o::r).getD 0 default=o:=rfl;have gl:decide ((((o::r).length:Nat):Int)>0)=true:=decide_eq_true (by simp only [List.length_cons];omega);have gz:((((o::r).length:Nat):Int)==0)=false:=by rw[beq_eq_false_iff_ne];simp only [List.length_cons];omega
   by_cases h:f.seq>o.seq
   ·have hd:MB (o::r) f=[]:=by unfold MB;rw[gl,g0,decide_eq_true h];rfl
    have hf:(o::r).filter (fun x=>decide (f.seq≤x.seq))=[]:=List.filter_eq_nil_iff.2 fun x hx=>by exact zdX
    rw[hd,hf,decide_eq_true (show o.seq≤f.seq by omega)];rfl
   have hd:MB (o::r) f=o::r:=by unfold MB;rw[gl,g0,decide_eq_false h];rfl
   have hf:(o::r).filter (fun x=>decide (f.seq≤x.seq))=o::r:=List.filter_eq_self.2 fun x hx=>by exact zdX
   rw[hd,hf];unfold rvP;rw[gz,g0,Bool.false_or];have:(f.seq==o.seq)=decide (o.seq≤f.seq):=by rw[Bool.eq_iff_iff,beq_iff_eq,decide_eq_true_eq];omega
   rw[this]
   cases decide (o.seq≤f.seq)with
   |true=>rfl
   |false=>exact(List.append_nil _).symm
theorem GM(l:List Fact)(key:bJ):∀i,i≤l.length→kO l key i=zT ((l.take i).filter (VH l key))
 |0,_=>rfl
 |i+1,hi=>by
  rw[yI hi,GM l key i oM,List.take_add_one,get_some hi,List.filter_append];unfold Z1;simp only [Option.toList_some,List.filter_cons,List.filter_nil]
  cases VH l key (l.getD i default)with
  |true=>simp only [cond_true,if_true];exact aAG _ _
  |false=>simp
theorem VG{l:List Fact}(hv:∀f∈l,fR f=0)(key:bJ){f:Fact}(hf:f∈l):
  VH l key f=((f.kind !=3&&bT f==key)&&decide (tT (kL l l.length) key≤f.seq)):=by
 obtain⟨hb,hg⟩:=H7 hv key l.length (Nat.le_refl _)
 rw[List.take_length]at hg
 obtain⟨_,h2⟩:=kN (hv f hf)
 have hs:=within_iff.1 (lK h2)
 have aO4:bT f=key→AT l f= !decide (tT (kL l l.length) key≤f.seq):=fun hk=>by
  rw[Bool.eq_iff_iff,Bool.not_eq_true',decide_eq_false_iff_not];unfold AT;rw[List.any_eq_true];constructor
  ·rintro⟨w,hw,hm⟩;unfold wdM at hm;simp only [Bool.and_eq_true,beq_iff_eq,decide_eq_true_eq]at hm;obtain⟨⟨m1,m2⟩,m3⟩:=hm;have e:=(yM (hv w hw)).2 m1;rw[e.2,hk]at m2;have:=(hg f.seq hs.1).2 ⟨w,hw,m1,List.append_cancel_left m2,m3⟩;omega
  intro h;obtain⟨w,hw,m1,m2,m3⟩:=(hg f.seq hs.1).1 oM;refine⟨w,hw,?_⟩;unfold wdM;have e:=(yM (hv w hw)).2 m1;rw[m1,e.2,m2,hk];simp only [beq_self_eq_true,Bool.true_and,decide_eq_true_eq];exact m3
 unfold VH
 cases hk:bT f==key with
 |false=>simp[bne,hk]
 |true=>
  rw[aO4 (by simpa using hk)];simp only [bne,hk,Bool.not_true,Bool.false_or,Bool.and_true]
  cases f.kind==3 <;> simp
theorem aCU(L:List Fact):∀a x:Int,L.foldl (fun a f=>mm true a f.seq) a≤x↔a≤x∧∀f∈L,f.seq≤x:=by
 induction L with
 |nil=>intro a x;simp
 |cons f L ih=>
  intro a x;rw[List.foldl_cons,ih];have:mm true a f.seq=max a f.seq:=by show(if f.seq>a then f.seq else a)=_;omega
  rw[this];constructor
  ·rintro⟨h1,h2⟩;refine⟨oM,fun y hy=>?_⟩;rcases List.mem_cons.1 hy with rfl|hy
   ·omega
   exact h2 y hy
  rintro⟨h1,h2⟩;have:=h2 f (List.mem_cons_self ..);exact⟨oM,fun y hy=>h2 y (List.mem_cons_of_mem _ hy)⟩
theorem VO{f:Fact}(he:fR f=0):rU (dR f)=jE f:=LZ he
theorem VE{f:Fact}(he:fR f=0):(rU (dR f)).seq=f.seq:=by rw[VO he];rfl
theorem Q8:∀(L:List Fact) (a:Int),(∀f∈L,fR f=0)→(L.map dR).foldl (fun a t=>mm true a (rU t).seq) a=L.foldl (fun a f=>mm true a f.seq) a
 |[],_,_=>rfl
 |f::L,a,h=>by rw[List.map_cons,List.foldl_cons,List.foldl_cons,VE (h f (List.mem_cons_self ..))];exact Q8 L _ fun x hx=>h x (List.mem_cons_of_mem _ hx)
theorem QG{l:List Fact}(hv:∀f∈l,fR f=0)(k:bJ):fX (kL l l.length) k (U9 l k l.length)=(kO l k l.length).map dR:=by
 obtain⟨hb,_⟩:=H7 hv k l.length (Nat.le_refl _);rw[GM l k l.length (Nat.le_refl _)];unfold fX P8 U9 AH;rw[List.take_length];have hA:∀f∈l.filter (fun f=>f.kind !=3&&bT f==k),fR f=0:=fun f hf=>hv f (List.mem_filter.1 hf).1
 rw[Q8 _ _ hA];generalize hg:tT (kL l l.length) k=g at hb;have hw:aW (g - 1)=g - 1:=aG oM oM;rw[hw];generalize hl:(l.filter fun f=>f.kind !=3&&bT f==k).foldl (fun a f=>mm true a f.seq) (g - 1)=last;have qP:∀x,last≤x↔g - 1≤x∧∀f∈l.filter (fun f=>f.kind !=3&&bT f==k),f.seq≤x:=fun x=>by rw[←hl];exact aCU _ _ _
 unfold dM;rw[List.filter_map];congr 1;have e2:l.filter (VH l k)=(l.filter fun f=>f.kind !=3&&bT f==k).filter (fun f=>decide (g≤f.seq)):=by
  rw[List.filter_filter];refine List.filter_congr fun f hf=>?_
  rw[VG hv k hf,hg,Bool.and_comm]
 rw[e2];generalize (l.filter fun f=>f.kind !=3&&bT f==k)=A at hA qP;unfold zT;rw[List.filter_filter];refine List.filter_congr fun f hf=>?_
 show(!RI last g (dR f))=_;unfold RI;rw[VE (hA f hf),Bool.eq_iff_iff];simp only [Bool.not_eq_true',Bool.or_eq_false_iff,decide_eq_false_iff_not,Bool.and_eq_true,decide_eq_true_eq,List.all_eq_true,List.mem_filter,Int.not_lt];rw[qP];constructor
 ·rintro⟨⟨_,h1⟩,h2⟩;exact⟨fun x hx=>h1 x hx.1,h2⟩
 rintro⟨h1,h2⟩;refine⟨⟨oM,fun x hx=>?_⟩,h2⟩;rcases Int.lt_or_le x.seq g with h|h
 ·omega
 exact h1 x ⟨hx,h⟩
theorem RJ(l:List bJ):∀n,n+1≤l.length→(zA l (n+1)).getLast?=some (l.getD n [])
 |0,_=>by rw[q6];rfl
 |n+1,h=>by
  have ih:=RJ l n oM;rw[q6]
  cases hq:qd l (n+1)with
  |true=>simp
  |false=>rw[cond_false,List.append_nil,ih];unfold qd at hq;simp only [Bool.or_eq_false_iff,Bool.not_eq_false',beq_iff_eq]at hq;rw[hq.2,Nat.add_sub_cancel]
theorem O2(l:List bJ):(hV l).Pairwise fun a b=>a≤b:=by exact qy
theorem O3{l:List bJ}{x:bJ}:x∈hV l↔x∈l:=(List.mergeSort_perm _ _).mem_iff
theorem aJK{ts:List bJ}(h:ts≠[]):(rG (hV ts)).getD ((rG (hV ts)).length - 1) []∈ts∧∀t∈ts,t≤(rG (hV ts)).getD ((rG (hV ts)).length - 1) []:=by
 have hl:0<(hV ts).length:=by rw[qF];exact List.length_pos_iff.2 h
 obtain⟨n,hn⟩:∃n,(hV ts).length=n+1:=⟨(hV ts).length - 1,oM⟩;have e:=RJ (hV ts) n oM;have e2:(rG (hV ts)).getD ((rG (hV ts)).length - 1) []=(hV ts).getD n []:=by unfold rG;rw[hn,List.getD_eq_getElem?_getD,←List.getLast?_eq_getElem?,e];rfl
 rw[e2];refine⟨O3.1 (bP oM),fun t ht=>?_⟩;obtain⟨j,hj⟩:=List.getElem?_of_mem (O3.2 ht);have hj1:=(List.getElem?_eq_some_iff.1 hj).1;have hj2:=(List.getElem?_eq_some_iff.1 hj).2;rcases Nat.lt_or_ge j n with h1|h1
 ·have:=List.pairwise_iff_getElem.1 (O2 ts) j n hj1 oM h1;rw[hj2]at this;rw[aX oM];exact this
 obtain rfl:j=n:=oM;rw[aX hj1,hj2];exact List.le_refl _
theorem WW{r:List Fact}:∀{k:Nat},k≤r.length→∀f∈r.take k,dR f≤dR (pY r k)
 |0,_,f,h=>by cases h
 |k+1,hk,f,h=>by
  have ih:=WW (r:=r) (k:=k) oM;rw[List.take_add_one,get_some hk]at h;rw[yS hk];unfold R3;have h:f∈r.take k∨f=r.getD k default:=by simpa using h
  cases hd:decide (dR (pY r k)<dR (r.getD k default))with
  |true=>
   have hd:=of_decide_eq_true hd;rcases h with h|rfl
   ·exact List.le_trans (ih f h) (List.le_of_lt hd)
   exact List.le_refl _
  |false=>
   have hd:=of_decide_eq_false hd;rcases h with h|rfl
   ·exact ih f h
   exact List.not_lt.1 hd
theorem P9{l:List Fact}(hv:∀f∈l,fR f=0){e:gL}(he:e∈pT l):kO l e.1 l.length≠[]∧rU (zH (pT l) e.1)=jE (pY (kO l e.1 l.length) (kO l e.1 l.length).length):=by
 obtain⟨x,hx,h1,_,h3,h4⟩:=A4 he;have htx:=(NV hv l.length (Nat.le_refl _)).1 x hx;have hkr:=QG hv x.1;have hp:e.2.1=rG (hV ((kO l x.1 l.length).map dR)):=by rw[h3];unfold rV;rw[htx,hkr]
 have fJ:kO l x.1 l.length≠[]:=fun h=>by rw[h]at hp;exact h4 (by rw[hp];show zA (hV []) (hV ([]:List bJ)).length=[];rw[qF];rfl)
 rw[h1];refine⟨fJ,?_⟩;obtain⟨j,hj⟩:=List.getElem?_of_mem he;have uZ:=LN (i:=0) (C9 l) hj;unfold zH;rw[←h1,uZ];show rU (e.2.1.getD (e.2.1.length - 1) [])=_;rw[hp,h1];generalize hr:kO l x.1 l.length=r at fJ;have YJ:∀f∈r,fR f=0:=fun f hf=>hv f (GN (Nat.le_refl _) f (hr▸hf))
 obtain⟨m1,m2⟩:=aJK (ts:=r.map dR) (by simpa using fJ);have hb:=IY (List.length_pos_iff.2 fJ) (Nat.le_refl r.length);have FX:=WW (r:=r) (Nat.le_refl _);rw[List.take_length]at FX;obtain⟨f,hf,uZ⟩:=List.mem_map.1 m1;have e1:(rG (hV (r.map dR))).getD ((rG (hV (r.map dR))).length - 1) []=dR (pY r r.length):=
  List.le_antisymm (uZ▸FX f hf) (m2 _ (List.mem_map.2 ⟨_,hb,rfl⟩))
 rw[e1,VO (YJ _ hb)]
theorem OY{l:List Fact}(hv:∀f∈l,fR f=0)(k:bJ):k∈(pT l).map (·.1)↔kO l k l.length≠[]:=by
 constructor
 ·intro h;obtain⟨e,he,rfl⟩:=List.mem_map.1 h;exact(P9 hv he).1
 intro h;have hkr:=QG hv k;have hA:AH l k l.length≠[]:=fun h0=>by
  have:U9 l k l.length=[]:=by unfold U9;rw[h0];rfl
  rw[this]at hkr;have e0:fX (kL l l.length) k []=[]:=rfl;rw[e0]at hkr;exact h (List.map_eq_nil_iff.1 hkr.symm)
 obtain⟨p1,p2⟩:=NV hv l.length (Nat.le_refl _);obtain⟨x,hx,rfl⟩:=List.mem_map.1 (p2 k hA);have htx:=p1 x hx;unfold pT NP;refine List.mem_map.2 ⟨(x.1,rV (kL l l.length) x.1 x.2.1,x.2.2),List.mem_filterMap.2 ⟨x,hx,?_⟩,rfl⟩;unfold zQ;rw[htx,hkr];have:((kO l x.1 l.length).map dR).isEmpty=false:=by
  cases hq:kO l x.1 l.length with
  |nil=>exact absurd hq h
  |cons a b=>rfl
 rw[this];rfl
theorem VR{s:bJ}:∀{l:List bJ} {x:bJ},x∈l.take (lL s l)→x<s
 |[],_,h=>by simp at h
 |a::l,x,h=>by
  rw[lL]at h
  cases hd:decide (a<s)with
  |true=>
   rw[hd,cond_true,List.take_succ_cons]at h;rcases List.mem_cons.1 h with rfl|h
   ·exact of_decide_eq_true hd
   exact VR h
  |false=>rw[hd]at h;cases h
theorem MM{s:bJ}:∀{l:List bJ},l.Pairwise (fun a b=>a<b)→∀x∈l.drop (lL s l),s≤x
 |[],_,x,h=>by simp at h
 |a::l,hp,x,h=>by
  obtain⟨h1,h2⟩:=List.pairwise_cons.1 hp;rw[lL]at h
  cases hd:decide (a<s)with
  |true=>rw[hd,cond_true,List.drop_succ_cons]at h;exact MM h2 x h
  |false=>
   rw[hd]at h;have hsa:=List.not_lt.1 (of_decide_eq_false hd);rcases List.mem_cons.1 h with rfl|h
   ·exact hsa
   exact List.le_trans hsa (List.le_of_lt (h1 x h))
theorem aBE{l:List bJ}(s:bJ)(hp:l.Pairwise fun a b=>a<b):(GX l s).Pairwise (fun a b=>a<b)∧∀x,x∈GX l s↔x∈l∨x=s:=by
 unfold GX
 cases hc:decide (lL s l<l.length)&&l.getD (lL s l) []==s with
 |true=>
  simp only [Bool.and_eq_true,decide_eq_true_eq,beq_iff_eq]at hc;have hm:s∈l:=by have h:l.getD (lL s l) default∈l:=bP hc.1;rwa [show l.getD (lL s l) default=s from hc.2]at h
  exact⟨hp,fun x=>⟨.inl,fun h=>h.elim id fun h=>h▸hm⟩⟩
 |false=>
  rw[cond_false];have hd:∀x∈l.drop (lL s l),s<x:=fun x hx=>by
   by_cases h:s<x
   ·exact h
   exfalso;obtain rfl:s=x:=List.le_antisymm (MM hp x hx) (List.not_lt.1 h);obtain⟨j,hj⟩:=List.getElem?_of_mem hx;rw[List.getElem?_drop]at hj;have hj1:=(List.getElem?_eq_some_iff.1 hj).1;have hi:lL s l<l.length:=oM;have h0:s≤l.getD (lL s l) []:=MM hp _ (by rw[aX hi];exact List.mem_of_getElem? (i:=0) (by rw[List.getElem?_drop,Nat.add_zero,List.getElem?_eq_getElem hi]));have h1:l.getD (lL s l) []≤s:=by
    rw[aX hi];rcases Nat.eq_zero_or_pos j with rfl|hjp
    ·rw[Nat.add_zero,List.getElem?_eq_getElem hi]at hj;rw[Option.some.inj hj];exact List.le_refl _
    have:=List.pairwise_iff_getElem.1 hp (lL s l) (lL s l+j) hi hj1 oM;rw[(List.getElem?_eq_some_iff.1 hj).2]at this;exact List.le_of_lt this
   have:l.getD (lL s l) []=s:=List.le_antisymm h1 h0;rw[decide_eq_true hi,this,beq_self_eq_true]at hc
   cases hc
  refine⟨?_,fun x=>?_⟩
  ·have hp':=List.take_append_drop (lL s l) l▸hp;obtain⟨a1,a2,a3⟩:=List.pairwise_append.1 hp';refine List.pairwise_append.2 ⟨a1,List.pairwise_cons.2 ⟨hd,a2⟩,fun x hx y hy=>?_⟩;rcases List.mem_cons.1 hy with rfl|hy
   ·exact VR hx
   exact a3 x hx y hy
  rw[List.mem_append,List.mem_cons];have:x∈l↔x∈l.take (lL s l)∨x∈l.drop (lL s l):=by
   conv=>lhs;rw[←List.take_append_drop (lL s l) l]
   exact List.mem_append
  rw[this];constructor
  ·rintro(h|h|h)
   ·exact .inl (.inl h)
   ·exact .inr h
   exact .inl (.inr h)
  rintro((h|h)|h)
  ·exact .inl h
  ·exact .inr (.inr h)
  exact .inr (.inl h)
theorem K5(l:List Fact):∀i,i≤l.length→(fV l i).Pairwise (fun a b=>a<b)∧∀k,k∈fV l i↔∃f∈l.take i,(f.kind !=3)=true∧bT f=k
 |0,_=>⟨List.Pairwise.nil,fun k=>⟨fun h=>zfb,fun ⟨f,h,_⟩=>zfb⟩⟩
 |i+1,hi=>by
  obtain⟨h1,h2⟩:=K5 l i oM;rw[zY hi,List.take_add_one,get_some hi];unfold QF;have hm:∀f,f∈l.take i++(some (l.getD i default)).toList↔f∈l.take i∨f=l.getD i default:=fun f=>by simp
  cases hk:(l.getD i default).kind !=3 with
  |true=>
   obtain⟨q1,q2⟩:=aBE (bT (l.getD i default)) h1;refine⟨q1,fun k=>(q2 k).trans ?_⟩;rw[h2];constructor
   ·rintro(⟨f,a,b⟩|rfl)
    ·exact⟨f,(hm f).2 (.inl a),b⟩
    exact⟨_,(hm _).2 (.inr rfl),hk,rfl⟩
   rintro⟨f,a,b⟩;rcases(hm f).1 a with a|rfl
   ·exact .inl ⟨f,a,b⟩
   exact .inr b.2.symm
  |false=>
   refine⟨h1,fun k=>(h2 k).trans ?_⟩;constructor
   ·rintro⟨f,a,b⟩;exact⟨f,(hm f).2 (.inl a),b⟩
   rintro⟨f,a,b⟩;rcases(hm f).1 a with a|rfl
   ·exact⟨f,a,b⟩
   rw[hk]at b;cases b.1
def ME(l:List Fact)(k:bJ):Bool:= !(((kO l k l.length).length:Int)==0)
theorem PF{l:List Fact}{k:bJ}:ME l k=true↔kO l k l.length≠[]:=by
 unfold ME
 cases kO l k l.length with
 |nil=>simp
 |cons a b=>simp;omega
theorem XF{l:List Fact}(hv:∀f∈l,fR f=0):pS l=(fV l l.length).filter (ME l):=by
 obtain⟨h1,h2⟩:=K5 l l.length (Nat.le_refl _);rw[List.take_length]at h2;have hs:((fV l l.length).filter (ME l)).Pairwise fun a b=>a<b:=h1.filter _
 unfold pS;refine(rP _ _ ?_ ?_).symm
 ·have YP:((fV l l.length).filter (ME l)).Nodup:=hs.imp fun {a b} (h:a<b) (e:a=b)=>by subst e;exact List.lt_irrefl _ h
  refine(List.perm_ext_iff_of_nodup YP (C9 l)).2 fun k=>?_
  rw[List.mem_filter,PF,OY hv];refine⟨fun h=>h.2,fun h=>⟨(h2 k).2 ?_,h⟩⟩;rw[GM l k l.length (Nat.le_refl _),List.take_length]at h
  cases hq:zT (l.filter (VH l k))with
  |nil=>exact absurd hq h
  |cons f r=>have hf:=(BP.1 (show f∈zT (l.filter (VH l k)) by rw[hq];exact List.mem_cons_self ..)).1;obtain⟨a,b⟩:=List.mem_filter.1 hf;rw[VG hv k a]at b;simp only [Bool.and_eq_true,beq_iff_eq]at b;exact⟨f,a,b.1.1,b.1.2⟩
 refine hs.imp fun {a b} h=>?_
 rw[ltB,decide_eq_false_iff_not];exact List.lt_asymm h
theorem aJO{l:List Fact}(hv:∀f∈l,fR f=0):sQ l (fV l l.length).length=cntF l:=by
 unfold sQ cntF;rw[List.take_length,XF hv];have hk:∀k∈fV l l.length,ME l k=true→rU (zH (pT l) k)=jE (pY (kO l k l.length) (kO l k l.length).length):=fun k _ h=>by obtain⟨e,he,rfl⟩:=List.mem_map.1 ((OY hv k).2 (PF.1 h));exact(P9 hv he).2
 generalize fV l l.length=ks at hk;induction ks with
 |nil=>rfl
 |cons k ks ih=>
  have ih:=ih fun x hx=>hk x (List.mem_cons_of_mem _ hx)
  rw[List.filterMap_cons,List.filter_cons]
  cases h:ME l k with
  |true=>
   have e:J6 l k=some (jE (pY (kO l k l.length) (kO l k l.length).length)):=by unfold J6;rw[show(((kO l k l.length).length:Int)==0)=false by unfold ME at h;simpa using h];rfl
   rw[e,if_pos rfl,List.map_cons,hk k (List.mem_cons_self ..) h,ih]
  |false=>
   have e:J6 l k=none:=by unfold J6;rw[show(((kO l k l.length).length:Int)==0)=true by unfold ME at h;simpa using h];rfl
   rw[e];simpa using ih
def aC7(p:Proj)(fs:List Fact)(m:Int):List Int→eV
 |[]=>[(1001,.cells (l0 p fs)),(1002,.cells [.d (dI m)]),(1003,.cells [.d eO])]
 |x::r=>[(1001,.cells (l0 p fs)),(1002,.cells [.d (dI m)]),(1003,.cells [.own 1004]),(1004,.row 3 (x::r).length 1 (cP (x::r)))]
abbrev aJ4:SV:=.dZ 70 [.ptr 1001 0,.ptr 1002 0,.ptr 1003 0]
theorem aDY(p:Proj)(fs:List Fact)(m:Int)(l:List Int)(i:Nat)(hl:fs.length≤9223372036854775807)
  (hc:∀f∈fs,f.kind=0→i<f.levels.length) (h:(fF p fs m i).2=false):
  bW prog 70 [vI i,.s (.ptr 1001 0),.s (.ptr 1002 0),.s (.ptr 1003 0)] (aC7 p fs m l) (vI (fF p fs m i).1) (aC7 p fs m l):=by
 cases l with
 |nil=>
  refine gH (rc:=[]) (N:=21) func70 rfl rfl call70 aJ mix rfl rfl rfl rfl (fun cx aA=>?_);refine aB (uP p fs m i hl hc) (aI (fun h1=>?_) (fun _=>?_))
  ·exact zdL
  exact⟨aC.refl _,rfl,rfl,rfl,oO⟩
 |cons x r=>
  refine gH (rc:=[]) (N:=21) func70 rfl rfl call70 aJ mix rfl rfl rfl rfl (fun cx aA=>?_);refine aB (uP p fs m i hl hc) (aI (fun h1=>?_) (fun _=>?_))
  ·exact zdL
  exact⟨aC.refl _,rfl,rfl,rfl,rfl,oO⟩
theorem W0(p:Proj)(fs:List Fact)(m:Int)(l:List Int)(i:Nat)(hl:fs.length≤9223372036854775807)(TW:l.length≤1000000)
  (hc:∀f∈fs,f.kind=0→i<f.levels.length) (h:(fF p fs m i).2=true):
  ∃n f,iJ 1 n f (fun x _=>dI x) (l++ [(i:Int)])∧
  bW prog 70 [vI i,.s (.ptr 1001 0),.s (.ptr 1002 0),.s (.ptr 1003 0)] (aC7 p fs m l) (vI (fF p fs m i).1) [(1001,.cells (l0 p fs)),(1002,.cells [.d (dI m)]),(1003,.cells [.own 19]),(19,.row 3 n 1 f)]:=by
 cases l with
 |nil=>
  apply Exists.intro;apply Exists.intro;apply And.intro;rotate_left
  ·refine E9 (rc:=[]) (N:=21) func70 rfl rfl call70 aJ mix rfl rfl rfl (fun cx aA=>?_);refine aB (uP p fs m i hl hc) (aI (fun _=>?_) (fun h1=>?_))
   ·refine ob dC (ob dC ?_);exact zdb
   exact zdw
  all_goals exact iJ.one (AS rfl)
 |cons x r=>
  apply Exists.intro;apply Exists.intro;apply And.intro;rotate_left
  ·refine E9 (rc:=[]) (N:=21) func70 rfl rfl call70 aJ mix rfl rfl rfl (fun cx aA=>?_);refine aB (uP p fs m i hl hc) (aI (fun _=>?_) (fun h1=>?_))
   ·refine ob (by show((x::r).length+1)*8≤_;omega) ?_;exact ob (nJ (AS rfl)) zdb
   exact zdw
  all_goals exact iJ.snoc (iJ.refl (l:=x::r) (el:=fun (x:Int) (_:Nat)=>dI x)) (AS rfl)
def gY(p:Proj)(fs:List Fact)(m:Int)(i:Nat):List Int:=(List.range i).filterMap fun k=>bif (fF p fs m k).2 then some (k:Int)else none
def fK(p:Proj)(fs:List Fact)(m:Int)(i:Nat):List Int:=(List.range i).map fun k=>(fF p fs m k).1
theorem IJ(p:Proj)(fs:List Fact)(m:Int)(i:Nat):gY p fs m (i+1)=bif (fF p fs m i).2 then gY p fs m i++ [(i:Int)]else gY p fs m i:=by
 unfold gY;rw[c8]
 cases(fF p fs m i).2 <;> simp
theorem DY(p:Proj)(fs:List Fact)(m:Int)(i:Nat):(gY p fs m i).length≤i:=by have:=List.length_filterMap_le (fun k=>bif (fF p fs m k).2 then some (k:Int)else none) (List.range i);exact zbD
theorem X7(p:Proj)(fs:List Fact)(m:Int)(i:Nat):fK p fs m (i+1)=fK p fs m i++ [(fF p fs m i).1]:=by unfold fK;rw[List.range_succ,List.map_append];rfl
theorem BQ(p:Proj)(fs:List Fact)(m:Int)(i:Nat):(fK p fs m i).length=i:=by unfold fK;simp
abbrev C3(g:eZ)(lv:SV):List SV:=[.d (dI g.x),.d (dI g.y),.d (dI g.side),.d (dI g.dO),.d (dI g.rows),lv]
def gSt(p:Proj)(fs:List Fact)(m:Int)(i:Nat):List Int→St
 |[]=>⟨[(1,.s aJ4),(2,.s (.ptr 2 0)),(4,.s (.ptr 4 0)),(5,.s (.ptr 5 0)),(15,vI p.aT.levels.length),(16,vI i)],[(2,some (.cells (l0 p fs))),(4,some (.cells (iB ty24.zero))),(5,some (.cells (C3 p.aT (.mo (fK p fs m i).isEmpty 100)))),(100,some (.b8 3 (fK p fs m i).length 1 (cP (fK p fs m i)))),(1001,some (.cells (l0 p fs))),(1002,some (.cells [.d (dI m)])),(1003,some (.cells [.d eO]))]⟩
 |x::r=>⟨[(1,.s aJ4),(2,.s (.ptr 2 0)),(4,.s (.ptr 4 0)),(5,.s (.ptr 5 0)),(15,vI p.aT.levels.length),(16,vI i)],[(2,some (.cells (l0 p fs))),(4,some (.cells (iB ty24.zero))),(5,some (.cells (C3 p.aT (.mo (fK p fs m i).isEmpty 100)))),(100,some (.b8 3 (fK p fs m i).length 1 (cP (fK p fs m i)))),(1001,some (.cells (l0 p fs))),(1002,some (.cells [.d (dI m)])),(1003,some (.cells [.own 1004])),(1004,some (.row 3 (x::r).length 1 (cP (x::r))))]⟩
theorem aMT(p:Proj)(fs:List Fact)(m:Int)(hl:fs.length≤9223372036854775807)(hn:0<p.aT.levels.length∧p.aT.levels.length≤1024)(hc:∀f∈fs,f.kind=0→f.levels.length=p.aT.levels.length):
  bW prog 69 [SR p fs,.s aJ4] (aC7 p fs m []) (.g (C3 p.aT (.own 1005))) (aC7 p fs m (gY p fs m p.aT.levels.length)++ [(1005,.row 3 p.aT.levels.length 1 (cP (fK p fs m p.aT.levels.length)))]):=by
 refine gJ func69 rfl rfl call69 aJ rfl ze6 ze6 rfl (fun cx aA=>?_)
 refine sX aA ?_
 refine sX aA ?_
 refine sX aA ?_
 refine AW.seq (sX aA ?_)
 refine AW.block ?_
 refine AW.cG (fun i:Nat=>gSt p fs m i (gY p fs m i)) (fun i=>i≤p.aT.levels.length) (fun i=>p.aT.levels.length - i) 0 (Nat.zero_le _) ?_ ?_
 ·exact aM.of [(100,1000)] zex rfl ⟨bQ,bQ,⟨rfl,aY.cells ⟨aU.rfl,aU.rfl,aU.rfl,aU.rfl,aU.rfl,aU.nil rfl,oO⟩⟩,⟨rfl,rfl⟩,bQ,bQ,bQ,oO⟩ ⟨qZ,qZ,qZ,qZ,qZ,qZ,oO⟩
 ·intro i hi;have hlen:=DY p fs m i;have fN:=IJ p fs m i;have SJ:=X7 p fs m i;have TW:=BQ p fs m i
  cases hL:gY p fs m i with
  |nil=>
   rw[hL]at fN hlen;refine sX aA (AW.seq (AW.cond ?_));refine aI (fun h1=>AW.skip ?_) (fun h1=>AW.exit ?_)
   ·have h1:(i:Int)<p.aT.levels.length:=bG h1;have bC:i<p.aT.levels.length:=oM;have hci:∀f∈fs,f.kind=0→i<f.levels.length:=fun f hf hk=>by rw[hc f hf hk];exact bC
    refine AW.seq (AW.block (sX aA ?_))
    cases h3:(fF p fs m i).2 with
    |true=>rw[h3]at fN;obtain⟨n,f,pD,eF⟩:=W0 p fs m [] i hl oM hci h3;refine ex.sound (rc:=[1500070]) aJ mix aA _ ⟨[(19,701)],_,_,_,_,eF,rfl,⟨rfl,rfl,rfl,oO⟩,rfl,?_⟩;exact ug
    |false=>rw[h3]at fN;refine ex.sound (rc:=[1500070]) aJ mix aA _ ⟨[],_,_,_,_,aDY p fs m [] i hl hci h3,rfl,⟨rfl,rfl,rfl,oO⟩,rfl,?_⟩;refine ob dC (ob zeV ?_);refine ob (nJ (AS rfl)) (aD ?_);refine eX aA ⟨i+1,oM,oM,?_⟩;rw[fN];refine aM.of [(100,25)] zex rfl ⟨bQ,bQ,⟨rfl,aY.cells ⟨aU.rfl,aU.rfl,aU.rfl,aU.rfl,aU.rfl,aU.mo (by rw[SJ];exact cA _ _),oO⟩⟩,⟨rfl,?_⟩,bQ,bQ,bQ,oO⟩ ⟨qZ,qZ,qZ,qZ,qZ,⟨rfl,aU.int (aG oM oM)⟩,oO⟩;exact ve
   have h1:¬(i:Int)<p.aT.levels.length:=bF h1;obtain rfl:i=p.aT.levels.length:=oM;rw[hL];have hz:(fK p fs m p.aT.levels.length).isEmpty=false:=by exact zbQ
   refine AW.gR (aM.aLE (z:=(fK p fs m p.aT.levels.length).isEmpty) (e:=3) (n:=(fK p fs m p.aT.levels.length).length) (s:=1) (f:=cP (fK p fs m p.aT.levels.length)) (cs:=C3 p.aT (.mo (fK p fs m p.aT.levels.length).isEmpty 100)) 5 5 100 rfl rfl hz rfl) ?_;refine AW.gR (σ':=⟨[(4,.s (.ptr 4 0)),(5,.s (.ptr 5 0))],[(4,some (.cells (iB ty24.zero))),(5,some (.cells (C3 p.aT (.own 1005)))),(1005,some (.row 3 p.aT.levels.length 1 (cP (fK p fs m p.aT.levels.length)))),(1001,some (.cells (l0 p fs))),(1002,some (.cells [.d (dI m)])),(1003,some (.cells [.d eO]))]⟩) (aM.of [(1005,100)] zex rfl ⟨bQ,⟨rfl,aY.cells ⟨aU.rfl,aU.rfl,aU.rfl,aU.rfl,aU.rfl,fun _ _ _ r=>r.2 hz,oO⟩⟩,⟨rfl,aY.of_eq (by rw[TW];rfl)⟩,bQ,bQ,bQ,oO⟩ ⟨qZ,qZ,oO⟩) ?_;exact eX aA zdb
  |cons x r=>
   rw[hL]at fN hlen;refine sX aA (AW.seq (AW.cond ?_));refine aI (fun h1=>AW.skip ?_) (fun h1=>AW.exit ?_)
   ·have h1:(i:Int)<p.aT.levels.length:=bG h1;have bC:i<p.aT.levels.length:=oM;have hci:∀f∈fs,f.kind=0→i<f.levels.length:=fun f hf hk=>by rw[hc f hf hk];exact bC
    refine AW.seq (AW.block (sX aA ?_))
    cases h3:(fF p fs m i).2 with
    |true=>rw[h3]at fN;obtain⟨n,f,pD,eF⟩:=W0 p fs m (x::r) i hl oM hci h3;refine ex.sound (rc:=[1500070]) aJ mix aA _ ⟨[(19,701)],_,_,_,_,eF,rfl,⟨rfl,rfl,rfl,rfl,oO⟩,rfl,?_⟩;exact ug
    |false=>rw[h3]at fN;refine ex.sound (rc:=[1500070]) aJ mix aA _ ⟨[],_,_,_,_,aDY p fs m (x::r) i hl hci h3,rfl,⟨rfl,rfl,rfl,rfl,oO⟩,rfl,?_⟩;refine ob dC (ob zeV ?_);refine ob (nJ (AS rfl)) (aD ?_);refine eX aA ⟨i+1,oM,oM,?_⟩;rw[fN];refine aM.of [(100,25)] zex rfl ⟨bQ,bQ,⟨rfl,aY.cells ⟨aU.rfl,aU.rfl,aU.rfl,aU.rfl,aU.rfl,aU.mo (by rw[SJ];exact cA _ _),oO⟩⟩,⟨rfl,?_⟩,bQ,bQ,bQ,bQ,oO⟩ ⟨qZ,qZ,qZ,qZ,qZ,⟨rfl,aU.int (aG oM oM)⟩,oO⟩;exact ve
   have h1:¬(i:Int)<p.aT.levels.length:=bF h1;obtain rfl:i=p.aT.levels.length:=oM;rw[hL];have hz:(fK p fs m p.aT.levels.length).isEmpty=false:=by exact zbQ
   refine AW.gR (aM.aLE (z:=(fK p fs m p.aT.levels.length).isEmpty) (e:=3) (n:=(fK p fs m p.aT.levels.length).length) (s:=1) (f:=cP (fK p fs m p.aT.levels.length)) (cs:=C3 p.aT (.mo (fK p fs m p.aT.levels.length).isEmpty 100)) 5 5 100 rfl rfl hz rfl) ?_;refine AW.gR (σ':=⟨[(4,.s (.ptr 4 0)),(5,.s (.ptr 5 0))],[(4,some (.cells (iB ty24.zero))),(5,some (.cells (C3 p.aT (.own 1005)))),(1005,some (.row 3 p.aT.levels.length 1 (cP (fK p fs m p.aT.levels.length)))),(1001,some (.cells (l0 p fs))),(1002,some (.cells [.d (dI m)])),(1003,some (.cells [.own 1004])),(1004,some (.row 3 (x::r).length 1 (cP (x::r))))]⟩) (aM.of [(1005,100)] zex rfl ⟨bQ,⟨rfl,aY.cells ⟨aU.rfl,aU.rfl,aU.rfl,aU.rfl,aU.rfl,fun _ _ _ r=>r.2 hz,oO⟩⟩,⟨rfl,aY.of_eq (by rw[TW];rfl)⟩,bQ,bQ,bQ,bQ,oO⟩ ⟨qZ,qZ,oO⟩) ?_;exact zdv
theorem aD7{a:TV}{x y:DV}(h:aK x y):aU (.t [a,.s (.d x)]) (.t [a,.s (.d y)]):=by
 rintro M β v ⟨vs,e,r⟩
 match vs,r with
 |[u1,u2],⟨r1,r2,r3⟩=>exact⟨[u1,u2],e,r1,h M u2 r2,r3⟩
structure SOK(p:Proj)(fs:List Fact):Prop where
 len:fs.length≤200
 n:0<p.aT.levels.length∧p.aT.levels.length≤100
 shape:∀f∈fs,f.kind=0→f.levels.length=p.aT.levels.length
theorem OH(p:Proj)(fs:List Fact)(m:Int)(h:SOK p fs):
  bW prog 32 [SR p fs,vI m] [] (.t [.g (C3 p.aT (.own 9)),.s (.d (b5 (gY p fs m p.aT.levels.length)))]) [(9,.row 3 p.aT.levels.length 1 (cP (fK p fs m p.aT.levels.length)))]:=by
 have SN:=aMT p fs m (by have:=h.len;omega) ⟨h.n.1,by have:=h.n.2;omega⟩ h.shape
 generalize gY p fs m p.aT.levels.length=L at SN
 cases L with
 |nil=>refine eG (rc:=[69]) (N:=13) func32 rfl rfl call32 aJ mix rfl rfl rfl rfl (fun cx aA=>?_);refine⟨[(1001,2),(1002,3),(1003,6),(1005,9)],_,_,_,_,SN,rfl,⟨rfl,rfl,rfl,oO⟩,rfl,?_⟩;exact aD ⟨aD7 aK.nil,rfl,oO⟩
 |cons x r=>refine eG (rc:=[69]) (N:=13) func32 rfl rfl call32 aJ mix rfl rfl rfl rfl (fun cx aA=>?_);refine⟨[(1001,2),(1002,3),(1003,6),(1005,9)],_,_,_,_,SN,rfl,⟨rfl,rfl,rfl,oO⟩,rfl,?_⟩;exact aD zac
theorem TA(l:List Int)(hl:l.length≤1000000):bW prog 57 [iR l] [] (.s (.own 5)) [(5,.row 3 l.length 1 (cP l))]:=by
 refine eG (rc:=[]) (N:=6) func57 rfl rfl call57 aJ mix rfl rfl rfl rfl (fun cx aA=>?_);refine ob (show(0+l.length)*8≤140737488355328 by omega) (ob (fun a c ha hc=>by match c,hc with|0,_=>rfl) ?_);have e:jK.row 3 (0+l.length) 1 (jM 0 (S1 ty3.size (S3 (iB ty3.zero) 0)) (cP l))=jK.row 3 l.length 1 (cP l):=by rw[Nat.zero_add,aNN]
 exact⟨aU.rfl,congrArg some (congrArg some e),oO⟩
def iL(p:Proj)(fs:List Fact):Nat→Nat→Int
 |0,i=>bif (fF p fs (0:Nat) i).1==30000 then p.aT.levels.getD i 0 else(fF p fs (0:Nat) i).1
 |m+1,i=>mm false (fF p fs (m+1:Nat) i).1 (iL p fs m i)
def lE(p:Proj)(fs:List Fact)(m:Nat):List Int:=(List.range p.aT.levels.length).map (iL p fs m)
def sK(p:Proj)(fs:List Fact)(m:Nat):eZ:={p.aT with levels:=lE p fs m}
def dA(p:Proj)(fs:List Fact)(k:Nat):List eZ:=(List.range k).map (sK p fs)
def nG(p:Proj)(fs:List Fact)(m i:Nat):List Int:=(List.range p.aT.levels.length).map fun k=>if k<i then iL p fs m k else(fF p fs m k).1
theorem lN{p:Proj}{fs:List Fact}{m i k:Nat}(h:k<p.aT.levels.length):(nG p fs m i).getD k 0=if k<i then iL p fs m k else(fF p fs m k).1:=by unfold nG;exact qm
theorem FT{p:Proj}{fs:List Fact}{m:Int}{n k:Nat}(h:k<n):(fK p fs m n).getD k 0=(fF p fs m k).1:=by unfold fK;exact qm
theorem HB(p:Proj)(fs:List Fact)(m:Nat):nG p fs m p.aT.levels.length=lE p fs m:=by unfold nG lE;exact List.map_congr_left fun k hk=>if_pos (List.mem_range.1 hk)
theorem mE(p:Proj)(fs:List Fact)(k:Nat):(dA p fs k).length=k:=by unfold dA;simp
theorem mK{p:Proj}{fs:List Fact}{k m:Nat}(h:m<k):(dA p fs k).getD m default=sK p fs m:=by unfold dA;exact qm
theorem X5(p:Proj)(fs:List Fact)(k:Nat):dA p fs (k+1)=dA p fs k++ [sK p fs k]:=by unfold dA;rw[List.range_succ,List.map_append];rfl
theorem uS{p:Proj}{fs:List Fact}{m k:Nat}(h:k<p.aT.levels.length):(lE p fs m).getD k 0=iL p fs m k:=by unfold lE;exact qm
theorem PX{p:Proj}{fs:List Fact}{m i a:Nat}(ha:a<p.aT.levels.length)(h:(fF p fs m i).1=iL p fs m i):(nG p fs m i).getD a 0=(nG p fs m (i+1)).getD a 0:=by
 rw[lN ha,lN ha];by_cases h1:a<i
 ·rw[if_pos h1,if_pos oM]
 rw[if_neg h1];by_cases h2:a=i
 ·subst h2;rw[if_pos oM,h]
 rw[if_neg oM]
theorem MW{p:Proj}{fs:List Fact}{m i a c:Nat}{x:Int}(ha:a<p.aT.levels.length)(hc:c<1)(h:x=iL p fs m i):eT (cP (nG p fs m i)) i 0 [.d (dI x)] a c=dI ((nG p fs m (i+1)).getD a 0):=by
 obtain rfl:c=0:=oM;by_cases h2:a=i
 ·subst h2;rw[oP,lN ha,if_pos oM,h]
 rw[tG h2];show dI ((nG p fs m i).getD a 0)=_;rw[lN ha,lN ha];exact zcZ
def aO0(p:Proj)(fs:List Fact)(n:Nat):Nat→St
 |0=>⟨[(2,.s (.ptr 2 0)),(5,.s (.d eO)),(12,vI n),(13,vI (0:Nat))],[(2,some (.cells (l0 p fs)))]⟩
 |k+1=>⟨[(2,.s (.ptr 2 0)),(5,.s (.own 100)),(12,vI n),(13,vI (k+1:Nat))],[(2,some (.cells (l0 p fs))),(100,some (.row 24 (dA p fs (k+1)).length 6 (xQ (dA p fs (k+1)))))]⟩
theorem lowest(p:Proj)(fs:List Fact)(month:Nat)(h:SOK p fs)(hm:month≤24):aF prog 30 [SR p fs,vI month] (.s (.d (cZ (dA p fs (month+1))))):=by
 obtain⟨hn0,hn1⟩:=h.n
 refine eW func30 rfl rfl call30 rfl rfl (fun cx aA=>?_)
 refine sX aA ?_
 refine sX aA ?_
 refine AW.seq (sX aA ?_)
 refine AW.block ?_
 refine AW.cG (fun k:Nat=>aO0 p fs (month+1) k) (fun k=>k≤month+1) (fun k=>month+1 - k) 0 (Nat.zero_le _) ?_ ?_
 ·exact aM.bD aA [] rfl ⟨bQ,oO⟩ ⟨qZ,qZ,⟨rfl,aU.int (aG oM oM)⟩,qZ,oO⟩
 ·intro k hk
  cases k with
  |zero=>
   refine sX aA ?_
   refine AW.seq (AW.cond ?_)
   refine aI (fun h1=>AW.skip ?_) (fun h1=>by simp at h1)
   refine AW.seq (AW.block (sX aA ?_))
   refine AW.seq (ex.sound (rc:=[32]) aJ mix aA _ ?_)
   refine⟨[(9,700)],_,_,_,_,OH p fs (0:Nat) h,rfl,trivial,rfl,?_⟩
   refine AW.gR (σ':=⟨[(2,.s (.ptr 2 0)),(5,.s (.d eO)),(6,vI (0:Nat)),(7,.s (.ptr 7 0)),(12,vI (month+1:Nat)),(13,vI (0:Nat))],[(2,some (.cells (l0 p fs))),(7,some (.cells (C3 p.aT (.own 700)))),(700,some (.row 3 p.aT.levels.length 1 (cP (fK p fs (0:Nat) p.aT.levels.length))))]⟩) (aM.bD aA [] rfl ⟨bQ,bQ,bQ,oO⟩ ⟨qZ,qZ,qZ,qZ,qZ,qZ,oO⟩) ?_
   refine AW.seq (sX aA ?_)
   refine AW.block ?_
   refine AW.cG (fun i:Nat=>⟨[(2,.s (.ptr 2 0)),(5,.s (.d eO)),(6,vI (0:Nat)),(7,.s (.ptr 7 0)),(12,vI (month+1:Nat)),(13,vI (0:Nat)),(23,.s (.own 700)),(24,vI p.aT.levels.length),(25,vI i)],[(2,some (.cells (l0 p fs))),(7,some (.cells (C3 p.aT (.own 700)))),(700,some (.row 3 p.aT.levels.length 1 (cP (nG p fs 0 i))))]⟩)
    (fun i=>i≤p.aT.levels.length) (fun i=>p.aT.levels.length - i) 0 (Nat.zero_le _) ?_ ?_
   ·exact aM.bD aA [] rfl ⟨bQ,bQ,⟨rfl,aY.row rfl fun a c ha hc=>aK.of_eq (by show dI ((fK p fs (0:Nat) p.aT.levels.length).getD a 0)=dI ((nG p fs 0 0).getD a 0);rw[FT ha,lN ha,if_neg (Nat.not_lt_zero _)])⟩,oO⟩ ⟨qZ,qZ,qZ,qZ,qZ,qZ,qZ,qZ,qZ,oO⟩
   ·intro i hi
    refine sX aA ?_
    refine AW.seq (AW.cond ?_)
    refine aI (fun h2=>AW.skip ?_) (fun h2=>AW.exit ?_)
    ·have h2:(i:Int)<p.aT.levels.length:=bG h2
     have bC:i<p.aT.levels.length:=oM
     refine AW.seq (AW.block (sX aA ?_))
     refine oi ⟨oM,oM⟩ ?_
     refine oi (show i<p.aT.levels.length by omega) ?_
     refine AW.block (sX aA ?_)
     repeat refine aR ?_
     refine AW.cond ?_
     refine aI (fun h3=>?_) (fun h3=>?_)
     ·have h3:((0:Int)==0&&(nG p fs 0 i).getD i 0==30000)=true:=h3
      rw[lN bC,if_neg (Nat.lt_irrefl i)]at h3
      have y2:iL p fs 0 i=p.aT.levels.getD i 0:=by
       exact zcl
      refine eX aA ?_
      refine oi ⟨oM,oM⟩ ?_
      refine oi ⟨oM,oM⟩ ?_
      refine ob (show((i:Nat):Int).toNat<p.aT.levels.length by omega) ?_
      refine aD ?_
      refine eX aA ?_
      refine⟨i+1,oM,oM,?_⟩
      refine aM.bD aA [] rfl ⟨bQ,bQ,⟨rfl,aY.row rfl fun a c ha hc=>aK.of_eq ?_⟩,oO⟩ ⟨qZ,qZ,qZ,qZ,qZ,qZ,qZ,qZ,⟨rfl,aU.int (aG oM oM)⟩,oO⟩
      exact zaY
     ·have h3:((0:Int)==0&&(nG p fs 0 i).getD i 0==30000)=false:=h3
      rw[lN bC,if_neg (Nat.lt_irrefl i)]at h3
      have y2:iL p fs 0 i=(fF p fs (0:Nat) i).1:=by
       exact zch
      refine sX aA ?_
      refine AW.cond ?_
      refine aI (fun h4=>by simp at h4) (fun h4=>AW.skip ?_)
      refine eX aA ?_
      refine⟨i+1,oM,oM,?_⟩
      refine aM.bD aA [] rfl ⟨bQ,bQ,⟨rfl,aY.row rfl fun a c ha hc=>aK.of_eq ?_⟩,oO⟩ ⟨qZ,qZ,qZ,qZ,qZ,qZ,qZ,qZ,⟨rfl,aU.int (aG oM oM)⟩,oO⟩
      exact zbG
    ·have h2:¬(i:Int)<p.aT.levels.length:=bF h2
     obtain rfl:i=p.aT.levels.length:=oM
     rw[HB]
     refine AW.XE (σ':=⟨[(2,.s (.ptr 2 0)),(5,.s (.d eO)),(7,.s (.ptr 7 0)),(12,vI (month+1:Nat)),(13,vI (0:Nat))],[(2,some (.cells (l0 p fs))),(7,some (.cells (C3 p.aT (.d (b5 (lE p fs 0))))))]⟩) (pI.of aA [] [700] rfl rfl rfl ⟨⟨rfl,hI.rfl⟩,⟨rfl,hI.cells ⟨b7.rfl,b7.rfl,b7.rfl,b7.rfl,b7.rfl,(b7.own sM rfl).then (aU.d (aK.of_eq (by unfold b5;rw[show(lE p fs 0).length=p.aT.levels.length by unfold lE;simp]))),oO⟩⟩,oO⟩ ⟨⟨rfl,b7.rfl⟩,⟨rfl,b7.rfl⟩,⟨rfl,b7.rfl⟩,⟨rfl,b7.rfl⟩,⟨rfl,b7.rfl⟩,oO⟩) ?_
     refine eX aA ?_
     refine ob dC ?_
     refine ob dC ?_
     refine eX aA ?_
     refine⟨0+1,oM,oM,?_⟩
     exact aM.bD aA [(100,70)] rfl ⟨bQ,⟨rfl,aY.row (by rw[mE]) fun a c ha hc=>aK.of_eq (by
      obtain rfl:a=0:=oM
      match c,hc with|0,_|1,_|2,_|3,_|4,_|5,_=>rfl)⟩,oO⟩ ⟨qZ,qZ,qZ,⟨rfl,aU.int (aG oM oM)⟩,oO⟩
  |succ k=>
   refine sX aA ?_
   refine AW.seq (AW.cond ?_)
   refine aI (fun h1=>AW.skip ?_) (fun h1=>AW.exit ?_)
   ·have h1:((k+1:Nat):Int)<((month+1:Nat):Int):=bG h1
    refine AW.seq (AW.block (sX aA ?_))
    refine AW.seq (ex.sound (rc:=[32]) aJ mix aA _ ?_)
    refine⟨[(9,700)],_,_,_,_,OH p fs (k+1:Nat) h,rfl,trivial,rfl,?_⟩
    refine AW.gR (σ':=⟨[(2,.s (.ptr 2 0)),(5,.s (.own 100)),(6,vI (k+1:Nat)),(7,.s (.ptr 7 0)),(12,vI (month+1:Nat)),(13,vI (k+1:Nat))],[(2,some (.cells (l0 p fs))),(100,some (.row 24 (dA p fs (k+1)).length 6 (xQ (dA p fs (k+1))))),(7,some (.cells (C3 p.aT (.own 700)))),(700,some (.row 3 p.aT.levels.length 1 (cP (fK p fs (k+1:Nat) p.aT.levels.length))))]⟩) (aM.bD aA [] rfl ⟨bQ,bQ,bQ,bQ,oO⟩ ⟨qZ,qZ,qZ,qZ,qZ,qZ,oO⟩) ?_
    refine AW.seq (sX aA ?_)
    refine AW.block ?_
    refine AW.cG (fun i:Nat=>⟨[(2,.s (.ptr 2 0)),(5,.s (.own 100)),(6,vI (k+1:Nat)),(7,.s (.ptr 7 0)),(12,vI (month+1:Nat)),(13,vI (k+1:Nat)),(23,.s (.own 700)),(24,vI p.aT.levels.length),(25,vI i)],[(2,some (.cells (l0 p fs))),(100,some (.row 24 (dA p fs (k+1)).length 6 (xQ (dA p fs (k+1))))),(7,some (.cells (C3 p.aT (.own 700)))),(700,some (.row 3 p.aT.levels.length 1 (cP (nG p fs (k+1) i))))]⟩)
     (fun i=>i≤p.aT.levels.length) (fun i=>p.aT.levels.length - i) 0 (Nat.zero_le _) ?_ ?_
    ·exact aM.bD aA [] rfl ⟨bQ,bQ,bQ,⟨rfl,aY.row rfl fun a c ha hc=>aK.of_eq (by show dI ((fK p fs (k+1:Nat) p.aT.levels.length).getD a 0)=dI ((nG p fs (k+1) 0).getD a 0);rw[FT ha,lN ha,if_neg (Nat.not_lt_zero _)])⟩,oO⟩ ⟨qZ,qZ,qZ,qZ,qZ,qZ,qZ,qZ,qZ,oO⟩
    ·intro i hi
     refine sX aA ?_
     refine AW.seq (AW.cond ?_)
     refine aI (fun h2=>AW.skip ?_) (fun h2=>AW.exit ?_)
     ·have h2:(i:Int)<p.aT.levels.length:=bG h2
      have bC:i<p.aT.levels.length:=oM
      refine AW.seq (AW.block (sX aA ?_))
      refine oi ⟨oM,oM⟩ ?_
      refine oi (show i<p.aT.levels.length by omega) ?_
      refine AW.block (sX aA ?_)
      repeat refine aR ?_
      refine AW.cond ?_
      refine aI (fun h3=>?_) (fun h3=>?_)
      ·have h3:((((k+1:Nat):Int)==0)&&(nG p fs (k+1) i).getD i 0==30000)=true:=h3
       rw[show((((k+1:Nat):Int)==0))=false by simp only [beq_eq_false_iff_ne];omega]at h3
       cases h3
      ·have y2:mm false (fF p fs (k+1:Nat) i).1 (iL p fs k i)=iL p fs (k+1) i:=rfl
       have aPC:(nG p fs (k+1) i).getD i 0=(fF p fs (k+1:Nat) i).1:=by rw[lN bC,if_neg (Nat.lt_irrefl i)]
       have ek:aW (((k+1:Nat):Int) - 1)=(k:Int):=by rw[aG oM oM];omega
       have ekn:(aW (((k+1:Nat):Int) - 1)).toNat=k:=by rw[ek];rfl
       refine sX aA ?_
       refine AW.cond ?_
       refine aI (fun h4=>?_) (fun h4=>?_)
       ·refine eX aA ?_
        refine oi (show 0≤aW (((k+1:Nat):Int) - 1)∧aW (((k+1:Nat):Int) - 1)<((dA p fs (k+1)).length:Int) by rw[ek,mE];omega) ?_
        refine oi (show(aW (((k+1:Nat):Int) - 1)).toNat<(dA p fs (k+1)).length by rw[ekn,mE];omega) ?_
        refine oi (show(0:Int)≤(i:Int)∧(i:Int)<((((dA p fs (k+1)).getD (aW (((k+1:Nat):Int) - 1)).toNat default).levels.length:Nat):Int) by rw[ekn,mK oM];show(0:Int)≤(i:Int)∧(i:Int)<((lE p fs k).length:Int);unfold lE;simp;omega) ?_
        refine oi ⟨oM,oM⟩ ?_
        refine ob (show((i:Nat):Int).toNat<p.aT.levels.length by omega) ?_
        refine aD ?_
        refine eX aA ?_
        refine⟨i+1,oM,oM,?_⟩
        refine aM.bD aA [] rfl ⟨bQ,bQ,bQ,⟨rfl,aY.row rfl fun a c ha hc=>aK.of_eq ?_⟩,oO⟩ ⟨qZ,qZ,qZ,qZ,qZ,qZ,qZ,qZ,⟨rfl,aU.int (aG oM oM)⟩,oO⟩
        refine MW (x:=mm false ((nG p fs (k+1) i).getD i 0) (((dA p fs (k+1)).getD (aW (((k+1:Nat):Int) - 1)).toNat default).levels.getD i 0)) ha hc ?_
        rw[aPC,ekn,mK oM]
        show mm false _ ((lE p fs k).getD i 0)=_
        rw[uS bC]
        exact y2
       ·have h4:decide (((k+1:Nat):Int)>0)=false:=h4
        simp at h4
     ·have h2:¬(i:Int)<p.aT.levels.length:=bF h2
      obtain rfl:i=p.aT.levels.length:=oM
      rw[HB]
      refine AW.XE (σ':=⟨[(2,.s (.ptr 2 0)),(5,.s (.own 100)),(7,.s (.ptr 7 0)),(12,vI (month+1:Nat)),(13,vI (k+1:Nat))],[(2,some (.cells (l0 p fs))),(100,some (.row 24 (dA p fs (k+1)).length 6 (xQ (dA p fs (k+1))))),(7,some (.cells (C3 p.aT (.d (b5 (lE p fs (k+1)))))))]⟩) (pI.of aA [] [700] rfl rfl rfl ⟨⟨rfl,hI.rfl⟩,⟨rfl,hI.rfl⟩,⟨rfl,hI.cells ⟨b7.rfl,b7.rfl,b7.rfl,b7.rfl,b7.rfl,(b7.own sM rfl).then (aU.d (aK.of_eq (by unfold b5;rw[show(lE p fs (k+1)).length=p.aT.levels.length by unfold lE;simp]))),oO⟩⟩,oO⟩ ⟨⟨rfl,b7.rfl⟩,⟨rfl,b7.rfl⟩,⟨rfl,b7.rfl⟩,⟨rfl,b7.rfl⟩,⟨rfl,b7.rfl⟩,oO⟩) ?_
      refine eX aA ?_
      refine ob (by rw[mE];show(k+1+1)*64≤_;omega) ?_
      refine ob (nJ fun c hc=>by match c,hc with|0,_|1,_|2,_|3,_|4,_|5,_=>rfl) ?_
      refine eX aA ?_
      refine⟨(k+1)+1,oM,oM,?_⟩
      refine aM.bD aA [(100,70)] rfl ⟨bQ,⟨rfl,?_⟩,oO⟩ ⟨qZ,qZ,qZ,⟨rfl,aU.int (aG oM oM)⟩,oO⟩
      show aY _ (.row 24 (dA p fs (k+1+1)).length 6 (xQ (dA p fs (k+1+1))))
      rw[X5 p fs (k+1)]
      exact iJ.row (el:=aCQ) (iJ.snoc iJ.refl fun c hc=>by match c,hc with|0,_|1,_|2,_|3,_|4,_|5,_=>rfl)
   ·have h1:¬((k+1:Nat):Int)<((month+1:Nat):Int):=bF h1
    obtain rfl:k=month:=oM
    refine eX aA ?_
    exact aC.refl _
end Go.Pj
namespace Go.Pj
open Go Go.Ax Go.Ch Go.Proofs Go.Proofs.Tryz Go.Sort Go.Shelf
def aNI(a b:Int):Int:=if a<b then -1 else if b<a then 1 else 0
def orI(a b:Int):Int:=bif a !=0 then a else bif b !=0 then b else 0
end Go.Pj
namespace Go.Pj
open Go Go.Ax Go.Ch Go.Proofs Go.Proofs.Tryz
abbrev aNW(b:Batch):List SV:=[.d (dI b.number),.d (dI b.aT),.d (dI b.over),.d (dS b.aN),.d (dI b.cls)]
def zO(l:List nM)(s:ByteArray):Int:=Ch.cL (fun x=>bE x.aN s) l 0
theorem aM2(q:nM)(s:ByteArray)(f:Nat→DV)(hf:f 0=dS s):aF prog 239 [.g [.d (dS q.aN),.d (dI q.num),.d (dI q.den)],.s (.d (.rp 1 f))] (vB (bE q.aN s)):=by refine aF.conv (args:=[.g [.d (dS q.aN),.d (dI q.num),.d (dI q.den)],.s (.d (.rp 1 fun _=>dS s))]) ?_ ⟨⟨aK.refl _,aK.refl _,aK.refl _,oO⟩,aK.rp fun j hj=>aK.of_eq zeH,oO⟩;exact eP func239 rfl rfl call239 rfl rfl fun cx aA=>aC.refl _
theorem Q9(y:gK)(s:ByteArray)(hl:y.bA.length≤9223372036854775807):aF prog 170 [tD y,vS s] (vI (zO y.bA s)):=by exact eP func170 rfl rfl call170 rfl rfl fun cx aA=>aB (YG y.bA hl 239 1 _ (fun q=>bE q.aN s) (fun q _=>aM2 q s _ rfl)) (aC.refl _)
def R6(y:gK)(b:Batch):Int:=
 bif !within b.number 1 1000000|| !within b.aT 0 1000000000000|| !within b.over 0 b.aT then 2
 else bif decide (zO y.bA b.aN<0)then 6 else bif !within b.cls 0 9 then 2 else 0
theorem UN(y:gK)(b:Batch)(hl:y.bA.length≤9223372036854775807):aF prog 165 [tD y,aGJ b] (vI (R6 y b)):=by
 refine eP func165 rfl rfl call165 rfl rfl fun cx aA=>?_
 refine aB (kD _ _ _) ?_
 repeat refine aR ?_
 refine bR (kD _ _ _) ?_
 repeat refine aR ?_
 refine bR (kD _ _ _) ?_
 repeat refine aR ?_
 refine aI (fun h1=>?_) (fun h1=>?_)
 ·have h1:(!within b.number 1 1000000|| !within b.aT 0 1000000000000|| !within b.over 0 b.aT)=true:=h1
  exact aC.of_eq (by unfold R6;rw[h1];rfl)
 have h1:(!within b.number 1 1000000|| !within b.aT 0 1000000000000|| !within b.over 0 b.aT)=false:=h1
 refine aB (Q9 y b.aN hl) ?_
 refine aI (fun h2=>?_) (fun h2=>?_)
 ·have h2:decide (zO y.bA b.aN<0)=true:=h2
  exact aC.of_eq (by unfold R6;rw[h1,h2];rfl)
 have h2:decide (zO y.bA b.aN<0)=false:=h2
 refine aB (kD _ _ _) ?_
 refine aI (fun h3=>?_) (fun h3=>?_)
 ·have h3:(!within b.cls 0 9)=true:=h3
  exact zed
 ·have h3:(!within b.cls 0 9)=false:=h3
  exact zed
def yD(y:gK)(b:Batch):Int:=bif kX y !=0 then kX y else R6 y b
theorem U4(y:gK)(b:Batch)(hy:y.fits):aF prog 95 [tD y,aGJ b] (vI (yD y b)):=by
 refine eP func95 rfl rfl call95 rfl rfl fun cx aA=>aB (aDA y hy) (aI (fun h1=>?_) (fun h1=>?_))
 ·have h1:(kX y !=0)=true:=h1;exact aC.of_eq (by unfold yD;rw[h1];rfl)
 have h1:(kX y !=0)=false:=h1;refine aB (UN y b hy.bA) ?_;exact aC.of_eq (by unfold yD;rw[h1];rfl)
def NX(y:gK)(n:Int):Bool:=y.bH.any fun d=>d.batch==n
theorem aP3(q:OQ)(n:Int)(f:Nat→DV)(hf:f 0=dI n):aF prog 169 [aF3 q,.s (.d (.rp 1 f))] (vB (q.batch==n)):=by refine aF.conv (args:=[aF3 q,.s (.d (.rp 1 fun _=>dI n))]) ?_ ⟨⟨aK.refl _,aK.refl _,aK.refl _,oO⟩,aK.rp fun j hj=>aK.of_eq zeH,oO⟩;exact eP func169 rfl rfl call169 rfl rfl fun cx aA=>aC.refl _
theorem Y6(y:gK)(n:Int)(hl:y.bH.length≤9223372036854775807):aF prog 97 [tD y,vI n] (vB (NX y n)):=by exact eP func97 rfl rfl call97 rfl rfl fun cx aA=>aB (RT y.bH hl 169 1 _ (fun q=>q.batch==n) (fun q _=>aP3 q n _ rfl)) (aC.refl _)
def JL(y:gK)(p:uF)(cls iZ:Int):Int:=bif !p.aV.contains cls then 20 else bif decide (GL y p<iZ)then 19 else 0
theorem refusal(y:gK)(p:uF)(cls iZ:Int)(hl:y.bH.length≤9223372036854775807)(hc:p.aV.length≤1000000):aF prog 99 [tD y,G1 p,vI cls,vI iZ] (vI (JL y p cls iZ)):=by
 refine eP func99 rfl rfl call99 rfl rfl fun cx aA=>aB (Z0 p.aV cls hc) (aI (fun h1=>?_) (fun h1=>?_))
 ·have h1:(!p.aV.contains cls)=true:=h1;exact aC.of_eq (by unfold JL;rw[h1];rfl)
 have h1:(!p.aV.contains cls)=false:=h1;refine aB (aHG y p hl) (aI (fun h2=>?_) (fun h2=>?_))
 ·have h2:decide (GL y p<iZ)=true:=h2;exact aC.of_eq (by unfold JL;rw[h1,h2];rfl)
 have h2:decide (GL y p<iZ)=false:=h2;exact aC.of_eq (by unfold JL;rw[h1,h2];rfl)
theorem N6:aF prog 163 [wU []] (.s (.d eO)):=by
 refine eP func163 rfl rfl call163 rfl rfl fun cx aA=>aI (fun h=>?_) (fun h=>?_)
 ·exact aC.refl _
 cases h
theorem aGA(y:gK)(h:y.small)(y1:0<y.aQ.length)(hc:0<y.carry.length)(hd:y.bH=[]):bW prog 94 [tD y] [] (.g [.d (q7 y.aQ),.d (oY y.bA),.d eO,.own 9]) [(9,.row 3 y.carry.length 1 (cP y.carry))]:=by
 have hp:=h.aQ;have vA:=h.carry;refine gJ func94 rfl rfl call94 aJ rfl rfl rfl rfl (fun cx aA=>?_);have aA:cx.ref=[]:=aA;refine sX aA (AW.seq (ex.sound (rc:=[1000161,1000164]) aJ mix aA _ ?_));refine⟨[(9,501)],_,_,_,_,AM y.aQ y1 h.aQ,rfl,rfl,rfl,?_⟩;refine aB (vL y.bA h.bA) ?_;rw[hd];refine aB (N6) ⟨[(9,502)],_,_,_,_,IP y.carry hc vA,rfl,rfl,rfl,?_⟩;refine aD (AW.seq (sX aA ?_));refine AW.block (AW.cG (fun i:Nat=>⟨[(2,.s (.ptr 2 0)),(3,.s (.ptr 3 0)),(20,vI y.aQ.length),(21,vI i)],[(2,some (.cells (iB ty45.zero))),(3,some (.cells [.own 501,.d (oY y.bA),.d eO,.own 502])),(501,some (.row 67 y.aQ.length 6 (EF y.aQ))),(502,some (.row 3 y.carry.length 1 (cP y.carry)))]⟩) (fun i=>i≤y.aQ.length) (fun i=>y.aQ.length - i) 0 (Nat.zero_le _) ?_ ?_)
 ·exact aM.bD aA [] rfl ⟨bQ,bQ,⟨rfl,(yR (el:=X0) y.aQ).row⟩,⟨rfl,(yR (el:=fun x _=>dI x) y.carry).row⟩,oO⟩ ⟨qZ,qZ,qZ,qZ,oO⟩
 intro i hi;refine eX aA (aI (fun h5=>?_) (fun h5=>?_))
 ·have h5:(i:Int)<y.aQ.length:=bG h5;refine oi ⟨oM,oM⟩ (oi zeG ?_);refine aB (uA (y.aQ.getD i default).aV (h.aV _ (bP oM))) (oi ⟨oM,oM⟩ ?_);refine ob zeG (aD ?_);refine⟨i+1,oM,oM,?_⟩;exact aM.bD aA [] rfl ⟨bQ,bQ,⟨rfl,(N5 y.aQ i).row⟩,bQ,oO⟩ ⟨qZ,qZ,qZ,⟨rfl,aU.int (aG oM oM)⟩,oO⟩
 refine AW.XE (σ':=⟨[(2,.s (.ptr 2 0)),(3,.s (.ptr 3 0))],[(2,some (.cells (iB ty45.zero))),(3,some (.cells [.d (q7 y.aQ),.d (oY y.bA),.d eO,.own 9])),(9,some (.row 3 y.carry.length 1 (cP y.carry)))]⟩) (pI.of aA [(9,502)] [501] rfl rfl rfl ⟨⟨rfl,hI.rfl⟩,⟨rfl,hI.cells ⟨b7.own sM rfl,b7.rfl,b7.rfl,b7.rfl,oO⟩⟩,⟨rfl,hI.rfl⟩,oO⟩ ⟨⟨rfl,b7.rfl⟩,⟨rfl,b7.rfl⟩,oO⟩) (eX aA ?_);exact zac
theorem aF9(y:gK)(h:y.small)(y1:0<y.aQ.length)(hc:0<y.carry.length)(hd:0<y.bH.length):bW prog 94 [tD y] [] (.g [.d (q7 y.aQ),.d (oY y.bA),.own 8,.own 9]) [(8,.row 57 y.bH.length 3 (E7 y.bH)),(9,.row 3 y.carry.length 1 (cP y.carry))]:=by
 have hp:=h.aQ;have vA:=h.carry;refine gJ func94 rfl rfl call94 aJ rfl rfl rfl rfl (fun cx aA=>?_);have aA:cx.ref=[]:=aA;refine sX aA (AW.seq (ex.sound (rc:=[1000161,1000163,1000164]) aJ mix aA _ ?_));refine⟨[(9,501)],_,_,_,_,AM y.aQ y1 h.aQ,rfl,rfl,rfl,?_⟩;refine aB (vL y.bA h.bA) ⟨[(9,503)],_,_,_,_,UL y.bH hd h.bH,rfl,rfl,rfl,?_⟩;refine⟨[(9,502)],_,_,_,_,IP y.carry hc vA,rfl,rfl,rfl,?_⟩;refine aD (AW.seq (sX aA ?_));refine AW.block (AW.cG (fun i:Nat=>⟨[(2,.s (.ptr 2 0)),(3,.s (.ptr 3 0)),(20,vI y.aQ.length),(21,vI i)],[(2,some (.cells (iB ty45.zero))),(3,some (.cells [.own 501,.d (oY y.bA),.own 503,.own 502])),(501,some (.row 67 y.aQ.length 6 (EF y.aQ))),(503,some (.row 57 y.bH.length 3 (E7 y.bH))),(502,some (.row 3 y.carry.length 1 (cP y.carry)))]⟩) (fun i=>i≤y.aQ.length) (fun i=>y.aQ.length - i) 0 (Nat.zero_le _) ?_ ?_)
 ·exact aM.bD aA [] rfl ⟨bQ,bQ,⟨rfl,(yR (el:=X0) y.aQ).row⟩,⟨rfl,(yR (el:=aF4) y.bH).row⟩,⟨rfl,(yR (el:=fun x _=>dI x) y.carry).row⟩,oO⟩ ⟨qZ,qZ,qZ,qZ,oO⟩
 intro i hi;refine eX aA (aI (fun h5=>?_) (fun h5=>?_))
 ·have h5:(i:Int)<y.aQ.length:=bG h5;refine oi ⟨oM,oM⟩ (oi zeG ?_);refine aB (uA (y.aQ.getD i default).aV (h.aV _ (bP oM))) (oi ⟨oM,oM⟩ ?_);refine ob zeG (aD ?_);refine⟨i+1,oM,oM,?_⟩;exact aM.bD aA [] rfl ⟨bQ,bQ,⟨rfl,(N5 y.aQ i).row⟩,bQ,bQ,oO⟩ ⟨qZ,qZ,qZ,⟨rfl,aU.int (aG oM oM)⟩,oO⟩
 refine AW.XE (σ':=⟨[(2,.s (.ptr 2 0)),(3,.s (.ptr 3 0))],[(2,some (.cells (iB ty45.zero))),(3,some (.cells [.d (q7 y.aQ),.d (oY y.bA),.own 8,.own 9])),(8,some (.row 57 y.bH.length 3 (E7 y.bH))),(9,some (.row 3 y.carry.length 1 (cP y.carry)))]⟩) (pI.of aA [(8,503),(9,502)] [501] rfl rfl rfl ⟨⟨rfl,hI.rfl⟩,⟨rfl,hI.cells ⟨b7.own sM rfl,b7.rfl,b7.rfl,b7.rfl,oO⟩⟩,⟨rfl,hI.rfl⟩,⟨rfl,hI.rfl⟩,oO⟩ ⟨⟨rfl,b7.rfl⟩,⟨rfl,b7.rfl⟩,oO⟩) (eX aA ?_);exact⟨aU.rfl,rfl,rfl,oO⟩
def I0(y:gK)(b:Batch):Nat:=(zO y.bA b.aN).toNat
def R2(y:gK)(b:Batch):Int:=aW (aW (aW (b.aT - b.over)*(y.bA.getD (I0 y b) default).num)+y.carry.getD (I0 y b) 0)
def q8(y:gK)(b:Batch):Int:=aW (Int.tdiv (R2 y b) (y.bA.getD (I0 y b) default).den)
def oZ(y:gK)(b:Batch):List Int:=y.carry.set (I0 y b) (Int.tmod (R2 y b) (y.bA.getD (I0 y b) default).den)
theorem aJ8(y:gK)(b:Batch)(hl:y.bA.length≤1000000)(h0:0≤zO y.bA b.aN)(hc:y.carry.length=y.bA.length)(hd:(y.bA.getD (I0 y b) default).den≠0):
  bW prog 98 [tD y,aGJ b,.s (.own 1001)] [(1001,.row 3 y.carry.length 1 (cP y.carry))] (vI (q8 y b)) [(1001,.row 3 y.carry.length 1 (cP (oZ y b)))]:=by
 have fZ:I0 y b<y.bA.length:=(yN (fun x:nM=>bE x.aN b.aN) y.bA 0 h0).2.1
 have hN:zO y.bA b.aN=(I0 y b:Int):=by unfold I0;omega
 refine lH func98 rfl rfl call98 aJ rfl rfl rfl rfl (fun cx aA=>?_)
 refine sX aA ?_
 refine sX aA ?_
 refine aB (Q9 y b.aN oM) ?_
 rw[hN]
 generalize hi:I0 y b=i at fZ hd
 refine sX aA ?_
 refine oi ⟨oM,oM⟩ ?_
 refine sX aA ?_
 refine oi ⟨oM,oM⟩ ?_
 refine oi (show((i:Nat):Int).toNat<y.carry.length by omega) ?_
 refine aD ?_
 refine sX aA ?_
 refine oi hd ?_
 refine oi ⟨oM,oM⟩ ?_
 refine ob (show((i:Nat):Int).toNat<y.carry.length by omega) ?_
 have hT:R2 y b=aW (aW (aW (b.aT - b.over)*(y.bA.getD i default).num)+y.carry.getD i 0):=by unfold R2;rw[hi]
 refine AW.gR (σ':=⟨[(8,.s (.ptr 8 0)),(9,vI (R2 y b))],[(8,some (.cells [.d (dI (y.bA.getD i default).num),.d (dI (y.bA.getD i default).den)])),(1001,some (.row 3 y.carry.length 1 (cP (oZ y b))))]⟩) (aM.of [] zex rfl ⟨bQ,⟨rfl,aY.row rfl fun a c ha Q1=>aK.of_eq ?_⟩,oO⟩ ⟨qZ,⟨rfl,aU.int hT.symm⟩,oO⟩) ?_
 ·obtain rfl:c=0:=oM;show eT (cP y.carry) i 0 [.d (dI (Int.tmod (aW (aW (aW (b.aT - b.over)*(y.bA.getD i default).num)+y.carry.getD i 0)) (y.bA.getD i default).den))] a 0=dI ((oZ y b).getD a 0);unfold oZ;rw[hi,hT];by_cases h2:a=i
  ·subst h2;rw[oP];simp[List.getD_eq_getElem?_getD,show a<y.carry.length by omega]
  rw[tG h2];show dI (y.carry.getD a 0)=_;simp[List.getD_eq_getElem?_getD,Ne.symm h2]
 refine eX aA ?_
 refine oi hd ?_
 refine⟨aC.of_eq (by unfold q8;rw[hi];rfl),rfl,oO⟩
def oS(y:gK)(b:Batch)(dN:ByteArray):Int:=
 bif yD y b !=0 then yD y b else bif NX y b.number then 5 else bif decide (lU y.aQ dN<0)then 6
 else bif JL y (y.aQ.getD (lU y.aQ dN).toNat default) b.cls (q8 y b) !=0 then JL y (y.aQ.getD (lU y.aQ dN).toNat default) b.cls (q8 y b)
 else bif decide ((y.bH.length:Int)≥200)then 8 else 0
def PO(y:gK)(b:Batch)(dN:ByteArray):gK:={y with bH:=y.bH++ [⟨b.number,dN,q8 y b⟩],carry:=oZ y b}
def G0(y:gK)(b:Batch)(dN:ByteArray):List SV:=bif oS y b dN !=0 then iB ty45.zero else uH (PO y b dN)
structure yA(y:gK):Prop where
 fits:y.fits
 small:y.small
 zero:kX y=0→y.carry.length=y.bA.length∧∀i,i<y.bA.length→(y.bA.getD i default).den≠0
theorem Place(y:gK)(b:Batch)(dN:ByteArray)(hy:yA y):aF prog 49 [tD y,aGJ b,vS dN] (.t [.g (G0 y b dN),.s (.d (dI (oS y b dN)))]):=by
 have aCL:=hy.fits;have z6:=hy.small;have hl:y.bH.length≤9223372036854775807:=aCL.bH;have vE:∀{e:Int},oS y b dN=e→(e !=0)=true→aC (.t [.g (iB ty45.zero),.s (.d (dI e))]) (.t [.g (G0 y b dN),.s (.d (dI (oS y b dN)))]):=fun h1 h2=>aC.of_eq (by unfold G0;rw[h1,h2];rfl)
 refine eW func49 rfl rfl call49 rfl rfl (fun cx aA=>?_);refine sX aA (AW.seq (sX aA ?_));refine aB (U4 y b aCL) (sX aA ?_);refine AW.cond (aI (fun h1=>?_) (fun h1=>AW.skip ?_))
 ·have h1:(yD y b !=0)=true:=h1;refine eX aA ?_;exact vE (by unfold oS;rw[h1];rfl) h1
 have h1:(yD y b !=0)=false:=h1;have hyz:kX y=0:=by
  have JX:yD y b=0:=by simpa using h1
  unfold yD at JX
  cases h:(kX y !=0)with
  |true=>rw[h]at JX;have JX:kX y=0:=JX;rw[JX]at h;cases h
  |false=>simpa using h
 have hba:R6 y b=0:=by
  have JX:yD y b=0:=by simpa using h1
  unfold yD at JX;rw[hyz]at JX;exact JX
 have hblk:0≤zO y.bA b.aN:=by
  unfold R6 at hba
  cases h:decide (zO y.bA b.aN<0)with
  |false=>
   have:¬zO y.bA b.aN<0:=by simpa using h
   omega
  |true=>
   rw[h]at hba
   cases h':(!within b.number 1 1000000|| !within b.aT 0 1000000000000|| !within b.over 0 b.aT) <;> rw[h']at hba <;> cases hba
 obtain⟨vA,aPR⟩:=hy.zero hyz;have fZ:I0 y b<y.bA.length:=(yN (fun x:nM=>bE x.aN b.aN) y.bA 0 hblk).2.1;refine sX aA (aB (aGZ y dN aCL.aQ) ?_);refine AW.seq (AW.block (sX aA ?_));refine aB (Y6 y b.number hl) (AW.cond ?_);refine aI (fun h2=>?_) (fun h2=>?_)
 ·have h2:NX y b.number=true:=h2;refine eX aA ?_;exact vE (by unfold oS;rw[h1,h2];rfl) rfl
 have h2:NX y b.number=false:=h2;refine sX aA (AW.cond ?_);refine aI (fun h3=>?_) (fun h3=>AW.skip ?_)
 ·have h3:decide (lU y.aQ dN<0)=true:=h3;refine eX aA ?_;exact vE (by unfold oS;rw[h1,h2,h3];rfl) rfl
 have h3:decide (lU y.aQ dN<0)=false:=h3;have hp0:0≤lU y.aQ dN:=by
  have:¬lU y.aQ dN<0:=by simpa using h3
  omega
 have hpl:(lU y.aQ dN).toNat<y.aQ.length:=(yN (fun x:uF=>bE x.name dN) y.aQ 0 hp0).2.1;have aME:(y.aQ.getD (lU y.aQ dN).toNat default).aV.length≤1000000:=z6.aV _ (bP hpl);have hb:=aJ8 y b z6.bA hblk vA (aPR _ fZ);by_cases hd:y.bH=[]
 ·refine AW.seq (ex.sound (rc:=[94]) aJ mix aA _ ?_);refine⟨[(9,602)],_,_,_,_,aGA y z6 oM oM hd,rfl,trivial,rfl,?_⟩;refine AW.seq (ex.sound (rc:=[98]) aJ mix aA _ ?_);refine⟨[(1001,602)],_,_,_,_,hb,rfl,⟨rfl,oO⟩,rfl,?_⟩;refine AW.seq (sX aA ?_);refine oi ⟨oM,oM⟩ (aB (refusal y (y.aQ.getD (lU y.aQ dN).toNat default) b.cls (q8 y b) hl aME) ?_);refine aD (sX aA ?_);refine AW.cond (aI (fun h4=>?_) (fun h4=>AW.skip ?_))
  ·exact zak
  have h4:(JL y (y.aQ.getD (lU y.aQ dN).toNat default) b.cls (q8 y b) !=0)=false:=h4;refine AW.seq (sX aA ?_);refine AW.cond (aI (fun h5=>?_) (fun h5=>AW.skip ?_))
  ·exact za6
  have h5:decide ((y.bH.length:Int)≥200)=false:=h5;have he:oS y b dN=0:=by unfold oS;rw[h1,h2,h3,h4,h5];rfl
  have aI5:(oZ y b).length=y.carry.length:=by unfold oZ;simp
  refine AW.gR (σ':=⟨[(2,vS dN),(6,.s (.ptr 6 0)),(4,.s (.ptr 4 0)),(10,.s (.ptr 10 0)),(11,vI (q8 y b))],[(4,some (.cells (aNW b))),(6,some (.cells (iB ty45.zero))),(10,some (.cells [.d (q7 y.aQ),.d (oY y.bA),.d eO,.own 602])),(602,some (.row 3 (oZ y b).length 1 (cP (oZ y b))))]⟩) (aM.bD aA [] rfl ⟨bQ,bQ,bQ,⟨rfl,aY.of_eq (by rw[aI5];rfl)⟩,oO⟩ ⟨qZ,qZ,qZ,qZ,qZ,oO⟩) ?_;refine eX aA (ob dC ?_);refine ob dC ?_;rw[show G0 y b dN=uH (PO y b dN) by unfold G0;rw[he];rfl,he];refine aC.t ⟨⟨aK.refl _,aK.refl _,?_,aK.refl _,oO⟩,aK.refl _,oO⟩;show aK _ (LU (y.bH++ [⟨b.number,dN,q8 y b⟩]));rw[hd];exact iJ.fU (el:=aF4) (iJ.one (lt3 rfl rfl rfl))
 refine AW.seq (ex.sound (rc:=[94]) aJ mix aA _ ?_);refine⟨[(8,601),(9,602)],_,_,_,_,aF9 y z6 oM oM (List.length_pos_iff.2 hd),rfl,trivial,rfl,?_⟩;refine AW.seq (ex.sound (rc:=[98]) aJ mix aA _ ?_);refine⟨[(1001,602)],_,_,_,_,hb,rfl,⟨rfl,oO⟩,rfl,?_⟩;refine AW.seq (sX aA ?_);refine oi ⟨oM,oM⟩ (aB (refusal y (y.aQ.getD (lU y.aQ dN).toNat default) b.cls (q8 y b) hl aME) ?_);refine aD (sX aA ?_);refine AW.cond (aI (fun h4=>?_) (fun h4=>AW.skip ?_))
 ·exact zak
 have h4:(JL y (y.aQ.getD (lU y.aQ dN).toNat default) b.cls (q8 y b) !=0)=false:=h4;refine AW.seq (sX aA ?_);refine AW.cond (aI (fun h5=>?_) (fun h5=>AW.skip ?_))
 ·exact za6
 have h5:decide ((y.bH.length:Int)≥200)=false:=h5;have he:oS y b dN=0:=by unfold oS;rw[h1,h2,h3,h4,h5];rfl
 have aI5:(oZ y b).length=y.carry.length:=by unfold oZ;simp
 refine AW.gR (σ':=⟨[(2,vS dN),(6,.s (.ptr 6 0)),(4,.s (.ptr 4 0)),(10,.s (.ptr 10 0)),(11,vI (q8 y b))],[(4,some (.cells (aNW b))),(6,some (.cells (iB ty45.zero))),(10,some (.cells [.d (q7 y.aQ),.d (oY y.bA),.own 601,.own 602])),(601,some (.row 57 y.bH.length 3 (E7 y.bH))),(602,some (.row 3 (oZ y b).length 1 (cP (oZ y b))))]⟩) (aM.bD aA [] rfl ⟨bQ,bQ,bQ,bQ,⟨rfl,aY.of_eq (by rw[aI5];rfl)⟩,oO⟩ ⟨qZ,qZ,qZ,qZ,qZ,oO⟩) ?_;refine eX aA ?_;refine ob (show(y.bH.length+1)*32≤140737488355328 by have:=z6.bH;omega) ?_;refine ob (nJ (lt3 rfl rfl rfl)) ?_;rw[show G0 y b dN=uH (PO y b dN) by unfold G0;rw[he];rfl,he];refine aC.t ⟨⟨aK.refl _,aK.refl _,?_,aK.refl _,oO⟩,aK.refl _,oO⟩;show aK _ (LU (y.bH++ [⟨b.number,dN,q8 y b⟩]));exact iJ.fU (el:=aF4) (iJ.snoc iJ.refl (lt3 rfl rfl rfl))
end Go.Pj
namespace Go.Ch
open Go Go.Ax Go.Proofs Go.Proofs.Tryz
theorem Mul64(n:Int)(h:0≤n)(k:n<4294967296):aF prog 335 [uI 1,uI n] (.t [.s (.d (duI 0)),.s (.d (duI n))]):=by
 refine eP func335 rfl rfl call335 rfl rfl fun cx _=>oi dC (oi dC ?_)
 refine oi dC (oi dC ?_);refine oi dC (aC.of_eq ?_);have e1:ZO .u64 1 4294967295=1:=andM dC dC;have e2:aAQ .u64 1 32=0:=aHV dC dC;have e3:=andM h k;have e4:=aHV h k;have e5:IntKind.u64.wrap n=n:=SQ h oM;have e6:IntKind.u64.wrap 0=0:=rfl;have e7:ZO .u64 0 4294967295=0:=andM dC dC;have e8:aAQ .u64 0 32=0:=aHV dC dC;show AV.t [.s (.d (.val (.int .u64 _))),.s (.d (.val (.int .u64 _)))]=_;simp only [e1,e2,e3,e4,e5,e6,e7,e8,Int.one_mul,Int.zero_mul,Int.mul_zero,Int.add_zero]
theorem Mul(n:Int)(h:0≤n)(k:n<4294967296):aF prog 301 [uI 1,uI n] (.t [.s (.d (duI 0)),.s (.d (duI n))]):=by exact eP func301 rfl rfl call301 rfl rfl fun cx _=>aB (Mul64 n h k) (aC.refl _)
theorem aGP{f:Nat→Nat→DV}{v:Int}{n:Nat}(hf:f 0 0=dI v)(hn:n≤1000000):bW prog 245 [.s (.own 1001),vI n] [(1001,.row 3 1 1 f)] (.s (.own 30)) [(1001,.row 3 1 1 f),(30,.row 3 n 1 (B8 v n))]:=by
 refine eG (rc:=[]) (N:=48) func245 rfl rfl call245 aJ mix rfl rfl rfl rfl (fun cx aA=>?_);refine aI (fun h=>absurd (bG h) oM) (fun _=>?_);have e1:IntKind.u64.wrap (1:Int)=1:=rfl;have e2:IntKind.u64.wrap (n:Int)=n:=SQ oM oM;have hM:aF prog 301 [uI (IntKind.u64.wrap ((1:Nat):Int)),uI (IntKind.u64.wrap n)] (.t [.s (.d (duI 0)),.s (.d (duI n))]):=by rw[e2];exact Mul n oM oM
 refine aB hM ?_;repeat first|refine sk ?_|refine st ?_|refine sg ?_;refine aI (fun h=>?_) (fun _=>?_)
 ·have h:(decide ((0:Int)>0)||decide ((n:Int)>9223372036854775807))=true:=h;simp only [gt_iff_lt,Int.lt_irrefl,decide_false,Bool.false_or,decide_eq_true_eq]at h;omega
 have e3:IntKind.i64.wrap (n:Int)=n:=aG oM oM;refine ob (show 0≤IntKind.i64.wrap (n:Int) by omega) (ob (Int.le_refl _) ?_);refine ob (show((8:Nat):Int)*IntKind.i64.wrap (n:Int)≤_ by omega) (ob (fun k j hk hj=>?_) ?_)
 ·obtain rfl:k=0:=oM;obtain rfl:j=0:=oM;rw[hf];rfl
 refine AW.cG (fun k:Nat=>⟨[(7,.s (.own 30)),(8,vI k)],[(30,some (.row 3 n 1 (B8 v k))),(1001,some (.row 3 1 1 f))]⟩)
  (fun k=>k≤n∧(0<n→0<k)) (fun k=>n - k) (min 1 n) oM ?_ ?_
 ·refine aM.of [] zex rfl ⟨⟨rfl,aY.row (by rw[e3];rfl) fun k j hk hj=>aK.of_eq ?_⟩,bQ,oO⟩ ⟨qZ,⟨rfl,aU.int ?_⟩,oO⟩
  ·have hj:j=0:=by have:j<1:=hj;omega
   subst hj;have hk:k<(IntKind.i64.wrap (n:Int)).toNat:=hk;rw[e3]at hk ⊢;show(if 0≤k∧k<0+Nat.min 1 n then f (k - 0) 0 else dI 0)=(if k<min 1 n then dI v else dI 0);rw[Nat.zero_add];by_cases h1:k<min 1 n
   ·obtain rfl:k=0:=oM;rw[if_pos h1,if_pos ⟨Nat.zero_le _,h1⟩,hf]
   rw[if_neg h1,if_neg (fun h=>h1 h.2)]
  rw[e3];rfl
 intro k ⟨hk,QW⟩;refine eX aA (aI (fun h=>?_) (fun h=>?_))
 ·have h:(k:Int)<n:=bG h;refine oi (show 0≤(k:Int)∧(k:Int)≤(n:Int)∧(n:Int)≤n by omega) (oi (show(0:Int)≤0∧(0:Int)≤(k:Int)∧(k:Int)≤n by omega) ?_);refine ob (fun i j _ _=>?_) ?_
  ·show(if 0+i<k then dI v else dI 0).fit=true;split <;> rfl
  refine aD ?_;have hq:Nat.min (k - 0) (n - k)≤k:=Nat.min_le_left _ _;have hq2:Nat.min (k - 0) (n - k)≤n - k:=Nat.min_le_right _ _;have hq3:0<Nat.min (k - 0) (n - k):=Nat.lt_min.2 ⟨oM,oM⟩;refine⟨k+Nat.min (k - 0) (n - k),⟨oM,oM⟩,oM,?_⟩;refine aM.of [] zex rfl ⟨⟨rfl,aY.row rfl fun i j hi hj=>aK.of_eq ?_⟩,bQ,oO⟩ ⟨qZ,⟨rfl,aU.int ?_⟩,oO⟩
  ·show N1 k (Nat.min (k - 0) (n - k)) (B8 v k) (fun i=>B8 v k (0+i)) i j=_;exact aDE hq
  show aW ((k:Int)+((Nat.min (k - 0) (n - k):Nat):Int))=_;rw[aG oM oM];omega
 have h:¬(k:Int)<n:=bF h;obtain rfl:k=n:=oM;exact⟨aU.rfl,rfl,rfl,oO⟩
theorem aKK(g:eZ)(hg:FO g):bW prog 187 [rK g] [] (.g [.d (dI g.x),.d (dI g.y),.d (dI g.side),.d (dI g.dO),.d (dI g.rows),.own 601]) [(601,.row 3 g.levels.length 1 (B8 30000 g.levels.length))]:=by
 have hn:=hg.n;have e:aW (g.dO*g.rows)=(g.levels.length:Int):=by rw[←hg.len];exact aG oM oM
 refine eG (rc:=[245]) (N:=12) func187 rfl rfl call187 aJ mix rfl rfl rfl rfl (fun cx _=>?_);refine⟨[(1001,3),(30,601)],_,_,_,_,aGP (v:=30000) (n:=g.levels.length) rfl oM,congrArg (fun n=>[_,vI n]) e,⟨rfl,oO⟩,rfl,?_⟩;exact zac
def zK(c:kE)(g:eZ)(less:Int):eZ×Int:=bif mI c [g] !=0 then(aAC,mI c [g])else(mM c g less,0)
def dgP(c:kE)(g:eZ)(less:Int)(i:Nat):Nat→Nat→DV:=fun k _=>dI (if k<i then L0 c g less k else 30000)
attribute [local irreducible] kC mU in
theorem aM0(c:kE)(g:eZ)(less:Int)(hc:c.ok)(hg:g.ok):aF prog 110 [chan c,rK g,vI less] (rGE (zK c g less).1 (zK c g less).2):=by
 refine gI (rc:=[187]) (N:=46) func110 rfl rfl call110 aJ mix rfl rfl (fun cx aA=>?_);refine aB (aNM c g hc hg) (aI (fun h1=>?_) (fun h1=>?_))
 ·have h1:(mI c [g] !=0)=true:=h1;have e:zK c g less=(aAC,mI c [g]):=by unfold zK;rw[h1];rfl
  rw[e];exact aAB rfl
 have h1:(mI c [g] !=0)=false:=h1;have h0:mI c [g]=0:=by simpa using h1
 obtain⟨e1,e2⟩:=JE h0;have e:zK c g less=(mM c g less,0):=by unfold zK;rw[h1];rfl
 rw[e];have hv:=aHP c e1;have gv:=FO.of e2;have hn:=gv.n;refine⟨[(601,601)],_,_,_,_,aKK g gv,rfl,trivial,rfl,?_⟩;refine AW.cG (fun i:Nat=>⟨[(2,vI less),(3,.s (.ptr 3 0)),(4,.s (.ptr 4 0)),(6,.s (.ptr 6 0)),(9,.s (.ptr 9 0)),(24,vI g.levels.length),(25,vI i)],
   [(3,some (IT c)),(4,some (aMS g)),(6,some (.cells [.d (dI 0),.d (dI 0),.d (dI 0),.d (dI 0),.d (dI 0),.d (.val (.slice none 0 0))])),(9,some (.cells [.d (dI g.x),.d (dI g.y),.d (dI g.side),.d (dI g.dO),.d (dI g.rows),.own 601])),(601,some (.row 3 g.levels.length 1 (dgP c g less i)))]⟩)
  (fun i=>i≤g.levels.length) (fun i=>g.levels.length - i) 0 (Nat.zero_le _) ?_ ?_
 ·refine aM.bD aA [] rfl ⟨bQ,bQ,bQ,bQ,⟨rfl,aY.row rfl fun k j hk _=>aK.of_eq ?_⟩,oO⟩ ⟨qZ,qZ,qZ,qZ,qZ,qZ,qZ,oO⟩;unfold B8 dgP;rw[if_pos hk,if_neg (Nat.not_lt_zero k)]
 intro i hi;refine ex.sound (rc:=[187]) aJ mix aA _ (aI (fun h=>?_) (fun h=>?_))
 ·have h:(i:Int)<g.levels.length:=bG h;have bC:i<g.levels.length:=oM;have hgd:=(RY gv bC).1;refine aB (aGE g i e2 oM h oM) (aB (aJJ c (dP g i) hv hgd) ?_);refine aD (aI (fun h2=>?_) (fun h2=>?_))
  ·have h2:(UI c (dP g i)).2=true:=h2;have e:L0 c g less i=aW ((UI c (dP g i)).1 - less):=by unfold L0;rw[h2];rfl
   refine oi ⟨oM,oM⟩ (ob bC ?_);refine⟨i+1,oM,oM,?_⟩;refine aM.bD aA [] rfl ⟨bQ,bQ,bQ,bQ,⟨rfl,aY.row rfl fun k j hk hj=>aK.of_eq ?_⟩,oO⟩ ⟨qZ,qZ,qZ,qZ,qZ,qZ,⟨rfl,aU.int (aG oM oM)⟩,oO⟩;have hj:j=0:=by have:j<1:=hj;omega
   subst hj;by_cases ON:k=i
   ·subst ON;refine oP.trans ?_;unfold dgP;rw[if_pos (Nat.lt_succ_self _),e]
   refine(tG ON).trans ?_;unfold dgP;exact zc0
  have h2:(UI c (dP g i)).2=false:=h2;have e:L0 c g less i=30000:=by unfold L0;rw[h2];rfl
  refine⟨i+1,oM,oM,?_⟩;refine aM.bD aA [] rfl ⟨bQ,bQ,bQ,bQ,⟨rfl,aY.row rfl fun k j hk hj=>aK.of_eq ?_⟩,oO⟩ ⟨qZ,qZ,qZ,qZ,qZ,qZ,⟨rfl,aU.int (aG oM oM)⟩,oO⟩;unfold dgP;by_cases ON:k=i
  ·subst ON;rw[if_neg (Nat.lt_irrefl _),if_pos (Nat.lt_succ_self _),e]
  exact zc0
 have h:¬(i:Int)<g.levels.length:=bF h;have bC:i=g.levels.length:=oM;subst bC;refine aC.t ⟨⟨aK.refl _,aK.refl _,aK.refl _,aK.refl _,aK.refl _,aK.wE (by simp[mM]) fun k j hk hj=>aK.of_eq ?_,oO⟩,aK.refl _,oO⟩;unfold dgP cP;rw[if_pos hk];congr 2;simp[mM,hk]
theorem H8(c:kE)(g:eZ)(hc:c.ok)(hg:g.ok):aF prog 65 [chan c,rK g] (rGE (zK c g c.over).1 (zK c g c.over).2):=by exact eP func65 rfl rfl call65 rfl rfl fun cx aA=>aB (aM0 c g c.over hc hg) (aC.refl _)
def hR(a b p:Pt):Bool:=(!(decide (a.x≤p.x)==decide (b.x≤p.x)))&&(decide (SY (nU a b p)<0)==decide (a.x<b.x))
def aLD(f:Nat→Bool):Nat→Bool
 |0=>false
 |n+1=>aLD f n !=f n
def aIM(l:List Pt)(p:Pt)(i:Nat):Bool:=jP (sI l i) (qB l (i+1)) p
def aOK(l:List Pt)(p:Pt)(i:Nat):Bool:=hR (sI l i) (qB l (i+1)) p
def aO7(l:List Pt)(p:Pt):Int:=bif zD l.length (aIM l p)then 0 else bif aLD (aOK l p) l.length then 1 else -1
def aN3(g:eZ)(l:List Pt)(i:Nat):Bool:=decide (aO7 l (dP g i)≥0)
def aN2(g:eZ)(l:List Pt)(i:Nat):List Int:=(List.range i).filterMap fun k=>bif aN3 g l k then some (k:Int)else none
end Go.Ch
namespace Go.Pj
open Go Go.Ax Go.Ch Go.Proofs Go.Proofs.Tryz
def sqF(a b:Pt):Int:=bif [a,b].any (fun p=> !fB p)then 0 else dot a b b
theorem aKC(a b:Pt):aF prog 250 [pt a,pt b] (vI (sqF a b)):=by
 refine eP func250 rfl rfl call250 rfl rfl fun cx aA=>aB ((B0 [a,b] sM).conv (args':=_) ⟨aK.fU fun i j hi hj=>aK.of_eq ?_,oO⟩) ?_
 ·exact zbp
 refine aI (fun h=>?_) (fun h=>?_)
 ·have h:([a,b].any fun p=> !fB p)=true:=h;exact aC.of_eq (by unfold sqF;rw[h];rfl)
 have h:([a,b].any fun p=> !fB p)=false:=h;refine aB (aMY a b b) ?_;exact aC.of_eq (by unfold sqF;rw[h];rfl)
def L2(n:Int):Bool:= !within n (-20000) 20000
theorem aP9(n:Int):aF prog 193 [vI n] (vB (L2 n)):=by exact eP func193 rfl rfl call193 rfl rfl fun cx aA=>aB (O6 n) (aC.refl _)
def FN(g:Ground)(p:Pt)(l:List Int):Int:=bif dX g !=0 then dX g else bif !fB p||l.any L2 then 2 else 0
theorem asked(g:Ground)(p:Pt)(l:List Int)(hg:g.fits)(hl:l.length≤9223372036854775807):aF prog 113 [T7 g,pt p,iR l] (vI (FN g p l)):=by
 refine eP func113 rfl rfl call113 rfl rfl fun cx aA=>?_
 refine aB (E8 g hg) ?_
 refine aI (fun h=>?_) (fun h=>?_)
 ·have h:(dX g !=0)=true:=h
  exact aC.of_eq (by unfold FN;rw[h];rfl)
 have h:(dX g !=0)=false:=h
 refine aB (aBI p) ?_
 repeat refine aR ?_
 refine bR (tZ l hl 193 0 (fun _=>.bL) L2 (fun n _=>aP9 n)) ?_
 repeat refine aR ?_
 refine aI (fun h2=>?_) (fun h2=>?_)
 ·have h2:(!fB p||l.any L2)=true:=h2
  exact aC.of_eq (by unfold FN;rw[h,h2];rfl)
 ·have h2:(!fB p||l.any L2)=false:=h2
  exact aC.of_eq (by unfold FN;rw[h,h2];rfl)
def bPt(b:fS):Pt:=⟨b.x,b.y⟩
def PT(l:List fS)(p:Pt):Nat→Nat×Int
 |0=>(0,0)
 |i+1=>bif i==0||decide (sqF (bPt (l.getD i default)) p<(PT l p i).2)then(i,sqF (bPt (l.getD i default)) p)else PT l p i
theorem MS(l:List fS)(p:Pt):∀i,0<i→(PT l p i).1<i
 |0,h=>by omega
 |1,_=>Nat.lt_succ_self 0
 |i+2,_=>by
  have ih:=MS l p (i+1) oM;rw[PT]
  cases(i+1==0||decide (sqF (bPt (l.getD (i+1) default)) p<(PT l p (i+1)).2))with
  |true=>exact Nat.lt_succ_self (i+1)
  |false=>exact Nat.lt_succ_of_lt ih
theorem nearest(g:Ground)(p:Pt)(hl:g.cC.length≤9223372036854775807):aF prog 195 [T7 g,pt p] (vI (PT g.cC p g.cC.length).1):=by
 refine eP func195 rfl rfl call195 rfl rfl fun cx aA=>AW.cG (fun i:Nat=>⟨[(3,.s (.ptr 3 0)),(5,vI (PT g.cC p i).1),(6,vI (PT g.cC p i).2),(12,GB g.cC),(13,vI g.cC.length),(14,vI i)],[(3,some (ptB p))]⟩) (fun i=>i≤g.cC.length) (fun i=>g.cC.length - i) 0 (Nat.zero_le _) ?_ ?_
 ·exact aM.bD aA [] rfl ⟨bQ,oO⟩ ⟨qZ,qZ,qZ,qZ,qZ,qZ,oO⟩
 intro i hi;refine eX aA (aI (fun h=>?_) (fun h=>?_))
 ·have h:(i:Int)<g.cC.length:=bG h;refine oi ⟨oM,oM⟩ (aB (aKC (bPt (g.cC.getD i default)) p) ?_);repeat refine aR ?_;have ez:(((i:Nat):Int)==0)=(i==0):=by rw[Bool.eq_iff_iff];simp
  refine aI (fun h2=>?_) (fun h2=>?_)
  ·have h2:(((i:Nat):Int)==0||decide (sqF (bPt (g.cC.getD i default)) p<(PT g.cC p i).2))=true:=h2;rw[ez]at h2;have e:PT g.cC p (i+1)=(i,sqF (bPt (g.cC.getD i default)) p):=by rw[PT,h2];rfl
   exact xz
  have h2:(((i:Nat):Int)==0||decide (sqF (bPt (g.cC.getD i default)) p<(PT g.cC p i).2))=false:=h2;rw[ez]at h2;have e:PT g.cC p (i+1)=PT g.cC p i:=by rw[PT,h2];rfl
  exact xz
 have h:¬(i:Int)<g.cC.length:=bF h;obtain rfl:i=g.cC.length:=oM;exact aC.refl _
def C4(l:List sC)(hi:Int)(i:Nat):Int:=bif decide ((i:Int)>0)then mm false hi (l.getD i default).top else hi
def FM(l:List sC)(lo:Int)(i:Nat):Int:=bif decide (((i+1:Nat):Int)<l.length)then mm true lo (l.getD (i+1) default).top else lo
def X8(l:List sC)(hi lo:Int)(i:Nat):Option Part:=bif decide (C4 l hi i>FM l lo i)then some ⟨(l.getD i default).aN,C4 l hi i,FM l lo i⟩else none
def nL(l:List sC)(hi lo:Int)(n:Nat):List Part:=(List.range n).filterMap (X8 l hi lo)
theorem ZC(l:List sC)(hi lo:Int)(n:Nat):nL l hi lo (n+1)=nL l hi lo n++(X8 l hi lo n).toList:=by unfold nL;rw[c8]
theorem RU(l:List sC)(hi lo:Int)(n:Nat):(nL l hi lo n).length≤n:=by have:=List.length_filterMap_le (X8 l hi lo) (List.range n);exact zbD
def uD(g:Ground)(p:Pt):fS:=g.cC.getD (PT g.cC p g.cC.length).1 default
theorem column(g:Ground)(p:Pt)(hi lo:Int)(h0:0<g.cC.length)(hl:g.cC.length≤9223372036854775807)(hy:(uD g p).bB.length≤1000000):
  aF prog 114 [T7 g,pt p,vI hi,vI lo] (iC (nL (uD g p).bB hi lo (uD g p).bB.length)):=by
 have fZ:=MS g.cC p g.cC.length h0
 refine eW func114 rfl rfl call114 rfl rfl (fun cx aA=>?_)
 refine sX aA ?_
 refine sX aA ?_
 refine aB (nearest g p hl) ?_
 refine oi ⟨oM,oM⟩ ?_
 refine aD ?_
 generalize hL:(uD g p).bB=L at hy
 have hL':(g.cC.getD (PT g.cC p g.cC.length).1 default).bB=L:=hL
 refine AW.gR (σ':=⟨[(2,vI hi),(3,vI lo),(9,.s (.ptr 9 0))],[(9,some (.cells [.d .bL,.d .bL,.d .bL,.d (mN L)]))]⟩) (aM.bD aA [] rfl ⟨⟨rfl,aY.cells ⟨aU.d fun _ _ _=>trivial,aU.d fun _ _ _=>trivial,aU.d fun _ _ _=>trivial,aU.of_eq (by rw[←hL'];rfl),oO⟩⟩,oO⟩ ⟨qZ,qZ,qZ,oO⟩) ?_
 refine sX aA ?_
 refine AW.seq (sX aA ?_)
 refine AW.block ?_
 refine AW.cG (fun i:Nat=>⟨[(2,vI hi),(3,vI lo),(9,.s (.ptr 9 0)),(10,.s (.mo (nL L hi lo i).isEmpty 100)),(24,AZ L),(25,vI L.length),(26,vI i)],[(9,some (.cells [.d .bL,.d .bL,.d .bL,.d (mN L)])),(100,some (.b8 164 (nL L hi lo i).length 3 (vR (nL L hi lo i))))]⟩) (fun i=>i≤L.length) (fun i=>L.length - i) 0 (Nat.zero_le _) ?_ ?_
 ·exact aM.bD aA [(100,1000)] rfl ⟨bQ,⟨rfl,rfl⟩,oO⟩ ⟨qZ,qZ,qZ,⟨rfl,aU.nil rfl⟩,qZ,qZ,qZ,oO⟩
 ·intro i bC;have hlen:=RU L hi lo i;have fN:=ZC L hi lo i;refine sX aA (AW.seq (AW.cond ?_));refine aI (fun h=>AW.skip ?_) (fun h=>AW.exit ?_)
  ·have h:(i:Int)<L.length:=bG h;have e1:aW ((i:Int)+1)=((i+1:Nat):Int):=aG oM oM;refine AW.seq (AW.block ?_);refine sX aA (oi ⟨oM,oM⟩ ?_);refine sX aA (AW.gR (σ':=⟨[(2,vI hi),(3,vI lo),(9,.s (.ptr 9 0)),(10,.s (.mo (nL L hi lo i).isEmpty 100)),(11,vI i),(12,.s (.ptr 12 0)),(13,vI hi),(14,vI lo),(24,AZ L),(25,vI L.length),(26,vI i)],[(9,some (.cells [.d .bL,.d .bL,.d .bL,.d (mN L)])),(12,some (.cells [.d (dI (L.getD i default).top),.d (dS (L.getD i default).aN)])),(100,some (.b8 164 (nL L hi lo i).length 3 (vR (nL L hi lo i))))]⟩) (aM.bD aA [] rfl ⟨bQ,bQ,bQ,oO⟩ ⟨qZ,qZ,qZ,qZ,qZ,qZ,qZ,qZ,qZ,qZ,qZ,oO⟩) ?_);refine AW.cut (σ':=⟨[(2,vI hi),(3,vI lo),(9,.s (.ptr 9 0)),(10,.s (.mo (nL L hi lo i).isEmpty 100)),(11,vI i),(12,.s (.ptr 12 0)),(13,vI (C4 L hi i)),(14,vI lo),(24,AZ L),(25,vI L.length),(26,vI i)],[(9,some (.cells [.d .bL,.d .bL,.d .bL,.d (mN L)])),(12,some (.cells [.d (dI (L.getD i default).top),.d (dS (L.getD i default).aN)])),(100,some (.b8 164 (nL L hi lo i).length 3 (vR (nL L hi lo i))))]⟩) ?_ ?_
   ·refine sX aA (AW.cond ?_);refine aI (fun h1=>?_) (fun h1=>AW.skip ?_)
    ·have h1:decide ((i:Int)>0)=true:=h1;exact eX aA zaF
    have h1:decide ((i:Int)>0)=false:=h1;exact zaF
   refine AW.cut (σ':=⟨[(2,vI hi),(3,vI lo),(9,.s (.ptr 9 0)),(10,.s (.mo (nL L hi lo i).isEmpty 100)),(11,vI i),(12,.s (.ptr 12 0)),(13,vI (C4 L hi i)),(14,vI (FM L lo i)),(24,AZ L),(25,vI L.length),(26,vI i)],[(9,some (.cells [.d .bL,.d .bL,.d .bL,.d (mN L)])),(12,some (.cells [.d (dI (L.getD i default).top),.d (dS (L.getD i default).aN)])),(100,some (.b8 164 (nL L hi lo i).length 3 (vR (nL L hi lo i))))]⟩) ?_ ?_
   ·refine sX aA (AW.cond ?_);refine aI (fun h1=>?_) (fun h1=>AW.skip ?_)
    ·have h1:decide (aW ((i:Int)+1)<(L.length:Int))=true:=h1;rw[e1]at h1;have JX:((i+1:Nat):Int)<L.length:=bG h1;refine eX aA ?_;refine oi (show 0≤aW ((i:Int)+1)∧aW ((i:Int)+1)<L.length by rw[e1];omega) ?_;have e1n:(aW ((i:Int)+1)).toNat=i+1:=by rw[e1];omega
     exact⟨rfl,aM.bD aA [] rfl ⟨bQ,bQ,bQ,oO⟩ ⟨qZ,qZ,qZ,qZ,qZ,qZ,qZ,⟨rfl,aU.int (by unfold FM;rw[h1,←e1n];rfl)⟩,qZ,qZ,qZ,oO⟩⟩
    have h1:decide (aW ((i:Int)+1)<(L.length:Int))=false:=h1;rw[e1]at h1;exact⟨rfl,aM.bD aA [] rfl ⟨bQ,bQ,bQ,oO⟩ ⟨qZ,qZ,qZ,qZ,qZ,qZ,qZ,⟨rfl,aU.int (by unfold FM;rw[h1];rfl)⟩,qZ,qZ,qZ,oO⟩⟩
   refine sX aA (AW.cond ?_);refine aI (fun h1=>?_) (fun h1=>AW.skip ?_)
   ·have h1:decide (C4 L hi i>FM L lo i)=true:=h1;have e:nL L hi lo (i+1)=nL L hi lo i++ [⟨(L.getD i default).aN,C4 L hi i,FM L lo i⟩]:=by rw[fN];unfold X8;rw[h1];rfl
    refine eX aA (ob dC ?_);refine ob (by rw[dK];show((nL L hi lo i).length+1)*32≤_;omega) ?_;refine ob (nJ (lt3 rfl rfl rfl)) (eX aA ?_);refine⟨i+1,oM,oM,?_⟩;refine aM.bD aA [(100,64)] rfl ⟨bQ,⟨rfl,?_⟩,oO⟩ ⟨qZ,qZ,qZ,⟨rfl,aU.mo (by rw[e];exact cA _ _)⟩,qZ,qZ,⟨rfl,aU.int e1⟩,oO⟩;show aY _ (.b8 164 (nL L hi lo (i+1)).length 3 (vR (nL L hi lo (i+1))));rw[e];refine aY.snoc (el:=XY) (x:=⟨(L.getD i default).aN,C4 L hi i,FM L lo i⟩) (fun c hc=>?_);have hc:c<3:=hc
    match c,hc with|0,_|1,_|2,_=>rfl
   have h1:decide (C4 L hi i>FM L lo i)=false:=h1;have e:nL L hi lo (i+1)=nL L hi lo i:=by rw[fN];unfold X8;rw[h1];exact List.append_nil _
   refine eX aA ⟨i+1,oM,oM,?_⟩;exact aM.bD aA [] rfl ⟨bQ,⟨rfl,aY.of_eq (by rw[e];rfl)⟩,oO⟩ ⟨qZ,qZ,qZ,⟨rfl,aU.of_eq (by rw[e];rfl)⟩,qZ,qZ,⟨rfl,aU.int e1⟩,oO⟩
  have h:¬(i:Int)<L.length:=bF h;obtain rfl:i=L.length:=oM;exact zdc
def FQ(g:Ground)(p:Pt)(hi lo:Int):Int:=bif FN g p [hi,lo] !=0 then FN g p [hi,lo]else bif decide (hi<lo)then 9 else 0
def vP(g:Ground)(p:Pt)(hi lo:Int):List Part:=bif FQ g p hi lo !=0 then []else nL (uD g p).bB hi lo (uD g p).bB.length
theorem EX{g:Ground}(h:dX g=0):0<g.cC.length∧g.cC.length≤20:=by
 unfold dX at h
 cases h1:(mO g.bK !=0)with
 |true=>rw[h1]at h;have h:mO g.bK=0:=h;rw[h]at h1;cases h1
 |false=>
  rw[h1]at h
  cases h2:((g.cC.length:Int)==0)with
  |true=>rw[h2]at h;cases h
  |false=>
   rw[h2]at h
   cases h3:decide ((g.cC.length:Int)>20)with
   |true=>rw[h3]at h;cases h
   |false=>
    have h2:¬(g.cC.length:Int)=0:=by simpa using h2
    have h3:¬(g.cC.length:Int)>20:=by simpa using h3
    omega
theorem aD9(g:Ground)(p:Pt)(hi lo:Int)(hg:g.fits)(hy:∀x∈g.cC,x.bB.length≤1000000):aF prog 67 [T7 g,pt p,vI hi,vI lo] (.t [.s (.d (RM (vP g p hi lo))),.s (.d (dI (FQ g p hi lo)))]):=by
 refine eP func67 rfl rfl call67 rfl rfl fun cx aA=>aB ((asked g p [hi,lo] hg sM).conv (args':=_) ⟨⟨aK.refl _,aK.refl _,oO⟩,⟨aK.refl _,aK.refl _,oO⟩,aK.fU fun i j hi hj=>aK.of_eq ?_,oO⟩) ?_
 ·have hi:i<2:=hi;have hj:j<1:=hj
  match i,j,hi,hj with
  |0,0,_,_=>rfl
  |1,0,_,_=>rfl
 refine aI (fun h1=>?_) (fun h1=>?_)
 ·have h1:(FN g p [hi,lo] !=0)=true:=h1;have e:FQ g p hi lo=FN g p [hi,lo]:=by unfold FQ;rw[h1];rfl
  have e2:vP g p hi lo=[]:=by unfold vP;rw[e,h1];rfl
  exact zeo
 have h1:(FN g p [hi,lo] !=0)=false:=h1;refine aI (fun h2=>?_) (fun h2=>?_)
 ·have h2:decide (hi<lo)=true:=h2;have e:FQ g p hi lo=9:=by unfold FQ;rw[h1,h2];rfl
  have e2:vP g p hi lo=[]:=by unfold vP;rw[e];rfl
  exact zeo
 have h2:decide (hi<lo)=false:=h2;have e:FQ g p hi lo=0:=by unfold FQ;rw[h1,h2];rfl
 have e2:vP g p hi lo=nL (uD g p).bB hi lo (uD g p).bB.length:=by unfold vP;rw[e];rfl
 have hz:dX g=0:=by
  have JX:FN g p [hi,lo]=0:=by simpa using h1
  unfold FN at JX
  cases h:(dX g !=0)with
  |true=>rw[h]at JX;have JX:dX g=0:=JX;rw[JX]at h;cases h
  |false=>simpa using h
 obtain⟨hb0,hb1⟩:=EX hz;have fZ:=MS g.cC p g.cC.length hb0;refine aB (column g p hi lo hb0 oM (hy _ (bP fZ))) ?_;rw[e,e2];exact aC.refl _
def r8(v p:Int):Int:=aW (Int.tdiv (aW (aW (v*p)+500000)) 1000000)
theorem vY(v p:Int):aF prog 35 [vI v,vI p] (vI (r8 v p)):=by exact eP func35 rfl rfl call35 rfl rfl fun cx aA=>oi dC (aC.refl _)
def wL(l:List Piece)(s:ByteArray):Nat→Int
 |0=>0
 |i+1=>bif bE (l.getD i default).aN s&&decide ((l.getD i default).load>0)then aW (wL l s i+(l.getD i default).gV)else wL l s i
def IK(l:List pQ)(s:ByteArray):Nat→Int
 |0=>0
 |i+1=>bif bE (l.getD i default).aN s then(l.getD i default).vY else IK l s i
def aJI(p:Proj)(l:List Piece)(s:ByteArray):Due:=⟨s,wL l s l.length,IK p.cO s p.cO.length,r8 (wL l s l.length) (IK p.cO s p.cO.length)⟩
def aC3(p:Proj)(l:List Piece)(i:Nat):Option Due:=bif decide (wL l (p.gr.bK.getD i default).name l.length>0)then some (aJI p l (p.gr.bK.getD i default).name)else none
def gB(p:Proj)(l:List Piece)(n:Nat):List Due:=(List.range n).filterMap (aC3 p l)
theorem UH(p:Proj)(l:List Piece)(n:Nat):gB p l (n+1)=gB p l n++(aC3 p l n).toList:=by unfold gB;rw[c8]
theorem LS(p:Proj)(l:List Piece)(n:Nat):(gB p l n).length≤n:=by have:=List.length_filterMap_le (aC3 p l) (List.range n);exact zbD
theorem Y4(p:Proj)(fs:List Fact)(l:List Piece)(hs:p.gr.bK.length≤1000000)(hl:l.length≤9223372036854775807)(hp:p.cO.length≤9223372036854775807):aF prog 33 [SR p fs,iD l] (aGR (gB p l p.gr.bK.length)):=by
 refine eW func33 rfl rfl call33 rfl rfl (fun cx aA=>?_)
 refine sX aA ?_
 refine sX aA ?_
 refine AW.seq (sX aA ?_)
 refine AW.block ?_
 refine AW.cG (fun i:Nat=>⟨[(1,iD l),(2,.s (.ptr 2 0)),(5,.s (.mo (gB p l i).isEmpty 100)),(16,jQ p.gr.bK),(17,vI p.gr.bK.length),(18,vI i)],[(2,some (.cells (l0 p fs))),(100,some (.b8 80 (gB p l i).length 4 (E5 (gB p l i))))]⟩) (fun i=>i≤p.gr.bK.length) (fun i=>p.gr.bK.length - i) 0 (Nat.zero_le _) ?_ ?_
 ·exact aM.bD aA [(100,1000)] rfl ⟨bQ,⟨rfl,rfl⟩,oO⟩ ⟨qZ,qZ,⟨rfl,aU.nil rfl⟩,qZ,qZ,qZ,oO⟩
 ·intro i hi
  have hlen:=LS p l i
  have fN:=UH p l i
  refine sX aA ?_
  refine AW.seq (AW.cond ?_)
  refine aI (fun h=>AW.skip ?_) (fun h=>AW.exit ?_)
  ·have h:(i:Int)<p.gr.bK.length:=bG h
   refine AW.seq (AW.block ?_)
   refine sX aA ?_
   refine oi ⟨oM,oM⟩ ?_
   refine sX aA ?_
   generalize hS:(p.gr.bK.getD i default).name=s
   refine AW.gR (σ':=⟨[(1,iD l),(2,.s (.ptr 2 0)),(5,.s (.mo (gB p l i).isEmpty 100)),(7,.s (.ptr 7 0)),(8,.s (.ptr 8 0)),(16,jQ p.gr.bK),(17,vI p.gr.bK.length),(18,vI i)],[(2,some (.cells (l0 p fs))),(7,some (.cells [.d (dS s),.d .bL,.d .bL,.d .bL,.d .bL])),(8,some (.cells [.d (dS s),.d (dI 0),.d (dI 0),.d (dI 0)])),(100,some (.b8 80 (gB p l i).length 4 (E5 (gB p l i))))]⟩) (aM.bD aA [] rfl ⟨bQ,⟨rfl,aY.cells ⟨aU.of_eq (by rw[←hS];rfl),aU.d fun _ _ _=>trivial,aU.d fun _ _ _=>trivial,aU.d fun _ _ _=>trivial,aU.d fun _ _ _=>trivial,oO⟩⟩,⟨rfl,aY.cells ⟨aU.of_eq (by rw[←hS];rfl),aU.rfl,aU.rfl,aU.rfl,oO⟩⟩,bQ,oO⟩ ⟨qZ,qZ,qZ,qZ,qZ,qZ,qZ,qZ,oO⟩) ?_
   refine AW.cut (σ':=⟨[(1,iD l),(2,.s (.ptr 2 0)),(5,.s (.mo (gB p l i).isEmpty 100)),(7,.s (.ptr 7 0)),(8,.s (.ptr 8 0)),(16,jQ p.gr.bK),(17,vI p.gr.bK.length),(18,vI i)],[(2,some (.cells (l0 p fs))),(7,some (.cells [.d (dS s),.d .bL,.d .bL,.d .bL,.d .bL])),(8,some (.cells [.d (dS s),.d (dI (wL l s l.length)),.d (dI 0),.d (dI 0)])),(100,some (.b8 80 (gB p l i).length 4 (E5 (gB p l i))))]⟩) ?_ ?_
   ·refine sX aA ?_
    refine AW.block ?_
    refine AW.cG (fun j:Nat=>⟨[(1,iD l),(2,.s (.ptr 2 0)),(5,.s (.mo (gB p l i).isEmpty 100)),(7,.s (.ptr 7 0)),(8,.s (.ptr 8 0)),(16,jQ p.gr.bK),(17,vI p.gr.bK.length),(18,vI i),(25,iD l),(26,vI l.length),(27,vI j)],[(2,some (.cells (l0 p fs))),(7,some (.cells [.d (dS s),.d .bL,.d .bL,.d .bL,.d .bL])),(8,some (.cells [.d (dS s),.d (dI (wL l s j)),.d (dI 0),.d (dI 0)])),(100,some (.b8 80 (gB p l i).length 4 (E5 (gB p l i))))]⟩) (fun j=>j≤l.length) (fun j=>l.length - j) 0 (Nat.zero_le _) ?_ ?_
    ·exact zb8
    ·intro j hj
     refine sX aA ?_
     refine AW.seq (AW.cond ?_)
     refine aI (fun h2=>AW.skip ?_) (fun h2=>AW.exit ?_)
     ·have h2:(j:Int)<l.length:=bG h2
      refine AW.seq (AW.block ?_)
      refine sX aA ?_
      refine oi ⟨oM,oM⟩ ?_
      refine sX aA ?_
      repeat refine aR ?_
      refine AW.cond ?_
      refine aI (fun h3=>?_) (fun h3=>AW.skip ?_)
      ·have h3:(bE (l.getD j default).aN s&&decide ((l.getD j default).load>0))=true:=h3
       have e:wL l s (j+1)=aW (wL l s j+(l.getD j default).gV):=by rw[wL,h3];rfl
       refine eX aA ?_
       refine eX aA ?_
       refine⟨j+1,oM,oM,?_⟩
       exact aM.bD aA [] rfl ⟨bQ,bQ,⟨rfl,aY.of_eq (by rw[e];rfl)⟩,bQ,oO⟩ ⟨qZ,qZ,qZ,qZ,qZ,qZ,qZ,qZ,qZ,qZ,⟨rfl,aU.int (aG oM oM)⟩,oO⟩
      ·have h3:(bE (l.getD j default).aN s&&decide ((l.getD j default).load>0))=false:=h3
       have e:wL l s (j+1)=wL l s j:=by rw[wL,h3];rfl
       exact uk
     ·have h2:¬(j:Int)<l.length:=bF h2
      obtain rfl:j=l.length:=oM
      exact zb9
   refine AW.cut (σ':=⟨[(1,iD l),(2,.s (.ptr 2 0)),(5,.s (.mo (gB p l i).isEmpty 100)),(7,.s (.ptr 7 0)),(8,.s (.ptr 8 0)),(16,jQ p.gr.bK),(17,vI p.gr.bK.length),(18,vI i)],[(2,some (.cells (l0 p fs))),(7,some (.cells [.d (dS s),.d .bL,.d .bL,.d .bL,.d .bL])),(8,some (.cells [.d (dS s),.d (dI (wL l s l.length)),.d (dI (IK p.cO s p.cO.length)),.d (dI 0)])),(100,some (.b8 80 (gB p l i).length 4 (E5 (gB p l i))))]⟩) ?_ ?_
   ·refine sX aA ?_
    refine AW.block ?_
    refine AW.cG (fun j:Nat=>⟨[(1,iD l),(2,.s (.ptr 2 0)),(5,.s (.mo (gB p l i).isEmpty 100)),(7,.s (.ptr 7 0)),(8,.s (.ptr 8 0)),(16,jQ p.gr.bK),(17,vI p.gr.bK.length),(18,vI i),(50,OT p.cO),(51,vI p.cO.length),(52,vI j)],[(2,some (.cells (l0 p fs))),(7,some (.cells [.d (dS s),.d .bL,.d .bL,.d .bL,.d .bL])),(8,some (.cells [.d (dS s),.d (dI (wL l s l.length)),.d (dI (IK p.cO s j)),.d (dI 0)])),(100,some (.b8 80 (gB p l i).length 4 (E5 (gB p l i))))]⟩) (fun j=>j≤p.cO.length) (fun j=>p.cO.length - j) 0 (Nat.zero_le _) ?_ ?_
    ·exact zb8
    ·intro j hj
     refine sX aA ?_
     refine AW.seq (AW.cond ?_)
     refine aI (fun h2=>AW.skip ?_) (fun h2=>AW.exit ?_)
     ·have h2:(j:Int)<p.cO.length:=bG h2
      refine AW.seq (AW.block ?_)
      refine sX aA ?_
      refine oi ⟨oM,oM⟩ ?_
      refine sX aA ?_
      refine AW.cond ?_
      refine aI (fun h3=>?_) (fun h3=>AW.skip ?_)
      ·have h3:bE (p.cO.getD j default).aN s=true:=h3
       have e:IK p.cO s (j+1)=(p.cO.getD j default).vY:=by rw[IK,h3];rfl
       refine eX aA ?_
       refine eX aA ?_
       refine⟨j+1,oM,oM,?_⟩
       exact aM.bD aA [] rfl ⟨bQ,bQ,⟨rfl,aY.of_eq (by rw[e];rfl)⟩,bQ,oO⟩ ⟨qZ,qZ,qZ,qZ,qZ,qZ,qZ,qZ,qZ,qZ,⟨rfl,aU.int (aG oM oM)⟩,oO⟩
      ·have h3:bE (p.cO.getD j default).aN s=false:=h3
       have e:IK p.cO s (j+1)=IK p.cO s j:=by rw[IK,h3];rfl
       exact uk
     ·have h2:¬(j:Int)<p.cO.length:=bF h2
      obtain rfl:j=p.cO.length:=oM
      exact zb9
   refine sX aA ?_
   refine aB (vY (wL l s l.length) (IK p.cO s p.cO.length)) ?_
   refine sX aA ?_
   refine AW.cond ?_
   refine aI (fun h3=>?_) (fun h3=>AW.skip ?_)
   ·have h3:decide (wL l s l.length>0)=true:=h3
    have e:gB p l (i+1)=gB p l i++ [aJI p l s]:=by rw[fN];unfold aC3;rw[hS,h3];rfl
    refine eX aA ?_
    refine ob dC ?_
    refine ob (by rw[dK];show((gB p l i).length+1)*40≤_;omega) ?_
    refine ob (nJ (lt4 rfl rfl rfl rfl)) ?_
    refine eX aA ?_
    refine⟨i+1,oM,oM,?_⟩
    refine aM.bD aA [(100,77)] rfl ⟨bQ,⟨rfl,?_⟩,oO⟩ ⟨qZ,qZ,⟨rfl,aU.mo (by rw[e];exact cA _ _)⟩,qZ,qZ,⟨rfl,aU.int (aG oM oM)⟩,oO⟩
    show aY _ (.b8 80 (gB p l (i+1)).length 4 (E5 (gB p l (i+1))))
    rw[e]
    refine aY.snoc (el:=aM9) (x:=aJI p l s) (fun c hc=>?_)
    have hc:c<4:=hc
    match c,hc with|0,_|1,_|2,_|3,_=>rfl
   ·have h3:decide (wL l s l.length>0)=false:=h3
    have e:gB p l (i+1)=gB p l i:=by rw[fN];unfold aC3;rw[hS,h3];exact List.append_nil _
    refine eX aA ?_
    refine⟨i+1,oM,oM,?_⟩
    exact aM.bD aA [] rfl ⟨bQ,⟨rfl,aY.of_eq (by rw[e];rfl)⟩,oO⟩ ⟨qZ,qZ,⟨rfl,aU.of_eq (by rw[e];rfl)⟩,qZ,qZ,⟨rfl,aU.int (aG oM oM)⟩,oO⟩
  ·have h:¬(i:Int)<p.gr.bK.length:=bF h
   obtain rfl:i=p.gr.bK.length:=oM
   exact zdc
theorem dU{e r:Int}(h:(bif e !=0 then e else r)=0):e=0∧r=0:=by
 cases h1:(e !=0)with
 |true=>rw[h1]at h;have h:e=0:=h;rw[h]at h1;cases h1
 |false=>rw[h1]at h;exact⟨by simpa using h1,h⟩
theorem dF{c:Bool}{e r:Int}(he:e≠0)(h:(bif c then e else r)=0):c=false∧r=0:=by
 cases c with
 |true=>exact absurd h he
 |false=>exact⟨rfl,h⟩
structure PV(p:Proj):Prop where
 aT:kC p.aT=0
 side:p.aT.side≤1000
 cells:p.aT.levels.length≤100
 chan:mU p.chan=0
 gr:dX p.gr=0
 agree:0≤p.agree∧p.agree≤1000
 fG:0≤p.fG∧p.fG≤1000000
 cO:rW p=0
 cU:rR p=0
 new:PW p.aQ p.bA=0
theorem PV.of{p:Proj}(h:iG p=0):PV p:=by unfold iG at h;obtain⟨_,h⟩:=dF dC h;obtain⟨h1,h⟩:=dU h;obtain⟨h2,h⟩:=dF dC h;obtain⟨h3,h⟩:=dU h;obtain⟨h4,h⟩:=dU h;obtain⟨h5,h⟩:=dF dC h;obtain⟨h6,h⟩:=dU h;simp only [Bool.or_eq_false_iff,decide_eq_false_iff_not]at h2;simp only [Bool.or_eq_false_iff,Bool.not_eq_false',within,Bool.and_eq_true,decide_eq_true_eq]at h5;unfold nN at h6;obtain⟨h7,h8⟩:=dU h6;exact⟨h1,oM,oM,h3,h4,oM,oM,h7,h8,h⟩
theorem FO.gok{g:eZ}(h:FO g):g.ok:=by
 have hn:=h.n;have key:∀n:Int, -2000000≤n→n≤2000000→nC n:=fun n h1 h2=>by simp[nC,Lit.wf,IntKind.min,IntKind.max,IntKind.signed,IntKind.bits];omega
 have:=h.x;have:=h.y;have:=h.side;have:=h.dO;have:=h.rows;refine⟨key _ oM oM,key _ oM oM,key _ oM oM,key _ oM oM,key _ oM oM,oM,fun a ha=>?_⟩;rcases h.lev a ha with h|h <;> exact key _ oM oM
theorem PV.gv{p:Proj}(h:PV p):FO p.aT:=FO.of h.aT
theorem PV.with{p:Proj}(h:PV p):mI p.chan [p.aT]=0:=by unfold mI;rw[h.chan];show(bif kC p.aT !=0 then kC p.aT else 0)=0;rw[h.aT];rfl
theorem PV.rK{p:Proj}(h:PV p)(less:Int):zK p.chan p.aT less=(mM p.chan p.aT less,0):=by unfold zK;rw[h.with];rfl
def aMA(des low:List Int)(i:Nat):Bool:=des.getD i 0 !=30000&&decide (low.getD i 0>des.getD i 0)
abbrev aP2(p:Proj):eZ:=mM p.chan p.aT 0
def aND(p:Proj)(s:ByteArray):List Pt:=(p.chan.regions.getD (PG p.chan.regions s).toNat default).lS
def aP5(p:Proj)(s:ByteArray)(low:eZ):Bool:= !(aN2 p.aT (aND p s) p.aT.levels.length).any fun n=>aMA (aP2 p).levels low.levels n.toNat
def aN4(s:ByteArray)(m:Int)(f:Fact):Bool:=f.kind==2&&bE f.eS s&&f.month==m
def aHO(fs:List Fact)(s:ByteArray)(m:Int):Bool:=fs.any (aN4 s m)
def aLN(p:Proj)(fs:List Fact)(m:Int)(low:eZ)(s:zF):Bool:=(decide (s.due≤m)&& !aHO fs s.name m)&& !aP5 p s.name low
def aLP(p:Proj)(fs:List Fact)(m:Int)(low:eZ)(i:Nat):Option OK:=bif aLN p fs m low (p.cU.getD i default)then some ⟨(p.cU.getD i default).name,(p.cU.getD i default).pen⟩else none
def M6(p:Proj)(fs:List Fact)(m:Int)(low:eZ)(n:Nat):List OK:=(List.range n).filterMap (aLP p fs m low)
theorem aB0(p:Proj)(fs:List Fact)(m:Int)(low:eZ)(n:Nat):(M6 p fs m low n).length≤n:=by have:=List.length_filterMap_le (aLP p fs m low) (List.range n);exact zbD
abbrev Room:=Fact×Int
def rmD(x:Room)(j:Nat):DV:=if j=13 then dI x.2 else J0 x.1 j
def j9(l:List Room)(i:Nat)(j:Nat):DV:=rmD (l.getD i default) j
structure DS where
 out:List Piece
 lo:Nat
 v:Int
 p:Int
 cur:List Room
def a6(pt:Piece)(s:DS):DS:=
 bif decide (s.lo<s.cur.length)then
  {out:=s.out++ [⟨pt.month,pt.cell,pt.aN,mm false s.v (s.cur.getD s.lo default).2,mm false s.p (mm false s.v (s.cur.getD s.lo default).2),(s.cur.getD s.lo default).1.number,(s.cur.getD s.lo default).1.dN⟩],
   lo:=bif aW ((s.cur.getD s.lo default).2 - mm false s.v (s.cur.getD s.lo default).2)==0 then s.lo+1 else s.lo,
   v:=aW (s.v - mm false s.v (s.cur.getD s.lo default).2),p:=aW (s.p - mm false s.p (mm false s.v (s.cur.getD s.lo default).2)),
   cur:=s.cur.set s.lo ((s.cur.getD s.lo default).1,aW ((s.cur.getD s.lo default).2 - mm false s.v (s.cur.getD s.lo default).2))}
 else {s with out:=s.out++ [⟨pt.month,pt.cell,pt.aN,s.v,mm false s.p s.v,pt.load,pt.dN⟩],v:=aW (s.v - s.v),p:=aW (s.p - mm false s.p s.v)}
def pB(pt:Piece):Nat→DS→DS
 |0,s=>s
 |k+1,s=>bif decide (s.v>0)then pB pt k (a6 pt s)else s
def qE(pt:Piece)(lo:Nat)(l:List Room):DS:=⟨[],lo,pt.iZ,pt.gV,l⟩
def cH(pt:Piece)(lo:Nat)(l:List Room):DS:=pB pt (l.length - lo+1) (qE pt lo l)
structure DJ(pt:Piece)(n:Nat)(fin:DS)(x:Nat×DS):Prop where
 run:pB pt x.1 x.2=fin
 lo:x.2.lo≤n
 len:x.2.cur.length=n
 v:0≤x.2.v∧x.2.v≤1000000000000000
 fuel:x.2.v>0→n - x.2.lo<x.1
 left:∀i,x.2.lo≤i→i<n→1≤(x.2.cur.getD i default).2∧(x.2.cur.getD i default).2≤1000000000000
 few:x.2.out.length+x.1≤1000000
theorem aLJ(x y:Int):mm false x y=min x y:=by unfold mm;simp only;split <;> omega
theorem DJ.step{pt:Piece}{n:Nat}{fin:DS}{k:Nat}{s:DS}(h:DJ pt n fin (k,s))(hv:s.v>0):∃k',k=k'+1∧DJ pt n fin (k',a6 pt s):=by
 have hf:=h.fuel hv;simp only at hf;obtain⟨k',rfl⟩:∃k',k=k'+1:=⟨k - 1,oM⟩;refine⟨k',rfl,?_⟩;have hr:=h.run;simp only [pB,decide_eq_true hv,cond_true]at hr;have DR:=h.lo;have hlen:=h.len;have hvv:=h.v;have T0:=h.few;simp only at DR hlen hvv T0;by_cases hl:s.lo<n
 ·have hd:decide (s.lo<s.cur.length)=true:=decide_eq_true oM;obtain⟨l1,l2⟩:=h.left s.lo (Nat.le_refl _) hl;simp only at l1 l2;have hm:=aLJ s.v (s.cur.getD s.lo default).2;have V7:aW ((s.cur.getD s.lo default).2 - mm false s.v (s.cur.getD s.lo default).2)=(s.cur.getD s.lo default).2 - mm false s.v (s.cur.getD s.lo default).2:=aG oM oM;have V6:aW (s.v - mm false s.v (s.cur.getD s.lo default).2)=s.v - mm false s.v (s.cur.getD s.lo default).2:=aG oM oM;have e1:(a6 pt s).lo=bif aW ((s.cur.getD s.lo default).2 - mm false s.v (s.cur.getD s.lo default).2)==0 then s.lo+1 else s.lo:=by unfold a6;rw[hd];rfl
  have e2:(a6 pt s).cur=s.cur.set s.lo ((s.cur.getD s.lo default).1,aW ((s.cur.getD s.lo default).2 - mm false s.v (s.cur.getD s.lo default).2)):=by unfold a6;rw[hd];rfl
  have e3:(a6 pt s).v=aW (s.v - mm false s.v (s.cur.getD s.lo default).2):=by unfold a6;rw[hd];rfl
  have e4:(a6 pt s).out.length=s.out.length+1:=by unfold a6;rw[hd];simp
  have key:∀i,i<n→i≠s.lo→(s.cur.set s.lo ((s.cur.getD s.lo default).1,aW ((s.cur.getD s.lo default).2 - mm false s.v (s.cur.getD s.lo default).2))).getD i default=s.cur.getD i default:=fun i hi fJ=>by simp[List.getD_eq_getElem?_getD,Ne.symm fJ]
  have aO3:(s.cur.set s.lo ((s.cur.getD s.lo default).1,aW ((s.cur.getD s.lo default).2 - mm false s.v (s.cur.getD s.lo default).2))).getD s.lo default=((s.cur.getD s.lo default).1,aW ((s.cur.getD s.lo default).2 - mm false s.v (s.cur.getD s.lo default).2)):=by simp[List.getD_eq_getElem?_getD,show s.lo<s.cur.length by omega]
  cases hz:(aW ((s.cur.getD s.lo default).2 - mm false s.v (s.cur.getD s.lo default).2)==0)with
  |true=>rw[hz]at e1;have e1:(a6 pt s).lo=s.lo+1:=e1;refine⟨hr,by simp only [e1];omega,by simp only [e2,List.length_set];exact hlen,by simp only [e3,V6];omega,fun _=>by simp only [e1];omega,fun i h1 h2=>?_,by simp only [e4];omega⟩;simp only [e1]at h1;simp only [e2];rw[key i h2 oM];exact h.left i (by simp only;omega) h2
  |false=>
   rw[hz]at e1;have e1:(a6 pt s).lo=s.lo:=e1;have fJ:aW ((s.cur.getD s.lo default).2 - mm false s.v (s.cur.getD s.lo default).2)≠0:=by simpa using hz
   refine⟨hr,by simp only [e1];omega,by simp only [e2,List.length_set];exact hlen,by simp only [e3,V6];omega,fun Z3=>by simp only [e3,V6]at Z3;omega,fun i h1 h2=>?_,by simp only [e4];omega⟩;simp only [e1]at h1;simp only [e2];by_cases hi:i=s.lo
   ·subst hi;rw[aO3];simp only;omega
   rw[key i h2 hi];exact h.left i (by simp only;omega) h2
 have hd:decide (s.lo<s.cur.length)=false:=decide_eq_false oM;have e1:(a6 pt s).lo=s.lo:=by unfold a6;rw[hd];rfl
 have e2:(a6 pt s).cur=s.cur:=by unfold a6;rw[hd];rfl
 have e3:(a6 pt s).v=0:=by unfold a6;rw[hd];show aW (s.v - s.v)=0;rw[Int.sub_self];rfl
 have e4:(a6 pt s).out.length=s.out.length+1:=by unfold a6;rw[hd];simp
 exact⟨hr,by simp only [e1];omega,by simp only [e2];exact hlen,by simp only [e3];omega,fun Z3=>by simp only [e3]at Z3;omega,fun i h1 h2=>by simp only [e1]at h1;omega,by simp only [e4];omega⟩
theorem BD{pt:Piece}{k:Nat}{s:DS}(h:¬s.v>0):pB pt k s=s:=by
 cases k with
 |zero=>rfl
 |succ k=>rw[pB,decide_eq_false h];rfl
def xD(s:DS):Int:=bif decide (s.lo<s.cur.length)then mm false s.v (s.cur.getD s.lo default).2 else s.v
def I8(pt:Piece)(s:DS):Int:=bif decide (s.lo<s.cur.length)then(s.cur.getD s.lo default).1.number else pt.load
def FG(pt:Piece)(s:DS):ByteArray:=bif decide (s.lo<s.cur.length)then(s.cur.getD s.lo default).1.dN else pt.dN
theorem lJ(pt:Piece)(s:DS):(a6 pt s).out=s.out++ [⟨pt.month,pt.cell,pt.aN,xD s,mm false s.p (xD s),I8 pt s,FG pt s⟩]:=by unfold a6 xD I8 FG;cases decide (s.lo<s.cur.length) <;> rfl
theorem L8(pt:Piece)(s:DS):(a6 pt s).v=aW (s.v - xD s):=by exact zdJ
theorem L9(pt:Piece)(s:DS):(a6 pt s).p=aW (s.p - mm false s.p (xD s)):=by exact zdJ
theorem aD8{x y:DV}{a:TV}(h:aK x y):aU (.t [.s (.d x),a]) (.t [.s (.d y),a]):=by
 rintro M β v ⟨vs,e,r⟩
 match vs,r with
 |[u1,u2],⟨r1,r2,r3⟩=>exact⟨[u1,u2],e,h M u1 r1,r2,r3⟩
theorem aGX{l:List Room}{i a c:Nat}{x:Int}(hi:i<l.length)(ha:a<l.length)(hc:c<14):eT (j9 l) i 13 [.d (dI x)] a c=j9 (l.set i ((l.getD i default).1,x)) a c:=by
 unfold eT;by_cases h:a=i
 ·subst h;rw[if_pos rfl];unfold j9;rw[show(l.set a ((l.getD a default).1,x)).getD a default=((l.getD a default).1,x) by simp[List.getD_eq_getElem?_getD,ha]];by_cases h13:c=13
  ·subst h13;rfl
  match c,hc,h13 with
  |0,_,_|1,_,_|2,_,_|3,_,_|4,_,_|5,_,_|6,_,_|7,_,_|8,_,_|9,_,_|10,_,_|11,_,_|12,_,_=>rfl
  |13,_,h=>exact absurd rfl h
 rw[if_neg h];unfold j9;congr 1;simp[List.getD_eq_getElem?_getD,Ne.symm h]
theorem aC5(pt:Piece)(l:List Room)(lo n:Nat)(hn:l.length=n)(DR:lo≤n)(hn2:n≤1000)(hv:0≤pt.iZ∧pt.iZ≤1000000000000000)
  (hl:∀i,lo≤i→i<n→1≤(l.getD i default).2∧(l.getD i default).2≤1000000000000):
  bW prog 68 [aIK pt,.s (.j0 1001 14 lo (n - lo))] [(1001,.row 217 n 14 (j9 l))]
   (.t [.s (.d (WR (cH pt lo l).out)),.s (.j0 1001 14 (cH pt lo l).lo (n - (cH pt lo l).lo))]) [(1001,.row 217 n 14 (j9 (cH pt lo l).cur))]:=by
 generalize aCM:cH pt lo l=fin
 refine gJ func68 rfl rfl call68 aJ rfl rfl rfl rfl (fun cx aA=>?_)
 refine sX aA ?_
 refine sX aA ?_
 refine sX aA ?_
 refine aD ?_
 refine AW.seq ?_
 refine AW.block ?_
 refine AW.cG (fun x:Nat×DS=>⟨[(1,.s (.j0 1001 14 x.2.lo (n - x.2.lo))),(2,.s (.ptr 2 0)),(6,.s (.mo x.2.out.isEmpty 100)),(7,vI x.2.v),(8,vI x.2.p)],[(1001,some (.row 217 n 14 (j9 x.2.cur))),(2,some (.cells [.d (dI pt.month),.d (dI pt.cell),.d (dS pt.aN),.d (dI pt.iZ),.d (dI pt.gV),.d (dI pt.load),.d (dS pt.dN)])),(100,some (.b8 109 x.2.out.length 7 (eJ x.2.out)))]⟩) (DJ pt n fin) (fun x=>x.1) (n - lo+1,qE pt lo l) ⟨by rw[←aCM];unfold cH;rw[hn],DR,hn,hv,fun _=>by show n - lo<n - lo+1;omega,hl,by show 0+(n - lo+1)≤_;omega⟩ ?_ ?_
 ·exact za9
 ·exact zev
end Go.Pj
namespace Go.Pj
open Go Go.Ax Go.Ch Go.Proofs Go.Proofs.Tryz Go.Sort Go.Shelf
def cfL(x y:Fact):Int:=orI (aNI x.month y.month) (aNI x.number y.number)
def JH(l:List Fact):List Fact:=l.mergeSort fun x y=> !(ltOf cfL y x)
theorem A5(l:List Fact):(JH l).length=l.length:=by unfold JH;simp
end Go.Pj
namespace Go.Pj
open Go Go.Ax Go.Ch Go.Proofs Go.Proofs.Tryz
theorem W6{y:gK}(h:kX y=0):y.carry.length=y.bA.length∧∀i,i<y.bA.length→(y.bA.getD i default).den≠0:=by
 unfold kX at h;obtain⟨_,h⟩:=dF dC h;obtain⟨_,h⟩:=dU h;obtain⟨h,_⟩:=dU h;unfold o4 at h;obtain⟨_,h⟩:=dF dC h;obtain⟨h1,h⟩:=dU h;obtain⟨h2,_⟩:=dF dC h;have h2:(y.carry.length:Int)=y.bA.length:=by simpa using h2
 refine⟨oM,fun i hi=>?_⟩;have hb:=lQ h1 i (Nat.zero_le _) oM;unfold rN at hb;obtain⟨_,hb⟩:=dF dC hb;obtain⟨_,hb⟩:=dF dC hb;unfold JZ at hb;obtain⟨hb,_⟩:=dF dC hb;simp only [Bool.or_eq_false_iff,Bool.not_eq_false',within,Bool.and_eq_true,decide_eq_true_eq]at hb;omega
theorem yA.of{y:gK}(h1:y.fits)(h2:y.small):yA y:=⟨h1,h2,W6⟩
theorem yA.plc{y:gK}(h:yA y){b:Batch}{dN:ByteArray}(he:oS y b dN=0):yA (PO y b dN):=by
 have hd:y.bH.length<200:=by unfold oS at he;obtain⟨_,he⟩:=dU he;obtain⟨_,he⟩:=dF dC he;obtain⟨_,he⟩:=dF dC he;obtain⟨_,he⟩:=dU he;obtain⟨he,_⟩:=dF dC he;simp only [decide_eq_false_iff_not]at he;omega
 have hc:(oZ y b).length=y.carry.length:=by unfold oZ;simp
 have hf:=h.fits;have hs:=h.small;refine yA.of ⟨hf.aQ,hf.bA,?_,?_,hf.vU,hf.rB,hf.aV⟩ ⟨hs.aQ,hs.bA,?_,?_,hs.aV⟩
 ·exact zb4
 ·show(oZ y b).length≤_;rw[hc];exact hf.carry
 ·exact zb4
 show(oZ y b).length≤_;rw[hc];exact hs.carry
def zC(f:Fact):Batch:=⟨f.number,f.aT,f.over,f.aN,f.cls⟩
def tO(fs:List Fact)(m:Int):List Fact:=fs.filter fun f=>f.kind==1&&decide (f.month≤m)
def j8(fs:List Fact)(m:Int):List Fact:=JH (tO fs m)
def iM(p:Proj)(l:List Fact):Nat→List Fact×gK
 |0=>([],G7 p.aQ p.bA)
 |k+1=>bif oS (iM p l k).2 (zC (l.getD k default)) (l.getD k default).dN==0 then((iM p l k).1++ [l.getD k default],PO (iM p l k).2 (zC (l.getD k default)) (l.getD k default).dN)else iM p l k
theorem LF{p:Proj}{l:List Fact}(h:yA (G7 p.aQ p.bA)):∀k,yA (iM p l k).2
 |0=>h
 |k+1=>by
  have ih:=LF (l:=l) h k;rw[iM]
  cases he:(oS (iM p l k).2 (zC (l.getD k default)) (l.getD k default).dN==0)with
  |true=>exact ih.plc (by simpa using he)
  |false=>exact ih
theorem BY(p:Proj)(l:List Fact):∀k,(iM p l k).1.length≤k
 |0=>Nat.le_refl _
 |k+1=>by
  have ih:=BY p l k;rw[iM]
  cases(oS (iM p l k).2 (zC (l.getD k default)) (l.getD k default).dN==0)with
  |true=>show(_++ [_]).length≤_;rw[List.length_append];simp only [List.length_singleton];omega
  |false=>exact Nat.le_succ_of_le ih
theorem aOX{p:Proj}(hp:p.fits)(hv:PV p):G7 p.aQ p.bA=BL p.aQ p.bA∧yA (G7 p.aQ p.bA):=by
 have e:G7 p.aQ p.bA=BL p.aQ p.bA:=by unfold G7;rw[hv.new];rfl
 refine⟨e,?_⟩;rw[e];exact yA.of (DK hp.small hp.vU hp.rB) hp.small
def yW(fs:List Fact)(m:Int)(i:Nat):List Fact:=(fs.take i).filter fun f=>f.kind==1&&decide (f.month≤m)
theorem XB{fs:List Fact}{m:Int}{i:Nat}(h:i<fs.length):yW fs m (i+1)=yW fs m i++(bif (fs.getD i default).kind==1&&decide ((fs.getD i default).month≤m)then [fs.getD i default]else []):=by
 unfold yW;rw[List.take_add_one,List.getElem?_eq_getElem h,List.filter_append,aX h]
 cases hh:(fs[i].kind==1&&decide (fs[i].month≤m)) <;> simp[hh]
theorem aAJ(fs:List Fact)(m:Int)(i:Nat):(yW fs m i).length≤i:=Nat.le_trans (List.length_filter_le _ _) zeC
end Go.Pj
--K37
namespace Go.Ax
theorem AW.aP4{P:Program}{cx:Cx}{N:Nat}{σ σ':St}{K:Exit→St→Prop}{x y:Code}(h:AW P cx N x σ fun e s=>e=.normal∧pI cx N s σ')(k:AW P cx N y σ' K):AW P cx N (.seq x y) σ K:=
 AW.seq (AW.mono h fun _ _ ⟨he,hs⟩=>by subst he;exact AW.XE hs k)
end Go.Ax
namespace Go.Pj
open Go Go.Ax Go.Ch Go.Proofs Go.Proofs.Tryz
set_option maxRecDepth 100000
set_option maxHeartbeats 1000000
theorem aD5(a:AV):aF prog 44 [.s (.d eO),a] (.t []):=by
 refine⟨call44,fun M w vs _ hr hM=>?_⟩
 match vs,hr with
 |[v,v2],⟨hv,_,_⟩=>have hv:v=.slice none 0 0:=hv;subst hv;exact(AnyF.slices_SortFunc_none (P:=prog) (ρ:=Tryz.BR) {Tryz.aBY with} none 0 v2 w).mono zat
 |[],h=>exact h.elim
 |[_],h=>exact h.2.elim
 |_::_::_::_,h=>exact h.2.2.elim
def ZR(fs:List Fact)(m:Int):Prop:=0<(tO fs m).length→bW prog 44 [.s (.own 1001),.s (.dZ 45 [])] [(1001,.row 55 (tO fs m).length 13 (nE (tO fs m)))] (.t []) [(1001,.row 55 (tO fs m).length 13 (nE (JH (tO fs m))))]
theorem aI8(p:Proj)(fs:List Fact)(m:Int)(hp:p.fits)(hv:PV p)(hl:fs.length≤200)(hn:ZR fs m):
  aF prog 19 [SR p fs,vI m] (.t [.s (.d (RN (iM p (j8 fs m) (j8 fs m).length).1)),.g (uH (iM p (j8 fs m) (j8 fs m).length).2)]):=by
 obtain⟨eN,gN⟩:=aOX hp hv
 have aPX:=aNC p.aQ p.bA hp.small hp.vU hp.rB
 have lC:yW fs m fs.length=tO fs m:=by unfold yW tO;rw[List.take_length]
 have hLl:(j8 fs m).length≤200:=by
  exact zc5
 have oV:=fun k=>LF (l:=j8 fs m) gN k
 refine eW func19 rfl rfl call19 rfl rfl (fun cx aA=>?_)
 refine sX aA ?_
 refine sX aA ?_
 refine AW.cut (σ':=⟨[(1,vI m),(2,.s (.ptr 2 0)),(5,.s (.ptr 5 0)),(6,.s (.mo (tO fs m).isEmpty 100))],[(2,some (.cells (l0 p fs))),(5,some (.cells (iB ty45.zero))),(100,some (.b8 55 (tO fs m).length 13 (nE (tO fs m))))]⟩) ?_ ?_
 ·refine sX aA ?_
  refine AW.block ?_
  refine AW.cG (fun i:Nat=>⟨[(1,vI m),(2,.s (.ptr 2 0)),(5,.s (.ptr 5 0)),(6,.s (.mo (yW fs m i).isEmpty 100)),(17,cJ fs),(18,vI fs.length),(19,vI i)],[(2,some (.cells (l0 p fs))),(5,some (.cells (iB ty45.zero))),(100,some (.b8 55 (yW fs m i).length 13 (nE (yW fs m i))))]⟩) (fun i=>i≤fs.length) (fun i=>fs.length - i) 0 (Nat.zero_le _) ?_ ?_
  ·exact aM.bD aA [(100,1000)] rfl ⟨bQ,bQ,⟨rfl,rfl⟩,oO⟩ ⟨qZ,qZ,qZ,⟨rfl,aU.nil rfl⟩,qZ,qZ,qZ,oO⟩
  ·intro i hi
   have hlen:=aAJ fs m i
   refine sX aA ?_
   refine AW.seq (AW.cond ?_)
   refine aI (fun h=>AW.skip ?_) (fun h=>AW.exit ?_)
   ·have h:(i:Int)<fs.length:=bG h
    have fN:=XB (m:=m) (show i<fs.length by omega)
    refine AW.seq (AW.block ?_)
    refine sX aA ?_
    refine oi ⟨oM,oM⟩ ?_
    refine sX aA ?_
    repeat refine aR ?_
    refine AW.cond ?_
    refine aI (fun h2=>?_) (fun h2=>AW.skip ?_)
    ·have h2:((fs.getD i default).kind==1&&decide ((fs.getD i default).month≤m))=true:=h2
     rw[h2]at fN
     have fN:yW fs m (i+1)=yW fs m i++ [fs.getD i default]:=fN
     refine eX aA ?_
     refine ob dC ?_
     refine ob (by rw[dK];show((yW fs m i).length+1)*144≤_;omega) ?_
     refine ob (nJ fun c hc=>by match c,hc with|0,_|1,_|2,_|3,_|4,_|5,_|6,_|7,_|8,_|9,_|10,_|11,_|12,_=>rfl) ?_
     refine eX aA ?_
     refine⟨i+1,oM,oM,?_⟩
     refine aM.bD aA [(100,35)] rfl ⟨bQ,bQ,⟨rfl,?_⟩,oO⟩ ⟨qZ,qZ,qZ,⟨rfl,aU.mo (by rw[fN];exact cA _ _)⟩,qZ,qZ,⟨rfl,aU.int (aG oM oM)⟩,oO⟩
     show aY _ (.b8 55 (yW fs m (i+1)).length 13 (nE (yW fs m (i+1))))
     rw[fN]
     refine aY.snoc (el:=J0) (x:=fs.getD i default) (fun c hc=>?_)
     exact zbR
    ·have h2:((fs.getD i default).kind==1&&decide ((fs.getD i default).month≤m))=false:=h2
     rw[h2]at fN
     have fN:yW fs m (i+1)=yW fs m i:=fN.trans (List.append_nil _)
     refine eX aA ?_
     refine⟨i+1,oM,oM,?_⟩
     exact aM.bD aA [] rfl ⟨bQ,bQ,⟨rfl,aY.of_eq (by rw[fN];rfl)⟩,oO⟩ ⟨qZ,qZ,qZ,⟨rfl,aU.of_eq (by rw[fN];rfl)⟩,qZ,qZ,⟨rfl,aU.int (aG oM oM)⟩,oO⟩
   ·have h:¬(i:Int)<fs.length:=bF h
    obtain rfl:i=fs.length:=oM
    rw[lC]
    exact kq
 refine AW.aP4 (σ':=⟨[(2,.s (.ptr 2 0)),(5,.s (.ptr 5 0)),(6,cJ (j8 fs m))],[(2,some (.cells (l0 p fs))),(5,some (.cells (iB ty45.zero)))]⟩) ?_ ?_
 ·have hn:0<(tO fs m).length→bW prog 44 [.s (.own 1001),.s (.dZ 45 [])] [(1001,.row 55 (tO fs m).length 13 (nE (tO fs m)))] (.t []) [(1001,.row 55 (tO fs m).length 13 (nE (JH (tO fs m))))]:=hn
  generalize hD:tO fs m=D at hn
  have hsD:j8 fs m=JH D:=by unfold j8;rw[hD]
  cases hz:D.isEmpty with
  |true=>
   have hDn:D=[]:=by simpa using hz
   refine AW.gR (σ':=⟨[(2,.s (.ptr 2 0)),(5,.s (.ptr 5 0)),(6,.s (.d eO))],[(2,some (.cells (l0 p fs))),(5,some (.cells (iB ty45.zero)))]⟩) (aM.bD aA [] rfl ⟨bQ,bQ,oO⟩ ⟨qZ,qZ,⟨rfl,aU.aGT rfl⟩,oO⟩) ?_
   refine eX aA ?_
   refine aB (aD5 _) ?_
   exact⟨rfl,pI.aFD (aM.bD aA [] rfl ⟨bQ,bQ,oO⟩ ⟨qZ,qZ,⟨rfl,aU.d (by rw[hsD,hDn,show JH []=[] by simp[JH]];exact aK.nil)⟩,oO⟩)⟩
  |false=>
   refine AW.gR (aM.own (z:=false) (e:=55) (n:=D.length) (s:=13) (f:=nE D) 6 100 rfl rfl rfl) ?_
   refine AW.gR (σ':=⟨[(2,.s (.ptr 2 0)),(5,.s (.ptr 5 0)),(6,.s (.own 100))],[(2,some (.cells (l0 p fs))),(5,some (.cells (iB ty45.zero))),(100,some (.row 55 D.length 13 (nE D)))]⟩) (aM.bD aA [] rfl ⟨bQ,bQ,bQ,oO⟩ ⟨qZ,qZ,qZ,oO⟩) ?_
   refine ex.sound (rc:=[44]) aJ mix aA _ ?_
   have hDl:D.length≤200:=by rw[←hD];exact Nat.le_trans (List.length_filter_le _ _) hl
   refine⟨[(1001,100)],_,_,_,_,hn (by cases D with|nil=>cases hz|cons a b=>simp),rfl,⟨rfl,oO⟩,rfl,?_⟩
   exact⟨rfl,pI.of aA [] [100] rfl rfl rfl ⟨⟨rfl,hI.rfl⟩,⟨rfl,hI.rfl⟩,oO⟩ ⟨⟨rfl,b7.rfl⟩,⟨rfl,b7.rfl⟩,⟨rfl,(b7.own sM rfl).then (aU.d (aK.of_eq (by rw[hsD];unfold RN;rw[A5])))⟩,oO⟩⟩
 generalize j8 fs m=L at hLl oV
 refine sX aA ?_
 refine aB (aPX) ?_
 refine sX aA ?_
 refine AW.seq (sX aA ?_)
 refine AW.block ?_
 refine AW.cG (fun k:Nat=>⟨[(5,.s (.ptr 5 0)),(9,.s (.ptr 9 0)),(11,.s (.mo (iM p L k).1.isEmpty 100)),(49,cJ L),(50,vI L.length),(51,vI k)],[(5,some (.cells (iB ty45.zero))),(9,some (.cells (uH (iM p L k).2))),(100,some (.b8 55 (iM p L k).1.length 13 (nE (iM p L k).1)))]⟩) (fun k=>k≤L.length) (fun k=>L.length - k) 0 (Nat.zero_le _) ?_ ?_
 ·exact aM.bD aA [(100,1000)] rfl ⟨bQ,bQ,⟨rfl,rfl⟩,oO⟩ ⟨qZ,qZ,⟨rfl,aU.nil rfl⟩,qZ,qZ,qZ,oO⟩
 ·intro k hk
  have hlen:=BY p L k
  have hg:=oV k
  refine sX aA ?_
  refine AW.seq (AW.cond ?_)
  refine aI (fun h=>AW.skip ?_) (fun h=>AW.exit ?_)
  ·have h:(k:Int)<L.length:=bG h
   refine AW.seq (AW.block ?_)
   refine sX aA ?_
   refine oi ⟨oM,oM⟩ ?_
   generalize hF:L.getD k default=f
   have hP:=Place (iM p L k).2 (zC f) f.dN hg
   have jO:iM p L (k+1)=bif oS (iM p L k).2 (zC f) f.dN==0 then((iM p L k).1++ [f],PO (iM p L k).2 (zC f) f.dN)else iM p L k:=by rw[iM,hF]
   refine AW.gR (σ':=⟨[(5,.s (.ptr 5 0)),(9,.s (.ptr 9 0)),(11,.s (.mo (iM p L k).1.isEmpty 100)),(49,cJ L),(50,vI L.length),(51,vI k),(13,.s (.ptr 13 0))],[(5,some (.cells (iB ty45.zero))),(9,some (.cells (uH (iM p L k).2))),(100,some (.b8 55 (iM p L k).1.length 13 (nE (iM p L k).1))),(13,some (.cells (xT f)))]⟩) (aM.bD aA [] rfl ⟨bQ,bQ,bQ,⟨rfl,aY.of_eq (by rw[←hF];rfl)⟩,oO⟩ ⟨qZ,qZ,qZ,qZ,qZ,qZ,qZ,oO⟩) ?_
   generalize hau:iM p L k=QW at hP jO hlen hg
   obtain⟨o,y⟩:=QW
   simp only at hP jO hlen hg
   cases he:(oS y (zC f) f.dN==0)with
   |true=>
    have he0:oS y (zC f) f.dN=0:=by simpa using he
    have eC:G0 y (zC f) f.dN=uH (PO y (zC f) f.dN):=by unfold G0;rw[he0];rfl
    rw[he]at jO
    have jO:iM p L (k+1)=(o++ [f],PO y (zC f) f.dN):=jO
    rw[eC,he0]at hP
    refine sX aA ?_
    refine aB (hP) ?_
    refine sX aA ?_
    refine AW.cond ?_
    refine aI (fun _=>?_) (fun h2=>by cases h2)
    refine sX aA ?_
    refine eX aA ?_
    refine ob dC ?_
    refine ob (by rw[dK];show(o.length+1)*144≤_;omega) ?_
    refine ob (nJ fun c hc=>by match c,hc with|0,_|1,_|2,_|3,_|4,_|5,_|6,_|7,_|8,_|9,_|10,_|11,_|12,_=>rfl) ?_
    refine eX aA ?_
    refine⟨k+1,oM,oM,?_⟩
    rw[jO]
    refine aM.bD aA [(100,79)] rfl ⟨bQ,bQ,⟨rfl,?_⟩,oO⟩ ⟨qZ,qZ,⟨rfl,aU.mo (cA _ _)⟩,qZ,qZ,⟨rfl,aU.int (aG oM oM)⟩,oO⟩
    show aY _ (.b8 55 (o++ [f]).length 13 (nE (o++ [f])))
    refine aY.snoc (el:=J0) (x:=f) (fun c hc=>?_)
    exact zbR
   |false=>
    have eC:G0 y (zC f) f.dN=iB ty45.zero:=by
     unfold G0
     rw[show(oS y (zC f) f.dN !=0)=true by simpa [bne]using he];rfl
    rw[he]at jO
    have jO:iM p L (k+1)=(o,y):=jO
    rw[eC]at hP
    refine sX aA ?_
    refine aB (hP) ?_
    refine sX aA ?_
    refine AW.cond ?_
    refine aI (fun h2=>?_) (fun _=>AW.skip ?_)
    ·have h2:(oS y (zC f) f.dN==0)=true:=h2
     rw[he]at h2;cases h2
    refine eX aA ?_
    refine⟨k+1,oM,oM,?_⟩
    rw[jO]
    exact aM.bD aA [] rfl ⟨bQ,bQ,bQ,oO⟩ ⟨qZ,qZ,qZ,qZ,qZ,⟨rfl,aU.int (aG oM oM)⟩,oO⟩
  ·have h:¬(k:Int)<L.length:=bF h
   obtain rfl:k=L.length:=oM
   refine eX aA ?_
   refine aD ?_
   exact aC.t ⟨aK.wE (dK _) fun _ _ _ _=>aK.refl _,⟨aK.refl _,aK.refl _,aK.refl _,aK.refl _,oO⟩,oO⟩
end Go.Pj
namespace Go.Pj
open Go Go.Ax Go.Ch Go.Proofs Go.Proofs.Tryz
def G5(l:List Piece):Nat→Int
 |0=>0
 |i+1=>aW (G5 l i+aW ((l.getD i default).iZ - (l.getD i default).gV))
def duT(t:Int)(l:List Due):Nat→Int
 |0=>t
 |i+1=>aW (duT t l i+(l.getD i default).I3)
def laT(t:Int)(l:List OK):Nat→Int
 |0=>t
 |i+1=>aW (laT t l i - (l.getD i default).I3)
def aEF(p:Proj)(m:Int)(lM:List Piece)(E4:List Due)(I7:List OK)(dsp:List Int):Stmt:=
 ⟨m,(G5 lM lM.length),(r8 (G5 lM lM.length) p.fG),(laT (duT (aW (0 - (r8 (G5 lM lM.length) p.fG))) E4 E4.length) I7 I7.length),E4,I7,dsp⟩
theorem ZS(p:Proj)(l:List Fact)(M:Nat)(lM:List Piece)(hp:p.fits)(hf:∀f∈l,f.fits)(hl:l.length≤9223372036854775807)(he:j6 p l M 1=0)(hS:SOK p (cntF l))(hM:M≤24)
  (hlp:lM.length≤1000000) (QV:aF prog 34 [SR p (cntF l),vI M,rK (sK p (cntF l) M)] (U8 (M6 p (cntF l) M (sK p (cntF l) M) p.cU.length))) (hP:aF prog 31 [SR p (cntF l),vI M,.s (.d (cZ (dA p (cntF l) (M+1))))] (iD lM)):
  aF prog 14 [oR p,cJ l,vI M] (.t [.g [.d (dI M),.d (dI (G5 lM lM.length)),.d (dI (aEF p M lM (gB p lM p.gr.bK.length) (M6 p (cntF l) M (sK p (cntF l) M) p.cU.length) (gY p (cntF l) M p.aT.levels.length)).fG),.d (dI (aEF p M lM (gB p lM p.gr.bK.length) (M6 p (cntF l) M (sK p (cntF l) M) p.cU.length) (gY p (cntF l) M p.aT.levels.length)).total),.d (x0 (gB p lM p.gr.bK.length)),.d (xZ (M6 p (cntF l) M (sK p (cntF l) M) p.cU.length)),.d (b5 (gY p (cntF l) M p.aT.levels.length))],.s (.d (dI 0))]):=by
 obtain⟨hk,_⟩:=tL he
 have hv:=PV.of hk.proj
 have hO:=MP p l M 1 hp hf hl he
 generalize cntF l=fs at hS hP hO QV
 have hfl:=hS.len
 have HV:p.gr.bK.length≤1000000:=by have h:=hv.gr;unfold dX mO at h;obtain⟨h,_⟩:=dU h;obtain⟨_,h⟩:=dF dC h;exact zcQ
 have y2:((dA p fs (M+1)).getD (M:Int).toNat default)=sK p fs M:=mK oM
 have aQL:(sK p fs M).levels.length=p.aT.levels.length:=by show(lE p fs M).length=_;unfold lE;simp
 rw[←y2]at QV
 have aPP:=LS p lM p.gr.bK.length
 have aPK:=aB0 p fs M (sK p fs M) p.cU.length
 have hsl:p.cU.length≤20:=by have h:=hv.cU;unfold rR at h;exact zcQ
 refine eW func14 rfl rfl call14 rfl rfl (fun cx aA=>?_)
 refine sX aA ?_
 refine sX aA ?_
 refine aB (hO) ?_
 refine AW.seq (sX aA ?_)
 refine AW.cond ?_
 refine aI (fun h=>by cases h) (fun _=>AW.skip ?_)
 refine sX aA ?_
 refine aB (lowest p fs M hS hM) ?_
 refine sX aA ?_
 refine aB (hP) ?_
 refine AW.seq (ex.sound (rc:=[32]) aJ mix aA _ ?_)
 refine⟨[(9,700)],_,_,_,_,OH p fs M hS,rfl,trivial,rfl,?_⟩
 refine sX aA ?_
 refine aB (Y4 p fs lM HV oM hp.cO) ?_
 refine oi (show(0:Int)≤(M:Int)∧(M:Int)<((dA p fs (M+1)).length:Int) by rw[mE];omega) ?_
 refine aB (QV) ?_
 refine aD ?_
 rw[y2]
 generalize gB p lM p.gr.bK.length=E4 at aPP
 generalize M6 p fs M (sK p fs M) p.cU.length=I7 at aPK
 generalize gY p fs M p.aT.levels.length=dsp
 refine AW.gR (σ':=⟨[(3,.s (.ptr 3 0)),(6,.s (.ptr 6 0)),(11,iD lM),(14,.s (.ptr 14 0))],[(3,some (.cells (qH p))),(6,some (.cells (iB ty72.zero))),(14,some (.cells [.d (dI M),.d (dI 0),.d (dI 0),.d (dI 0),.d (x0 E4),.d (xZ I7),.d (b5 dsp)]))]⟩) (aM.bD aA [] rfl ⟨bQ,bQ,bQ,oO⟩ ⟨qZ,qZ,qZ,qZ,oO⟩) ?_
 refine AW.cut (σ':=⟨[(3,.s (.ptr 3 0)),(6,.s (.ptr 6 0)),(11,iD lM),(14,.s (.ptr 14 0))],[(3,some (.cells (qH p))),(6,some (.cells (iB ty72.zero))),(14,some (.cells [.d (dI M),.d (dI (G5 lM lM.length)),.d (dI 0),.d (dI 0),.d (x0 E4),.d (xZ I7),.d (b5 dsp)]))]⟩) ?_ ?_
 ·refine sX aA (AW.block ?_);refine AW.cG (fun i:Nat=>⟨[(3,.s (.ptr 3 0)),(6,.s (.ptr 6 0)),(11,iD lM),(14,.s (.ptr 14 0)),(58,iD lM),(59,vI lM.length),(60,vI i)],[(3,some (.cells (qH p))),(6,some (.cells (iB ty72.zero))),(14,some (.cells [.d (dI M),.d (dI (G5 lM i)),.d (dI 0),.d (dI 0),.d (x0 E4),.d (xZ I7),.d (b5 dsp)]))]⟩) (fun i=>i≤lM.length) (fun i=>lM.length - i) 0 (Nat.zero_le _) ?_ ?_
  ·exact zaI
  intro i hi;refine sX aA (AW.seq (AW.cond ?_));refine aI (fun h=>AW.skip ?_) (fun h=>AW.exit ?_)
  ·have h:(i:Int)<lM.length:=bG h;exact ut
  have h:¬(i:Int)<lM.length:=bF h;obtain rfl:i=lM.length:=oM;exact kq
 refine sX aA ?_
 refine aB (vY (G5 lM lM.length) p.fG) ?_
 refine sX aA ?_
 refine AW.gR (σ':=⟨[(3,.s (.ptr 3 0)),(6,.s (.ptr 6 0)),(11,iD lM),(14,.s (.ptr 14 0))],[(3,some (.cells (qH p))),(6,some (.cells (iB ty72.zero))),(14,some (.cells [.d (dI M),.d (dI (G5 lM lM.length)),.d (dI (r8 (G5 lM lM.length) p.fG)),.d (dI (aW (0 - (r8 (G5 lM lM.length) p.fG)))),.d (x0 E4),.d (xZ I7),.d (b5 dsp)]))]⟩) (aM.bD aA [] rfl ⟨bQ,bQ,bQ,oO⟩ ⟨qZ,qZ,qZ,qZ,oO⟩) ?_
 refine AW.cut (σ':=⟨[(3,.s (.ptr 3 0)),(6,.s (.ptr 6 0)),(11,iD lM),(14,.s (.ptr 14 0))],[(3,some (.cells (qH p))),(6,some (.cells (iB ty72.zero))),(14,some (.cells [.d (dI M),.d (dI (G5 lM lM.length)),.d (dI (r8 (G5 lM lM.length) p.fG)),.d (dI (duT (aW (0 - (r8 (G5 lM lM.length) p.fG))) E4 E4.length)),.d (x0 E4),.d (xZ I7),.d (b5 dsp)]))]⟩) ?_ ?_
 ·refine sX aA (AW.block ?_);refine AW.cG (fun i:Nat=>⟨[(3,.s (.ptr 3 0)),(6,.s (.ptr 6 0)),(11,iD lM),(14,.s (.ptr 14 0)),(85,aGR E4),(86,vI E4.length),(87,vI i)],[(3,some (.cells (qH p))),(6,some (.cells (iB ty72.zero))),(14,some (.cells [.d (dI M),.d (dI (G5 lM lM.length)),.d (dI (r8 (G5 lM lM.length) p.fG)),.d (dI (duT (aW (0 - (r8 (G5 lM lM.length) p.fG))) E4 i)),.d (x0 E4),.d (xZ I7),.d (b5 dsp)]))]⟩) (fun i=>i≤E4.length) (fun i=>E4.length - i) 0 (Nat.zero_le _) ?_ ?_
  ·exact zaI
  intro i hi;refine sX aA (AW.seq (AW.cond ?_));refine aI (fun h=>AW.skip ?_) (fun h=>AW.exit ?_)
  ·have h:(i:Int)<E4.length:=bG h;exact ut
  have h:¬(i:Int)<E4.length:=bF h;obtain rfl:i=E4.length:=oM;exact kq
 refine AW.cut (σ':=⟨[(3,.s (.ptr 3 0)),(6,.s (.ptr 6 0)),(11,iD lM),(14,.s (.ptr 14 0))],[(3,some (.cells (qH p))),(6,some (.cells (iB ty72.zero))),(14,some (.cells [.d (dI M),.d (dI (G5 lM lM.length)),.d (dI (r8 (G5 lM lM.length) p.fG)),.d (dI (laT (duT (aW (0 - (r8 (G5 lM lM.length) p.fG))) E4 E4.length) I7 I7.length)),.d (x0 E4),.d (xZ I7),.d (b5 dsp)]))]⟩) ?_ ?_
 ·refine sX aA (AW.block ?_);refine AW.cG (fun i:Nat=>⟨[(3,.s (.ptr 3 0)),(6,.s (.ptr 6 0)),(11,iD lM),(14,.s (.ptr 14 0)),(99,U8 I7),(100,vI I7.length),(101,vI i)],[(3,some (.cells (qH p))),(6,some (.cells (iB ty72.zero))),(14,some (.cells [.d (dI M),.d (dI (G5 lM lM.length)),.d (dI (r8 (G5 lM lM.length) p.fG)),.d (dI (laT (duT (aW (0 - (r8 (G5 lM lM.length) p.fG))) E4 E4.length) I7 i)),.d (x0 E4),.d (xZ I7),.d (b5 dsp)]))]⟩) (fun i=>i≤I7.length) (fun i=>I7.length - i) 0 (Nat.zero_le _) ?_ ?_
  ·exact zaI
  intro i hi;refine sX aA (AW.seq (AW.cond ?_));refine aI (fun h=>AW.skip ?_) (fun h=>AW.exit ?_)
  ·have h:(i:Int)<I7.length:=bG h;exact ut
  have h:¬(i:Int)<I7.length:=bF h;obtain rfl:i=I7.length:=oM;exact kq
 refine eX aA ?_
 exact aC.refl _
theorem aD0{E:List gL}{k t:bJ}{e:gL}(he:e∈o6 E k t):(∃e'∈E,e.1=e'.1∧∀x∈e.2.1,x∈e'.2.1∨(x=t∧e.1=k))∨(e.1=k∧∀x∈e.2.1,x=t):=by
 unfold o6 at he;split at he
 ·rename_i i p hp;obtain⟨_,hg,hk⟩:=xU hp;obtain⟨j,hj⟩:=List.getElem?_of_mem he;rw[List.getElem?_modify]at hj
  cases hE:E[j]? with
  |none=>rw[hE]at hj;cases hj
  |some y=>
   rw[hE]at hj;have hj:(if i=j then(y.1,y.2.1++ [t],y.2.2)else y)=e:=by simpa using hj
   left;refine⟨y,List.mem_of_getElem? hE,?_⟩;by_cases Z5:i=j
   ·rw[if_pos Z5]at hj;subst hj;refine⟨rfl,fun x hx=>?_⟩;rcases List.mem_append.1 hx with hx|hx
    ·exact .inl hx
    refine .inr ⟨List.mem_singleton.1 hx,?_⟩;simp only [Nat.sub_zero]at hg;rw[Z5,hE]at hg;obtain rfl:=Option.some.inj hg;exact hk
   rw[if_neg Z5]at hj;subst hj;exact⟨rfl,fun x hx=>.inl hx⟩
 rcases List.mem_append.1 he with he|he
 ·exact .inl ⟨e,he,rfl,fun x hx=>.inl hx⟩
 rw[List.mem_singleton.1 he];exact .inr ⟨rfl,fun x hx=>List.mem_singleton.1 hx⟩
theorem yP{l:List Fact}:∀{i:Nat} {e:gL},e∈fM l i→∀t∈e.2.1,∃g∈l,t=dR g∧bT g=e.1
 |0,e,he,_,_=>by simp[fM]at he
 |i+1,e,he,t,ht=>by
  by_cases h:i<l.length
  ·rw[p9 h]at he;unfold A3 at he;have hm:l.getD i default∈l:=bP h
   cases hw:DN (l.getD i default)with
   |true=>rw[hw]at he;exact yP (i:=i) he t ht
   |false=>
    rw[hw]at he;rcases aD0 he with⟨e',DT,hk,hx⟩|⟨hk,hx⟩
    ·rcases hx t ht with h1|⟨h1,h2⟩
     ·obtain⟨g,g1,g2,g3⟩:=yP (i:=i) DT t h1;exact⟨g,g1,g2,g3.trans hk.symm⟩
     exact⟨_,hm,h1,h2.symm⟩
    exact⟨_,hm,hx t ht,hk.symm⟩
  have e1:fM l (i+1)=fM l i:=by exact xd
  rw[e1]at he;exact yP (i:=i) he t ht
theorem aF7{l:List bJ}{t:bJ}(h:t∈rG l):t∈l:=by
 unfold rG zA at h;obtain⟨i,hi,hx⟩:=List.mem_filterMap.1 h;have hi:=List.mem_range.1 hi
 cases hq:qd l i with
 |true=>rw[hq]at hx;have hx:l.getD i []=t:=Option.some.inj hx;rw[←hx,aX hi];exact List.getElem_mem hi
 |false=>rw[hq]at hx;cases hx
theorem XZ{G:List (ByteArray×Int)}{k:bJ}{ts:List bJ}{t:bJ}(h:t∈rV G k ts):t∈ts:=by unfold rV at h;have h1:=(List.mergeSort_perm _ _).mem_iff.1 (aF7 h);unfold fX dM at h1;exact(List.mem_filter.1 h1).1
theorem N4{l:List Fact}(hv:∀f∈l,fR f=0){f:Fact}(h:f∈cntF l):∃k∈pS l,f=rU (zH (pT l) k)∧∃g∈l,f=jE g∧bT g=k:=by
 unfold cntF at h;obtain⟨k,hk,rfl⟩:=List.mem_map.1 h;refine⟨k,hk,rfl,?_⟩;obtain⟨j,e,uZ,he⟩:=KO hk;obtain⟨hl1,_⟩:=O0 he;obtain⟨e',DT,y5,_,hp,_⟩:=A4 he;have qP:zH (pT l) k=e.2.1.getD (e.2.1.length - 1) []:=by unfold zH;rw[uZ]
 have kK:zH (pT l) k∈e.2.1:=by rw[qP,aX oM];exact List.getElem_mem _
 rw[hp]at kK;obtain⟨g,hg,ht,tR⟩:=yP DT _ (XZ kK);refine⟨g,hg,?_,?_⟩
 ·rw[ht];exact LZ (hv g hg)
 rw[tR,←y5];exact(xU uZ).2.2
theorem x4{p:Proj}{l:List Fact}(hk:FOK p l):SOK p (cntF l):=by
 have hv:=PV.of hk.proj;have gv:=hv.gv;have h1:=gv.len;have hc:=gv.dO;have hr:=gv.rows;have y1:0<p.aT.dO*p.aT.rows:=Int.mul_pos oM oM;have vA:(cntF l).length≤l.length:=by unfold cntF;rw[List.length_map];exact OZ l
 have hlen:=hk.len;refine⟨oM,⟨oM,hv.cells⟩,fun f hf h0=>?_⟩;obtain⟨_,_,_,g,hg,rfl,_⟩:=N4 hk.fmt hf;have h0:g.kind=0:=h0;have hs:=hk.shape g hg;unfold uM at hs;rw[h0]at hs;have hs:((g.levels.length:Int) !=p.aT.levels.length)=false:=hs;have hs:(g.levels.length:Int)=p.aT.levels.length:=by simpa using hs
 show(bif g.kind==0 then g.levels else []).length=_;rw[h0];show g.levels.length=_;omega
end Go.Pj
namespace Go.Ax
open Go.RowKit
section
variable{P:Program}{T:List (Nat×bV)}{N:Nat}{all:List Oper}{md:Region.Mode}{ft:List fY}
def VM(e:Ef):Prop:=∀p∈e.2,∀b,p.2=some b→b.real=true
def KH(P:Program)(T:List (Nat×bV))(N:Nat)(all:List Oper)(m:Nat)(om:Oper)(em:Ef)(fm:fY)(C:St→Prop)(i:Nat)(o:Oper)(σ:St)(e:Ef)(f:fY):Prop:=
 (i≠m∧FD P T N [] all o σ e f∧VM e)∨(i=m∧o=om∧e=em∧f=fm∧C σ)
structure Mid(all:List Oper)(om:Oper)(em:Ef)(fm:fY)(C:St→Prop):Prop where
 wr:em.2.map (·.1)=fm.2
 real:VM em
 congr:∀σ σ',C σ→U6 all om σ σ'→(∀x,x∈fm.2→aH σ'.box x=aH σ.box x)→C σ'
variable{m:Nat}{om:Oper}{em:Ef}{fm:fY}{C:St→Prop}(hm:Mid all om em fm C)
include hm
theorem KH.wr{i:Nat}{o:Oper}{σ:St}{e:Ef}{f:fY}(h:KH P T N all m om em fm C i o σ e f):e.2.map (·.1)=f.2:=by
 rcases h with⟨_,h,_⟩|⟨_,_,rfl,rfl,_⟩
 ·exact h.wr
 exact hm.wr
theorem KH.congr{i:Nat}{o:Oper}{σ σ':St}{e:Ef}{f:fY}(h:KH P T N all m om em fm C i o σ e f)(ht:U6 all o σ σ')(hr:wS f.1 σ σ')(hw:∀x,x∈f.2→aH σ'.box x=aH σ.box x):KH P T N all m om em fm C i o σ' e f:=by
 rcases h with⟨h0,h,h1⟩|⟨h0,rfl,rfl,rfl,h⟩
 ·exact .inl ⟨h0,h.congr ht hr hw,h1⟩
 exact .inr ⟨h0,rfl,rfl,rfl,hm.congr _ _ h ht hw⟩
theorem KH.eqv{i:Nat}{o:Oper}{σ σ':St}{e:Ef}{f:fY}(h:KH P T N all m om em fm C i o σ e f)(k:FP σ σ'):KH P T N all m om em fm C i o σ' e f:=
 h.congr hm (fun t _=>k.env t) (fun x _=>k.box x) (fun x _=>k.box x)
theorem KH.past{j:Nat}{oi oj:Oper}{ei ej:Ef}{fi fj:fY}{σ:St}(hwi:ei.2.map (·.1)=fi.2)(C2:oi.apart all.toArray oj=true)(xO:iP fi fj=true)(h:KH P T N all m om em fm C j oj (eU oi ei σ) ej fj):KH P T N all m om em fm C j oj σ ej fj:=by
 obtain⟨h1,h2,h3⟩:=Oper.apart_spec C2;obtain⟨k1,k2,k3⟩:=iP.spec xO;have ht:U6 all oj σ (eU oi ei σ):=U6.eU h1;refine h.congr hm (fun t ER=>(ht t ER).symm) (fun x hx=>(o0 (fun hw=>?_)).symm) (fun x hx=>(o0 (fun hw=>?_)).symm)
 ·exact k1 x (hwi▸hw) hx
 exact k2 x (hwi▸hw) hx
theorem KH.over{i:Nat}{oi oj:Oper}{ei ej:Ef}{fi fj:fY}{σ:St}(hwj:ej.2.map (·.1)=fj.2)(C2:oi.apart all.toArray oj=true)(xO:iP fi fj=true)(h:KH P T N all m om em fm C i oi σ ei fi):KH P T N all m om em fm C i oi (eU oj ej σ) ei fi:=by
 obtain⟨h1,h2,h3⟩:=Oper.apart_spec C2;obtain⟨k1,k2,k3⟩:=iP.spec xO;refine h.congr hm (U6.eU h3) (fun x hx=>o0 (fun hw=>?_)) (fun x hx=>o0 (fun hw=>?_))
 ·exact k3 x (hwj▸hw) hx
 exact k2 x hx (hwj▸hw)
omit hm
def wP(P:Program)(T:List (Nat×bV))(N:Nat)(all:List Oper)(m:Nat)(om:Oper)(em:Ef)(fm:fY)(C:St→Prop)(md:Region.Mode)(ft:List fY)(σf:St)(last:Nat):Nat→Array Bool→St→Prop
 |0,_,_=>False
 |fuel+1,listed,σ=>
  Region.ready md all.toArray listed≠[]∧
  ∀i∈Region.ready md all.toArray listed,(i=last∧Region.ready md all.toArray (listed.setIfInBounds i true)=[]∧listed.getD m true=true∧FP σf σ)∨
   (i≠last∧∃o e f,all[i]? =some o∧ft[i]? =some f∧KH P T N all m om em fm C i o σ e f∧wP P T N all m om em fm C md ft σf last fuel (listed.setIfInBounds i true) (eU o e σ))
include hm
theorem wP.eqv{σf:St}{last:Nat}:∀(fuel:Nat) {listed:Array Bool} {σ σ':St},FP σ σ'→wP P T N all m om em fm C md ft σf last fuel listed σ→wP P T N all m om em fm C md ft σf last fuel listed σ'
 |0,_,_,_,_,h=>h
 |fuel+1,_,_,_,k,h=>⟨h.1,fun i hi=>by
  rcases h.2 i hi with⟨h1,h2,h3,h4⟩|⟨h0,o,e,f,h1,h2,h3,h4⟩
  ·exact .inl ⟨h1,h2,h3,h4.trans k⟩
  exact .inr ⟨h0,o,e,f,h1,h2,h3.eqv hm k,wP.eqv fuel (eU.eqv k) h4⟩⟩
theorem wP.first{σf:St}{last:Nat}{i:Nat}{oi:Oper}{ei:Ef}{fi:fY}(hi:all[i]? =some oi)(hfi:ft[i]? =some fi)(hil:i≠last){d:Nat}(aCN:dep md all.toArray i d last=true):
  ∀(fuel:Nat) (listed:Array Bool) (σ:St),
   (∀j oj fj,all[j]? =some oj→ft[j]? =some fj→j≠i→listed.getD j true=false→(∀n,dep md all.toArray i n j=false)→oi.apart all.toArray oj=true∧iP fi fj=true)→sZ md all listed→
   i∈Region.ready md all.toArray listed→KH P T N all m om em fm C i oi σ ei fi→
   wP P T N all m om em fm C md ft σf last fuel (listed.setIfInBounds i true) (eU oi ei σ)→wP P T N all m om em fm C md ft σf last (fuel+1) listed σ:=by
 intro fuel
 induction fuel with
 |zero=>intro listed σ _ _ hr hy H;exact H.elim
 |succ fuel ih=>
  intro listed σ EV vA hr hy H;refine⟨fun h=>ze2,fun j hj=>?_⟩;by_cases y7:j=i
  ·exact zdT
  obtain⟨QX,oj',aCI,lC⟩:=mem_ready.1 hj;have ET:all[j]? =some oj':=by simpa using aCI
  have NB:∀n,dep md all.toArray i n j=false:=fun n=>NW vA (NL (mem_ready.1 hr).1) n j oj' ET lC
  have tC:j≠last:=fun e=>by rw[e]at NB;rw[NB d]at aCN;cases aCN
  rcases H.2 j (ready_mono hj y7)with⟨h1,_,_⟩|⟨_,oj,ej,fj,TS,hfj,hyj,Hj⟩
  ·exact absurd h1 tC
  obtain rfl:oj=oj':=Option.some.inj (TS.symm.trans ET);obtain⟨C2,xO⟩:=EV j oj fj TS hfj y7 QX NB;have aB8:KH P T N all m om em fm C j oj σ ej fj:=KH.past hm (hy.wr hm) C2 xO hyj;have aB9:KH P T N all m om em fm C i oi (eU oj ej σ) ei fi:=KH.over hm (hyj.wr hm) C2 xO hy;have HY:∀k ok fk,all[k]? =some ok→ft[k]? =some fk→k≠i→(listed.setIfInBounds j true).getD k true=false→
    (∀n,dep md all.toArray i n k=false)→oi.apart all.toArray ok=true∧iP fi fk=true:=fun k ok fk hk oL ON V9 YN=>by
   refine EV k ok fk hk oL ON ?_ YN
   by_cases SL:j=k
   ·subst SL;exact QX
   ·exact zc6
  refine .inr ⟨tC,oj,ej,fj,TS,hfj,aB8,ih (listed.setIfInBounds j true) (eU oj ej σ) HY (vA.set TS lC) (ready_mono hr (Ne.symm y7)) aB9 ?_⟩;rw[Array.setIfInBounds_comm _ _ y7];refine wP.eqv hm fuel ?_ Hj;obtain⟨h1,h2,h3⟩:=Oper.apart_spec C2;obtain⟨k1,k2,k3⟩:=iP.spec xO;exact(eU.comm (fun d hd=>h2 d hd) (fun x hx=>by rw[hy.wr hm]at hx;rw[hyj.wr hm];exact k2 x hx)).symm
omit hm
def U5(P:Program)(T:List (Nat×bV))(N:Nat)(all:List Oper)(m:Nat)(om:Oper)(em:Ef)(fm:fY)(C:St→Prop):Nat→List Oper→St→List Ef→List fY→Prop
 |_,[],_,[],[]=>True
 |k,o::l,σ,e::es,f::fs=>KH P T N all m om em fm C k o σ e f∧U5 P T N all m om em fm C (k+1) l (eU o e σ) es fs
 |_,_,_,_,_=>False
def aBT(md:Region.Mode)(ops:Array Oper)(ft:List fY)(last m:Nat):Nat→Nat→Array Bool→Bool
 |0,_,listed=>(match Region.ready md ops listed with|[i]=>Nat.beq i last|_=>false)&&(Region.ready md ops (listed.setIfInBounds last true)).isEmpty&&listed.getD m true
 |fuel+1,k,listed=>(Region.ready md ops listed).contains k&&B3 md ops ft listed k&&(!Nat.beq k last&&dep md ops k 8 last)&&aBT md ops ft last m fuel (k+1) (listed.setIfInBounds k true)
include hm
theorem wP.lex{last:Nat}:∀(l:List Oper) (k:Nat) (listed:Array Bool) (σ:St) (es:List Ef) (fs:List fY),(∀j o,l[j]? =some o→all[k+j]? =some o)→(∀j,fs[j]? =ft[k+j]?)→
  sZ md all listed→aBT md all.toArray ft last m l.length k listed=true→U5 P T N all m om em fm C k l σ es fs→wP P T N all m om em fm C md ft (rD l σ es) last (l.length+1) listed σ
 |[],_,listed,_,[],[],_,_,_,hB,_=>by
  simp only [List.length_nil,aBT,Bool.and_eq_true]at hB;obtain⟨⟨h1,h2⟩,h3⟩:=hB
  cases hr:Region.ready md all.toArray listed with
  |nil=>rw[hr]at h1;cases h1
  |cons i t=>
   rw[hr]at h1
   cases t with
   |cons _ _=>cases h1
   |nil=>
    have hi:=Nat.eq_of_beq_eq_true h1;subst hi;show wP P T N all m om em fm C md ft _ i 1 listed _;refine⟨by rw[hr];simp,fun j hj=>?_⟩;rw[hr]at hj;obtain rfl:j=i:=by simpa using hj
    exact .inl ⟨rfl,by simpa using h2,h3,FP.refl _⟩
 |o::l,k,listed,σ,e::es,f::fs,hl,hf,vA,hB,⟨h1,h2⟩=>by
  have h0:all[k]? =some o:=hl 0 o rfl;have SO:ft[k]? =some f:=by simpa using(hf 0).symm
  simp only [List.length_cons,aBT,Bool.and_eq_true,Bool.not_eq_true']at hB;obtain⟨⟨⟨hr,hfr⟩,fJ,hdp⟩,hB'⟩:=hB;have C1:k∈Region.ready md all.toArray listed:=by simpa using hr
  have ND:k≠last:=fun e=>by subst e;simp at fJ
  have lC:∀e∈o.after,Region.binds md e=true→listed.getD e.on false=true:=by exact jx
  exact wP.first hm h0 SO ND hdp (l.length+1) listed σ (B3.spec h0 SO hfr) vA C1 h1
   (wP.lex l (k+1) _ _ es fs (fun j o' h=>by have:=hl (j+1) o' h;simpa [Nat.add_assoc,Nat.add_comm 1 j]using this) (fun j=>by have:=hf (j+1);simpa [Nat.add_assoc,Nat.add_comm 1 j]using this) (vA.set h0 lC) hB' h2)
 |[],_,_,_,_::_,_,_,_,_,_,h=>by cases ‹List fY› <;> exact h.elim
 |[],_,_,_,[],_::_,_,_,_,_,h=>h.elim
 |_::_,_,_,_,[],_,_,_,_,_,h=>h.elim
 |_::_,_,_,_,_::_,[],_,_,_,_,h=>h.elim
end
section
variable{P:Program}{T:List (Nat×bV)}{N:Nat}{all:List Oper}{md:Region.Mode}{ft:List fY}
variable{m:Nat}{om:Oper}{em:Ef}{fm:fY}{C:St→Prop}{cx:Cx}{H0 H1:Hid}
theorem LI:∀{l k:aP} {x:Nat} {y:Option jK},aH (l++k) x=some y→(∃p∈l,p.2=y)∨aH k x=some y
 |[],_,_,_,h=>.inr h
 |(a,b)::r,k,x,y,h=>by
  rw[List.cons_append,aL]at h;by_cases hx:a=x
  ·rw[if_pos hx]at h;exact .inl ⟨(a,b),List.mem_cons_self ..,Option.some.inj h⟩
  rw[if_neg hx]at h;rcases LI h with⟨p,hp,e⟩|h
  ·exact .inl ⟨p,List.mem_cons_of_mem _ hp,e⟩
  exact .inr h
def KV(σ:St):Prop:=∀x b,aH σ.box x=some (some b)→b.real=true
theorem KV.app{o:Oper}{e:Ef}{σ:St}(h:KV σ)(he:VM e):KV (eU o e σ):=by
 intro x b hb;have Z7:aH (e.2++σ.box) x=some (some b):=by
  have:(eU o e σ).box=e.2++σ.box:=by unfold eU;simp only [F4]
  rw[this]at hb;exact hb
 rcases LI Z7 with⟨p,hp,e1⟩|h1
 ·exact he p hp b e1
 exact h x b h1
theorem EY{x:Nat}{y:Option jK}:∀{l:aP},aH l x=some y→x∈l.map (·.1)
 |[],h=>by cases h
 |(k,v)::r,h=>by
  rw[aL]at h;by_cases hk:k=x
  ·subst hk;simp
  rw[if_neg hk]at h;simp only [List.map_cons,List.mem_cons];exact .inr (EY h)
theorem wP.sound(hm:Mid all om em fm C)(hT:cD P T)(aA:cx.ref=[]){last:Nat}{ol:Oper}(HW:all[last]? =some ol)(hg:ol.guard=none)(hgm:om.guard=none)
  (aCC:∀σ,C σ→n9 P cx N om σ H0 fun s H'=>s=eU om em σ∧H'=H1)
  {σf:St} {K:St→Hid→Prop} (qP:n9 P cx N ol σf H1 K) {M0:Mem} {w0:World} {Q:Exit→Act→World→Prop} (hQ:∀a' w',yB cx N M0 w0 K a' w'→Q .normal a' w'):
  ∀(fuel:Nat) {listed:Array Bool} {σ:St} {M:Mem} {β:Nm} {a:Act} {w:World},
   wP P T N all m om em fm C md ft σf last fuel listed σ→Inv cx N M β σ a w→mH cx M β σ w (bif listed.getD m true then H1 else H0)→KV σ→Grow cx.B M0 M→cE cx w0 w→
   wpAnyIn (FW cx.rd) 0 P md all.toArray Q fuel listed a w:=by
 intro fuel
 induction fuel with
 |zero=>intro listed σ M β a w h;exact h.elim
 |succ fuel ih=>
  intro listed σ M β a w h i hi kJ g0 k0;refine⟨fun h0=>absurd h0 h.1,fun k hk=>?_⟩;rcases h.2 k hk with⟨ND,hr,hlm,heq⟩|⟨ND,o,e,f,ho,hf,gF,LD⟩
  ·subst ND;have sO:all.toArray[k]? =some ol:=by simpa using HW
   unfold wpOpIn;rw[sO];simp only;rw[if_pos zeP];rw[hlm]at hi;have bC:mH cx M β σ w H1:=hi;have hi2:mH cx M β σf w H1:=⟨bC.holds,bC.low,bC.apart,fun x bc b c e1=>bC.names x bc b c (by rw[←e1];exact heq.box x)⟩;exact MQ qP.1 (Oper.wp_mono (fun a' w' hp=>wpAny_done fuel hr (hQ a' w' (hp.trans g0 k0))) (qP.2 M β a w (i.eqv heq.symm) hi2 Q))
  have sO:all.toArray[k]? =some o:=by simpa using ho
  have V9:=(mem_ready.1 hk).1;rcases gF with⟨hkm,gF,WB⟩|⟨hkm,rfl,rfl,rfl,hc⟩
  ·have aPI:(listed.setIfInBounds k true).getD m true=listed.getD m true:=getD_set_ne true hkm;let ks:List Nat:=(σ.box.map (·.1)).filter fun x=>match aH σ.box x with|some (some _)=>true|_=>false
   have l7:∀x,x∈ks→∃bc,aH σ.box x=some (some bc):=by
    intro x hx;have h2:=(List.mem_filter.1 hx).2
    cases hb:aH σ.box x with
    |none=>rw[hb]at h2;cases h2
    |some y=>cases y with
     |none=>rw[hb]at h2;cases h2
     |some bc=>exact⟨bc,rfl⟩
   have lC:∀x bc,aH σ.box x=some (some bc)→x∈ks:=fun x bc hx=>List.mem_filter.2 ⟨EY hx,by rw[hx]⟩
   have fJ:∀x,x∈ks→∃p,β x=some p:=fun x hx=>by obtain⟨bc,h1⟩:=l7 x hx;obtain⟨b,c,e⟩:=(i.box x bc h1).exb (kJ x bc h1);exact⟨_,e⟩
   have hrf:∀x,x∈cx.ref→x∈ks:=fun x hx=>by rw[aA]at hx;cases hx
   have ii:=i.aFP (rd:=cx.rd) l7 lC fJ i.defers;have jO:=a6.sound (cx:=Cx.part w ks β cx.rd cx.df) (Q:=Q) hT (fun f hf=>by cases hf) (gF.pt (fun e'=>e'=e) rfl) ii;have next:∀a' w',CT (Cx.part w ks β cx.rd cx.df) N M w o σ (fun e'=>e'=e) a' w'→wpAnyIn (FW cx.rd) 0 P md all.toArray Q fuel (listed.setIfInBounds k true) a' w':=by rintro a' w' ⟨e',M',β',rfl,i',g,kp⟩;refine ih LD (Inv.back i l7 hrf i' (cE.back i l7 kp) i'.defers i'.tmps i'.env) ?_ (kJ.app WB) (g0.trans (Grow.back i g)) (k0.trans (cE.back i l7 kp));rw[aPI];exact hi.after l7 i' g kp
   exact vq
  subst hkm;have hl0:listed.getD k true=false:=V9;rw[hl0]at hi;have bC:mH cx M β σ w H0:=hi;have fZ:k<listed.size:=by
   by_cases mL:k<listed.size
   ·exact mL
   simp[mL]at hl0
  have hl1:(listed.setIfInBounds k true).getD k true=true:=by simp[fZ]
  unfold wpOpIn;rw[sO];simp only;rw[if_pos (by simp[Region.wanted,hgm])];have hs:=aCC σ hc;refine MQ hs.1 (Oper.wp_mono ?_ (hs.2 M β a w i bC Q));rintro a' w' ⟨σ',M',β',H',⟨rfl,rfl⟩,i',hh,g,kp⟩;refine ih LD i' ?_ (kJ.app hm.real) (g0.trans g) (k0.trans kp);rw[hl1];exact hh
def PH(e:Ef):Bool:=e.2.all fun p=>match p.2 with|some b=>b.real|none=>true
theorem PH.spec{e:Ef}(h:PH e=true):VM e:=by intro p hp b hb;unfold PH at h;rw[List.all_eq_true]at h;have:=h p hp;rw[hb]at this;exact this
def runM(P:Program)(T:List (Nat×bV))(N:Nat)(all:List Oper)(m:Nat)(om:Oper)(em:Ef)(fm:fY)(C:St→Prop):Nat→List Oper→St→List fY→(St→List fY→Prop)→Prop
 |_,[],σ,fs,K=>K σ fs.reverse
 |k,o::rest,σ,fs,K=>match Nat.beq k m with
  |true=>o=om∧C σ∧runM P T N all m om em fm C (k+1) rest (eU o em σ) (fm::fs) K
  |false=>a6 P T N [] all o σ fun e=>PH e=true∧runM P T N all m om em fm C (k+1) rest (eU o e σ) (NN σ o e::fs) K
theorem runM.chain:∀{l:List Oper} {k:Nat} {σ:St} {fs:List fY} {K:St→List fY→Prop},runM P T N all m om em fm C k l σ fs K→∃es gs,U5 P T N all m om em fm C k l σ es gs∧es.length=l.length∧K (rD l σ es) (fs.reverse++gs)
 |[],k,σ,fs,K,h=>⟨[],[],trivial,rfl,by have h':K σ fs.reverse:=h;simpa [rD]using h'⟩
 |o::rest,k,σ,fs,K,h=>by
  unfold runM at h
  cases hb:Nat.beq k m with
  |true=>rw[hb]at h;obtain⟨ho,hc,h⟩:=h;obtain⟨es,gs,hch,hl,hK⟩:=runM.chain h;refine⟨em::es,fm::gs,⟨.inr ⟨Nat.eq_of_beq_eq_true hb,ho,rfl,rfl,hc⟩,hch⟩,by simp[hl],?_⟩;simpa [rD]using hK
  |false=>rw[hb]at h;obtain⟨e,⟨WB,hk⟩,hp⟩:=a6.pt h;obtain⟨es,gs,hch,hl,hK⟩:=runM.chain hk;refine⟨e::es,NN σ o e::gs,⟨.inl ⟨fun hkm=>(by subst hkm;rw[Nat.beq_refl]at hb;cases hb),⟨hp,rfl,rfl⟩,PH.spec WB⟩,hch⟩,by simp[hl],?_⟩;simpa [rD]using hK
theorem bS.WJ{K:Exit→St→Hid→Prop}{id:Nat}{ops:Array Oper}{σ:St}(hm:Mid ops.toList om em fm C)(hT:cD P T)(aA:cx.ref=[])(hmx:P.follows .mixedOrders=true)(kJ:KV σ)(last:Nat){ol:Oper}
  (HW:ops.toList[last]? =some ol) (mL:Nat.beq ops.toList.length (last+1)=true) (hml:m<last) (hg:ol.guard=none) (hgm:om.guard=none)
  (aCC:∀σ,C σ→n9 P cx N om σ H0 fun s H'=>s=eU om em σ∧H'=H1)
  (h:runM P T N ops.toList m om em fm C 0 (ops.toList.take last) σ [] fun σ' fs=>aBT .any ops.toList.toArray fs last m (ops.toList.take last).length 0 (Array.replicate ops.toList.length false)=true∧n9 P cx N ol σ' H1 (K .normal)):
  bS P cx N (.region id ops true) σ H0 K:=by
 obtain⟨es,gs,hc,_,hl,hK⟩:=runM.chain h
 intro M β a w i hi
 refine wpIn_region_any hmx ?_
 have T5:=wP.lex (md:=.any) (ft:=gs) hm (ops.toList.take last) 0 (Array.replicate ops.toList.length false) σ es gs (fun j o h=>by rw[Nat.zero_add];exact(List.getElem?_eq_some_iff.1 h).elim fun h1 h2=>by rw[List.getElem_take]at h2;rw[List.length_take]at h1;rw[List.getElem?_eq_getElem oM];exact congrArg some h2) sM (fun m om _ h=>by simp[Array.getElem?_replicate]at h;split at h <;> simp_all) hl hc
 have OO:Inv cx N M β σ a {w with drawn:=w.drawn+1}:=
  ⟨i.defers,i.tmps,⟨i.heap.le,i.heap.tab⟩,i.env,i.mem,i.keys,i.box,i.inj,i.apart,i.low,i.ref⟩
 have hh1:mH cx M β σ {w with drawn:=w.drawn+1} H0:=⟨H0.loc M M w _ hi.holds (Mem.le_refl M) fun _ _=>rfl,hi.low,hi.apart,hi.names⟩
 have kd:cE cx w {w with drawn:=w.drawn+1}:=⟨rfl,rfl,rfl,Nat.le_refl _,fun _ _ _=>rfl,oO⟩
 have hlen:ops.toList.length=last+1:=Nat.eq_of_beq_eq_true mL
 have hm0:(Array.replicate ops.toList.length false).getD m true=false:=by have:m<ops.toList.length:=oM;simp only [Array.getD,Array.size_replicate,this,dite_true];simp
 have:=wP.sound (cx:=cx) (Q:=fun e a' w'=>yB cx N M w (K e) a' w') (M0:=M) (w0:={w with drawn:=w.drawn+1}) hm hT aA HW hg hgm aCC hK
  (fun a2 w2 hp=>hp.trans (Grow.refl _ _) kd) _ T5 OO (by rw[hm0];exact hh1) kJ (Grow.refl _ _) (cE.refl _ _)
 have aL6:(ops.toList.take last).length+1=ops.toList.length:=by rw[List.length_take];omega
 rw[aL6]at this
 simpa using this
end
end Go.Ax
namespace Go.Pj.Rm
open Go Go.Pj Go.Ax Go.Ch Go.Proofs Go.Proofs.Tryz
abbrev gL:=bJ×List Room×Nat
structure wA(r:mX)(ts:List Room):Prop where
 lo:r.lo=0
 n:r.n=ts.length
 f:∀i j,i<ts.length→j<14→aK (r.f i j) (j9 ts i j)
structure EOK(q:bO)(e:gL):Prop where
 key:q.key=bs e.1
 born:q.born=e.2.2
 ne:e.2.1≠[]
 row:∃r,q.row=some r∧wA r e.2.1
def eH:List bO→List gL→Prop
 |[],[]=>True
 |q::r,e::s=>EOK q e∧eH r s
 |_,_=>False
theorem eH.append:∀{l m:List bO} {E F:List gL},eH l E→eH m F→eH (l++m) (E++F)
 |[],_,[],_,_,h=>h
 |_::_,_,_::_,_,h,k=>⟨h.1,eH.append h.2 k⟩
 |[],_,_::_,_,h,_=>h.elim
 |_::_,_,[],_,h,_=>h.elim
theorem eH.modify:∀{l:List bO} {E:List gL} {i:Nat} {g:bO→bO} {g':gL→gL},eH l E→(∀q e,l[i]? =some q→E[i]? =some e→EOK q e→EOK (g q) (g' e))→eH (l.modify i g) (E.modify i g')
 |[],[],_,_,_,_,_=>by simp[eH]
 |q::r,e::s,0,g,g',h,k=>by exact zaW
 |q::r,e::s,i+1,g,g',h,k=>by exact zaX
 |[],_::_,_,_,_,h,_=>h.elim
 |_::_,[],_,_,_,h,_=>h.elim
def fE:List gL→bJ→Nat→Option (Nat×gL)
 |[],_,_=>none
 |e::r,k,i=>bif k==e.1 then some (i,e)else fE r k (i+1)
theorem tV:∀{l:List bO} {E:List gL} {k:bJ} {i:Nat},eH l E→fE E k i=none→dD l (bs k) i=none
 |[],[],_,_,_,_=>rfl
 |q::r,e::s,k,i,h,hf=>by exact zbb
 |[],_::_,_,_,h,_=>h.elim
 |_::_,[],_,_,h,_=>h.elim
theorem p8:∀{l:List bO} {E:List gL} {k:bJ} {i:Nat} {p:Nat×gL},eH l E→fE E k i=some p→∃q,dD l (bs k) i=some (p.1,q)∧EOK q p.2
 |[],[],_,_,_,_,hf=>by cases hf
 |q::r,e::s,k,i,p,h,hf=>by exact xm
 |[],_::_,_,_,_,h,_=>h.elim
 |_::_,[],_,_,_,h,_=>h.elim
theorem xU:∀{E:List gL} {k:bJ} {i:Nat} {p:Nat×gL},fE E k i=some p→i≤p.1∧E[p.1 - i]? =some p.2∧p.2.1=k
 |[],_,_,_,h=>by cases h
 |e::r,k,i,p,h=>by exact qq
def o6(E:List gL)(k:bJ)(t:Room):List gL:=match fE E k 0 with
 |some (i,_)=>E.modify i fun e=>(e.1,e.2.1++ [t],e.2.2)
 |none=>E++ [(k,[t],E.length)]
theorem yF{h:HM}{E:List gL}{k:bJ}{j:Nat}{q:bO}{v:Value}{r:mX}{ts:List Room}(ha:eH h.l E)(hf:dD h.l (bs k) 0=some (j,q))(hr:wA r ts)(fJ:ts≠[]):
  eH (eR {h with l:=cW h.l j} (bs k) v (some r)).l (E.modify j fun e=>(e.1,ts,e.2.2))∧(eR {h with l:=cW h.l j} (bs k) v (some r)).bm=h.bm∧(eR {h with l:=cW h.l j} (bs k) v (some r)).clock=h.clock∧(eR {h with l:=cW h.l j} (bs k) v (some r)).it=h.it:=by
 have h1:=Go.Pj.tU h.l (bs k) j 0
 rw[hf]at h1
 unfold eR
 simp only
 cases hq:dD (cW h.l j) (bs k) 0 with
 |none=>rw[hq]at h1;cases h1
 |some p=>exact jq
theorem MA{h:HM}{E:List gL}{k:bJ}{v:Value}{r:mX}{ts:List Room}(ha:eH h.l E)(hc:h.clock=E.length)(hf:dD h.l (bs k) 0=none)(hr:wA r ts)(fJ:ts≠[]):
  eH (eR h (bs k) v (some r)).l (E++ [(k,ts,E.length)])∧(eR h (bs k) v (some r)).bm=h.bm∧(eR h (bs k) v (some r)).clock=E.length+1∧(eR h (bs k) v (some r)).it=h.it:=by
 unfold eR
 rw[hf]
 refine⟨?_,rfl,by simp only;omega,rfl⟩
 refine ha.append ⟨⟨rfl,by simp only;exact hc,fJ,r,rfl,hr⟩,oO⟩
end Go.Pj.Rm
--K54
namespace Go.Ax
theorem n9.dead{P:Program}{cx:Cx}{N:Nat}{o:Oper}{σ:St}{H H1:Hid}{s:St}(b:Nat)(h:n9 P cx N o σ H fun s' H'=>s'=s∧H'=H1):n9 P cx N o σ H fun s' H'=>s'=⟨s.env,(b,none)::s.box⟩∧H'=H1:=by
 refine⟨h.1,fun M β a w i hi Q=>Oper.wp_mono ?_ (h.2 M β a w i hi Q)⟩;rintro a' w' ⟨σ',M',β',H',⟨rfl,rfl⟩,i',bC,g,kp⟩;refine⟨_,M',β',H',⟨rfl,rfl⟩,i'.dead b,⟨bC.holds,bC.low,bC.apart,fun x bc bb c e1 e2=>?_⟩,g,kp⟩;have e1:aH ((b,none)::σ'.box) x=some (some bc):=e1;rw[aL]at e1;by_cases hx:b=x
 ·rw[if_pos hx]at e1;cases e1
 rw[if_neg hx]at e1;exact bC.names x bc bb c e1 e2
end Go.Ax
namespace Go.Pj.Rm
open Go Go.Pj Go.Ax Go.Ch Go.Proofs Go.Proofs.Tryz
set_option maxRecDepth 100000
set_option maxHeartbeats 1000000
def kS(f:Fact):bJ:=f.aN.data.toList
def KM(m:Int)(E:List gL)(f:Fact):List gL:=bif f.month==m then o6 E (kS f) (f,f.aT)else E
def kU(L:List Fact)(m:Int)(i:Nat):List gL:=(L.take i).foldl (KM m) []
theorem DW{L:List Fact}{m:Int}{i:Nat}(h:i<L.length):kU L m (i+1)=KM m (kU L m i) (L.getD i default):=by unfold kU;exact uy
theorem AO{E:List gL}{k:bJ}{t:Room}{m:Nat}(h:∀e∈E,e.2.1.length≤m):∀e∈o6 E k t,e.2.1.length≤m+1:=by exact uo
theorem qX{L:List Fact}{m:Int}:∀{i:Nat} {e:gL},e∈kU L m i→e.2.1.length≤i
 |0,e,he=>by simp[kU]at he
 |i+1,e,he=>by
  by_cases h:i<L.length
  ·rw[DW h]at he;unfold KM at he
   cases hw:((L.getD i default).month==m)with
   |false=>rw[hw]at he;have:=qX (i:=i) he;omega
   |true=>rw[hw]at he;exact AO (fun e he=>qX (i:=i) he) e he
  have e1:kU L m (i+1)=kU L m i:=by unfold kU;rw[List.take_of_length_le oM,List.take_of_length_le oM]
  rw[e1]at he;have:=qX (i:=i) he;omega
theorem VJ(f:Fact):∀c,c<14→aK (S1 14 [.d (dI f.kind),.d (dI f.seq),.d (dI f.a8),.d (dI f.month),.d (dI f.number),.d (dI f.aT),.d (dI f.over),.d (dI f.cls),.d (dI f.target),.d (dS f.aN),.d (dS f.dN),.d (dS f.eS),.d (b5 f.levels),.d (dI f.aT)] 0 c) (rmD (f,f.aT) c)
 |0,_|1,_|2,_|3,_|4,_|5,_|6,_|7,_|8,_|9,_|10,_|11,_|12,_|13,_=>aK.refl _
abbrev P1:Oper:={dst:=some 33,op:=Op.lookup 152 (Operand.tmp 30) (Operand.tmp 32) false,type:=165,pos:= "settle.go:174",after:= #[{on:=3,ground:=Ground.data},{on:=5,ground:=Ground.data}],guard:=none}
def J1(L:List Fact)(m:Int)(s:Nat×HM):Prop:=s.1≤L.length∧eH s.2.l (kU L m s.1)∧s.2.clock=(kU L m s.1).length∧s.2.it=none
def rmK(L:List Fact)(m:Int)(x:DV)(H:Hid):Prop:=∃h:HM,x=.val (.map (some h.bm))∧H=hid 217 14 h∧eH h.l (kU L m L.length)∧h.clock=(kU L m L.length).length∧h.it=none
theorem aKV(p:Proj)(fs:List Fact)(m:Int)(hp:p.fits)(hv:PV p)(hl:fs.length≤200)(hn:ZR fs m):
  aEA prog 64 [SR p fs,vI m] (rmK (iM p (j8 fs m) (j8 fs m).length).1 m):=by
 have hH:=aI8 p fs m hp hv hl hn
 have hLl:(iM p (j8 fs m) (j8 fs m).length).1.length≤200:=by exact Nat.le_trans (BY p _ _) zc5
 generalize (iM p (j8 fs m) (j8 fs m).length).1=L at hH hLl
 refine N9 func64 rfl rfl call64 aJ rfl rfl (fun cx aA=>?_)
 refine sA aA [] fun _ h'=>?_
 refine bS.seq (bS.region (bM.op rfl (n9.mk (e:=217) (s:=14) rfl rfl dC fun bm=>bM.some (rc:=[]) aJ 1 aA [2] rfl rfl (bM.nil ?_))))
 refine sA aA [2] fun _ h'=>?_
 refine aB (hH) ?_
 refine bS.sub (σ':=⟨[(1,vI m),(5,dQ bm),(6,cJ L)],[]⟩) (HSub.of (fC.of [] zex rfl trivial ⟨qZ,qZ,qZ,oO⟩)) ?_
 refine bS.seq (sA aA [] fun _ h'=>?_)
 refine bS.block ?_
 refine bS.loop (S:=Nat×HM) (fun s=>⟨[(1,vI m),(5,dQ s.2.bm),(17,cJ L),(18,vI L.length),(19,vI s.1)],[]⟩) (fun s=>hid 217 14 s.2) (J1 L m) (fun s=>L.length - s.1) (0,⟨bm,[],0,none⟩) ⟨Nat.zero_le _,trivial,rfl,rfl⟩ ?_ ?_
 ·exact HSub.of (fC.of [] zex rfl trivial ⟨qZ,qZ,qZ,qZ,qZ,oO⟩)
 ·rintro⟨i,h⟩ ⟨hi,ha,jL,hit⟩;have hi:i≤L.length:=hi;have ha:eH h.l (kU L m i):=ha;have jL:h.clock=(kU L m i).length:=jL;have hit:h.it=none:=hit;refine sA aA [] fun _ h'=>bS.seq (bS.cond ?_)
  refine aI (fun g=>bS.skip ?_) (fun g=>bS.exit ?_)
  ·have g:(i:Int)<L.length:=bG g;have bC:i<L.length:=oM;have hE:=DW (m:=m) bC;have ew:aW ((i:Int)+1)=((i+1:Nat):Int):=aG oM oM;generalize hF:L.getD i default=f at hE;refine bS.seq (bS.block ?_);refine sA aA [] fun _ h'=>oi ⟨oM,oM⟩ ?_
   refine bS.sub (σ':=⟨[(1,vI m),(5,dQ h.bm),(9,.s (.ptr 9 0)),(17,cJ L),(18,vI L.length),(19,vI i)],[(9,some (.cells (xT f)))]⟩) (HSub.of (fC.of [] zex rfl ⟨⟨rfl,aY.of_eq (by rw[←hF];rfl)⟩,oO⟩ ⟨qZ,qZ,qZ,qZ,qZ,qZ,oO⟩)) ?_;refine sA aA [9] fun _ h'=>bS.cond (aI (fun g2=>?_) (fun g2=>bS.skip ?_))
   ·have g2:(f.month==m)=true:=g2;have T6:kU L m (i+1)=o6 (kU L m i) (kS f) (f,f.aT):=by rw[hE];unfold KM;rw[g2];rfl
    have HV:bs (kS f)=f.aN:=rfl;have aCE:KV ⟨[(1,vI m),(5,dQ h.bm),(9,.s (.ptr 9 0)),(17,cJ L),(18,vI L.length),(19,vI i)],[(9,some (.cells (xT f)))]⟩:=by
     intro x b hb;have hb:aH [(9,some (jK.cells (xT f)))] x=some (some b):=hb;rw[aL]at hb;by_cases hx:9=x
     ·rw[if_pos hx]at hb
      cases hb;rfl
     rw[if_neg hx]at hb;cases hb
    refine bS.sub (σ':=⟨[(1,vI m),(5,dQ h.bm),(9,.s (.ptr 9 0)),(17,cJ L),(18,vI L.length),(19,vI i)],[(9,some (.cells (xT f)))]⟩) (HSub.of (fC.of [] zex rfl ⟨bQ,oO⟩ ⟨qZ,qZ,qZ,qZ,qZ,qZ,oO⟩)) ?_
    cases uZ:fE (kU L m i) (kS f) 0 with
    |none=>
     have uY:=tV ha uZ;refine bS.WJ (m:=6) (om:=P1) (em:=(some (.s (.d eO)),[(33,none)])) (fm:=([],[33])) (C:=fun σ=>fL σ.env 30=dQ h.bm∧fL σ.env 32=.s (.d (.val (.string (bs (kS f)))))∧aH σ.box 33=none) (H1:=hid 217 14 h) ⟨rfl,(fun p hp b hb=>(by obtain rfl:=List.mem_singleton.1 hp;cases hb)),(fun σ σ' hc ht hw=>⟨(ht 30 dC).trans hc.1,(ht 32 dC).trans hc.2.1,(hw 33 dC).trans hc.2.2⟩)⟩ aJ aA mix aCE 13 rfl rfl dC rfl rfl (fun σ hc=>?_) ?_
     ·have hlk:=n9.look (P:=prog) (cx:=cx) (N:=f64.ntmps) (e:=217) (s:=14) (d:=33) (t:=152) (kt:=9) (et:=165) (h:=h) (σ:=σ) (K:=fun s H'=>s=⟨(33,.s (.d eO))::σ.env,σ.box⟩∧H'=hid 217 14 h) (o:=P1) (x:=.tmp 30) (y:=.tmp 32) (k:=bs (kS f)) rfl rfl dC hc.2.2 hc.1 hc.2.1 underlying152 underlying9 zeroValue165 (by rw[uY];exact⟨rfl,rfl⟩);exact hlk.dead 33
     refine And.intro rfl (And.intro rfl ?_);refine And.intro rfl (And.intro rfl ?_);refine And.intro rfl (And.intro rfl ?_);refine⟨rfl,⟨rfl,rfl,rfl⟩,?_⟩;refine And.intro rfl (And.intro rfl ?_);refine And.intro rfl (And.intro rfl ?_);refine And.intro rfl (ob dC ?_);refine ob dC (And.intro rfl ?_);refine aD (n9.upd (b:=39) (k:=bs (kS f)) (n:=1) (n':=1) (lo:=0) aA rfl rfl rfl rfl (.inl ⟨rfl,rfl,rfl⟩) rfl dC underlying152 underlying9 (fun _=>hit) (fun g cap v=>?_));generalize pD:(⟨g,0+1,cap,0,_⟩:mX)=row;have pE:wA row [(f,f.aT)]:=by
      subst pD;refine⟨rfl,rfl,fun a c ha hc=>?_⟩;obtain rfl:a=0:=by have:a<1:=ha;omega
      exact VJ f c hc
     obtain⟨s1,s2,s3,s4⟩:=MA (v:=v) ha jL uY pE sM;have H3:o6 (kU L m i) (kS f) (f,f.aT)=kU L m i++ [(kS f,[(f,f.aT)],(kU L m i).length)]:=by unfold o6;rw[uZ]
     refine bS.sub (σ':=⟨[(1,vI m),(5,dQ h.bm),(17,cJ L),(18,vI L.length),(19,vI i)],[]⟩) (HSub.of (fC.of [] zex rfl trivial ⟨qZ,qZ,qZ,qZ,qZ,oO⟩)) (eA aA [] fun _ h'=>?_);refine⟨(i+1,eR h (bs (kS f)) v (some row)),⟨by show i+1≤L.length;omega,by rw[T6,H3];exact s1,by rw[T6,H3,List.length_append];exact s3,s4.trans hit⟩,by show L.length - (i+1)<L.length - i;omega,?_⟩;exact HSub.of (fC.of [] zex rfl trivial ⟨qZ,⟨rfl,aU.of_eq (by show dQ h.bm=dQ (eR h (bs (kS f)) v (some row)).bm;rw[s2])⟩,qZ,qZ,⟨rfl,aU.int ew⟩,oO⟩)
    |some pr=>
     obtain⟨j,e⟩:=pr;obtain⟨q,uY,hq⟩:=p8 ha uZ;have uY:dD h.l (bs (kS f)) 0=some (j,q):=uY;obtain⟨_,FK,hek⟩:=xU uZ;have FK:(kU L m i)[j]? =some e:=FK;obtain⟨r,YM,pE⟩:=hq.row;have hsm:=qX (L:=L) (m:=m) (i:=i) (List.mem_of_getElem? FK);obtain⟨g0,n0,aNO,C0,F⟩:=r;obtain rfl:C0=0:=pE.lo;obtain rfl:n0=e.2.1.length:=pE.n;have hFF:∀a c,a<e.2.1.length→c<14→aK (F a c) (j9 e.2.1 a c):=pE.f;refine bS.WJ (m:=6) (om:=P1) (em:=(some (.s (.own 33)),[(33,some (.row 217 e.2.1.length 14 F))])) (fm:=([],[33])) (C:=fun σ=>fL σ.env 30=dQ h.bm∧fL σ.env 32=.s (.d (.val (.string (bs (kS f)))))∧aH σ.box 33=none) (H1:=hid 217 14 {h with l:=cW h.l j}) ⟨rfl,(fun p hp b hb=>(by obtain rfl:=List.mem_singleton.1 hp;cases hb;rfl)),(fun σ σ' hc ht hw=>⟨(ht 30 dC).trans hc.1,(ht 32 dC).trans hc.2.1,(hw 33 dC).trans hc.2.2⟩)⟩ aJ aA mix aCE 13 rfl rfl dC rfl rfl (fun σ hc=>?_) ?_
     ·exact n9.look (P:=prog) (cx:=cx) (N:=f64.ntmps) (e:=217) (s:=14) (d:=33) (t:=152) (kt:=9) (et:=165) (h:=h) (σ:=σ) (K:=fun s H'=>s=eU P1 (some (.s (.own 33)),[(33,some (.row 217 e.2.1.length 14 F))]) σ∧H'=hid 217 14 {h with l:=cW h.l j}) (o:=P1) (x:=.tmp 30) (y:=.tmp 32) (k:=bs (kS f)) rfl rfl dC hc.2.2 hc.1 hc.2.1 underlying152 underlying9 zeroValue165 (by
       rw[uY];show match q.row with|some r=>_|none=>_
       rw[YM];exact⟨rfl,rfl⟩)
     refine And.intro rfl (And.intro rfl ?_);refine And.intro rfl (And.intro rfl ?_);refine And.intro rfl (And.intro rfl ?_);refine⟨rfl,⟨rfl,rfl,rfl⟩,?_⟩;refine And.intro rfl (And.intro rfl ?_);refine And.intro rfl (And.intro rfl ?_);refine And.intro rfl (ob (show(e.2.1.length+1)*152≤140737488355328 by omega) ?_);refine ob (nJ fun c hc=>by match c,hc with|0,_|1,_|2,_|3,_|4,_|5,_|6,_|7,_|8,_|9,_|10,_|11,_|12,_|13,_=>rfl) (And.intro rfl ?_);refine aD (n9.upd (b:=39) (k:=bs (kS f)) (n:=e.2.1.length+1) (n':=e.2.1.length+1) (lo:=0) aA rfl rfl rfl rfl (.inl ⟨rfl,rfl,rfl⟩) rfl (Nat.succ_pos _) underlying152 underlying9 (fun _=>hit) (fun g2 R0 v=>?_));generalize pD:(⟨g2,0+(e.2.1.length+1),R0,0,_⟩:mX)=row;have QS:wA row (e.2.1++ [(f,f.aT)]):=by
      subst pD;refine⟨rfl,sM,fun a c hA hc=>?_⟩;by_cases hae:a<e.2.1.length
      ·rw[show j9 (e.2.1++ [(f,f.aT)]) a c=j9 e.2.1 a c by unfold j9;simp only [List.getD_eq_getElem?_getD,List.getElem?_append_left hae]];exact zcY
      obtain rfl:a=e.2.1.length:=by simp at hA;omega
      rw[show j9 (e.2.1++ [(f,f.aT)]) e.2.1.length c=rmD (f,f.aT) c by unfold j9;simp];show aK (jM e.2.1.length F _ e.2.1.length c) _;rw[WV];exact VJ f c hc
     obtain⟨s1,s2,s3,s4⟩:=yF (v:=v) ha uY QS sM;have H3:o6 (kU L m i) (kS f) (f,f.aT)=(kU L m i).modify j fun e'=>(e'.1,e.2.1++ [(f,f.aT)],e'.2.2):=by unfold o6;rw[uZ];show(kU L m i).modify j _=(kU L m i).modify j _;exact zaE
     refine bS.sub (σ':=⟨[(1,vI m),(5,dQ h.bm),(17,cJ L),(18,vI L.length),(19,vI i)],[]⟩) (HSub.of (fC.of [] zex rfl trivial ⟨qZ,qZ,qZ,qZ,qZ,oO⟩)) (eA aA [] fun _ h'=>?_);refine⟨(i+1,eR {h with l:=cW h.l j} (bs (kS f)) v (some row)),⟨by show i+1≤L.length;omega,by rw[T6,H3];exact s1,by rw[T6,H3,List.length_modify];exact s3.trans jL,s4.trans hit⟩,by show L.length - (i+1)<L.length - i;omega,?_⟩;exact HSub.of (fC.of [] zex rfl trivial ⟨qZ,⟨rfl,aU.of_eq (by show dQ h.bm=dQ (eR {h with l:=cW h.l j} (bs (kS f)) v (some row)).bm;rw[s2])⟩,qZ,qZ,⟨rfl,aU.int ew⟩,oO⟩)
   have g2:(f.month==m)=false:=g2;have T6:kU L m (i+1)=kU L m i:=by rw[hE];unfold KM;rw[g2];rfl
   refine eA aA [9] fun _ h'=>?_
   refine⟨(i+1,h),⟨by show i+1≤L.length;omega,by rw[T6];exact ha,by rw[T6];exact jL,hit⟩,by show L.length - (i+1)<L.length - i;omega,?_⟩;exact HSub.of (fC.of [] zex rfl trivial ⟨qZ,qZ,qZ,qZ,⟨rfl,aU.int ew⟩,oO⟩)
  have g:¬(i:Int)<L.length:=bF g;obtain rfl:i=L.length:=oM;exact sA aA [] fun _ h'=>bS.ret ⟨_,rfl,h,rfl,rfl,ha,jL,hit⟩
end Go.Pj.Rm
namespace Go.Pj
open Go Go.Ax Go.Ch Go.Proofs Go.Proofs.Tryz
theorem WL(pt:Piece)(l:List Room)(n:Nat)(hn:l.length=n)(hn2:n≤1000)(hv:0≤pt.iZ∧pt.iZ≤1000000000000000)
  (hl:∀i,i<n→1≤(l.getD i default).2∧(l.getD i default).2≤1000000000000):
  bW prog 68 [aIK pt,.s (.own 1001)] [(1001,.row 217 n 14 (j9 l))]
   (.t [.s (.d (WR (cH pt 0 l).out)),.s (.j0 1001 14 (cH pt 0 l).lo (n - (cH pt 0 l).lo))]) [(1001,.row 217 n 14 (j9 (cH pt 0 l).cur))]:=by
 generalize aCM:cH pt 0 l=fin
 refine gJ func68 rfl rfl call68 aJ rfl rfl rfl rfl (fun cx aA=>?_)
 refine AW.gR (aM.FR (e:=217) (n:=n) (s:=14) (f:=j9 l) 1 1001 rfl rfl) ?_
 refine sX aA ?_
 refine sX aA ?_
 refine sX aA ?_
 refine aD ?_
 refine AW.seq ?_
 refine AW.block ?_
 refine AW.cG (fun x:Nat×DS=>⟨[(1,.s (.j0 1001 14 x.2.lo (n - x.2.lo))),(2,.s (.ptr 2 0)),(6,.s (.mo x.2.out.isEmpty 100)),(7,vI x.2.v),(8,vI x.2.p)],[(1001,some (.row 217 n 14 (j9 x.2.cur))),(2,some (.cells [.d (dI pt.month),.d (dI pt.cell),.d (dS pt.aN),.d (dI pt.iZ),.d (dI pt.gV),.d (dI pt.load),.d (dS pt.dN)])),(100,some (.b8 109 x.2.out.length 7 (eJ x.2.out)))]⟩) (DJ pt n fin) (fun x=>x.1) (n - 0+1,qE pt 0 l) ⟨by rw[←aCM];unfold cH;rw[hn],Nat.zero_le _,hn,hv,fun _=>by show n - 0<n - 0+1;omega,fun i _ h=>hl i h,by show 0+(n - 0+1)≤_;omega⟩ ?_ ?_
 ·exact za9
 ·exact zev
theorem F1(pt:Piece)(hv:0≤pt.iZ∧pt.iZ≤1000000000000000):
  aF prog 68 [aIK pt,.s (.d eO)] (.t [.s (.d (WR (cH pt 0 []).out)),.s (.d eO)]):=by
 generalize aCM:cH pt 0 []=fin
 refine eW func68 rfl rfl call68 rfl rfl (fun cx aA=>?_)
 refine sX aA ?_
 refine sX aA ?_
 refine sX aA ?_
 refine aD ?_
 refine AW.seq ?_
 refine AW.block ?_
 refine AW.cG (fun x:Nat×DS=>⟨[(1,.s (.d eO)),(2,.s (.ptr 2 0)),(6,.s (.mo x.2.out.isEmpty 100)),(7,vI x.2.v),(8,vI x.2.p)],[(2,some (.cells [.d (dI pt.month),.d (dI pt.cell),.d (dS pt.aN),.d (dI pt.iZ),.d (dI pt.gV),.d (dI pt.load),.d (dS pt.dN)])),(100,some (.b8 109 x.2.out.length 7 (eJ x.2.out)))]⟩) (fun x=>DJ pt 0 fin x∧x.2.cur=[]) (fun x=>x.1) (1,qE pt 0 []) ⟨⟨by rw[←aCM];rfl,Nat.zero_le _,rfl,hv,fun _=>by show 0 - 0<1;omega,fun i _ h=>by omega,by show 0+1≤_;omega⟩,rfl⟩ ?_ ?_
 ·exact aM.bD aA [(100,1000)] rfl ⟨bQ,⟨rfl,rfl⟩,oO⟩ ⟨qZ,qZ,⟨rfl,aU.nil rfl⟩,qZ,qZ,oO⟩
 ·rintro⟨k,s⟩ ⟨hJ,aCO⟩;have T0:=hJ.few;have hvb:=hJ.v;simp only at T0 hvb aCO;refine AW.seq (sX aA ?_);refine AW.cond (aI (fun h1=>AW.skip ?_) (fun h1=>AW.exit ?_))
  ·have h1:s.v>0:=bG h1;obtain⟨k',rfl,hJ2⟩:=hJ.step h1;refine AW.block (sX aA ?_);refine sX aA (AW.gR (σ':=⟨[(1,.s (.d eO)),(2,.s (.ptr 2 0)),(6,.s (.mo s.out.isEmpty 100)),(7,vI s.v),(8,vI s.p),(9,.s (.ptr 9 0))],[(2,some (.cells [.d (dI pt.month),.d (dI pt.cell),.d (dS pt.aN),.d (dI pt.iZ),.d (dI pt.gV),.d (dI pt.load),.d (dS pt.dN)])),(100,some (.b8 109 s.out.length 7 (eJ s.out))),(9,some (.cells [.d (dI pt.month),.d (dI pt.cell),.d (dS pt.aN),.d (dI s.v),.d (dI pt.gV),.d (dI pt.load),.d (dS pt.dN)]))]⟩) (aM.bD aA [] rfl ⟨bQ,bQ,bQ,oO⟩ ⟨qZ,qZ,qZ,qZ,qZ,qZ,oO⟩) ?_);have wH:decide (s.lo<s.cur.length)=false:=by rw[aCO];simp
   have YY:xD s=s.v:=by unfold xD;rw[wH];rfl
   have el:I8 pt s=pt.load:=by unfold I8;rw[wH];rfl
   have ep:FG pt s=pt.dN:=by unfold FG;rw[wH];rfl
   have e2:(a6 pt s).cur=[]:=by unfold a6;rw[wH];exact aCO
   refine AW.cut (σ':=⟨[(1,.s (.d eO)),(2,.s (.ptr 2 0)),(6,.s (.mo s.out.isEmpty 100)),(7,vI s.v),(8,vI s.p),(9,.s (.ptr 9 0))],[(2,some (.cells [.d (dI pt.month),.d (dI pt.cell),.d (dS pt.aN),.d (dI pt.iZ),.d (dI pt.gV),.d (dI pt.load),.d (dS pt.dN)])),(100,some (.b8 109 s.out.length 7 (eJ s.out))),(9,some (.cells [.d (dI pt.month),.d (dI pt.cell),.d (dS pt.aN),.d (dI (xD s)),.d (dI pt.gV),.d (dI (I8 pt s)),.d (dS (FG pt s))]))]⟩) ?_ ?_
   ·refine sX aA (AW.cond ?_);refine aI (fun h2=>by simp at h2) (fun h2=>AW.skip ?_);exact⟨rfl,aM.bD aA [] rfl ⟨bQ,bQ,⟨rfl,aY.of_eq (by rw[YY,el,ep];rfl)⟩,oO⟩ ⟨qZ,qZ,qZ,qZ,qZ,qZ,oO⟩⟩
   refine sX aA (sX aA ?_);refine aD (eX aA ?_);refine ob dC ?_;refine ob (by rw[dK];show(s.out.length+1)*72≤_;omega) ?_;refine ob (nJ fun c hc=>by match c,hc with|0,_|1,_|2,_|3,_|4,_|5,_|6,_=>rfl) ⟨(k',a6 pt s),⟨hJ2,e2⟩,Nat.lt_succ_self _,?_⟩;refine aM.bD aA [(100,73)] rfl ⟨bQ,⟨rfl,?_⟩,oO⟩ ⟨qZ,qZ,⟨rfl,aU.mo (by rw[lJ];exact cA _ _)⟩,⟨rfl,aU.int (L8 pt s).symm⟩,⟨rfl,aU.int (L9 pt s).symm⟩,oO⟩;show aY _ (.b8 109 (a6 pt s).out.length 7 (eJ (a6 pt s).out));rw[lJ];refine aY.snoc (el:=aE7) (x:=⟨pt.month,pt.cell,pt.aN,xD s,mm false s.p (xD s),I8 pt s,FG pt s⟩) (fun c hc=>?_);have hc:c<7:=hc
   match c,hc with|0,_|1,_|2,_|3,_|4,_|5,_|6,_=>rfl
  have h1:¬s.v>0:=bF h1;have hr:=hJ.run;simp only at hr;rw[BD h1]at hr;subst hr;exact eX aA (aC.t ⟨aK.wE (dK _) fun _ _ _ _=>aK.refl _,aK.refl _,oO⟩)
end Go.Pj
namespace Go.Ax
open Go.RowKit
section
variable{P:Program}{cx:Cx}{N:Nat}{σ:St}
open Go.ChangeMaps
theorem n9.L6{e s t kt et:Nat}{x y z:Operand}{k:ByteArray}{o:Oper}{h:HM}{K:St→Hid→Prop}(ho:o.op=.mapUpdate t x y z)(hd:o.dst=none)
  (hx:ev σ x=.s (.d (.val (.map (some h.bm))))) (hy:ev σ y=.s (.d (.val (.string k)))) (hz:ev σ z=.s (.d (.val (.slice none 0 0))))
  (ht:P.underlying t=some (.map kt et)) (hk:P.underlying kt=some .string) (hit:dD h.l k 0=none→h.it=none)
  (hK:K σ (hid e s (eR h k (.slice none 0 0) none))):n9 P cx N o σ (hid e s h) K:=by
 refine⟨fun c hc=>zeF,fun M β a w i hi Q=>?_⟩
 have ex:a.eval x=.map (some h.bm):=by have:=ev.rep i x;rw[hx]at this;exact this
 have ey:a.eval y=.string k:=by have:=ev.rep i y;rw[hy]at this;exact this
 have hv:a.eval z=.slice none 0 0:=by have:=ev.rep i z;rw[hz]at this;exact this
 have hF:h.F e s M w:=hi.holds
 have hS0:h.S h.bm:=.inl rfl
 have jL:∀b,(Instr.checkKey b 10000 kt (.string k)).run P w=.ok () w:=fun b=>jC w hk b k 9999
 have oL:=yH (P:=P) (w:=w) hk k h.l
 obtain⟨h',BW⟩:∃h',eR h k (.slice none 0 0) none=h':=⟨_,rfl⟩
 have FX:h'.bm=h.bm:=by rw[←BW];unfold eR;split <;> rfl
 have a7:(execOp a.eval o).run P w=.ok .skip (setBlock w h.bm (.map (h'.l.map bO.nK).toArray h'.clock)):=by
  cases hq:dD h.l k 0 with
  |none=>
   rw[hq]at oL;have e1:h'= {h with l:=h.l++ [⟨k,h.clock,.slice none 0 0,none⟩],clock:=h.clock+1}:=by rw[←BW];unfold eR;rw[hq]
   have e3:(h.l.map bO.nK).toArray.push {key:=.string k,val:=.slice none 0 0,born:=h.clock}=(h'.l.map bO.nK).toArray:=by rw[e1];simp[bO.nK]
   have e4:h'.clock=h.clock+1:=by rw[e1]
   have hm:(Instr.mapUpdate t (.map (some h.bm)) (.string k) (.slice none 0 0)).run P w=.ok () (setBlock w h.bm (.map (h'.l.map bO.nK).toArray h'.clock)):=by exact zbE
   exact zc8
  |some p=>
   obtain⟨j,q⟩:=p;rw[hq]at oL;obtain⟨_,BX,tR⟩:=vD hq;simp only [Nat.sub_zero]at BX;have tR:q.key=k:=tR;have e1:h'= {h with l:=h.l.modify j fun x=>{x with val:=.slice none 0 0,row:=none}}:=by rw[←BW];unfold eR;rw[hq]
   have e3:=G8 (.slice none 0 0) none BX tR;have e4:h'.clock=h.clock:=by rw[e1]
   have HU:(Instr.keyThatStays (.string k) (.string k)).run P w=.ok (.string k) w:=by simp[Instr.keyThatStays,Instr.sameBits]
   have hm:(Instr.mapUpdate t (.map (some h.bm)) (.string k) (.slice none 0 0)).run P w=.ok () (setBlock w h.bm (.map (h'.l.map bO.nK).toArray h'.clock)):=by
    have e5:h'.l.map bO.nK=(h.l.map bO.nK).modify j (fun e=>{e with key:=.string k,val:=.slice none 0 0}):=by rw[e1];exact e3.symm
    exact jw
   exact zc8
 unfold Oper.wp
 rw[a7,Oper.upon_skip,hd]
 have SI:=gC w h.bm (.map (h'.l.map bO.nK).toArray h'.clock)
 have sO:∀k',k'≠h.bm→(setBlock w h.bm (.map (h'.l.map bO.nK).toArray h'.clock)).heap[k']? =w.heap[k']? :=fun k' y5=>fD _ _ _ y5
 have hat:=iS (ob':=.map (h'.l.map bO.nK).toArray h'.clock) hF.map
 generalize hw:setBlock w h.bm (.map (h'.l.map bO.nK).toArray h'.clock)=w' at*
 have i1:=i.A1 hi hS0 SI sO
 have kp:=cE.A1 hi hS0 SI sO zeN zeN zeN zfe
 refine⟨_,M,β,_,BW▸hK,i1,?_,Grow.refl _ _,kp⟩
 have fQ:∀k',h'.S k'→h.S k':=by
  rintro k' (rfl|⟨x,hx,r,hr,rfl⟩|⟨sn,hs⟩)
  ·exact FX▸.inl rfl
  ·rw[←BW]at hx;rcases A8 hx with h1|⟨_,h2⟩
   ·exact .inr (.inl ⟨x,h1,r,hr,rfl⟩)
   rw[hr]at h2;cases h2
  refine .inr (.inr ⟨sn,?_⟩);exact zdz
 refine⟨⟨by rw[FX];exact hat,fun x hx r hr=>?_,fun bi sn hs=>?_,?_⟩,fun k' y5=>hi.low k' (fQ k' y5),fun k' y5=>hi.apart k' (fQ k' y5),fun x bx b' c' e1 e2 hs=>hi.names x bx b' c' e1 e2 (fQ b' hs)⟩
 ·rw[←BW]at hx;rcases A8 hx with h1|⟨h1,h2⟩
  ·exact zau
  rw[hr]at h2;cases h2
 ·exact jb
 ·intro j1 j2 x1 x2 r1 r2 g1 g2 hr1 YL eg;rw[←BW]at g1 g2;rcases A9 g1 with q1|⟨q1,p1⟩
  ·rcases A9 g2 with q2|⟨q2,p2⟩
   ·exact zei
   rw[YL]at q2;cases q2
  rw[hr1]at q1;cases q1
end
end Go.Ax
namespace Go.Pj
open Go Go.Ax Go.Ch Go.Proofs Go.Proofs.Tryz
theorem VI{pt:Piece}{n:Nat}{fin:DS}:∀{k:Nat} {s:DS},DJ pt n fin (k,s)→∃k',DJ pt n fin (k',fin)
 |0,s,h=>⟨0,by have:=h.run;simp only [pB]at this;subst this;exact h⟩
 |k+1,s,h=>by
  by_cases hv:s.v>0
  ·obtain⟨k',hk,h2⟩:=h.step hv;obtain rfl:k=k':=oM;exact VI h2
  have hr:=h.run;simp only at hr;rw[BD hv]at hr;subst hr;exact⟨_,h⟩
theorem XH{pt:Piece}{lo n:Nat}{l:List Room}(hn:l.length=n)(DR:lo≤n)(hn2:n≤1000)(hv:0≤pt.iZ∧pt.iZ≤1000000000000000)(hl:∀i,lo≤i→i<n→1≤(l.getD i default).2∧(l.getD i default).2≤1000000000000):
  DJ pt n (cH pt lo l) (n - lo+1,qE pt lo l):=
 ⟨by unfold cH;rw[hn],DR,hn,hv,fun _=>by show n - lo<n - lo+1;omega,hl,by show 0+(n - lo+1)≤_;omega⟩
theorem FZ{pt:Piece}{lo n:Nat}{l:List Room}(hn:l.length=n)(DR:lo≤n)(hn2:n≤1000)(hv:0≤pt.iZ∧pt.iZ≤1000000000000000)(hl:∀i,lo≤i→i<n→1≤(l.getD i default).2∧(l.getD i default).2≤1000000000000):
  (cH pt lo l).lo≤n∧(cH pt lo l).cur.length=n∧∀i,(cH pt lo l).lo≤i→i<n→1≤((cH pt lo l).cur.getD i default).2∧((cH pt lo l).cur.getD i default).2≤1000000000000:=by
 obtain⟨k,h⟩:=VI (XH hn DR hn2 hv hl)
 exact⟨h.lo,h.len,h.left⟩
theorem PE{pt:Piece}:∀(k:Nat) (s:DS),(pB pt k s).out.length≤s.out.length+k
 |0,s=>Nat.le_refl _
 |k+1,s=>by
  rw[pB]
  cases decide (s.v>0)with
  |false=>show s.out.length≤_;omega
  |true=>
   have:=PE (pt:=pt) k (a6 pt s);have e:(a6 pt s).out.length=s.out.length+1:=by rw[lJ];simp
   show(pB pt k (a6 pt s)).out.length≤_;omega
theorem qY(pt:Piece)(lo:Nat)(l:List Room):(cH pt lo l).out.length≤l.length - lo+1:=by have:=PE (pt:=pt) (l.length - lo+1) (qE pt lo l);have e:(qE pt lo l).out.length=0:=rfl;unfold cH;omega
abbrev mF:=bJ×(Nat×List Room)×Nat
def fP:List mF→bJ→Nat→Option (Nat×mF)
 |[],_,_=>none
 |e::r,k,i=>bif k==e.1 then some (i,e)else fP r k (i+1)
def B1(E:List mF)(k:bJ):Nat×List Room:=match fP E k 0 with
 |some (_,e)=>e.2.1
 |none=>(0,[])
def aAS(E:List mF)(k:bJ)(v:Nat×List Room):List mF:=match fP E k 0 with
 |some (i,_)=>E.modify i fun e=>(e.1,v,e.2.2)
 |none=>E++ [(k,v,E.length)]
def dH(p:Proj):Int:=aW (p.aT.side*p.aT.side)
def P2(p:Proj)(i:Nat):Int:=(mM p.chan p.aT p.chan.over).levels.getD i 0
def bN(p:Proj)(m:Int)(i:Nat)(x:Part):Piece:=
 ⟨m,i,x.aN,aW (aW (x.top - x.bot)*dH p),bif P2 p i !=30000 then aW (mm true 0 (aW (x.top - mm true x.bot (P2 p i)))*dH p)else 0,0,bs []⟩
abbrev PS:=List mF×List Piece
def oN(p:Proj)(m:Int)(i:Nat)(s:PS)(x:Part):PS:=
 (aAS s.1 (x.aN.data.toList) ((cH (bN p m i x) (B1 s.1 x.aN.data.toList).1 (B1 s.1 x.aN.data.toList).2).lo,(cH (bN p m i x) (B1 s.1 x.aN.data.toList).1 (B1 s.1 x.aN.data.toList).2).cur),
  s.2++(cH (bN p m i x) (B1 s.1 x.aN.data.toList).1 (B1 s.1 x.aN.data.toList).2).out)
def wZ(p:Proj)(fs:List Fact)(M:Nat)(s:PS)(i:Nat):PS:=
 bif iL p fs (M - 1) i==30000||decide (iL p fs M i≥iL p fs (M - 1) i)then s
 else(vP p.gr (dP p.aT i) (iL p fs (M - 1) i) (iL p fs M i)).foldl (oN p M i) s
def qD(E:List Rm.gL):List mF:=E.map fun e=>(e.1,(0,e.2.1),e.2.2)
def G3(p:Proj)(fs:List Fact)(M:Nat):List Piece:=
 ((List.range p.aT.levels.length).foldl (wZ p fs M) (qD (Rm.kU (iM p (j8 fs M) (j8 fs M).length).1 M (iM p (j8 fs M) (j8 fs M).length).1.length),[])).2
structure ZU(r:mX)(v:Nat×List Room):Prop where
 lo:r.lo=v.1
 n:r.n=v.2.length
 le:v.1≤v.2.length
 f:∀i j,i<v.2.length→j<14→aK (r.f i j) (j9 v.2 i j)
structure POK(q:bO)(e:mF):Prop where
 key:q.key=bs e.1
 born:q.born=e.2.2
 row:(e.2.1.2≠[]∧∃r,q.row=some r∧ZU r e.2.1)∨(q.row=none∧q.val=.slice none 0 0∧e.2.1=(0,[]))
def mG:List bO→List mF→Prop
 |[],[]=>True
 |q::r,e::s=>POK q e∧mG r s
 |_,_=>False
theorem mG.of:∀{l:List bO} {E:List Rm.gL},Rm.eH l E→mG l (qD E)
 |[],[],_=>trivial
 |q::r,e::s,h=>by obtain⟨x,hx,ho⟩:=h.1.row;exact⟨⟨h.1.key,h.1.born,.inl ⟨h.1.ne,x,hx,⟨ho.lo,ho.n,Nat.zero_le _,ho.f⟩⟩⟩,mG.of h.2⟩
 |[],_::_,h=>h.elim
 |_::_,[],h=>h.elim
theorem mG.append:∀{l m:List bO} {E F:List mF},mG l E→mG m F→mG (l++m) (E++F)
 |[],_,[],_,_,h=>h
 |_::_,_,_::_,_,h,k=>⟨h.1,mG.append h.2 k⟩
 |[],_,_::_,_,h,_=>h.elim
 |_::_,_,[],_,h,_=>h.elim
theorem mG.modify:∀{l:List bO} {E:List mF} {i:Nat} {g:bO→bO} {g':mF→mF},mG l E→(∀q e,l[i]? =some q→E[i]? =some e→POK q e→POK (g q) (g' e))→mG (l.modify i g) (E.modify i g')
 |[],[],_,_,_,_,_=>by simp[mG]
 |q::r,e::s,0,g,g',h,k=>by exact zaW
 |q::r,e::s,i+1,g,g',h,k=>by simp only [List.modify_succ_cons];exact⟨h.1,mG.modify h.2 fun q e hq he=>k q e (by simpa using hq) (by simpa using he)⟩
 |[],_::_,_,_,_,h,_=>h.elim
 |_::_,[],_,_,_,h,_=>h.elim
theorem AG:∀{l:List bO} {E:List mF} {k:bJ} {i:Nat},mG l E→fP E k i=none→dD l (bs k) i=none
 |[],[],_,_,_,_=>rfl
 |q::r,e::s,k,i,h,hf=>by
  rw[fP]at hf;rw[dD,h.1.key,sB]
  cases hk:k==e.1 with
  |true=>rw[hk]at hf;cases hf
  |false=>rw[hk]at hf;exact AG h.2 hf
 |[],_::_,_,_,h,_=>h.elim
 |_::_,[],_,_,h,_=>h.elim
theorem AF:∀{l:List bO} {E:List mF} {k:bJ} {i:Nat} {p:Nat×mF},mG l E→fP E k i=some p→∃q,dD l (bs k) i=some (p.1,q)∧POK q p.2
 |[],[],_,_,_,_,hf=>by cases hf
 |q::r,e::s,k,i,p,h,hf=>by
  rw[fP]at hf;rw[dD,h.1.key,sB]
  cases hk:k==e.1 with
  |true=>rw[hk]at hf;obtain rfl:(i,e)=p:=Option.some.inj hf;exact⟨q,rfl,h.1⟩
  |false=>rw[hk]at hf;exact AF h.2 hf
 |[],_::_,_,_,_,h,_=>h.elim
 |_::_,[],_,_,_,h,_=>h.elim
theorem uN{h:HM}{E:List mF}{k:bJ}{j:Nat}{q:bO}{v:Value}{r:mX}{x:Nat×List Room}(ha:mG h.l E)(hf:dD h.l (bs k) 0=some (j,q))(hr:ZU r x)(fJ:x.2≠[]):
  mG (eR {h with l:=cW h.l j} (bs k) v (some r)).l (E.modify j fun e=>(e.1,x,e.2.2))∧(eR {h with l:=cW h.l j} (bs k) v (some r)).bm=h.bm∧(eR {h with l:=cW h.l j} (bs k) v (some r)).clock=h.clock∧(eR {h with l:=cW h.l j} (bs k) v (some r)).it=h.it:=by
 have h1:=tU h.l (bs k) j 0
 rw[hf]at h1
 unfold eR
 simp only
 cases hq:dD (cW h.l j) (bs k) 0 with
 |none=>rw[hq]at h1;cases h1
 |some p=>
  obtain⟨i,q'⟩:=p;rw[hq]at h1;obtain rfl:i=j:=by simpa using h1
  refine⟨?_,rfl,rfl,rfl⟩;show mG ((cW h.l i).modify i _) _;unfold cW;rw[List.modify_modify_eq];exact ha.modify fun q e _ _ ho=>⟨ho.key,ho.born,.inl ⟨fJ,r,rfl,hr⟩⟩
theorem O9{h:HM}{E:List mF}{k:bJ}{j:Nat}{q:bO}(ha:mG h.l E)(hf:dD h.l (bs k) 0=some (j,q)):
  mG (eR h (bs k) (.slice none 0 0) none).l (E.modify j fun e=>(e.1,(0,[]),e.2.2))∧(eR h (bs k) (.slice none 0 0) none).bm=h.bm∧(eR h (bs k) (.slice none 0 0) none).clock=h.clock∧(eR h (bs k) (.slice none 0 0) none).it=h.it:=by
 unfold eR
 rw[hf]
 refine⟨?_,rfl,rfl,rfl⟩
 exact ha.modify fun q e _ _ ho=>⟨ho.key,ho.born,.inr ⟨rfl,rfl,rfl⟩⟩
theorem PA{h:HM}{E:List mF}{k:bJ}(ha:mG h.l E)(hc:h.clock=E.length)(hf:dD h.l (bs k) 0=none):
  mG (eR h (bs k) (.slice none 0 0) none).l (E++ [(k,(0,[]),E.length)])∧(eR h (bs k) (.slice none 0 0) none).bm=h.bm∧(eR h (bs k) (.slice none 0 0) none).clock=E.length+1∧(eR h (bs k) (.slice none 0 0) none).it=h.it:=by
 unfold eR
 rw[hf]
 refine⟨?_,rfl,by simp only;omega,rfl⟩
 refine ha.append ⟨⟨rfl,by simp only;exact hc,.inr ⟨rfl,rfl,rfl⟩⟩,oO⟩
theorem PV.bB{p:Proj}(h:PV p):∀x∈p.gr.cC,x.bB.length≤1000000:=by exact uu
end Go.Pj
--K60
namespace Go.Ax
open Go.RowKit
variable{P:Program}{cx:Cx}{N:Nat}{σ σ':St}{H H':Hid}
theorem bM.sub{all l:List Oper}{K:St→Hid→Prop}(h:HSub cx N σ H σ' H')(k:bM P cx N all l σ' H' K):bM P cx N all l σ H K:=by intro M β a w Q i hi hQ;obtain⟨M',β',i',bC,g⟩:=h M β a w i hi;exact k M' β' a w Q i' bC fun a' w' hp=>hQ a' w' (hp.trans g (cE.refl _ _))
theorem bS.cut{x y:Code}{K:Exit→St→Hid→Prop}(h:bS P cx N x σ H fun e s h=>e=.normal∧HSub cx N s h σ' H')(k:bS P cx N y σ' H' K):bS P cx N (.seq x y) σ H K:=
 bS.seq (bS.mono h fun _ _ _ ⟨he,hs⟩=>by subst he;exact bS.sub hs k)
end Go.Ax
namespace Go.Pj
open Go Go.Ax Go.Ch Go.Proofs Go.Proofs.Tryz
set_option maxRecDepth 100000
set_option maxHeartbeats 1000000
theorem PV.aBZ{p:Proj}(h:PV p):∀x∈p.gr.cC,x.bB.length≤12:=by exact uu
theorem PD{pt:Piece}:∀(k:Nat) (s:DS),s.out.length≤(pB pt k s).out.length
 |0,s=>Nat.le_refl _
 |k+1,s=>by
  rw[pB]
  cases decide (s.v>0)with
  |false=>exact Nat.le_refl _
  |true=>
   have:=PD (pt:=pt) k (a6 pt s);have e:(a6 pt s).out.length=s.out.length+1:=by rw[lJ];simp
   show _≤(pB pt k (a6 pt s)).out.length;omega
theorem qA{pt:Piece}{lo:Nat}{l:List Room}(hv:0<pt.iZ):0<(cH pt lo l).out.length:=by
 unfold cH;rw[pB,show decide ((qE pt lo l).v>0)=true from decide_eq_true hv];have:=PD (pt:=pt) (l.length - lo) (a6 pt (qE pt lo l));have e:(a6 pt (qE pt lo l)).out.length=0+1:=by rw[lJ];simp;rfl
 show 0<(pB pt (l.length - lo) (a6 pt (qE pt lo l))).out.length;omega
structure wB(x:Nat×List Room):Prop where
 le:x.1≤x.2.length
 few:x.2.length≤200
 left:∀i,x.1≤i→i<x.2.length→1≤(x.2.getD i default).2∧(x.2.getD i default).2≤1000000000000
def D5(s:PS)(n:Nat):Prop:=(∀e∈s.1,wB e.2.1)∧s.2.length≤n
theorem D5.more{s:PS}{n m:Nat}(h:D5 s n)(hm:n≤m):D5 s m:=⟨h.1,Nat.le_trans h.2 hm⟩
theorem NQ:∀{E:List mF} {k:bJ} {i j:Nat} {e:mF},fP E k i=some (j,e)→i≤j∧E[j - i]? =some e∧e.1=k
 |[],_,_,_,_,h=>by cases h
 |x::r,k,i,j,e,h=>by
  rw[fP]at h
  cases hk:(k==x.1)with
  |true=>rw[hk]at h;obtain⟨rfl,rfl⟩:=Prod.mk.inj (Option.some.inj h);exact⟨Nat.le_refl _,sM,(eq_of_beq hk).symm⟩
  |false=>rw[hk]at h;obtain⟨h1,h2,h3⟩:=NQ (E:=r) h;refine⟨oM,?_,h3⟩;rw[show j - i=(j - (i+1))+1 by omega];simpa using h2
theorem YS{E:List mF}{k:bJ}(h:∀e∈E,wB e.2.1):wB (B1 E k):=by
 unfold B1;split
 ·rename_i i e he;exact h e (List.mem_of_getElem? (NQ he).2.1)
 exact⟨Nat.le_refl _,Nat.zero_le _,fun i _ hi=>absurd hi (Nat.not_lt_zero _)⟩
theorem XL{E:List mF}{k:bJ}{v:Nat×List Room}(h:∀e∈E,wB e.2.1)(hv:wB v):∀e∈aAS E k v,wB e.2.1:=by
 intro e he;unfold aAS at he;split at he
 ·rename_i i e' _;obtain⟨j,hj⟩:=List.getElem?_of_mem he;rw[List.getElem?_modify]at hj
  cases hE:E[j]? with
  |none=>rw[hE]at hj;cases hj
  |some y=>
   rw[hE]at hj;have hj:(if i=j then(y.1,v,y.2.2)else y)=e:=by simpa using hj
   split at hj
   ·subst hj;exact hv
   subst hj;exact h y (List.mem_of_getElem? hE)
 rcases List.mem_append.1 he with he|he
 ·exact h e he
 rw[List.mem_singleton.1 he];exact hv
theorem Y3{pt:Piece}{x:Nat×List Room}(h:wB x)(hv:0≤pt.iZ∧pt.iZ≤1000000000000000):wB ((cH pt x.1 x.2).lo,(cH pt x.1 x.2).cur):=by have hf:=h.few;obtain⟨h1,h2,h3⟩:=FZ (pt:=pt) (n:=x.2.length) rfl h.le oM hv h.left;exact⟨by show _≤(cH pt x.1 x.2).cur.length;omega,by show(cH pt x.1 x.2).cur.length≤_;omega,fun i h4 h5=>h3 i h4 (by have h5:i<(cH pt x.1 x.2).cur.length:=h5;omega)⟩
theorem KN{p:Proj}{m:Int}{i n:Nat}{s:PS}{x:Part}(h:D5 s n)(hv:0≤(bN p m i x).iZ∧(bN p m i x).iZ≤1000000000000000):D5 (oN p m i s x) (n+201):=by have hg:=YS (k:=x.aN.data.toList) h.1;refine⟨XL h.1 (Y3 hg hv),?_⟩;have hf:=qY (bN p m i x) (B1 s.1 x.aN.data.toList).1 (B1 s.1 x.aN.data.toList).2;have:=hg.few;have:=h.2;show(s.2++_).length≤_;rw[List.length_append];omega
structure AQ(x:Part):Prop where
 lt:x.bot<x.top
 lo: -20000≤x.bot
 hi:x.top≤20000
theorem ZD{l:List sC}{hi lo:Int}{n:Nat}{x:Part}(h:x∈nL l hi lo n):x.bot<x.top∧lo≤x.bot∧x.top≤hi:=by
 unfold nL at h;obtain⟨i,_,hx⟩:=List.mem_filterMap.1 h;unfold X8 at hx
 cases hq:decide (C4 l hi i>FM l lo i)with
 |false=>rw[hq]at hx;cases hx
 |true=>
  rw[hq]at hx;obtain rfl:=Option.some.inj hx;refine⟨of_decide_eq_true hq,?_,?_⟩
  ·show lo≤FM l lo i;unfold FM
   cases decide (((i+1:Nat):Int)<l.length)with
   |true=>show lo≤mm true _ _;unfold mm;simp only;split <;> omega
   |false=>exact Int.le_refl _
  show C4 l hi i≤hi;unfold C4
  cases decide ((i:Int)>0)with
  |true=>show mm false _ _≤hi;unfold mm;simp only;split <;> omega
  |false=>exact Int.le_refl _
theorem D7{g:Ground}{c:Pt}{hi lo:Int}{x:Part}(h:x∈vP g c hi lo):AQ x:=by
 unfold vP at h
 cases he:(FQ g c hi lo !=0)with
 |true=>rw[he]at h;cases h
 |false=>
  rw[he]at h;have h:x∈nL (uD g c).bB hi lo (uD g c).bB.length:=h;obtain⟨h1,h2,h3⟩:=ZD h;have he:FQ g c hi lo=0:=by simpa using he
  unfold FQ at he;obtain⟨ha,_⟩:=dU he;unfold FN at ha;obtain⟨_,ha⟩:=dU ha;obtain⟨ha,_⟩:=dF dC ha;simp only [Bool.or_eq_false_iff,List.any_cons,List.any_nil,L2,within,Bool.not_eq_false',Bool.and_eq_true,decide_eq_true_eq]at ha;exact⟨h1,oM,oM⟩
theorem aIO{g:Ground}{c:Pt}(h0:0<g.cC.length):uD g c∈g.cC:=bP (MS g.cC c g.cC.length h0)
theorem I6{p:Proj}{c:Pt}{hi lo:Int}(h:PV p):(vP p.gr c hi lo).length≤12:=by
 unfold vP
 cases FQ p.gr c hi lo !=0 with
 |true=>exact Nat.zero_le _
 |false=>have h1:=RU (uD p.gr c).bB hi lo (uD p.gr c).bB.length;have h2:=h.aBZ _ (aIO (c:=c) (EX h.gr).1);show(nL _ _ _ _).length≤12;omega
theorem aDT{p:Proj}(h:PV p):10000≤dH p∧dH p≤1000000:=by have h1:=h.gv.side;have h2:=h.side;have h3:100*100≤p.aT.side*p.aT.side:=Int.mul_le_mul h1.1 h1.1 dC oM;have h4:p.aT.side*p.aT.side≤1000*1000:=Int.mul_le_mul h2 h2 oM dC;unfold dH;rw[aG oM oM];omega
theorem BK{p:Proj}{m:Int}{i:Nat}{x:Part}(h:PV p)(hx:AQ x):0<(bN p m i x).iZ∧(bN p m i x).iZ≤1000000000000000:=by obtain⟨a1,a2⟩:=aDT h;have h1:=hx.lt;have h2:=hx.lo;have h3:=hx.hi;show 0<aW (aW (x.top - x.bot)*dH p)∧_;rw[show aW (x.top - x.bot)=x.top - x.bot from aG oM oM];have h4:1*1≤(x.top - x.bot)*dH p:=Int.mul_le_mul oM oM dC oM;have h5:(x.top - x.bot)*dH p≤40000*1000000:=Int.mul_le_mul oM a2 oM dC;have e:(bN p m i x).iZ=aW (aW (x.top - x.bot)*dH p):=rfl;rw[e,show aW (x.top - x.bot)=x.top - x.bot from aG oM oM,aG oM oM];omega
theorem aJ5{a b:List Piece}{i j:Nat}(_:i<a.length+b.length):jM a.length (eJ a) (eJ b) i j=eJ (a++b) i j:=by
 unfold jM eJ;by_cases h:i<a.length
 ·exact zcq
 rw[if_neg h];simp only [List.getD_eq_getElem?_getD,List.getElem?_append_right (by omega:a.length≤i)]
end Go.Pj
namespace Go.Pj
open Go Go.Ax Go.Ch Go.Proofs Go.Proofs.Tryz
def aGQ(g:eZ):Bool:=(decide ((g.levels.length:Int)>9)&&decide ((g.levels.length:Int)≤120))||decide ((g.levels.length:Int)>300)
theorem aMP(g:eZ):aF prog 12 [rK g] (vB (aGQ g)):=by exact eP func12 rfl rfl call12 rfl rfl fun cx aA=>zbe
def gr0(p:Proj):Bool:=aGQ p.aT||decide ((p.name.size:Int)>40)||decide ((p.chan.aZ.length:Int)>6)||decide ((p.chan.regions.length:Int)>5)||decide ((p.gr.bK.length:Int)>4)||decide ((p.gr.cC.length:Int)>5)||decide ((p.cO.length:Int)>25)||decide ((p.cU.length:Int)>25)||decide ((p.aQ.length:Int)>10)||decide ((p.bA.length:Int)>10)
def grR(r:zP):Bool:=decide ((r.lS.length:Int)>8)||decide ((r.name.size:Int)>40)
def grB(b:fS):Bool:=decide ((b.bB.length:Int)>6)
def grP(b:uF):Bool:=decide ((b.aV.length:Int)>12)
def vC(p:Proj):Bool:=gr0 p||p.chan.regions.any grR||p.gr.cC.any grB||p.aQ.any grP
theorem OG{α:Type} [Inhabited α] {l:List α}{f:α→Bool}{i:Nat}(hi:i<l.length)(h:f (l.getD i default)=true):l.any f=true:=
 List.any_eq_true.2 ⟨_,bP hi,h⟩
theorem CR{α:Type} [Inhabited α] {l:List α}{f:α→Bool}{i:Nat}(hi:i<l.length)(h0:(l.take i).any f=false)(h:f (l.getD i default)=false):(l.take (i+1)).any f=false:=by rw[List.take_add_one,List.getElem?_eq_getElem hi,List.any_append,h0];rw[aX hi]at h;simp[h]
theorem F5{α:Type}{l:List α}{f:α→Bool}(h:(l.take l.length).any f=false):l.any f=false:=by rwa [List.take_length]at h
theorem aI9(p:Proj):aF prog 4 [oR p] (vB (vC p)):=by
 refine eP func4 rfl rfl call4 rfl rfl fun cx aA=>?_
 refine aB (aMP p.aT) ?_
 repeat refine aR ?_
 refine aI (fun h0=>?_) (fun h0=>?_)
 ·have h0:gr0 p=true:=h0
  exact aC.lit (by unfold vC;rw[h0];rfl)
 have h0:gr0 p=false:=h0
 have b0:=h0
 simp only [gr0,Bool.or_eq_false_iff,decide_eq_false_iff_not]at b0
 refine AW.loop (fun i:Nat=>⟨[(1,.s (.ptr 1 0)),(3,vI i)],[(1,some (.cells (qH p)))]⟩) (fun i=>i≤p.chan.regions.length∧(p.chan.regions.take i).any grR=false) (fun i=>p.chan.regions.length - i) 0 ⟨Nat.zero_le _,rfl⟩ ?_ ?_
 ·exact zcC
 rintro i ⟨hi,hj⟩
 refine eX aA ?_
 refine aI (fun h5=>?_) (fun h5=>?_)
 ·have h5:(i:Int)<p.chan.regions.length:=bG h5
  have hi5:i<p.chan.regions.length:=oM
  refine oi ⟨oM,oM⟩ ?_
  repeat refine aR ?_
  refine og (fun _=>⟨oM,oM⟩) ?_
  repeat refine aR ?_
  refine aI (fun h6=>?_) (fun h6=>?_)
  ·have h6:grR (p.chan.regions.getD i default)=true:=h6
   exact aC.lit (by unfold vC;rw[OG hi5 h6];simp)
  have h6:grR (p.chan.regions.getD i default)=false:=h6
  exact jt
 have h5:¬(i:Int)<p.chan.regions.length:=bF h5
 obtain rfl:i=p.chan.regions.length:=oM
 have a1:=F5 hj
 clear hj hi h5
 refine AW.loop (fun i:Nat=>⟨[(1,.s (.ptr 1 0)),(4,vI i)],[(1,some (.cells (qH p)))]⟩) (fun i=>i≤p.gr.cC.length∧(p.gr.cC.take i).any grB=false) (fun i=>p.gr.cC.length - i) 0 ⟨Nat.zero_le _,rfl⟩ ?_ ?_
 ·exact zcC
 rintro i ⟨hi,hj⟩
 refine eX aA ?_
 refine aI (fun h5=>?_) (fun h5=>?_)
 ·have h5:(i:Int)<p.gr.cC.length:=bG h5
  have hi5:i<p.gr.cC.length:=oM
  refine oi ⟨oM,oM⟩ ?_
  refine aI (fun h6=>?_) (fun h6=>?_)
  ·have h6:grB (p.gr.cC.getD i default)=true:=h6
   exact aC.lit (by unfold vC;rw[OG hi5 h6];simp)
  have h6:grB (p.gr.cC.getD i default)=false:=h6
  exact jt
 have h5:¬(i:Int)<p.gr.cC.length:=bF h5
 obtain rfl:i=p.gr.cC.length:=oM
 have a2:=F5 hj
 clear hj hi h5
 refine AW.loop (fun i:Nat=>⟨[(1,.s (.ptr 1 0)),(5,vI i)],[(1,some (.cells (qH p)))]⟩) (fun i=>i≤p.aQ.length∧(p.aQ.take i).any grP=false) (fun i=>p.aQ.length - i) 0 ⟨Nat.zero_le _,rfl⟩ ?_ ?_
 ·exact zcC
 rintro i ⟨hi,hj⟩
 refine eX aA ?_
 refine aI (fun h5=>?_) (fun h5=>?_)
 ·have h5:(i:Int)<p.aQ.length:=bG h5
  have hi5:i<p.aQ.length:=oM
  refine oi ⟨oM,oM⟩ ?_
  refine aI (fun h6=>?_) (fun h6=>?_)
  ·have h6:grP (p.aQ.getD i default)=true:=h6
   exact aC.lit (by unfold vC;rw[OG hi5 h6];simp)
  have h6:grP (p.aQ.getD i default)=false:=h6
  exact jt
 have h5:¬(i:Int)<p.aQ.length:=bF h5
 obtain rfl:i=p.aQ.length:=oM
 have a3:=F5 hj
 exact aC.lit (by unfold vC;rw[h0,a1,a2,a3];rfl)
def KX(f:Fact):Bool:=decide ((f.levels.length:Int)>120)||decide ((f.aN.size:Int)>40)||decide ((f.dN.size:Int)>40)||decide ((f.eS.size:Int)>40)
theorem aMX(f:Fact):aF prog 13 [pX f] (vB (KX f)):=by exact eP func13 rfl rfl call13 rfl rfl fun cx aA=>zbe
def HD(l:List Fact)(m:Int):Bool:=decide ((l.length:Int)>m)||l.any KX
theorem aMW(l:List Fact)(m:Int)(hm:m≤1000000):aF prog 5 [cJ l,vI m] (vB (HD l m)):=by
 refine eP func5 rfl rfl call5 rfl rfl fun cx aA=>aI (fun h0=>?_) (fun h0=>?_)
 ·have h0:decide ((l.length:Int)>m)=true:=h0;exact aC.lit (by unfold HD;rw[h0];rfl)
 have h0:decide ((l.length:Int)>m)=false:=h0;have b0:¬(l.length:Int)>m:=of_decide_eq_false h0;refine AW.loop (fun i:Nat=>⟨[(0,cJ l),(5,vI i)],[]⟩) (fun i=>i≤l.length∧(l.take i).any KX=false) (fun i=>l.length - i) 0 ⟨Nat.zero_le _,rfl⟩ ?_ ?_
 ·exact zcX
 rintro i ⟨hi,hj⟩;refine eX aA (aI (fun h5=>?_) (fun h5=>?_))
 ·have h5:(i:Int)<l.length:=bG h5;have hi5:i<l.length:=oM;refine oi ⟨oM,oM⟩ (aB (aMX (l.getD i default)) ?_);refine aI (fun h6=>?_) (fun h6=>?_)
  ·have h6:KX (l.getD i default)=true:=h6;exact aC.lit (by unfold HD;rw[OG hi5 h6];simp)
  have h6:KX (l.getD i default)=false:=h6;refine⟨i+1,⟨oM,CR hi5 hj h6⟩,oM,?_⟩;exact Sub.bD aA trivial ⟨rQ,⟨rfl,congrArg vI (aG oM oM)⟩,oO⟩
 have h5:¬(i:Int)<l.length:=bF h5;obtain rfl:i=l.length:=oM;have a3:=F5 hj;exact aC.lit (by unfold HD;rw[h0,a3];rfl)
theorem WH(p:Proj)(l:List Fact)(m least:Int)(hp:p.fits)(hf:∀f∈l,f.fits)(hl:l.length≤9223372036854775807):aF prog 8 [oR p,cJ l,vI m,vI least] (vI (j6 p l m least)):=by
 refine eP func8 rfl rfl call8 rfl rfl fun cx aA=>aB (PM p l hp hf hl) (aI (fun h1=>?_) (fun h1=>?_))
 ·exact zcP
 have h1:(iI p l !=0)=false:=h1;refine aB (cI m least 24) (aI (fun h2=>?_) (fun h2=>?_))
 ·have h2:(!within m least 24)=true:=h2;exact zcw
 have h2:(!within m least 24)=false:=h2;exact zcw
def aFA:List Piece→AV
 |[]=>.s (.d eO)
 |_::_=>.s (.own 100)
def aFB:List Piece→aP
 |[]=>[]
 |x::r=>[(100,some (.row 109 (x::r).length 7 (eJ (x::r))))]
abbrev kQ(p:Proj):List SV:=[.d (dI p.aT.x),.d (dI p.aT.y),.d (dI p.aT.side),.d (dI p.aT.dO),.d (dI p.aT.rows),.d (b5 (mM p.chan p.aT p.chan.over).levels)]
def IU(p:Proj)(fs:List Fact)(M:Nat)(bm i:Nat)(out:List Piece):St:=
 ⟨(7,aFA out):: [(1,vI M),(2,.s (.d (cZ (dA p fs (M+1))))),(3,.s (.ptr 3 0)),(8,dQ bm),(9,.s (.ptr 9 0)),(11,vI (dH p)),(51,vI p.aT.levels.length),(52,vI i)],[(3,some (.cells (l0 p fs))),(9,some (.cells (kQ p)))]++aFB out⟩
def EE(p:Proj)(fs:List Fact)(M:Nat)(E:List mF)(i:Nat):PS:=(List.range i).foldl (wZ p fs M) (E,[])
theorem GY(p:Proj)(fs:List Fact)(M:Nat)(E:List mF)(i:Nat):EE p fs M E (i+1)=wZ p fs M (EE p fs M E i) i:=by unfold EE;rw[List.range_succ,List.foldl_append];rfl
def MN(p:Proj)(m:Int)(i:Nat)(s:PS)(xs:List Part)(j:Nat):PS:=(xs.take j).foldl (oN p m i) s
theorem aBF{p:Proj}{m:Int}{i:Nat}{s:PS}{xs:List Part}{j:Nat}(h:j<xs.length):MN p m i s xs (j+1)=oN p m i (MN p m i s xs j) (xs.getD j default):=by unfold MN;exact uy
def xM(p:Proj)(fs:List Fact)(M:Nat)(bm i:Nat)(xs:List Part)(j:Nat)(out:List Piece):St:=
 ⟨(7,aFA out):: [(1,vI M),(2,.s (.d (cZ (dA p fs (M+1))))),(3,.s (.ptr 3 0)),(8,dQ bm),(9,.s (.ptr 9 0)),(11,vI (dH p)),(12,vI i),(51,vI p.aT.levels.length),(52,vI i),(97,iC xs),(98,vI xs.length),(99,vI j)],[(3,some (.cells (l0 p fs))),(9,some (.cells (kQ p)))]++aFB out⟩
def B7(p:Proj)(fs:List Fact)(M:Nat)(bm i:Nat)(xs:List Part)(j:Nat)(out zs:List Piece):St:=
 ⟨(7,aFA out):: [(1,vI M),(2,.s (.d (cZ (dA p fs (M+1))))),(3,.s (.ptr 3 0)),(8,dQ bm),(9,.s (.ptr 9 0)),(11,vI (dH p)),(12,vI i),(23,iD zs),(51,vI p.aT.levels.length),(52,vI i),(97,iC xs),(98,vI xs.length),(99,vI j)],[(3,some (.cells (l0 p fs))),(9,some (.cells (kQ p)))]++aFB out⟩
def aLC(p:Proj)(fs:List Fact)(M:Nat)(bm i:Nat)(xs:List Part)(j:Nat)(out:List Piece)(x:Part):St:=
 ⟨(7,aFA out):: [(1,vI M),(2,.s (.d (cZ (dA p fs (M+1))))),(3,.s (.ptr 3 0)),(8,dQ bm),(9,.s (.ptr 9 0)),(11,vI (dH p)),(12,vI i),(20,.s (.ptr 20 0)),(21,.s (.ptr 21 0)),(51,vI p.aT.levels.length),(52,vI i),(97,iC xs),(98,vI xs.length),(99,vI j)],[(3,some (.cells (l0 p fs))),(9,some (.cells (kQ p)))]++aFB out++ [(20,some (.cells [.d (dS x.aN),.d (dI x.top),.d (dI x.bot)])),(21,some (.cells [.d (dI M),.d (dI i),.d (dS x.aN),.d (dI (bN p M i x).iZ),.d (dI (bN p M i x).gV),.d (dI 0),.d (dS (bs []))]))]⟩
def JI(p:Proj)(m:Int)(i:Nat)(s0:PS)(xs:List Part)(s:Nat×HM):Prop:=s.1≤xs.length∧mG s.2.l (MN p m i s0 xs s.1).1∧s.2.clock=(MN p m i s0 xs s.1).1.length∧s.2.it=none∧D5 (MN p m i s0 xs s.1) (i*2412+s.1*201)
def JC(p:Proj)(fs:List Fact)(M:Nat)(E:List mF)(s:Nat×HM):Prop:=s.1≤p.aT.levels.length∧mG s.2.l (EE p fs M E s.1).1∧s.2.clock=(EE p fs M E s.1).1.length∧s.2.it=none∧D5 (EE p fs M E s.1) (s.1*2412)
def aOY:Code→Nat→Code
 |.seq x _,0=>x
 |.seq _ y,1=>y
 |.block _ c,2=>c
 |.loop c,2=>c
 |c,_=>c
def nav(c:Option Code)(l:List Nat):Code:=l.foldl aOY (c.getD .skip)
theorem xA{p:Proj}{fs:List Fact}{M bm i j:Nat}{xs:List Part}{o zs:List Piece}{cx:Cx}{H:Hid}{X:St→Hid→Prop}{K:Exit→St→Hid→Prop}(aA:cx.ref=[])(hz:0<zs.length)(hzl:zs.length≤201)(HW:o.length≤1000000)(hj:j<12)
  (hX:∀σ',HSub cx f31.ntmps σ' H (xM p fs M bm i xs (j+1) (o++zs)) H→X σ' H):
  bS prog cx f31.ntmps (nav f31.body [1,1,1,1,1,0,1,2,2,1,1,0,2,1,1,1,1,1,1,2,2,1,1,0,2,1,1,1,1,1]) (B7 p fs M bm i xs j o zs) H (AN 3 (rO (fun s H=>bS prog cx f31.ntmps (nav f31.body [1,1,1,1,1,0,1,2,2,1,1,0,2,1,1,1,1,1,1,2,2,1,1,1]) s H (rO X K)) (rO X K))):=by
 have ej:aW ((j:Int)+1)=((j+1:Nat):Int):=aG oM oM
 cases o with
 |nil=>
  show bS prog cx _ _ ⟨[(7,.s (.d eO)),(1,vI M),(2,.s (.d (cZ (dA p fs (M+1))))),(3,.s (.ptr 3 0)),(8,dQ bm),(9,.s (.ptr 9 0)),(11,vI (dH p)),(12,vI i),(23,iD zs),(51,vI p.aT.levels.length),(52,vI i),(97,iC xs),(98,vI xs.length),(99,vI j)],[(3,some (.cells (l0 p fs))),(9,some (.cells (kQ p)))]⟩ H _;refine eA aA [3,9] fun _ h'=>ob hz ?_
  refine ob (by show zs.length*72≤_;omega) ?_;refine eA aA [3,9,148] fun _ h'=>hX _ ?_
  obtain⟨z0,zr,rfl⟩:∃z0 zr,zs=z0::zr:=by cases zs with|nil=>exact absurd hz (Nat.lt_irrefl _)|cons a b=>exact⟨a,b,rfl⟩
  show HSub _ _ _ _ ⟨[(7,.s (.own 100)),(1,vI M),(2,.s (.d (cZ (dA p fs (M+1))))),(3,.s (.ptr 3 0)),(8,dQ bm),(9,.s (.ptr 9 0)),(11,vI (dH p)),(12,vI i),(51,vI p.aT.levels.length),(52,vI i),(97,iC xs),(98,vI xs.length),(99,vI (j+1:Nat))],[(3,some (.cells (l0 p fs))),(9,some (.cells (kQ p))),(100,some (.row 109 (z0::zr).length 7 (eJ (z0::zr))))]⟩ _;exact HSub.of (fC.of [(100,148)] zex rfl ⟨bQ,bQ,bQ,oO⟩ ⟨qZ,qZ,qZ,qZ,qZ,qZ,qZ,qZ,qZ,qZ,qZ,qZ,⟨rfl,aU.int ej⟩,oO⟩)
 |cons py po=>
  have HW:(py::po).length≤1000000:=HW;show bS prog cx _ _ ⟨[(7,.s (.own 100)),(1,vI M),(2,.s (.d (cZ (dA p fs (M+1))))),(3,.s (.ptr 3 0)),(8,dQ bm),(9,.s (.ptr 9 0)),(11,vI (dH p)),(12,vI i),(23,iD zs),(51,vI p.aT.levels.length),(52,vI i),(97,iC xs),(98,vI xs.length),(99,vI j)],[(3,some (.cells (l0 p fs))),(9,some (.cells (kQ p))),(100,some (.row 109 (py::po).length 7 (eJ (py::po))))]⟩ H _;refine eA aA [3,9,100] fun _ h'=>ob (show((py::po).length+zs.length)*72≤_ by omega) (ob (fun a c ha hc=>by match c,hc with|0,_|1,_|2,_|3,_|4,_|5,_|6,_=>rfl) ?_)
  refine bS.sub (σ':=⟨[(7,.s (.own 148)),(1,vI M),(2,.s (.d (cZ (dA p fs (M+1))))),(3,.s (.ptr 3 0)),(8,dQ bm),(9,.s (.ptr 9 0)),(11,vI (dH p)),(12,vI i),(51,vI p.aT.levels.length),(52,vI i),(97,iC xs),(98,vI xs.length),(99,vI j)],[(3,some (.cells (l0 p fs))),(9,some (.cells (kQ p))),(148,some (.row 109 ((py::po).length+zs.length) 7 (jM (py::po).length (eJ (py::po)) (eJ zs))))]⟩) (HSub.of (fC.of [] zex rfl ⟨bQ,bQ,bQ,oO⟩ ⟨qZ,qZ,qZ,qZ,qZ,qZ,qZ,qZ,qZ,qZ,qZ,qZ,qZ,oO⟩)) (eA aA [3,9,148] fun _ h'=>?_);refine hX _ ?_;show HSub _ _ _ _ ⟨[(7,.s (.own 100)),(1,vI M),(2,.s (.d (cZ (dA p fs (M+1))))),(3,.s (.ptr 3 0)),(8,dQ bm),(9,.s (.ptr 9 0)),(11,vI (dH p)),(12,vI i),(51,vI p.aT.levels.length),(52,vI i),(97,iC xs),(98,vI xs.length),(99,vI (j+1:Nat))],[(3,some (.cells (l0 p fs))),(9,some (.cells (kQ p))),(100,some (.row 109 (py::(po++zs)).length 7 (eJ (py::(po++zs)))))]⟩ _;exact HSub.of (fC.of [(100,148)] zex rfl ⟨bQ,bQ,⟨rfl,aY.row zeC fun a c ha hc=>aK.of_eq (aJ5 (a:=py::po) ha)⟩,oO⟩ ⟨qZ,qZ,qZ,qZ,qZ,qZ,qZ,qZ,qZ,qZ,qZ,qZ,⟨rfl,aU.int ej⟩,oO⟩)
theorem IH{pt:Piece}(hv:0≤pt.iZ∧pt.iZ≤1000000000000000):((cH pt 0 []).lo,(cH pt 0 []).cur)=(0,[]):=by obtain⟨q1,q2,_⟩:=FZ (pt:=pt) (lo:=0) (n:=0) (l:=[]) rfl (Nat.le_refl _) dC hv (fun _ _ h=>absurd h (Nat.not_lt_zero _));rw[List.eq_nil_of_length_eq_zero q2,Nat.le_zero.1 q1]
theorem GG{p:Proj}{m:Int}{i:Nat}{E:List mF}{o:List Piece}{x:Part}(h:fP E x.aN.data.toList 0=none)(hv:0≤(bN p m i x).iZ∧(bN p m i x).iZ≤1000000000000000):
  oN p m i (E,o) x=(E++ [(x.aN.data.toList,(0,[]),E.length)],o++(cH (bN p m i x) 0 []).out):=by
 have hg:B1 E x.aN.data.toList=(0,[]):=by unfold B1;rw[h]
 unfold oN
 simp only [hg,IH hv]
 unfold aAS
 rw[h]
theorem GF{p:Proj}{m:Int}{i je:Nat}{E:List mF}{o:List Piece}{x:Part}{e:mF}(h:fP E x.aN.data.toList 0=some (je,e)):
  oN p m i (E,o) x=(E.modify je fun e'=>(e'.1,((cH (bN p m i x) e.2.1.1 e.2.1.2).lo,(cH (bN p m i x) e.2.1.1 e.2.1.2).cur),e'.2.2),o++(cH (bN p m i x) e.2.1.1 e.2.1.2).out):=by
 have hg:B1 E x.aN.data.toList=e.2.1:=by unfold B1;rw[h]
 unfold oN
 simp only [hg]
 unfold aAS
 rw[h]
theorem VV{p:Proj}{fs:List Fact}{M i j:Nat}{xs:List Part}{o:List Piece}{E1:List mF}{x:Part}{k:HM}{cx:Cx}{X:St→Hid→Prop}{K:Exit→St→Hid→Prop}(aA:cx.ref=[])(ha:mG k.l E1)(jL:k.clock=E1.length)(hit:k.it=none)
  (hgE:∀e∈E1,wB e.2.1) (hv:0<(bN p M i x).iZ∧(bN p M i x).iZ≤1000000000000000) (HW:o.length≤1000000) (hj:j<12)
  (hX:∀σ2 k2,mG k2.l (oN p M i (E1,o) x).1→k2.clock=(oN p M i (E1,o) x).1.length→k2.it=none→HSub cx f31.ntmps σ2 (hid 217 14 k2) (xM p fs M k2.bm i xs (j+1) (oN p M i (E1,o) x).2) (hid 217 14 k2)→X σ2 (hid 217 14 k2)):
  bS prog cx f31.ntmps (nav f31.body [1,1,1,1,1,0,1,2,2,1,1,0,2,1,1,1,1,1,1,2,2,1,1,0,2,1,1,1]) (aLC p fs M k.bm i xs j o x) (hid 217 14 k) (AN 3 (rO (fun s H=>bS prog cx f31.ntmps (nav f31.body [1,1,1,1,1,0,1,2,2,1,1,0,2,1,1,1,1,1,1,2,2,1,1,1]) s H (rO X K)) (rO X K))):=by
 have HV:bs x.aN.data.toList=x.aN:=rfl
 have BV:0≤(bN p M i x).iZ∧(bN p M i x).iZ≤1000000000000000:=⟨oM,hv.2⟩
 cases o with
 |nil=>
  show bS prog cx _ _ ⟨[(7,.s (.d eO)),(1,vI M),(2,.s (.d (cZ (dA p fs (M+1))))),(3,.s (.ptr 3 0)),(8,dQ k.bm),(9,.s (.ptr 9 0)),(11,vI (dH p)),(12,vI i),(20,.s (.ptr 20 0)),(21,.s (.ptr 21 0)),(51,vI p.aT.levels.length),(52,vI i),(97,iC xs),(98,vI xs.length),(99,vI j)],[(3,some (.cells (l0 p fs))),(9,some (.cells (kQ p))),(20,some (.cells [.d (dS x.aN),.d (dI x.top),.d (dI x.bot)])),(21,some (.cells [.d (dI M),.d (dI i),.d (dS x.aN),.d (dI (bN p M i x).iZ),.d (dI (bN p M i x).gV),.d (dI 0),.d (dS (bs []))]))]⟩ (hid 217 14 k) _;refine bS.seq (bS.region (bM.some (rc:=[]) aJ 4 aA [3,9,20,21] rfl rfl ?_));refine bM.op rfl (n9.look (k:=x.aN) (h:=k) rfl rfl dC rfl rfl rfl underlying152 underlying9 zeroValue165 ?_)
  cases uZ:fP E1 x.aN.data.toList 0 with
  |none=>have uY:=AG ha uZ;rw[HV]at uY;rw[uY];obtain⟨s1,s2,s3,s4⟩:=PA ha jL uY;have hS:=GG (p:=p) (m:=M) (i:=i) (o:=[]) uZ BV;refine bM.some (rc:=[]) aJ 6 aA [3,9,20,21] rfl rfl (aB (F1 (bN p M i x) BV) ?_);refine bM.nil (bS.seq (bS.region (bM.some (rc:=[]) aJ 4 aA [3,9,20,21] rfl rfl ?_)));refine bM.op rfl (n9.L6 (k:=x.aN) (h:=k) rfl rfl rfl rfl rfl underlying152 underlying9 (fun _=>hit) ?_);refine bM.nil (bS.sub (σ':=B7 p fs M k.bm i xs j ([]) (cH (bN p M i x) 0 []).out) zez ?_);exact jk
  |some pr=>
   obtain⟨je,e⟩:=pr;obtain⟨q,uY,hq⟩:=AF ha uZ;rw[HV]at uY;have uY:dD k.l x.aN 0=some (je,q):=uY;rw[uY];have hS:=GF (p:=p) (m:=M) (i:=i) (o:=[]) uZ;have oV:=hgE e (List.mem_of_getElem? (NQ uZ).2.1);rcases hq.row with⟨fJ,r,YM,hr⟩|⟨YM,hqv,hqe⟩
   ·show match q.row with|some r=>_|none=>_
    rw[YM];obtain⟨ek,⟨elo,el⟩,eb⟩:=e;obtain⟨g0,n0,aNO,C0,F⟩:=r;obtain rfl:C0=elo:=hr.lo;obtain rfl:n0=el.length:=hr.n;have hF:∀a c,a<el.length→c<14→aK (F a c) (j9 el a c):=hr.f;have y1:0<el.length:=List.length_pos_iff.2 fJ;have hgl:C0≤el.length:=oV.le;have hgf:el.length≤200:=oV.few;obtain⟨q1,q2,_⟩:=FZ (pt:=bN p M i x) (lo:=C0) (n:=el.length) (l:=el) rfl hgl oM BV oV.left;have hdn:=qA (lo:=C0) (l:=el) hv.1;have hdf:=qY (bN p M i x) C0 el
    cases C0 with
    |zero=>refine bM.sub (σ':=⟨[(7,.s (.d eO)),(1,vI M),(2,.s (.d (cZ (dA p fs (M+1))))),(3,.s (.ptr 3 0)),(8,dQ k.bm),(9,.s (.ptr 9 0)),(11,vI (dH p)),(12,vI i),(20,.s (.ptr 20 0)),(21,.s (.ptr 21 0)),(134,.g [.d (dI M),.d (dI i),.d (dS x.aN),.d (dI (bN p M i x).iZ),.d (dI (bN p M i x).gV),.d (dI 0),.d (dS (bs []))]),(138,.s (.own 138)),(51,vI p.aT.levels.length),(52,vI i),(97,iC xs),(98,vI xs.length),(99,vI j)],[(3,some (.cells (l0 p fs))),(9,some (.cells (kQ p))),(20,some (.cells [.d (dS x.aN),.d (dI x.top),.d (dI x.bot)])),(21,some (.cells [.d (dI M),.d (dI i),.d (dS x.aN),.d (dI (bN p M i x).iZ),.d (dI (bN p M i x).gV),.d (dI 0),.d (dS (bs []))])),(138,some (.row 217 el.length 14 (j9 el)))]⟩) (H':=hid 217 14 {k with l:=cW k.l je}) (HSub.of (fC.of [] zex rfl ⟨bQ,bQ,bQ,bQ,⟨rfl,aY.row rfl hF⟩,oO⟩ ⟨qZ,qZ,qZ,qZ,qZ,qZ,qZ,qZ,qZ,qZ,qZ,qZ,qZ,qZ,qZ,qZ,qZ,oO⟩)) (bM.some (rc:=[68]) aJ 6 aA [3,9,20,21,138] rfl rfl ?_);refine⟨[(1001,138)],_,_,_,_,WL (bN p M i x) el el.length rfl oM BV (fun a ha=>oV.left a (Nat.zero_le _) ha),rfl,⟨rfl,oO⟩,rfl,?_⟩;refine bM.nil (bS.seq (bS.region (bM.some (rc:=[]) aJ 4 aA [3,9,20,21,138] rfl rfl ?_)));refine bM.op rfl (n9.upd (b:=138) (k:=x.aN) (n:=el.length) (n':=el.length - (cH (bN p M i x) (0) el).lo) (lo:=(cH (bN p M i x) (0) el).lo) aA rfl rfl rfl rfl (.inr rfl) rfl y1 underlying152 underlying9 (fun _=>hit) (fun gg cap v=>?_));refine bM.nil ?_;have pE:ZU ⟨gg,(cH (bN p M i x) (0) el).lo+(el.length - (cH (bN p M i x) (0) el).lo),cap,(cH (bN p M i x) (0) el).lo,j9 (cH (bN p M i x) (0) el).cur⟩ ((cH (bN p M i x) (0) el).lo,(cH (bN p M i x) (0) el).cur):=⟨rfl,by show _+_=(cH (bN p M i x) (0) el).cur.length;omega,by show _≤(cH (bN p M i x) (0) el).cur.length;omega,fun a c _ _=>aK.refl _⟩;obtain⟨s1,s2,s3,s4⟩:=uN (v:=v) ha uY pE (by intro e0;have e0:(cH (bN p M i x) (0) el).cur=[]:=e0;rw[e0]at q2;have q2:0=el.length:=q2;omega);refine bS.sub (σ':=B7 p fs M k.bm i xs j ([]) (cH (bN p M i x) (0) el).out) (by show HSub _ _ _ _ ⟨[(7,.s (.d eO)),(1,vI M),(2,.s (.d (cZ (dA p fs (M+1))))),(3,.s (.ptr 3 0)),(8,dQ k.bm),(9,.s (.ptr 9 0)),(11,vI (dH p)),(12,vI i),(23,iD (cH (bN p M i x) (0) el).out),(51,vI p.aT.levels.length),(52,vI i),(97,iC xs),(98,vI xs.length),(99,vI j)],[(3,some (.cells (l0 p fs))),(9,some (.cells (kQ p)))]⟩ _;exact HSub.of (fC.of [] zex rfl ⟨bQ,bQ,oO⟩ ⟨qZ,qZ,qZ,qZ,qZ,qZ,qZ,qZ,qZ,qZ,qZ,qZ,qZ,qZ,oO⟩)) ?_;exact uc
    |succ yY=>refine bM.sub (σ':=⟨[(7,.s (.d eO)),(1,vI M),(2,.s (.d (cZ (dA p fs (M+1))))),(3,.s (.ptr 3 0)),(8,dQ k.bm),(9,.s (.ptr 9 0)),(11,vI (dH p)),(12,vI i),(20,.s (.ptr 20 0)),(21,.s (.ptr 21 0)),(134,.g [.d (dI M),.d (dI i),.d (dS x.aN),.d (dI (bN p M i x).iZ),.d (dI (bN p M i x).gV),.d (dI 0),.d (dS (bs []))]),(138,.s (.j0 138 14 (yY+1) (el.length - (yY+1)))),(51,vI p.aT.levels.length),(52,vI i),(97,iC xs),(98,vI xs.length),(99,vI j)],[(3,some (.cells (l0 p fs))),(9,some (.cells (kQ p))),(20,some (.cells [.d (dS x.aN),.d (dI x.top),.d (dI x.bot)])),(21,some (.cells [.d (dI M),.d (dI i),.d (dS x.aN),.d (dI (bN p M i x).iZ),.d (dI (bN p M i x).gV),.d (dI 0),.d (dS (bs []))])),(138,some (.row 217 el.length 14 (j9 el)))]⟩) (H':=hid 217 14 {k with l:=cW k.l je}) (HSub.of (fC.of [] zex rfl ⟨bQ,bQ,bQ,bQ,⟨rfl,aY.row rfl hF⟩,oO⟩ ⟨qZ,qZ,qZ,qZ,qZ,qZ,qZ,qZ,qZ,qZ,qZ,qZ,qZ,qZ,qZ,qZ,qZ,oO⟩)) (bM.some (rc:=[68]) aJ 6 aA [3,9,20,21,138] rfl rfl ?_);refine⟨[(1001,138)],_,_,_,_,aC5 (bN p M i x) el (yY+1) el.length rfl hgl oM BV oV.left,rfl,⟨rfl,oO⟩,rfl,?_⟩;refine bM.nil (bS.seq (bS.region (bM.some (rc:=[]) aJ 4 aA [3,9,20,21,138] rfl rfl ?_)));refine bM.op rfl (n9.upd (b:=138) (k:=x.aN) (n:=el.length) (n':=el.length - (cH (bN p M i x) (yY+1) el).lo) (lo:=(cH (bN p M i x) (yY+1) el).lo) aA rfl rfl rfl rfl (.inr rfl) rfl y1 underlying152 underlying9 (fun _=>hit) (fun gg cap v=>?_));refine bM.nil ?_;have pE:ZU ⟨gg,(cH (bN p M i x) (yY+1) el).lo+(el.length - (cH (bN p M i x) (yY+1) el).lo),cap,(cH (bN p M i x) (yY+1) el).lo,j9 (cH (bN p M i x) (yY+1) el).cur⟩ ((cH (bN p M i x) (yY+1) el).lo,(cH (bN p M i x) (yY+1) el).cur):=⟨rfl,by show _+_=(cH (bN p M i x) (yY+1) el).cur.length;omega,by show _≤(cH (bN p M i x) (yY+1) el).cur.length;omega,fun a c _ _=>aK.refl _⟩;obtain⟨s1,s2,s3,s4⟩:=uN (v:=v) ha uY pE (by intro e0;have e0:(cH (bN p M i x) (yY+1) el).cur=[]:=e0;rw[e0]at q2;have q2:0=el.length:=q2;omega);refine bS.sub (σ':=B7 p fs M k.bm i xs j ([]) (cH (bN p M i x) (yY+1) el).out) (by show HSub _ _ _ _ ⟨[(7,.s (.d eO)),(1,vI M),(2,.s (.d (cZ (dA p fs (M+1))))),(3,.s (.ptr 3 0)),(8,dQ k.bm),(9,.s (.ptr 9 0)),(11,vI (dH p)),(12,vI i),(23,iD (cH (bN p M i x) (yY+1) el).out),(51,vI p.aT.levels.length),(52,vI i),(97,iC xs),(98,vI xs.length),(99,vI j)],[(3,some (.cells (l0 p fs))),(9,some (.cells (kQ p)))]⟩ _;exact HSub.of (fC.of [] zex rfl ⟨bQ,bQ,oO⟩ ⟨qZ,qZ,qZ,qZ,qZ,qZ,qZ,qZ,qZ,qZ,qZ,qZ,qZ,qZ,oO⟩)) ?_;exact uc
   show match q.row with|some r=>_|none=>_
   rw[YM];refine⟨hqv,?_⟩;obtain⟨ek,ex2,eb⟩:=e;obtain rfl:ex2=(0,[]):=hqe;obtain⟨s1,s2,s3,s4⟩:=O9 ha uY;rw[IH BV]at hS;refine bM.some (rc:=[]) aJ 6 aA [3,9,20,21] rfl rfl (aB (F1 (bN p M i x) BV) ?_);refine bM.nil (bS.seq (bS.region (bM.some (rc:=[]) aJ 4 aA [3,9,20,21] rfl rfl ?_)));refine bM.op rfl (n9.L6 (k:=x.aN) (h:=k) rfl rfl rfl rfl rfl underlying152 underlying9 (fun _=>hit) ?_);refine bM.nil (bS.sub (σ':=B7 p fs M k.bm i xs j ([]) (cH (bN p M i x) 0 []).out) zez ?_);exact jh
 |cons py po=>
  show bS prog cx _ _ ⟨[(7,.s (.own 100)),(1,vI M),(2,.s (.d (cZ (dA p fs (M+1))))),(3,.s (.ptr 3 0)),(8,dQ k.bm),(9,.s (.ptr 9 0)),(11,vI (dH p)),(12,vI i),(20,.s (.ptr 20 0)),(21,.s (.ptr 21 0)),(51,vI p.aT.levels.length),(52,vI i),(97,iC xs),(98,vI xs.length),(99,vI j)],[(3,some (.cells (l0 p fs))),(9,some (.cells (kQ p))),(100,some (.row 109 (py::po).length 7 (eJ (py::po)))),(20,some (.cells [.d (dS x.aN),.d (dI x.top),.d (dI x.bot)])),(21,some (.cells [.d (dI M),.d (dI i),.d (dS x.aN),.d (dI (bN p M i x).iZ),.d (dI (bN p M i x).gV),.d (dI 0),.d (dS (bs []))]))]⟩ (hid 217 14 k) _;refine bS.seq (bS.region (bM.some (rc:=[]) aJ 4 aA [3,9,100,20,21] rfl rfl ?_));refine bM.op rfl (n9.look (k:=x.aN) (h:=k) rfl rfl dC rfl rfl rfl underlying152 underlying9 zeroValue165 ?_)
  cases uZ:fP E1 x.aN.data.toList 0 with
  |none=>have uY:=AG ha uZ;rw[HV]at uY;rw[uY];obtain⟨s1,s2,s3,s4⟩:=PA ha jL uY;have hS:=GG (p:=p) (m:=M) (i:=i) (o:=py::po) uZ BV;refine bM.some (rc:=[]) aJ 6 aA [3,9,100,20,21] rfl rfl (aB (F1 (bN p M i x) BV) ?_);refine bM.nil (bS.seq (bS.region (bM.some (rc:=[]) aJ 4 aA [3,9,100,20,21] rfl rfl ?_)));refine bM.op rfl (n9.L6 (k:=x.aN) (h:=k) rfl rfl rfl rfl rfl underlying152 underlying9 (fun _=>hit) ?_);refine bM.nil (bS.sub (σ':=B7 p fs M k.bm i xs j (py::po) (cH (bN p M i x) 0 []).out) zey ?_);exact jk
  |some pr=>
   obtain⟨je,e⟩:=pr;obtain⟨q,uY,hq⟩:=AF ha uZ;rw[HV]at uY;have uY:dD k.l x.aN 0=some (je,q):=uY;rw[uY];have hS:=GF (p:=p) (m:=M) (i:=i) (o:=py::po) uZ;have oV:=hgE e (List.mem_of_getElem? (NQ uZ).2.1);rcases hq.row with⟨fJ,r,YM,hr⟩|⟨YM,hqv,hqe⟩
   ·show match q.row with|some r=>_|none=>_
    rw[YM];obtain⟨ek,⟨elo,el⟩,eb⟩:=e;obtain⟨g0,n0,aNO,C0,F⟩:=r;obtain rfl:C0=elo:=hr.lo;obtain rfl:n0=el.length:=hr.n;have hF:∀a c,a<el.length→c<14→aK (F a c) (j9 el a c):=hr.f;have y1:0<el.length:=List.length_pos_iff.2 fJ;have hgl:C0≤el.length:=oV.le;have hgf:el.length≤200:=oV.few;obtain⟨q1,q2,_⟩:=FZ (pt:=bN p M i x) (lo:=C0) (n:=el.length) (l:=el) rfl hgl oM BV oV.left;have hdn:=qA (lo:=C0) (l:=el) hv.1;have hdf:=qY (bN p M i x) C0 el
    cases C0 with
    |zero=>refine bM.sub (σ':=⟨[(7,.s (.own 100)),(1,vI M),(2,.s (.d (cZ (dA p fs (M+1))))),(3,.s (.ptr 3 0)),(8,dQ k.bm),(9,.s (.ptr 9 0)),(11,vI (dH p)),(12,vI i),(20,.s (.ptr 20 0)),(21,.s (.ptr 21 0)),(134,.g [.d (dI M),.d (dI i),.d (dS x.aN),.d (dI (bN p M i x).iZ),.d (dI (bN p M i x).gV),.d (dI 0),.d (dS (bs []))]),(138,.s (.own 138)),(51,vI p.aT.levels.length),(52,vI i),(97,iC xs),(98,vI xs.length),(99,vI j)],[(3,some (.cells (l0 p fs))),(9,some (.cells (kQ p))),(100,some (.row 109 (py::po).length 7 (eJ (py::po)))),(20,some (.cells [.d (dS x.aN),.d (dI x.top),.d (dI x.bot)])),(21,some (.cells [.d (dI M),.d (dI i),.d (dS x.aN),.d (dI (bN p M i x).iZ),.d (dI (bN p M i x).gV),.d (dI 0),.d (dS (bs []))])),(138,some (.row 217 el.length 14 (j9 el)))]⟩) (H':=hid 217 14 {k with l:=cW k.l je}) (HSub.of (fC.of [] zex rfl ⟨bQ,bQ,bQ,bQ,bQ,⟨rfl,aY.row rfl hF⟩,oO⟩ ⟨qZ,qZ,qZ,qZ,qZ,qZ,qZ,qZ,qZ,qZ,qZ,qZ,qZ,qZ,qZ,qZ,qZ,oO⟩)) (bM.some (rc:=[68]) aJ 6 aA [3,9,100,20,21,138] rfl rfl ?_);refine⟨[(1001,138)],_,_,_,_,WL (bN p M i x) el el.length rfl oM BV (fun a ha=>oV.left a (Nat.zero_le _) ha),rfl,⟨rfl,oO⟩,rfl,?_⟩;refine bM.nil (bS.seq (bS.region (bM.some (rc:=[]) aJ 4 aA [3,9,100,20,21,138] rfl rfl ?_)));refine bM.op rfl (n9.upd (b:=138) (k:=x.aN) (n:=el.length) (n':=el.length - (cH (bN p M i x) (0) el).lo) (lo:=(cH (bN p M i x) (0) el).lo) aA rfl rfl rfl rfl (.inr rfl) rfl y1 underlying152 underlying9 (fun _=>hit) (fun gg cap v=>?_));refine bM.nil ?_;have pE:ZU ⟨gg,(cH (bN p M i x) (0) el).lo+(el.length - (cH (bN p M i x) (0) el).lo),cap,(cH (bN p M i x) (0) el).lo,j9 (cH (bN p M i x) (0) el).cur⟩ ((cH (bN p M i x) (0) el).lo,(cH (bN p M i x) (0) el).cur):=⟨rfl,by show _+_=(cH (bN p M i x) (0) el).cur.length;omega,by show _≤(cH (bN p M i x) (0) el).cur.length;omega,fun a c _ _=>aK.refl _⟩;obtain⟨s1,s2,s3,s4⟩:=uN (v:=v) ha uY pE (by intro e0;have e0:(cH (bN p M i x) (0) el).cur=[]:=e0;rw[e0]at q2;have q2:0=el.length:=q2;omega);refine bS.sub (σ':=B7 p fs M k.bm i xs j (py::po) (cH (bN p M i x) (0) el).out) (by show HSub _ _ _ _ ⟨[(7,.s (.own 100)),(1,vI M),(2,.s (.d (cZ (dA p fs (M+1))))),(3,.s (.ptr 3 0)),(8,dQ k.bm),(9,.s (.ptr 9 0)),(11,vI (dH p)),(12,vI i),(23,iD (cH (bN p M i x) (0) el).out),(51,vI p.aT.levels.length),(52,vI i),(97,iC xs),(98,vI xs.length),(99,vI j)],[(3,some (.cells (l0 p fs))),(9,some (.cells (kQ p))),(100,some (.row 109 (py::po).length 7 (eJ (py::po))))]⟩ _;exact HSub.of (fC.of [] zex rfl ⟨bQ,bQ,bQ,oO⟩ ⟨qZ,qZ,qZ,qZ,qZ,qZ,qZ,qZ,qZ,qZ,qZ,qZ,qZ,qZ,oO⟩)) ?_;exact uc
    |succ yY=>refine bM.sub (σ':=⟨[(7,.s (.own 100)),(1,vI M),(2,.s (.d (cZ (dA p fs (M+1))))),(3,.s (.ptr 3 0)),(8,dQ k.bm),(9,.s (.ptr 9 0)),(11,vI (dH p)),(12,vI i),(20,.s (.ptr 20 0)),(21,.s (.ptr 21 0)),(134,.g [.d (dI M),.d (dI i),.d (dS x.aN),.d (dI (bN p M i x).iZ),.d (dI (bN p M i x).gV),.d (dI 0),.d (dS (bs []))]),(138,.s (.j0 138 14 (yY+1) (el.length - (yY+1)))),(51,vI p.aT.levels.length),(52,vI i),(97,iC xs),(98,vI xs.length),(99,vI j)],[(3,some (.cells (l0 p fs))),(9,some (.cells (kQ p))),(100,some (.row 109 (py::po).length 7 (eJ (py::po)))),(20,some (.cells [.d (dS x.aN),.d (dI x.top),.d (dI x.bot)])),(21,some (.cells [.d (dI M),.d (dI i),.d (dS x.aN),.d (dI (bN p M i x).iZ),.d (dI (bN p M i x).gV),.d (dI 0),.d (dS (bs []))])),(138,some (.row 217 el.length 14 (j9 el)))]⟩) (H':=hid 217 14 {k with l:=cW k.l je}) (HSub.of (fC.of [] zex rfl ⟨bQ,bQ,bQ,bQ,bQ,⟨rfl,aY.row rfl hF⟩,oO⟩ ⟨qZ,qZ,qZ,qZ,qZ,qZ,qZ,qZ,qZ,qZ,qZ,qZ,qZ,qZ,qZ,qZ,qZ,oO⟩)) (bM.some (rc:=[68]) aJ 6 aA [3,9,100,20,21,138] rfl rfl ?_);refine⟨[(1001,138)],_,_,_,_,aC5 (bN p M i x) el (yY+1) el.length rfl hgl oM BV oV.left,rfl,⟨rfl,oO⟩,rfl,?_⟩;refine bM.nil (bS.seq (bS.region (bM.some (rc:=[]) aJ 4 aA [3,9,100,20,21,138] rfl rfl ?_)));refine bM.op rfl (n9.upd (b:=138) (k:=x.aN) (n:=el.length) (n':=el.length - (cH (bN p M i x) (yY+1) el).lo) (lo:=(cH (bN p M i x) (yY+1) el).lo) aA rfl rfl rfl rfl (.inr rfl) rfl y1 underlying152 underlying9 (fun _=>hit) (fun gg cap v=>?_));refine bM.nil ?_;have pE:ZU ⟨gg,(cH (bN p M i x) (yY+1) el).lo+(el.length - (cH (bN p M i x) (yY+1) el).lo),cap,(cH (bN p M i x) (yY+1) el).lo,j9 (cH (bN p M i x) (yY+1) el).cur⟩ ((cH (bN p M i x) (yY+1) el).lo,(cH (bN p M i x) (yY+1) el).cur):=⟨rfl,by show _+_=(cH (bN p M i x) (yY+1) el).cur.length;omega,by show _≤(cH (bN p M i x) (yY+1) el).cur.length;omega,fun a c _ _=>aK.refl _⟩;obtain⟨s1,s2,s3,s4⟩:=uN (v:=v) ha uY pE (by intro e0;have e0:(cH (bN p M i x) (yY+1) el).cur=[]:=e0;rw[e0]at q2;have q2:0=el.length:=q2;omega);refine bS.sub (σ':=B7 p fs M k.bm i xs j (py::po) (cH (bN p M i x) (yY+1) el).out) (by show HSub _ _ _ _ ⟨[(7,.s (.own 100)),(1,vI M),(2,.s (.d (cZ (dA p fs (M+1))))),(3,.s (.ptr 3 0)),(8,dQ k.bm),(9,.s (.ptr 9 0)),(11,vI (dH p)),(12,vI i),(23,iD (cH (bN p M i x) (yY+1) el).out),(51,vI p.aT.levels.length),(52,vI i),(97,iC xs),(98,vI xs.length),(99,vI j)],[(3,some (.cells (l0 p fs))),(9,some (.cells (kQ p))),(100,some (.row 109 (py::po).length 7 (eJ (py::po))))]⟩ _;exact HSub.of (fC.of [] zex rfl ⟨bQ,bQ,bQ,oO⟩ ⟨qZ,qZ,qZ,qZ,qZ,qZ,qZ,qZ,qZ,qZ,qZ,qZ,qZ,qZ,oO⟩)) ?_;exact uc
   show match q.row with|some r=>_|none=>_
   rw[YM];refine⟨hqv,?_⟩;obtain⟨ek,ex2,eb⟩:=e;obtain rfl:ex2=(0,[]):=hqe;obtain⟨s1,s2,s3,s4⟩:=O9 ha uY;rw[IH BV]at hS;refine bM.some (rc:=[]) aJ 6 aA [3,9,100,20,21] rfl rfl (aB (F1 (bN p M i x) BV) ?_);refine bM.nil (bS.seq (bS.region (bM.some (rc:=[]) aJ 4 aA [3,9,100,20,21] rfl rfl ?_)));refine bM.op rfl (n9.L6 (k:=x.aN) (h:=k) rfl rfl rfl rfl rfl underlying152 underlying9 (fun _=>hit) ?_);refine bM.nil (bS.sub (σ':=B7 p fs M k.bm i xs j (py::po) (cH (bN p M i x) 0 []).out) zey ?_);exact jh
theorem aE8{p:Proj}{fs:List Fact}{M i j:Nat}{xs:List Part}{o:List Piece}{E1:List mF}{k:HM}{cx:Cx}{X:St→Hid→Prop}{K:Exit→St→Hid→Prop}(aA:cx.ref=[])(hv:PV p)(YI:∀x∈xs,AQ x)(hxl:xs.length≤12)(hi:i<p.aT.levels.length)(hj:j≤xs.length)
  (ha:mG k.l E1) (jL:k.clock=E1.length) (hit:k.it=none) (jA:D5 (E1,o) 1000000)
  (hX:j<xs.length→∀σ2 k2,mG k2.l (oN p M i (E1,o) (xs.getD j default)).1→k2.clock=(oN p M i (E1,o) (xs.getD j default)).1.length→k2.it=none→HSub cx f31.ntmps σ2 (hid 217 14 k2) (xM p fs M k2.bm i xs (j+1) (oN p M i (E1,o) (xs.getD j default)).2) (hid 217 14 k2)→X σ2 (hid 217 14 k2))
  (hE:j=xs.length→∀v,K (.exit 2) (o9 (xM p fs M k.bm i xs j o) 100 v) (hid 217 14 k)):
  bS prog cx f31.ntmps (nav f31.body [1,1,1,1,1,0,1,2,2,1,1,0,2,1,1,1,1,1,1,2,2]) (xM p fs M k.bm i xs j o) (hid 217 14 k) (rO X K):=by
 have HW:o.length≤1000000:=jA.2
 have kB:=hv.cells
 cases o with
 |nil=>
  show bS prog cx _ _ ⟨[(7,.s (.d eO)),(1,vI M),(2,.s (.d (cZ (dA p fs (M+1))))),(3,.s (.ptr 3 0)),(8,dQ k.bm),(9,.s (.ptr 9 0)),(11,vI (dH p)),(12,vI i),(51,vI p.aT.levels.length),(52,vI i),(97,iC xs),(98,vI xs.length),(99,vI j)],[(3,some (.cells (l0 p fs))),(9,some (.cells (kQ p)))]⟩ (hid 217 14 k) _;refine sA aA [3,9] fun _ h'=>bS.seq (bS.cond ?_)
  refine aI (fun g=>bS.skip ?_) (fun g=>bS.exit ?_)
  ·have g:(j:Int)<xs.length:=bG g;have qR:j<xs.length:=oM;have hxo:=YI _ (bP qR);have hX:=hX qR;generalize hx0:xs.getD j default=x at hX hxo;have hvo:=BK (m:=M) (i:=i) hv hxo;have hpt:(bN p M i x).iZ=aW (aW (x.top - x.bot)*dH p):=rfl;refine bS.seq (bS.block ?_);refine sA aA [3,9] fun _ h'=>oi (show(0:Int)≤(j:Int)∧(j:Int)<(xs.length:Int) by omega) (sA aA [3,9,20] fun _ h'=>?_)
   refine bS.cut (σ':=⟨[(7,.s (.d eO)),(1,vI M),(2,.s (.d (cZ (dA p fs (M+1))))),(3,.s (.ptr 3 0)),(8,dQ k.bm),(9,.s (.ptr 9 0)),(11,vI (dH p)),(12,vI i),(20,.s (.ptr 20 0)),(21,.s (.ptr 21 0)),(51,vI p.aT.levels.length),(52,vI i),(97,iC xs),(98,vI xs.length),(99,vI j)],[(3,some (.cells (l0 p fs))),(9,some (.cells (kQ p))),(20,some (.cells [.d (dS x.aN),.d (dI x.top),.d (dI x.bot)])),(21,some (.cells [.d (dI M),.d (dI i),.d (dS x.aN),.d (dI (bN p M i x).iZ),.d (dI (bN p M i x).gV),.d (dI 0),.d (dS (bs []))]))]⟩) (H':=hid 217 14 k) ?_ ?_
   ·refine sA aA [3,9,20,21] fun _ h'=>?_
    refine oi (show(0:Int)≤(i:Int)∧(i:Int)<(((mM p.chan p.aT p.chan.over).levels.length:Nat):Int) by rw[E6];omega) ?_;refine sA aA [3,9,20,21] fun _ h'=>bS.cond (aI (fun g2=>?_) (fun g2=>bS.skip ?_))
    ·have g2:(P2 p i !=30000)=true:=g2;have hpd:(bN p M i x).gV=aW (mm true 0 (aW (x.top - mm true x.bot (P2 p i)))*dH p):=by unfold bN;rw[g2];rfl
     exact eA aA [3,9,20,21] fun _ h'=>ka
    have g2:(P2 p i !=30000)=false:=g2;have hpd:(bN p M i x).gV=0:=by unfold bN;rw[g2];rfl
    exact ka
   exact VV aA ha jL hit jA.1 hvo HW oM hX
  exact zdW
 |cons py po=>
  show bS prog cx _ _ ⟨[(7,.s (.own 100)),(1,vI M),(2,.s (.d (cZ (dA p fs (M+1))))),(3,.s (.ptr 3 0)),(8,dQ k.bm),(9,.s (.ptr 9 0)),(11,vI (dH p)),(12,vI i),(51,vI p.aT.levels.length),(52,vI i),(97,iC xs),(98,vI xs.length),(99,vI j)],[(3,some (.cells (l0 p fs))),(9,some (.cells (kQ p))),(100,some (.row 109 (py::po).length 7 (eJ (py::po))))]⟩ (hid 217 14 k) _;refine sA aA [3,9,100] fun _ h'=>bS.seq (bS.cond ?_)
  refine aI (fun g=>bS.skip ?_) (fun g=>bS.exit ?_)
  ·have g:(j:Int)<xs.length:=bG g;have qR:j<xs.length:=oM;have hxo:=YI _ (bP qR);have hX:=hX qR;generalize hx0:xs.getD j default=x at hX hxo;have hvo:=BK (m:=M) (i:=i) hv hxo;have hpt:(bN p M i x).iZ=aW (aW (x.top - x.bot)*dH p):=rfl;refine bS.seq (bS.block ?_);refine sA aA [3,9,100] fun _ h'=>oi (show(0:Int)≤(j:Int)∧(j:Int)<(xs.length:Int) by omega) (sA aA [3,9,100,20] fun _ h'=>?_)
   refine bS.cut (σ':=⟨[(7,.s (.own 100)),(1,vI M),(2,.s (.d (cZ (dA p fs (M+1))))),(3,.s (.ptr 3 0)),(8,dQ k.bm),(9,.s (.ptr 9 0)),(11,vI (dH p)),(12,vI i),(20,.s (.ptr 20 0)),(21,.s (.ptr 21 0)),(51,vI p.aT.levels.length),(52,vI i),(97,iC xs),(98,vI xs.length),(99,vI j)],[(3,some (.cells (l0 p fs))),(9,some (.cells (kQ p))),(100,some (.row 109 (py::po).length 7 (eJ (py::po)))),(20,some (.cells [.d (dS x.aN),.d (dI x.top),.d (dI x.bot)])),(21,some (.cells [.d (dI M),.d (dI i),.d (dS x.aN),.d (dI (bN p M i x).iZ),.d (dI (bN p M i x).gV),.d (dI 0),.d (dS (bs []))]))]⟩) (H':=hid 217 14 k) ?_ ?_
   ·refine sA aA [3,9,100,20,21] fun _ h'=>?_
    refine oi (show(0:Int)≤(i:Int)∧(i:Int)<(((mM p.chan p.aT p.chan.over).levels.length:Nat):Int) by rw[E6];omega) ?_;refine sA aA [3,9,100,20,21] fun _ h'=>bS.cond (aI (fun g2=>?_) (fun g2=>bS.skip ?_))
    ·have g2:(P2 p i !=30000)=true:=g2;have hpd:(bN p M i x).gV=aW (mm true 0 (aW (x.top - mm true x.bot (P2 p i)))*dH p):=by unfold bN;rw[g2];rfl
     exact eA aA [3,9,100,20,21] fun _ h'=>jz
    have g2:(P2 p i !=30000)=false:=g2;have hpd:(bN p M i x).gV=0:=by unfold bN;rw[g2];rfl
    exact jz
   exact VV aA ha jL hit jA.1 hvo HW oM hX
  exact zdW
theorem PQ{p:Proj}{fs:List Fact}{M i j:Nat}{xs:List Part}{s0:PS}{k:HM}{cx:Cx}{X:St→Hid→Prop}{K:Exit→St→Hid→Prop}(aA:cx.ref=[])(hv:PV p)(YI:∀x∈xs,AQ x)(hxl:xs.length≤12)(hi:i<p.aT.levels.length)(hJ:JI p M i s0 xs (j,k))
  (hXo:∀σ2 k2,JI p M i s0 xs (xs.length,k2)→HSub cx f31.ntmps σ2 (hid 217 14 k2) (IU p fs M k2.bm (i+1) (MN p M i s0 xs xs.length).2) (hid 217 14 k2)→X σ2 (hid 217 14 k2)):
  bS prog cx f31.ntmps (nav f31.body [1,1,1,1,1,0,1,2,2,1,1,0,2,1,1,1,1,1,1,2,2]) (xM p fs M k.bm i xs j (MN p M i s0 xs j).2) (hid 217 14 k) (rO (fun σ' H'=>∃s',JI p M i s0 xs s'∧xs.length - s'.1<xs.length - j∧HSub cx f31.ntmps σ' H' (xM p fs M s'.2.bm i xs s'.1 (MN p M i s0 xs s'.1).2) (hid 217 14 s'.2))
   (AN 2 (AN 1 (rO (fun s H=>bS prog cx f31.ntmps (nav f31.body [1,1,1,1,1,0,1,2,2,1,1,1]) s H (rO X K)) (rO X K))))):=by
 obtain⟨hj,ha,jL,hit,jA⟩:=hJ
 have hj:j≤xs.length:=hj
 have ha:mG k.l (MN p M i s0 xs j).1:=ha
 have jL:k.clock=(MN p M i s0 xs j).1.length:=jL
 have hit:k.it=none:=hit
 have jA:D5 (MN p M i s0 xs j) (i*2412+j*201):=jA
 have kB:=hv.cells
 have ew:aW ((i:Int)+1)=((i+1:Nat):Int):=aG oM oM
 have hpI:=@aBF p M i s0 xs j
 generalize hqs:MN p M i s0 xs j=qs at ha jL jA hpI
 obtain⟨E1,o1⟩:=qs
 refine aE8 (E1:=E1) (o:=o1) aA hv YI hxl hi hj ha jL hit (jA.more oM) (fun hj2 σ2 k2 p1 p2 p3 p4=>?_) (fun hjx v=>?_)
 ·have hpI:=hpI hj2;have hvo:=BK (m:=M) (i:=i) hv (YI _ (bP hj2));have aL9:=KN (m:=M) (i:=i) (x:=xs.getD j default) jA ⟨oM,hvo.2⟩;rw[←hpI]at p1 p2 p4 aL9;exact⟨(j+1,k2),⟨hj2,p1,p2,p3,aL9.more (by show i*2412+j*201+201≤i*2412+(j+1)*201;omega)⟩,by show xs.length - (j+1)<xs.length - j;omega,p4⟩
 ·subst hjx
  cases o1 with
  |nil=>
   show bS prog cx _ _ (o9 ⟨[(7,.s (.d eO)),(1,vI M),(2,.s (.d (cZ (dA p fs (M+1))))),(3,.s (.ptr 3 0)),(8,dQ k.bm),(9,.s (.ptr 9 0)),(11,vI (dH p)),(12,vI i),(51,vI p.aT.levels.length),(52,vI i),(97,iC xs),(98,vI xs.length),(99,vI xs.length)],[(3,some (.cells (l0 p fs))),(9,some (.cells (kQ p)))]⟩ 100 v) (hid 217 14 k) _;refine eA aA [3,9] fun _ h'=>?_
   refine hXo _ k ⟨Nat.le_refl _,by rw[hqs];exact ha,by rw[hqs];exact jL,hit,by rw[hqs];exact jA⟩ ?_;rw[hqs];show HSub _ _ _ _ ⟨[(7,.s (.d eO)),(1,vI M),(2,.s (.d (cZ (dA p fs (M+1))))),(3,.s (.ptr 3 0)),(8,dQ k.bm),(9,.s (.ptr 9 0)),(11,vI (dH p)),(51,vI p.aT.levels.length),(52,vI (i+1:Nat))],[(3,some (.cells (l0 p fs))),(9,some (.cells (kQ p)))]⟩ _;exact zbk
  |cons py po=>
   show bS prog cx _ _ (o9 ⟨[(7,.s (.own 100)),(1,vI M),(2,.s (.d (cZ (dA p fs (M+1))))),(3,.s (.ptr 3 0)),(8,dQ k.bm),(9,.s (.ptr 9 0)),(11,vI (dH p)),(12,vI i),(51,vI p.aT.levels.length),(52,vI i),(97,iC xs),(98,vI xs.length),(99,vI xs.length)],[(3,some (.cells (l0 p fs))),(9,some (.cells (kQ p))),(100,some (.row 109 (py::po).length 7 (eJ (py::po))))]⟩ 100 v) (hid 217 14 k) _;refine eA aA [3,9,100] fun _ h'=>?_
   refine hXo _ k ⟨Nat.le_refl _,by rw[hqs];exact ha,by rw[hqs];exact jL,hit,by rw[hqs];exact jA⟩ ?_;rw[hqs];show HSub _ _ _ _ ⟨[(7,.s (.own 100)),(1,vI M),(2,.s (.d (cZ (dA p fs (M+1))))),(3,.s (.ptr 3 0)),(8,dQ k.bm),(9,.s (.ptr 9 0)),(11,vI (dH p)),(51,vI p.aT.levels.length),(52,vI (i+1:Nat))],[(3,some (.cells (l0 p fs))),(9,some (.cells (kQ p))),(100,some (.row 109 (py::po).length 7 (eJ (py::po))))]⟩ _;exact zba
theorem pieces(p:Proj)(fs:List Fact)(M:Nat)(hp:p.fits)(hv:PV p)(hS:SOK p fs)(hn:ZR fs M)(hM:1≤M∧M≤24)(jO:∀e∈qD (Rm.kU (iM p (j8 fs M) (j8 fs M).length).1 M (iM p (j8 fs M) (j8 fs M).length).1.length),wB e.2.1):
  aF prog 31 [SR p fs,vI M,.s (.d (cZ (dA p fs (M+1))))] (iD (G3 p fs M)):=by
 have hR:=Rm.aKV p fs M hp hv hS.len hn
 have hT:=H8 p.chan p.aT hp.chan (FO.gok hv.gv)
 rw[hv.rK p.chan.over]at hT
 generalize hL:(iM p (j8 fs M) (j8 fs M).length).1=L at hR jO
 have hpc:G3 p fs M=(EE p fs M (qD (Rm.kU L M L.length)) p.aT.levels.length).2:=by unfold G3 EE;rw[hL]
 rw[hpc]
 refine eW func31 rfl rfl call31 rfl rfl (fun cx aA=>AW.DH ?_)
 refine sA aA [] fun _ h'=>?_
 refine sA aA [3] fun _ h'=>?_
 refine bS.seq (bS.region (bM.some (rc:=[]) aJ 2 aA [3] rfl rfl (bM.op rfl (n9.aNQ (ars:=[SR p fs,vI M]) rfl rfl dC rfl rfl hR ?_))))
 rintro x H ⟨h,rfl,rfl,ha,jL,hit⟩
 refine bM.some (rc:=[]) aJ 1 aA [3] rfl rfl (bM.nil ?_)
 refine sA aA [3] fun _ h'=>?_
 refine aB (hT) ?_
 refine sA aA [3,9] fun _ h'=>?_
 refine bS.seq (sA aA [3,9] fun _ h'=>?_)
 refine bS.block ?_
 have ha:=mG.of ha
 have jL:h.clock=(qD (Rm.kU L M L.length)).length:=by rw[jL];unfold qD;rw[List.length_map]
 generalize qD (Rm.kU L M L.length)=E at ha jL jO
 refine bS.loop (S:=Nat×HM) (fun s=>IU p fs M s.2.bm s.1 (EE p fs M E s.1).2) (fun s=>hid 217 14 s.2) (JC p fs M E) (fun s=>p.aT.levels.length - s.1) (0,h) ⟨Nat.zero_le _,ha,jL,hit,jO,Nat.zero_le _⟩ ?_ ?_
 ·exact HSub.of (fC.of [] zex rfl ⟨bQ,bQ,oO⟩ ⟨qZ,qZ,qZ,qZ,qZ,qZ,qZ,qZ,qZ,oO⟩)
 ·rintro⟨i,h⟩ ⟨hi,ha,jL,hit,jA⟩
  have hi:i≤p.aT.levels.length:=hi
  have ha:mG h.l (EE p fs M E i).1:=ha
  have jL:h.clock=(EE p fs M E i).1.length:=jL
  have hit:h.it=none:=hit
  have jA:D5 (EE p fs M E i) (i*2412):=jA
  obtain⟨hM1,hM2⟩:=hM
  have ew:aW ((i:Int)+1)=((i+1:Nat):Int):=by have:=hv.cells;exact aG oM oM
  have kB:=hv.cells
  have aL7:=hv.bB
  have eM:aW ((M:Int) - 1)=((M - 1:Nat):Int):=by rw[aG oM oM];omega
  have eMn:(aW ((M:Int) - 1)).toNat=M - 1:=by rw[eM];omega
  show bS prog cx _ _ (IU p fs M h.bm i (EE p fs M E i).2) (hid 217 14 h) _
  generalize hps:EE p fs M E i=ps at ha jL jA
  obtain⟨E0,out⟩:=ps
  cases out with
  |nil=>
   refine sA aA [3,9] fun _ h'=>?_
   refine bS.seq (bS.cond ?_)
   refine aI (fun g=>bS.skip ?_) (fun g=>bS.exit ?_)
   ·have g:(i:Int)<p.aT.levels.length:=bG g
    have bC:i<p.aT.levels.length:=oM
    refine bS.seq (bS.block ?_)
    refine sA aA [3,9] fun _ h'=>?_
    refine sA aA [3,9] fun _ h'=>?_
    refine oi (show 0≤aW ((M:Int) - 1)∧aW ((M:Int) - 1)<((dA p fs (M+1)).length:Int) by rw[eM,mE];omega) ?_
    refine oi (show(0:Int)≤(i:Int)∧(i:Int)<((((dA p fs (M+1)).getD (aW ((M:Int) - 1)).toNat default).levels.length:Nat):Int) by rw[eMn,mK oM];show(0:Int)≤(i:Int)∧(i:Int)<((lE p fs (M - 1)).length:Int);unfold lE;simp;omega) ?_
    refine oi (show(0:Int)≤(M:Int)∧(M:Int)<((dA p fs (M+1)).length:Int) by rw[mE];omega) ?_
    refine oi (show(0:Int)≤(i:Int)∧(i:Int)<((((dA p fs (M+1)).getD (M:Int).toNat default).levels.length:Nat):Int) by rw[show(M:Int).toNat=M from rfl,mK oM];show(0:Int)≤(i:Int)∧(i:Int)<((lE p fs M).length:Int);unfold lE;simp;omega) ?_
    refine aD ?_
    have e1:((dA p fs (M+1)).getD (aW ((M:Int) - 1)).toNat default).levels.getD i 0=iL p fs (M - 1) i:=by
     rw[eMn,mK oM];exact uS bC
    have e2:((dA p fs (M+1)).getD (M:Int).toNat default).levels.getD i 0=iL p fs M i:=by
     exact zdU
    generalize hfr:iL p fs (M - 1) i=fr at e1
    generalize ER:iL p fs M i=tt at e2
    have jO:EE p fs M E (i+1)=wZ p fs M (E0,[]) i:=by rw[GY,hps]
    refine bS.sub (σ':=⟨[(7,.s (.d eO)),(1,vI M),(2,.s (.d (cZ (dA p fs (M+1))))),(3,.s (.ptr 3 0)),(8,dQ h.bm),(9,.s (.ptr 9 0)),(11,vI (dH p)),(12,vI i),(13,vI fr),(14,vI tt),(51,vI p.aT.levels.length),(52,vI i)],[(3,some (.cells (l0 p fs))),(9,some (.cells (kQ p)))]⟩) (HSub.of (fC.of [] zex rfl ⟨bQ,bQ,oO⟩ ⟨qZ,qZ,qZ,qZ,qZ,qZ,qZ,qZ,⟨rfl,aU.int e1⟩,⟨rfl,aU.int e2⟩,qZ,qZ,oO⟩)) ?_
    refine bS.seq (sA aA [3,9] fun _ h'=>?_)
    repeat refine aR ?_
    refine bS.cond ?_
    refine aI (fun h2=>bS.exit ?_) (fun h2=>bS.skip ?_)
    ·have h2:(fr==30000||decide (tt≥fr))=true:=h2
     have z1:EE p fs M E (i+1)=(E0,[]):=by rw[jO];unfold wZ;rw[hfr,ER,h2];rfl
     refine eA aA [3,9] fun _ h'=>?_
     refine⟨(i+1,h),⟨by show i+1≤p.aT.levels.length;omega,by rw[z1];exact ha,by rw[z1];exact jL,hit,by rw[z1];exact jA.more (by show i*2412≤(i+1)*2412;omega)⟩,by show p.aT.levels.length - (i+1)<p.aT.levels.length - i;omega,?_⟩
     show HSub _ _ _ _ (IU p fs M h.bm (i+1) (EE p fs M E (i+1)).2) _
     rw[z1]
     show HSub _ _ _ _ ⟨[(7,.s (.d eO)),(1,vI M),(2,.s (.d (cZ (dA p fs (M+1))))),(3,.s (.ptr 3 0)),(8,dQ h.bm),(9,.s (.ptr 9 0)),(11,vI (dH p)),(51,vI p.aT.levels.length),(52,vI (i+1:Nat))],[(3,some (.cells (l0 p fs))),(9,some (.cells (kQ p)))]⟩ _
     exact zbk
    ·have h2:(fr==30000||decide (tt≥fr))=false:=h2
     refine sA aA [3,9] fun _ h'=>?_
     refine aB (OD p.aT i hv.aT oM oM oM) ?_
     refine sA aA [3,9,15] fun _ h'=>?_
     refine aB (aD9 p.gr (dP p.aT i) fr tt hp.gr aL7) ?_
     have z1:EE p fs M E (i+1)=(vP p.gr (dP p.aT i) fr tt).foldl (oN p M i) (E0,[]):=by rw[jO];unfold wZ;rw[hfr,ER,h2];rfl
     have YI:∀x∈vP p.gr (dP p.aT i) fr tt,AQ x:=fun x hx=>D7 hx
     have hxl:=I6 (c:=dP p.aT i) (hi:=fr) (lo:=tt) hv
     generalize vP p.gr (dP p.aT i) fr tt=xs at z1 YI hxl
     refine sA aA [3,9,15] fun _ h'=>?_
     refine bS.block ?_
     refine bS.loop (S:=Nat×HM) (fun s=>xM p fs M s.2.bm i xs s.1 (MN p M i (E0,[]) xs s.1).2) (fun s=>hid 217 14 s.2) (JI p M i (E0,[]) xs) (fun s=>xs.length - s.1) (0,h) ⟨Nat.zero_le _,ha,jL,hit,jA⟩ ?_ ?_
     ·show HSub _ _ _ _ ⟨[(7,.s (.d eO)),(1,vI M),(2,.s (.d (cZ (dA p fs (M+1))))),(3,.s (.ptr 3 0)),(8,dQ h.bm),(9,.s (.ptr 9 0)),(11,vI (dH p)),(12,vI i),(51,vI p.aT.levels.length),(52,vI i),(97,iC xs),(98,vI xs.length),(99,vI (0:Nat))],[(3,some (.cells (l0 p fs))),(9,some (.cells (kQ p)))]⟩ _
      exact HSub.of (fC.of [] zex rfl ⟨bQ,bQ,oO⟩ ⟨qZ,qZ,qZ,qZ,qZ,qZ,qZ,qZ,qZ,qZ,qZ,qZ,qZ,oO⟩)
     ·rintro⟨j,k⟩ ⟨hj,ha',aI6,aI2,l7⟩
      refine PQ (p:=p) (fs:=fs) (M:=M) (j:=j) (k:=k) aA hv YI hxl bC ⟨hj,ha',aI6,aI2,l7⟩ (fun σ2 k2 hJ h2=>?_)
      have aIV:MN p M i (E0,[]) xs xs.length=EE p fs M E (i+1):=by rw[z1];unfold MN;rw[List.take_length]
      exact jl
   ·have g:¬(i:Int)<p.aT.levels.length:=bF g
    obtain rfl:i=p.aT.levels.length:=oM
    refine sA aA [3,9] fun _ h'=>?_
    refine bS.ret ?_
    rw[hps]
    exact aC.le aK.nil
  |cons px pr=>
   refine sA aA [3,9,100] fun _ h'=>?_
   refine bS.seq (bS.cond ?_)
   refine aI (fun g=>bS.skip ?_) (fun g=>bS.exit ?_)
   ·have g:(i:Int)<p.aT.levels.length:=bG g
    have bC:i<p.aT.levels.length:=oM
    refine bS.seq (bS.block ?_)
    refine sA aA [3,9,100] fun _ h'=>?_
    refine sA aA [3,9,100] fun _ h'=>?_
    refine oi (show 0≤aW ((M:Int) - 1)∧aW ((M:Int) - 1)<((dA p fs (M+1)).length:Int) by rw[eM,mE];omega) ?_
    refine oi (show(0:Int)≤(i:Int)∧(i:Int)<((((dA p fs (M+1)).getD (aW ((M:Int) - 1)).toNat default).levels.length:Nat):Int) by rw[eMn,mK oM];show(0:Int)≤(i:Int)∧(i:Int)<((lE p fs (M - 1)).length:Int);unfold lE;simp;omega) ?_
    refine oi (show(0:Int)≤(M:Int)∧(M:Int)<((dA p fs (M+1)).length:Int) by rw[mE];omega) ?_
    refine oi (show(0:Int)≤(i:Int)∧(i:Int)<((((dA p fs (M+1)).getD (M:Int).toNat default).levels.length:Nat):Int) by rw[show(M:Int).toNat=M from rfl,mK oM];show(0:Int)≤(i:Int)∧(i:Int)<((lE p fs M).length:Int);unfold lE;simp;omega) ?_
    refine aD ?_
    have e1:((dA p fs (M+1)).getD (aW ((M:Int) - 1)).toNat default).levels.getD i 0=iL p fs (M - 1) i:=by
     rw[eMn,mK oM];exact uS bC
    have e2:((dA p fs (M+1)).getD (M:Int).toNat default).levels.getD i 0=iL p fs M i:=by
     exact zdU
    generalize hfr:iL p fs (M - 1) i=fr at e1
    generalize ER:iL p fs M i=tt at e2
    have jO:EE p fs M E (i+1)=wZ p fs M (E0,px::pr) i:=by rw[GY,hps]
    refine bS.sub (σ':=⟨[(7,.s (.own 100)),(1,vI M),(2,.s (.d (cZ (dA p fs (M+1))))),(3,.s (.ptr 3 0)),(8,dQ h.bm),(9,.s (.ptr 9 0)),(11,vI (dH p)),(12,vI i),(13,vI fr),(14,vI tt),(51,vI p.aT.levels.length),(52,vI i)],[(3,some (.cells (l0 p fs))),(9,some (.cells (kQ p))),(100,some (.row 109 (px::pr).length 7 (eJ (px::pr))))]⟩) (HSub.of (fC.of [] zex rfl ⟨bQ,bQ,bQ,oO⟩ ⟨qZ,qZ,qZ,qZ,qZ,qZ,qZ,qZ,⟨rfl,aU.int e1⟩,⟨rfl,aU.int e2⟩,qZ,qZ,oO⟩)) ?_
    refine bS.seq (sA aA [3,9,100] fun _ h'=>?_)
    repeat refine aR ?_
    refine bS.cond ?_
    refine aI (fun h2=>bS.exit ?_) (fun h2=>bS.skip ?_)
    ·have h2:(fr==30000||decide (tt≥fr))=true:=h2
     have z1:EE p fs M E (i+1)=(E0,px::pr):=by rw[jO];unfold wZ;rw[hfr,ER,h2];rfl
     refine eA aA [3,9,100] fun _ h'=>?_
     refine⟨(i+1,h),⟨by show i+1≤p.aT.levels.length;omega,by rw[z1];exact ha,by rw[z1];exact jL,hit,by rw[z1];exact jA.more (by show i*2412≤(i+1)*2412;omega)⟩,by show p.aT.levels.length - (i+1)<p.aT.levels.length - i;omega,?_⟩
     show HSub _ _ _ _ (IU p fs M h.bm (i+1) (EE p fs M E (i+1)).2) _
     rw[z1]
     show HSub _ _ _ _ ⟨[(7,.s (.own 100)),(1,vI M),(2,.s (.d (cZ (dA p fs (M+1))))),(3,.s (.ptr 3 0)),(8,dQ h.bm),(9,.s (.ptr 9 0)),(11,vI (dH p)),(51,vI p.aT.levels.length),(52,vI (i+1:Nat))],[(3,some (.cells (l0 p fs))),(9,some (.cells (kQ p))),(100,some (.row 109 (px::pr).length 7 (eJ (px::pr))))]⟩ _
     exact zba
    ·have h2:(fr==30000||decide (tt≥fr))=false:=h2
     refine sA aA [3,9,100] fun _ h'=>?_
     refine aB (OD p.aT i hv.aT oM oM oM) ?_
     refine sA aA [3,9,100,15] fun _ h'=>?_
     refine aB (aD9 p.gr (dP p.aT i) fr tt hp.gr aL7) ?_
     have z1:EE p fs M E (i+1)=(vP p.gr (dP p.aT i) fr tt).foldl (oN p M i) (E0,px::pr):=by rw[jO];unfold wZ;rw[hfr,ER,h2];rfl
     have YI:∀x∈vP p.gr (dP p.aT i) fr tt,AQ x:=fun x hx=>D7 hx
     have hxl:=I6 (c:=dP p.aT i) (hi:=fr) (lo:=tt) hv
     generalize vP p.gr (dP p.aT i) fr tt=xs at z1 YI hxl
     refine sA aA [3,9,100,15] fun _ h'=>?_
     refine bS.block ?_
     refine bS.loop (S:=Nat×HM) (fun s=>xM p fs M s.2.bm i xs s.1 (MN p M i (E0,px::pr) xs s.1).2) (fun s=>hid 217 14 s.2) (JI p M i (E0,px::pr) xs) (fun s=>xs.length - s.1) (0,h) ⟨Nat.zero_le _,ha,jL,hit,jA⟩ ?_ ?_
     ·show HSub _ _ _ _ ⟨[(7,.s (.own 100)),(1,vI M),(2,.s (.d (cZ (dA p fs (M+1))))),(3,.s (.ptr 3 0)),(8,dQ h.bm),(9,.s (.ptr 9 0)),(11,vI (dH p)),(12,vI i),(51,vI p.aT.levels.length),(52,vI i),(97,iC xs),(98,vI xs.length),(99,vI (0:Nat))],[(3,some (.cells (l0 p fs))),(9,some (.cells (kQ p))),(100,some (.row 109 (px::pr).length 7 (eJ (px::pr))))]⟩ _
      exact HSub.of (fC.of [] zex rfl ⟨bQ,bQ,bQ,oO⟩ ⟨qZ,qZ,qZ,qZ,qZ,qZ,qZ,qZ,qZ,qZ,qZ,qZ,qZ,oO⟩)
     ·rintro⟨j,k⟩ ⟨hj,ha',aI6,aI2,l7⟩
      refine PQ (p:=p) (fs:=fs) (M:=M) (j:=j) (k:=k) aA hv YI hxl bC ⟨hj,ha',aI6,aI2,l7⟩ (fun σ2 k2 hJ h2=>?_)
      have aIV:MN p M i (E0,px::pr) xs xs.length=EE p fs M E (i+1):=by rw[z1];unfold MN;rw[List.take_length]
      exact jl
   ·have g:¬(i:Int)<p.aT.levels.length:=bF g
    obtain rfl:i=p.aT.levels.length:=oM
    refine sA aA [3,9,100] fun _ h'=>?_
    refine bS.ret ?_
    rw[hps]
    exact aC.refl _
theorem HZ{p:Proj}{l:List Fact}:∀{k:Nat},k≤l.length→∀f∈(iM p l k).1,f∈l
 |0,_,f,hf=>by cases hf
 |k+1,hk,f,hf=>by
  rw[iM]at hf
  cases hq:(oS (iM p l k).2 (zC (l.getD k default)) (l.getD k default).dN==0)with
  |true=>
   rw[hq]at hf;rcases List.mem_append.1 hf with hf|hf
   ·exact HZ oM f hf
   rw[List.mem_singleton.1 hf];exact bP oM
  |false=>rw[hq]at hf;exact HZ oM f hf
theorem aAN{fs:List Fact}{m:Int}{f:Fact}(h:f∈j8 fs m):f∈fs∧f.kind=1∧f.month≤m:=by have h:=(List.mergeSort_perm _ _).mem_iff.1 h;unfold tO at h;obtain⟨h1,h2⟩:=List.mem_filter.1 h;simp only [Bool.and_eq_true,beq_iff_eq,decide_eq_true_eq]at h2;exact⟨h1,h2.1,h2.2⟩
theorem Rm.ZP{E:List Rm.gL}{k:bJ}{t:Room}{Q:Room→Prop}(h:∀e∈E,∀r∈e.2.1,Q r)(ht:Q t):∀e∈Rm.o6 E k t,∀r∈e.2.1,Q r:=by
 intro e he;unfold Rm.o6 at he;split at he
 ·rename_i i p hp;obtain⟨j,hj⟩:=List.getElem?_of_mem he;rw[List.getElem?_modify]at hj
  cases hE:E[j]? with
  |none=>rw[hE]at hj;cases hj
  |some y=>
   rw[hE]at hj;have hy:=h y (List.mem_of_getElem? hE);have hj:(if i=j then(y.1,y.2.1++ [t],y.2.2)else y)=e:=by simpa using hj
   split at hj
   ·subst hj;intro r hr;rcases List.mem_append.1 hr with hr|hr
    ·exact hy r hr
    rw[List.mem_singleton.1 hr];exact ht
   subst hj;exact hy
 rcases List.mem_append.1 he with he|he
 ·exact h e he
 rw[List.mem_singleton.1 he];intro r hr;rw[List.mem_singleton.1 hr];exact ht
theorem Rm.DX{L:List Fact}{m:Int}{Q:Room→Prop}(hQ:∀f∈L,Q (f,f.aT)):∀{i:Nat},i≤L.length→∀e∈Rm.kU L m i,∀r∈e.2.1,Q r
 |0,_,e,he=>by simp[Rm.kU]at he
 |i+1,hi,e,he=>by
  rw[Rm.DW oM]at he;unfold Rm.KM at he
  cases hw:((L.getD i default).month==m)with
  |false=>rw[hw]at he;exact Rm.DX hQ oM e he
  |true=>rw[hw]at he;exact Rm.ZP (fun e he=>Rm.DX hQ oM e he) (hQ _ (bP oM)) e he
theorem O1{L:List Fact}{m:Int}(hb:∀f∈L,1≤f.aT∧f.aT≤1000000000000)(hl:L.length≤200):∀e∈qD (Rm.kU L m L.length),wB e.2.1:=by intro e he;unfold qD at he;obtain⟨e0,h0,rfl⟩:=List.mem_map.1 he;have h1:=Rm.qX h0;have h2:=Rm.DX (Q:=fun r=>1≤r.2∧r.2≤1000000000000) (m:=m) hb (Nat.le_refl _) e0 h0;refine⟨Nat.zero_le _,by show e0.2.1.length≤200;omega,fun i _ hi=>?_⟩;have hi:i<e0.2.1.length:=hi;exact h2 _ (bP hi)
theorem GH{p:Proj}{m:Int}{i:Nat}(hv:PV p):∀{xs:List Part} {s:PS} {n:Nat},D5 s n→(∀x∈xs,AQ x)→D5 (xs.foldl (oN p m i) s) (n+xs.length*201)
 |[],s,n,h,_=>by simpa using h
 |x::r,s,n,h,hx=>by
  have hx0:=BK (m:=m) (i:=i) hv (hx x (List.mem_cons_self));have h1:=GH (m:=m) (i:=i) hv (xs:=r) (KN (m:=m) (i:=i) (x:=x) h ⟨oM,hx0.2⟩) fun y hy=>hx y (List.mem_cons_of_mem _ hy)
  rw[List.foldl_cons];rw[show n+(x::r).length*201=n+201+r.length*201 by rw[List.length_cons];omega];exact h1
theorem VU{p:Proj}{fs:List Fact}{M:Nat}{E:List mF}(hv:PV p)(hE:∀e∈E,wB e.2.1):∀i,D5 (EE p fs M E i) (i*2412)
 |0=>⟨hE,Nat.zero_le _⟩
 |i+1=>by
  have ih:=VU (fs:=fs) (M:=M) hv hE i;rw[GY];unfold wZ
  cases(iL p fs (M - 1) i==30000||decide (iL p fs M i≥iL p fs (M - 1) i))with
  |true=>exact ih.more oM
  |false=>have h1:=I6 (c:=dP p.aT i) (hi:=iL p fs (M - 1) i) (lo:=iL p fs M i) hv;exact(GH (m:=M) (i:=i) hv (xs:=vP p.gr (dP p.aT i) (iL p fs (M - 1) i) (iL p fs M i)) ih fun x hx=>D7 hx).more oM
theorem aNV{l:List Fact}(hv:∀f∈l,fR f=0):∀f∈cntF l,f.kind=1→1≤f.aT∧f.aT≤1000000000000:=by
 intro f hf hk;obtain⟨k,_,_,g,hg,rfl,_⟩:=N4 hv hf;have hk:g.kind=1:=hk;have h1:=mQ (kN (hv g hg)).2 (by rw[hk];rfl);have h2:=within_iff.1 h1.1.2.1;have e:(jE g).aT=g.aT:=by unfold jE;rw[hk];rfl
 rw[e];exact h2
theorem aE6{p:Proj}{l:List Fact}{M:Nat}(hp:p.fits)(hk:FOK p l)(hM:1≤M∧M≤24)(hs:ZR (cntF l) M):
  aF prog 31 [SR p (cntF l),vI M,.s (.d (cZ (dA p (cntF l) (M+1))))] (iD (G3 p (cntF l) M))∧(G3 p (cntF l) M).length≤241200:=by
 have hv:=PV.of hk.proj
 have hS:=x4 hk
 have hL:(iM p (j8 (cntF l) M) (j8 (cntF l) M).length).1.length≤200:=by refine Nat.le_trans (BY p _ _) ?_;unfold j8;rw[A5];exact Nat.le_trans (List.length_filter_le _ _) hS.len
 have hg:=O1 (m:=M) (fun f hf=>by obtain⟨h1,h2,_⟩:=aAN (HZ (Nat.le_refl _) f hf);exact aNV hk.fmt f h1 h2) hL
 refine⟨pieces p (cntF l) M hp hv hS hs hM hg,?_⟩
 have h1:=(VU (fs:=cntF l) (M:=M) hv hg p.aT.levels.length).2
 have h2:=hv.cells
 have e:G3 p (cntF l) M=(EE p (cntF l) M (qD (Rm.kU (iM p (j8 (cntF l) M) (j8 (cntF l) M).length).1 M (iM p (j8 (cntF l) M) (j8 (cntF l) M).length).1.length)) p.aT.levels.length).2:=rfl
 rw[e]
 omega
def OW(p:Proj)(l:List Fact)(M:Nat):Stmt:=
 aEF p M (G3 p (cntF l) M) (gB p (G3 p (cntF l) M) p.gr.bK.length) (M6 p (cntF l) M (sK p (cntF l) M) p.cU.length) (gY p (cntF l) M p.aT.levels.length)
theorem aGO(p:Proj)(l:List Fact)(M:Nat)(hp:p.fits)(hf:∀f∈l,f.fits)(hl:l.length≤9223372036854775807)(he:j6 p l M 1=0)(hs:ZR (cntF l) M)
  (QV:aF prog 34 [SR p (cntF l),vI M,rK (sK p (cntF l) M)] (U8 (M6 p (cntF l) M (sK p (cntF l) M) p.cU.length))):
  aF prog 14 [oR p,cJ l,vI M] (.t [.g [.d (dI M),.d (dI (OW p l M).over),.d (dI (OW p l M).fG),.d (dI (OW p l M).total),.d (x0 (OW p l M).Y4),.d (xZ (OW p l M).aO1),.d (b5 (OW p l M).aP1)],.s (.d (dI 0))]):=by
 obtain⟨hk,hw⟩:=tL he
 have hw:=within_iff.1 hw
 obtain⟨h1,h2⟩:=aE6 (M:=M) hp hk ⟨oM,oM⟩ hs
 exact ZS p l M (G3 p (cntF l) M) hp hf hl he (x4 hk) oM oM QV h1
end Go.Pj
--K62
namespace Go.Ax
theorem HSub.ofM{cx:Cx}{N:Nat}{σ σ':St}(h:pI cx N σ σ'):HSub cx N σ Hid.none σ' Hid.none:=fun M β a w i _=>
 let⟨M',β',i',g⟩:=h M β a w i
 ⟨M',β',i',mH.none,g⟩
end Go.Ax
namespace Go.Pj
open Go Go.Ax Go.Ch Go.Proofs Go.Proofs.Tryz
set_option maxRecDepth 100000
set_option maxHeartbeats 1000000
abbrev kZ:ByteArray:=bs [115,97,110,100]
abbrev OS:ByteArray:=bs [119,101,115,116]
def RB:Proj:=
 {name:=bs [66,97,114],aT:=⟨0,0,1000,2,1,[-900, -900]⟩,chan:=⟨bs [77,97,105,110],[⟨0,500,1000, -1000,0⟩,⟨2000,500,1000, -1000,0⟩],50,0,[]⟩
  gr:=⟨[⟨kZ,30,1900,6,5⟩],[⟨bs [66,49],0,0,[⟨0,kZ⟩]⟩]⟩,agree:=10,fG:=300,cO:=[⟨kZ,500⟩],cU:=[]
  aQ:=[⟨OS,10000000, -2000, -1000,[0],100⟩],bA:=[⟨kZ,6,5⟩]}
def YZ:List Fact:=
 [⟨0,1,0,1,0,0,0,0,0,bs [],bs [],bs [],[-1000, -1060]⟩,⟨0,1,1,1,0,0,0,0,0,bs [],bs [],bs [],[-1005, -1065]⟩,
  ⟨1,1,0,1,1,200000000,0,0,0,kZ,OS,bs [],[]⟩]
theorem Example:aF prog 15 [] (oR RB):=by
 refine eW func15 rfl rfl call15 rfl rfl (fun cx aA=>AW.DH ?_);refine sA aA [] fun _ h'=>bS.seq (bS.region ?_)
 refine bM.some (rc:=[]) aJ 1 aA [0] rfl rfl ?_;refine bM.sub (σ':=⟨[(0,.s (.ptr 0 0)),(1,.s (.d (b5 [-900, -900])))],[(0,some (.cells (iB ty38.zero)))]⟩) (H':=Hid.none) (HSub.ofM (pI.of aA [] [1] rfl rfl rfl ⟨⟨rfl,hI.rfl⟩,oO⟩ ⟨⟨rfl,b7.rfl⟩,⟨rfl,(b7.own (List.mem_singleton.2 rfl) rfl).then (aU.d (aK.fU fun i j hi hj=>by have hi:i<2:=hi;have hj:j<1:=hj;match i,j,hi,hj with|0,0,_,_|1,0,_,_=>exact aK.refl _))⟩,oO⟩)) ?_;refine bM.some (rc:=[]) aJ 4 aA [0] rfl rfl ?_;refine bM.sub (σ':=⟨[(0,.s (.ptr 0 0)),(2,.g [.d (dI 0),.d (dI 0),.d (dI 1000),.d (dI 2),.d (dI 1),.d (b5 [-900, -900])]),(5,.s (.d (x3 [⟨0,500,1000, -1000,0⟩,⟨2000,500,1000, -1000,0⟩])))],[(0,some (.cells (iB ty38.zero)))]⟩) (H':=Hid.none) (HSub.ofM (pI.of aA [] [5] rfl rfl rfl ⟨⟨rfl,hI.rfl⟩,oO⟩ ⟨⟨rfl,b7.rfl⟩,⟨rfl,b7.rfl⟩,⟨rfl,(b7.own (List.mem_singleton.2 rfl) rfl).then (aU.d (aK.fU fun i j hi hj=>by have hi:i<2:=hi;have hj:j<5:=hj;match i,j,hi,hj with|0,0,_,_|0,1,_,_|0,2,_,_|0,3,_,_|0,4,_,_|1,0,_,_|1,1,_,_|1,2,_,_|1,3,_,_|1,4,_,_=>exact aK.refl _))⟩,oO⟩)) ?_;refine bM.some (rc:=[]) aJ 4 aA [0] rfl rfl ?_;refine bM.sub (σ':=⟨[(0,.s (.ptr 0 0)),(2,.g [.d (dI 0),.d (dI 0),.d (dI 1000),.d (dI 2),.d (dI 1),.d (b5 [-900, -900])]),(6,.g [.d (dS (bs [77,97,105,110])),.d (x3 [⟨0,500,1000, -1000,0⟩,⟨2000,500,1000, -1000,0⟩]),.d (dI 50),.d (dI 0),.d eO]),(9,.s (.d (kV [⟨kZ,30,1900,6,5⟩])))],[(0,some (.cells (iB ty38.zero)))]⟩) (H':=Hid.none) (HSub.ofM (pI.of aA [] [9] rfl rfl rfl ⟨⟨rfl,hI.rfl⟩,oO⟩ ⟨⟨rfl,b7.rfl⟩,⟨rfl,b7.rfl⟩,⟨rfl,b7.rfl⟩,⟨rfl,(b7.own (List.mem_singleton.2 rfl) rfl).then (aU.d (aK.fU fun i j hi hj=>by have hi:i<1:=hi;have hj:j<5:=hj;match i,j,hi,hj with|0,0,_,_|0,1,_,_|0,2,_,_|0,3,_,_|0,4,_,_=>exact aK.refl _))⟩,oO⟩)) ?_;refine bM.some (rc:=[]) aJ 2 aA [0] rfl rfl ?_;refine bM.sub (σ':=⟨[(0,.s (.ptr 0 0)),(2,.g [.d (dI 0),.d (dI 0),.d (dI 1000),.d (dI 2),.d (dI 1),.d (b5 [-900, -900])]),(6,.g [.d (dS (bs [77,97,105,110])),.d (x3 [⟨0,500,1000, -1000,0⟩,⟨2000,500,1000, -1000,0⟩]),.d (dI 50),.d (dI 0),.d eO]),(9,.s (.d (kV [⟨kZ,30,1900,6,5⟩]))),(11,.s (.d (mN [⟨0,kZ⟩])))],[(0,some (.cells (iB ty38.zero)))]⟩) (H':=Hid.none) (HSub.ofM (pI.of aA [] [11] rfl rfl rfl ⟨⟨rfl,hI.rfl⟩,oO⟩ ⟨⟨rfl,b7.rfl⟩,⟨rfl,b7.rfl⟩,⟨rfl,b7.rfl⟩,⟨rfl,b7.rfl⟩,⟨rfl,(b7.own (List.mem_singleton.2 rfl) rfl).then (aU.d (aK.fU fun i j hi hj=>by have hi:i<1:=hi;have hj:j<2:=hj;match i,j,hi,hj with|0,0,_,_|0,1,_,_=>exact aK.refl _))⟩,oO⟩)) ?_;refine bM.some (rc:=[]) aJ 2 aA [0] rfl rfl ?_;refine bM.sub (σ':=⟨[(0,.s (.ptr 0 0)),(2,.g [.d (dI 0),.d (dI 0),.d (dI 1000),.d (dI 2),.d (dI 1),.d (b5 [-900, -900])]),(6,.g [.d (dS (bs [77,97,105,110])),.d (x3 [⟨0,500,1000, -1000,0⟩,⟨2000,500,1000, -1000,0⟩]),.d (dI 50),.d (dI 0),.d eO]),(9,.s (.d (kV [⟨kZ,30,1900,6,5⟩]))),(13,.s (.d (pN [⟨bs [66,49],0,0,[⟨0,kZ⟩]⟩])))],[(0,some (.cells (iB ty38.zero)))]⟩) (H':=Hid.none) (HSub.ofM (pI.of aA [] [13] rfl rfl rfl ⟨⟨rfl,hI.rfl⟩,oO⟩ ⟨⟨rfl,b7.rfl⟩,⟨rfl,b7.rfl⟩,⟨rfl,b7.rfl⟩,⟨rfl,b7.rfl⟩,⟨rfl,(b7.own (List.mem_singleton.2 rfl) rfl).then (aU.d (aK.fU fun i j hi hj=>by have hi:i<1:=hi;have hj:j<4:=hj;match i,j,hi,hj with|0,0,_,_|0,1,_,_|0,2,_,_|0,3,_,_=>exact aK.refl _))⟩,oO⟩)) ?_;refine bM.some (rc:=[]) aJ 3 aA [0] rfl rfl ?_;refine bM.sub (σ':=⟨[(0,.s (.ptr 0 0)),(2,.g [.d (dI 0),.d (dI 0),.d (dI 1000),.d (dI 2),.d (dI 1),.d (b5 [-900, -900])]),(6,.g [.d (dS (bs [77,97,105,110])),.d (x3 [⟨0,500,1000, -1000,0⟩,⟨2000,500,1000, -1000,0⟩]),.d (dI 50),.d (dI 0),.d eO]),(14,.g [.d (kV [⟨kZ,30,1900,6,5⟩]),.d (pN [⟨bs [66,49],0,0,[⟨0,kZ⟩]⟩])]),(16,.s (.d (CG [⟨kZ,500⟩])))],[(0,some (.cells (iB ty38.zero)))]⟩) (H':=Hid.none) (HSub.ofM (pI.of aA [] [16] rfl rfl rfl ⟨⟨rfl,hI.rfl⟩,oO⟩ ⟨⟨rfl,b7.rfl⟩,⟨rfl,b7.rfl⟩,⟨rfl,b7.rfl⟩,⟨rfl,b7.rfl⟩,⟨rfl,(b7.own (List.mem_singleton.2 rfl) rfl).then (aU.d (aK.fU fun i j hi hj=>by have hi:i<1:=hi;have hj:j<2:=hj;match i,j,hi,hj with|0,0,_,_|0,1,_,_=>exact aK.refl _))⟩,oO⟩)) ?_;refine bM.some (rc:=[]) aJ 1 aA [0] rfl rfl ?_;refine bM.sub (σ':=⟨[(0,.s (.ptr 0 0)),(2,.g [.d (dI 0),.d (dI 0),.d (dI 1000),.d (dI 2),.d (dI 1),.d (b5 [-900, -900])]),(6,.g [.d (dS (bs [77,97,105,110])),.d (x3 [⟨0,500,1000, -1000,0⟩,⟨2000,500,1000, -1000,0⟩]),.d (dI 50),.d (dI 0),.d eO]),(14,.g [.d (kV [⟨kZ,30,1900,6,5⟩]),.d (pN [⟨bs [66,49],0,0,[⟨0,kZ⟩]⟩])]),(16,.s (.d (CG [⟨kZ,500⟩]))),(17,.s (.d (b5 [0])))],[(0,some (.cells (iB ty38.zero)))]⟩) (H':=Hid.none) (HSub.ofM (pI.of aA [] [17] rfl rfl rfl ⟨⟨rfl,hI.rfl⟩,oO⟩ ⟨⟨rfl,b7.rfl⟩,⟨rfl,b7.rfl⟩,⟨rfl,b7.rfl⟩,⟨rfl,b7.rfl⟩,⟨rfl,b7.rfl⟩,⟨rfl,(b7.own (List.mem_singleton.2 rfl) rfl).then (aU.d (aK.fU fun i j hi hj=>by have hi:i<1:=hi;have hj:j<1:=hj;match i,j,hi,hj with|0,0,_,_=>exact aK.refl _))⟩,oO⟩)) ?_;refine bM.some (rc:=[]) aJ 2 aA [0] rfl rfl ?_;refine bM.sub (σ':=⟨[(0,.s (.ptr 0 0)),(2,.g [.d (dI 0),.d (dI 0),.d (dI 1000),.d (dI 2),.d (dI 1),.d (b5 [-900, -900])]),(6,.g [.d (dS (bs [77,97,105,110])),.d (x3 [⟨0,500,1000, -1000,0⟩,⟨2000,500,1000, -1000,0⟩]),.d (dI 50),.d (dI 0),.d eO]),(14,.g [.d (kV [⟨kZ,30,1900,6,5⟩]),.d (pN [⟨bs [66,49],0,0,[⟨0,kZ⟩]⟩])]),(16,.s (.d (CG [⟨kZ,500⟩]))),(19,.s (.d (q7 [⟨OS,10000000, -2000, -1000,[0],100⟩])))],[(0,some (.cells (iB ty38.zero)))]⟩) (H':=Hid.none) (HSub.ofM (pI.of aA [] [19] rfl rfl rfl ⟨⟨rfl,hI.rfl⟩,oO⟩ ⟨⟨rfl,b7.rfl⟩,⟨rfl,b7.rfl⟩,⟨rfl,b7.rfl⟩,⟨rfl,b7.rfl⟩,⟨rfl,b7.rfl⟩,⟨rfl,(b7.own (List.mem_singleton.2 rfl) rfl).then (aU.d (aK.fU fun i j hi hj=>by have hi:i<1:=hi;have hj:j<6:=hj;match i,j,hi,hj with|0,0,_,_|0,1,_,_|0,2,_,_|0,3,_,_|0,4,_,_|0,5,_,_=>exact aK.refl _))⟩,oO⟩)) ?_;refine bM.some (rc:=[]) aJ 3 aA [0] rfl rfl ?_;refine bM.sub (σ':=⟨[(0,.s (.ptr 0 0)),(2,.g [.d (dI 0),.d (dI 0),.d (dI 1000),.d (dI 2),.d (dI 1),.d (b5 [-900, -900])]),(6,.g [.d (dS (bs [77,97,105,110])),.d (x3 [⟨0,500,1000, -1000,0⟩,⟨2000,500,1000, -1000,0⟩]),.d (dI 50),.d (dI 0),.d eO]),(14,.g [.d (kV [⟨kZ,30,1900,6,5⟩]),.d (pN [⟨bs [66,49],0,0,[⟨0,kZ⟩]⟩])]),(16,.s (.d (CG [⟨kZ,500⟩]))),(19,.s (.d (q7 [⟨OS,10000000, -2000, -1000,[0],100⟩]))),(22,.s (.d (oY [⟨kZ,6,5⟩])))],[(0,some (.cells (iB ty38.zero)))]⟩) (H':=Hid.none) (HSub.ofM (pI.of aA [] [22] rfl rfl rfl ⟨⟨rfl,hI.rfl⟩,oO⟩ ⟨⟨rfl,b7.rfl⟩,⟨rfl,b7.rfl⟩,⟨rfl,b7.rfl⟩,⟨rfl,b7.rfl⟩,⟨rfl,b7.rfl⟩,⟨rfl,b7.rfl⟩,⟨rfl,(b7.own (List.mem_singleton.2 rfl) rfl).then (aU.d (aK.fU fun i j hi hj=>by have hi:i<1:=hi;have hj:j<3:=hj;match i,j,hi,hj with|0,0,_,_|0,1,_,_|0,2,_,_=>exact aK.refl _))⟩,oO⟩)) ?_;refine bM.some (rc:=[]) aJ 2 aA [0] rfl rfl (bM.nil ?_);exact bS.ret (aC.le ⟨aK.refl _,aK.refl _,aK.refl _,aK.refl _,aK.refl _,aK.refl _,aK.refl _,aK.refl _,aK.refl _,aK.refl _,aK.refl _,aK.nil,aK.refl _,aK.refl _,aK.refl _,aK.refl _,aK.refl _,aK.nil,aK.refl _,aK.refl _,oO⟩)
theorem told:aF prog 16 [] (cJ YZ):=by
 refine eW func16 rfl rfl call16 rfl rfl (fun cx aA=>AW.DH ?_);refine sA aA [] fun _ h'=>bS.seq (bS.region ?_)
 refine bM.some (rc:=[]) aJ 1 aA [] rfl rfl ?_;refine bM.sub (σ':=⟨[(1,.s (.d (b5 [-1000, -1060])))],[]⟩) (H':=Hid.none) (HSub.ofM (pI.of aA [] [1] rfl rfl rfl trivial ⟨⟨rfl,(b7.own (List.mem_singleton.2 rfl) rfl).then (aU.d (aK.fU fun i j hi hj=>by have hi:i<2:=hi;have hj:j<1:=hj;match i,j,hi,hj with|0,0,_,_|1,0,_,_=>exact aK.refl _))⟩,oO⟩)) ?_;refine bM.some (rc:=[]) aJ 2 aA [] rfl rfl ?_;refine bM.sub (σ':=⟨[(2,.g [.d (dI 0),.d (dI 1),.d (dI 0),.d (dI 1),.d (dI 0),.d (dI 0),.d (dI 0),.d (dI 0),.d (dI 0),.d (dS (bs [])),.d (dS (bs [])),.d (dS (bs [])),.d (b5 [-1000, -1060])]),(3,.s (.d (b5 [-1005, -1065])))],[]⟩) (H':=Hid.none) (HSub.ofM (pI.of aA [] [3] rfl rfl rfl trivial ⟨⟨rfl,b7.rfl⟩,⟨rfl,(b7.own (List.mem_singleton.2 rfl) rfl).then (aU.d (aK.fU fun i j hi hj=>by have hi:i<2:=hi;have hj:j<1:=hj;match i,j,hi,hj with|0,0,_,_|1,0,_,_=>exact aK.refl _))⟩,oO⟩)) ?_;refine bM.some (rc:=[]) aJ 4 aA [] rfl rfl (bM.nil ?_);refine bS.ret (aC.le (aK.fU fun i j hi hj=>?_));have hi:i<3:=hi;have hj:j<13:=hj
 match i,j,hi,hj with
 |0,0,_,_|0,1,_,_|0,2,_,_|0,3,_,_|0,4,_,_|0,5,_,_|0,6,_,_|0,7,_,_|0,8,_,_|0,9,_,_|0,10,_,_|0,11,_,_|0,12,_,_|1,0,_,_|1,1,_,_|1,2,_,_|1,3,_,_|1,4,_,_|1,5,_,_|1,6,_,_|1,7,_,_|1,8,_,_|1,9,_,_|1,10,_,_|1,11,_,_|1,12,_,_|2,0,_,_|2,1,_,_|2,2,_,_|2,3,_,_|2,4,_,_|2,5,_,_|2,6,_,_|2,7,_,_|2,8,_,_|2,9,_,_|2,10,_,_|2,11,_,_=>exact aK.refl _
 |2,12,_,_=>exact aK.nil
end Go.Pj
namespace Go.Pj
open Go Go.Ax Go.Ch Go.Proofs Go.Proofs.Tryz
def YD(x:bJ):List bJ→List bJ
 |[]=>[x]
 |y::r=>bif decide (x≤y)then x::y::r else y::YD x r
def QI:List bJ→List bJ
 |[]=>[]
 |x::r=>YD x (QI r)
theorem DP(x:bJ):∀l:List bJ,(YD x l).Perm (x::l)
 |[]=>List.Perm.refl _
 |y::r=>by
  rw[YD]
  cases decide (x≤y)with
  |true=>exact List.Perm.refl _
  |false=>exact((DP x r).cons y).trans (List.Perm.swap x y r)
theorem K7:∀l:List bJ,(QI l).Perm l
 |[]=>List.Perm.refl _
 |x::r=>(DP x (QI r)).trans ((K7 r).cons x)
theorem EN{x:bJ}:∀{l:List bJ},l.Pairwise (fun a b=>a≤b)→(YD x l).Pairwise (fun a b=>a≤b)
 |[],_=>List.pairwise_singleton _ _
 |y::r,h=>by
  rw[YD];obtain⟨h1,h2⟩:=List.pairwise_cons.1 h
  cases hd:decide (x≤y)with
  |true=>
   have hd:x≤y:=of_decide_eq_true hd;refine List.pairwise_cons.2 ⟨fun z hz=>?_,h⟩;rcases List.mem_cons.1 hz with rfl|hz
   ·exact hd
   exact List.le_trans hd (h1 z hz)
  |false=>
   have hd:¬x≤y:=of_decide_eq_false hd;refine List.pairwise_cons.2 ⟨fun z hz=>?_,EN h2⟩;rcases List.mem_cons.1 ((DP x r).mem_iff.1 hz)with rfl|hz
   ·exact List.le_of_lt (List.not_le.1 hd)
   exact h1 z hz
theorem EL:∀l:List bJ,(QI l).Pairwise (fun a b=>a≤b)
 |[]=>List.Pairwise.nil
 |_::r=>EN (EL r)
theorem KP(l:List bJ):hV l=QI l:=(rP l (QI l) (K7 l) ((EL l).imp fun {x y} h=>by rw[ltB,decide_eq_false_iff_not];exact List.not_lt.2 h)).symm
def aKN(G:List (ByteArray×Int))(e:gL):Option gL:=bif (fX G e.1 e.2.1).isEmpty then none else some (e.1,rG (QI (fX G e.1 e.2.1)),e.2.2)
def aEI(l:List Fact):List gL:=(fM l l.length).filterMap (aKN (kL l l.length))
def aNH(l:List Fact):List Fact:=(QI ((aEI l).map (·.1))).map fun k=>rU (zH (aEI l) k)
theorem XG(l:List Fact):pT l=aEI l:=by unfold pT aEI NP;exact AE fun e _=>by unfold zQ aKN rV;rw[KP]
theorem ZF(l:List Fact):cntF l=aNH l:=by unfold cntF aNH pS;rw[XG,KP]
abbrev exL:Fact:=⟨1,1,0,1,1,200000000,0,0,0,kZ,OS,bs [],[]⟩
def Y0:List Fact:=[exL,⟨0,1,0,1,0,0,0,0,0,bs [],bs [],bs [],[-1000, -1060]⟩,⟨0,1,1,1,0,0,0,0,0,bs [],bs [],bs [],[-1005, -1065]⟩]
theorem UC:cntF YZ=Y0:=by rw[ZF];kernel_rfl
def aE9(p:Proj)(fs L:List Fact)(M:Nat):List Piece:=
 ((List.range p.aT.levels.length).foldl (wZ p fs M) (qD (Rm.kU (iM p L L.length).1 M (iM p L L.length).1.length),[])).2
theorem aJB:j8 Y0 1=[exL]:=by have e:tO Y0 1=[exL]:=kR;unfold j8 JH;rw[e];exact List.mergeSort_singleton _
theorem aM5:G3 RB (cntF YZ) 1=aE9 RB Y0 [exL] 1:=by rw[UC];have:G3 RB Y0 1=aE9 RB Y0 (j8 Y0 (1:Nat)) 1:=rfl;rw[this,show((1:Nat):Int)=1 from rfl,aJB]
def IA:Stmt:=aEF RB 1 (aE9 RB Y0 [exL] 1) (gB RB (aE9 RB Y0 [exL] 1) 1) (M6 RB Y0 1 (sK RB Y0 1) 0) (gY RB Y0 1 2)
theorem aCX:OW RB YZ 1=IA:=by unfold OW IA;rw[aM5,UC];rfl
theorem aFW:IA.total=96400:=by decide+kernel
theorem aJC:IA.over=12000000:=by decide+kernel
theorem aJE:IA.Y4.map (·.iZ)=[200000000]:=by decide+kernel
theorem aJD:j6 RB YZ 1 1=0:=by decide+kernel
theorem aM6:fR (YZ.getD 0 default)=0:=by decide+kernel
theorem aLO(p:Proj)(fs:List Fact)(m:Int)(low:eZ)(h:p.cU=[]):aF prog 34 [SR p fs,vI m,rK low] (U8 []):=by
 refine eW func34 rfl rfl call34 rfl rfl (fun cx aA=>?_);refine sX aA (sX aA ?_);refine AW.seq (sX aA ?_);refine AW.block (AW.cG (fun _:Nat=>⟨[(7,.s (.d eO)),(14,vI 0),(15,vI 0)],[]⟩) (fun _=>True) (fun _=>0) 0 trivial ?_ ?_)
 ·exact aM.bD aA [] rfl trivial ⟨qZ,⟨rfl,aU.int zfa⟩,qZ,oO⟩
 rintro _ _;refine sX aA (AW.seq (AW.cond ?_));refine aI (fun g=>AW.skip ?_) (fun g=>AW.exit ?_)
 ·exact absurd (show(0:Int)<0 from bG g) dC
 exact eX aA (aC.le aK.nil)
theorem aIS(f:Nat→Nat→DV):bW prog 143 [.s (.own 1001),vI 0,vI 1,.s (.dZ 45 [])] [(1001,.row 55 1 13 f)] (.t []) [(1001,.row 55 1 13 f)]:=by
 refine lH func143 rfl rfl call143 aJ rfl rfl rfl rfl (fun cx aA=>?_);refine sX aA (AW.block ?_);refine AW.cG (fun _:Nat=>⟨[(2,vI 1),(8,vI 1)],[(1001,some (.row 55 1 13 f))]⟩) (fun _=>True) (fun _=>0) 0 trivial ?_ ?_
 ·exact aM.of [] zex rfl ⟨bQ,oO⟩ ⟨qZ,⟨rfl,aU.int rfl⟩,oO⟩
 rintro _ _;refine AW.seq (sX aA ?_);refine AW.cond (aI (fun g=>AW.skip ?_) (fun g=>AW.exit ?_))
 ·exact absurd (show(1:Int)<1 from bG g) dC
 exact kr
theorem aIL(f:Nat→Nat→DV)(n:Int):bW prog 90 [.s (.own 1001),vI 0,vI 1,vI n,.s (.dZ 45 [])] [(1001,.row 55 1 13 f)] (.t []) [(1001,.row 55 1 13 f)]:=by
 refine lH func90 rfl rfl call90 aJ rfl rfl rfl rfl (fun cx aA=>?_);refine sX aA (sX aA ?_);refine AW.block (AW.cG (fun _:Nat=>⟨[(0,.s (.own 1001)),(1,vI 0),(2,vI 1),(4,.s (.dZ 45 []))],[(1001,some (.row 55 1 13 f))]⟩) (fun _=>True) (fun _=>0) 0 trivial ?_ ?_)
 ·exact aM.of [] zex rfl ⟨bQ,oO⟩ ⟨qZ,qZ,qZ,qZ,oO⟩
 rintro _ _;refine AW.block (sX aA ?_);refine AW.seq (sX aA ?_);refine AW.cond (aI (fun g=>?_) (fun g=>?_))
 ·refine ex.sound (rc:=[143]) aJ mix aA _ ⟨[(1001,1001)],_,_,_,_,aIS f,rfl,⟨rfl,oO⟩,rfl,?_⟩;exact kr
 have g:¬aW ((1:Int) - 0)≤12:=bF g;exact absurd dC g
theorem aIR:aF prog 152 [.s (.d (.val (.int .u64 1)))] (vI 1):=by
 refine eP func152 rfl rfl call152 rfl rfl fun cx aA=>aI (fun g=>absurd (show(1:Int)≥4294967296 from bG g) dC) (fun _=>?_)
 refine aI (fun g=>absurd (show(1:Int)≥65536 from bG g) dC) (fun _=>?_);refine aI (fun g=>absurd (show(1:Int)≥256 from bG g) dC) (fun _=>?_);exact oi dC (aC.of_eq (by rfl))
theorem aFI:aF prog 91 [.s (.d (.val (.int .u64 1)))] (vI 1):=by exact eP func91 rfl rfl call91 rfl rfl fun cx aA=>aB (aIR) (aC.refl _)
theorem aGN(f:Nat→Nat→DV):bW prog 44 [.s (.own 1001),.s (.dZ 45 [])] [(1001,.row 55 1 13 f)] (.t []) [(1001,.row 55 1 13 f)]:=by refine gH (rc:=[90]) (N:=14) func44 rfl rfl call44 aJ mix rfl rfl rfl rfl (fun cx aA=>?_);refine aB aFI ⟨[(1001,1001)],_,_,_,_,aIL f 1,rfl,⟨rfl,oO⟩,rfl,?_⟩;exact kr
theorem aCZ:RB.fits where
 name:=by decide+kernel
 aT:=by decide+kernel
 chan:=⟨by decide+kernel,by decide+kernel,by
  intro a ha;rcases List.mem_cons.1 ha with rfl|ha
  ·exact⟨rfl,rfl,rfl,rfl,rfl⟩
  rw[List.mem_singleton.1 ha];exact⟨rfl,rfl,rfl,rfl,rfl⟩,rfl,rfl,by decide+kernel,fun _ h=>by cases h⟩
 regions:=by decide+kernel
 gr:=⟨by decide+kernel,by decide+kernel,fun x hx=>by rw[List.mem_singleton.1 hx];decide+kernel,fun x hx=>by rw[List.mem_singleton.1 hx];decide+kernel,fun x hx=>by rw[List.mem_singleton.1 hx];decide+kernel⟩
 cO:=by decide+kernel
 cU:=by decide+kernel
 small:=⟨by decide+kernel,by decide+kernel,by decide+kernel,by decide+kernel,fun x hx=>by rw[List.mem_singleton.1 hx];decide+kernel⟩
 vU:=fun x hx=>by rw[List.mem_singleton.1 hx];decide+kernel
 rB:=fun x hx=>by rw[List.mem_singleton.1 hx];decide+kernel
theorem RC:∀f∈YZ,f.fits:=by
 intro f hf;rcases List.mem_cons.1 hf with rfl|hf
 ·exact zcu
 rcases List.mem_cons.1 hf with rfl|hf
 ·exact zcu
 rw[List.mem_singleton.1 hf];exact⟨by decide+kernel,by decide+kernel,by decide+kernel,by decide+kernel⟩
theorem aM3:bs (dR (YZ.getD 0 default))=⟨#[115,117,114,118,101,121,32,48,32,49,32,49,32,45,49,48,48,48,32,45,49,48,54,48]⟩:=by decide+kernel
theorem aM7:∃d,IA.Y4=[d]∧d.iZ=200000000:=by
 have h:=aJE
 cases hd:IA.Y4 with
 |nil=>rw[hd]at h;cases h
 |cons d r=>
  rw[hd]at h
  cases r with
  |nil=>exact⟨d,rfl,(List.cons.inj h).1⟩
  |cons e r=>cases(List.cons.inj h).2
theorem aM4:ZR (cntF YZ) (1:Nat):=by rw[UC];intro _;have e:tO Y0 (1:Nat)=[exL]:=kR;rw[e,show JH [exL]=[exL] from List.mergeSort_singleton _];exact aGN _
theorem aDP:aF prog 6 [] (vB true):=by
 have hS:=aGO RB YZ 1 aCZ RC dC aJD aM4 (aLO RB (cntF YZ) (1:Nat) _ rfl)
 rw[aCX,aJC,aFW]at hS
 obtain⟨d,hd,hdv⟩:=aM7
 rw[hd]at hS
 have hF:=AR (YZ.getD 0 default) (RC _ (bP dC))
 rw[aM6]at hF
 have hT:=aM3
 generalize dR (YZ.getD 0 default)=tx at hF hT
 refine eW func6 rfl rfl call6 rfl rfl (fun cx aA=>?_)
 refine sX aA ?_
 refine sX aA ?_
 refine aB (Example) ?_
 refine aB (told) ?_
 refine aB (hS) ?_
 refine sX aA ?_
 refine aB (told) ?_
 refine oi dC ?_
 refine aB (hF) ?_
 refine eX aA ?_
 repeat refine aR ?_
 refine og (fun _=>⟨dC,by show(0:Int)<1;decide⟩) ?_
 repeat refine aR ?_
 refine aC.of_eq (congrArg (fun b=>vB b) ?_)
 rw[hT]
 have e:([d].getD (Int.toNat 0) default).iZ=200000000:=hdv
 rw[e]
 generalize ByteArray.toList _=u
 have eu:(u==u)=true:=beq_self_eq_true u
 rw[eu]
 rfl
structure Proj.okk(p:Proj):Prop where
 name:p.name.size≤9223372036854775807
 aT:p.aT.levels.length≤9223372036854775807
 chan:p.chan.ok
 gr:p.gr.fits
 cO:p.cO.length≤9223372036854775807
 cU:p.cU.length≤9223372036854775807
 vU:∀x∈p.aQ,x.name.size≤9223372036854775807
 rB:∀x∈p.bA,x.aN.size≤9223372036854775807
theorem Proj.okk.fits{p:Proj}(h:p.okk)(hg:vC p=false):p.fits:=by simp only [vC,gr0,Bool.or_eq_false_iff,decide_eq_false_iff_not]at hg;obtain⟨⟨⟨g0,_⟩,_⟩,g3⟩:=hg;refine⟨h.name,h.aT,h.chan,h.chan.regions,h.gr,h.cO,h.cU,⟨by show p.aQ.length≤_;omega,by show p.bA.length≤_;omega,Nat.zero_le _,by show(List.replicate p.bA.length (0:Int)).length≤_;rw[List.length_replicate];omega,fun x hx=>?_⟩,h.vU,h.rB⟩;have:=List.any_eq_false.1 g3 x hx;simp only [grP,decide_eq_true_eq]at this;omega
end Go.Pj
