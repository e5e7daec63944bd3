/- Part 8: lemmas that the proofs of this seat share; by itself it claims nothing. -/
import Derived.WalkKit
import Derived.Lib.Walk
import Derived.Deep.RegionWith
import Derived.Handy
import Derived.Shelf.Slices.In.SortNone
import Derived.Test.YtaalojbkjiplcaaGreatDoorPt7
set_option maxRecDepth 100000
set_option maxHeartbeats 2000000
--K21
namespace Go.Ax
open Go.RowKit
theorem HSub.shrink{cx:Cx}{N:Nat}{H:Hid}{E:List (Nat×AV)}{B:aO}{e m s n:Nat}{f:Nat→Nat→DV}(t x:Nat)(aA:cx.ref=[])(hE:(E.all fun p=>WD (cJ B) p.2)=true)(hB:(B.all fun p=>aL0 (cJ B) p.2)=true)
  (hx:(cJ B).contains x=false) (hm:0<m) (hn:n≤m):
  HSub cx N ⟨(t,.s (.jQ x s 0 n))::E,(x,some (.row e m s f))::B⟩ H ⟨(t,.s (.own x))::E,(x,some (.row e n s f))::B⟩ H:=by
 intro M β a w i RV
 have hxk:x∉cJ B:=by simpa using hx
 have r:=i.env t
 have r:(AV.s (.jQ x s 0 n)).a7 M β (a.tmps.getD t undef):=by
  have e1:eZ ((t,AV.s (.jQ x s 0 n))::E) t=.s (.jQ x s 0 n):=by rw[gG,if_pos rfl]
  rw[←e1];exact r
 obtain⟨b,c,o,qE,hv,ho,hl,hc⟩:=r
 obtain⟨b',c',cur,WN,h1,h2,h3,h4,h5,h6⟩:=i.box x (.row e m s f) (by show aH ((x,_)::B) x=_;rw[aL,if_pos rfl])
 rw[qE]at WN
 cases WN
 have ho:o=0:=by rw[ho oM,Nat.zero_mul]
 subst ho
 let β':Nm:=fun y=>if y=x then some (b,(c.1,n))else β y
 have bx:β' x=some (b,(c.1,n)):=by simp[β']
 have bo:∀y,y≠x→β' y=β y:=fun y h=>by simp[β',h]
 have keep:∀y,y∈cJ B→∀p,β y=some p→β' y=some p:=fun y hy p h=>by
  rw[bo y (fun e=>hxk (e▸hy))];exact h
 have back:∀y b1 c1,β' y=some (b1,c1)→∃c2,β y=some (b1,c2):=fun y b1 c1 h=>by
  by_cases hy:y=x
  ·subst hy;rw[bx]at h;cases h;exact⟨_,qE⟩
  ·rw[bo y hy]at h;exact⟨_,h⟩
 have live:∀y bc,aH ((x,some (.row e n s f))::B) y=some (some bc)→∃bc',aH ((x,some (.row e m s f))::B) y=some (some bc'):=by
  intro y bc h
  rw[aL]at h ⊢
  by_cases hy:x=y
  ·rw[if_pos hy];exact⟨_,rfl⟩
  ·rw[if_neg hy]at h ⊢;exact⟨_,h⟩
 refine⟨M,β',⟨i.defers,i.tmps,i.heap,?_,i.mem,?_,?_,?_,?_,?_,?_⟩,⟨RV.holds,RV.low,RV.apart,fun y CY b1 c1 e1 g1=>by
  obtain⟨_,e1⟩:=live _ _ e1
  obtain⟨_,g1⟩:=back _ _ _ g1
  exact RV.names y _ b1 _ e1 g1⟩,Grow.refl _ _⟩
 ·intro u
  show(eZ ((t,_)::E) u).a7 M β' _
  rw[gG]
  by_cases hu:t=u
  ·subst hu
   rw[if_pos rfl]
   exact⟨b,(c.1,n),bx,by rw[hv];simp,by simp only;omega⟩
  ·rw[if_neg hu]
   have hi:=i.env u
   have hi:(eZ E u).a7 M β (a.tmps.getD u undef):=by
    have e1:eZ ((t,AV.s (.jQ x s 0 n))::E) u=eZ E u:=by rw[gG,if_neg hu]
    rw[←e1];exact hi
   rcases PG (E:=E) (u:=u)with h|⟨p,hp,h⟩
   ·rw[h];trivial
   ·rw[h]at hi ⊢
    exact WD.mono keep (List.all_eq_true.1 hE p hp) hi
 ·intro y p h
  show ∃y',aH ((x,_)::B) y=some y'
  rw[aL]
  by_cases hy:x=y
  ·rw[if_pos hy];exact⟨_,rfl⟩
  ·rw[if_neg hy]
   rw[bo y (fun e=>hy e.symm)]at h
   obtain⟨z,hz⟩:=i.keys y p h
   have hz:aH ((x,some (.row e m s f))::B) y=some z:=hz
   rw[aL,if_neg hy]at hz
   exact⟨z,hz⟩
 ·intro y bc h
  have h:aH ((x,some (.row e n s f))::B) y=some (some bc):=h
  rw[aL]at h
  by_cases hy:x=y
  ·subst hy
   rw[if_pos rfl]at h
   cases h
   exact⟨b,(c.1,n),cur,bx,h1,rfl,h3,by simp only;omega,h5,fun k j hk hj=>h6 k j oM hj⟩
  ·rw[if_neg hy]at h
   have hr:=i.box y bc (by show aH ((x,_)::B) y=_;rw[aL,if_neg hy];exact h)
   have hm:=PI h
   have:=List.all_eq_true.1 hB _ hm
   exact QN.mono keep (aBQ hm) this hr
 ·intro y y' CY bx2 b1 c1 c2 e1 e2 g1 g2
  obtain⟨_,e1⟩:=live _ _ e1
  obtain⟨_,e2⟩:=live _ _ e2
  obtain⟨_,g1⟩:=back _ _ _ g1
  obtain⟨_,g2⟩:=back _ _ _ g2
  exact i.inj y y' _ _ b1 _ _ e1 e2 g1 g2
 ·intro y CY b1 c1 e1 g1
  obtain⟨_,e1⟩:=live _ _ e1
  obtain⟨_,g1⟩:=back _ _ _ g1
  exact i.apart y _ b1 _ e1 g1
 ·intro y CY b1 c1 e1 g1
  obtain⟨_,e1⟩:=live _ _ e1
  obtain⟨_,g1⟩:=back _ _ _ g1
  exact i.low y _ b1 _ e1 g1
 ·intro y hy
  rw[aA]at hy;cases hy
end Go.Ax
namespace Go.Pj
open Go Go.Ax Go.Ch Go.Proofs Go.Proofs.Tryz
set_option maxRecDepth 100000
set_option maxHeartbeats 1000000
noncomputable def aCS:Code:=match f176.body with
 |some (.seq _ (.seq _ (.seq _ (.seq _ c))))=>c
 |_=>.skip
abbrev stS(G:List (ByteArray×Int))(bm bi:Nat):St:=⟨[(3,.s (.ptr 3 0)),(4,dG bm),(63,.s (.d (.val (.pointer (some ⟨bi,0,none⟩)))))],[(3,some (.cells [.mp 18])),(18,some (.smap .int G))]⟩
structure J2(G:List (ByteArray×Int))(E:List gM)(bm bi:Nat)(s:List Nat×HM):Prop where
 all:dX s.2.l (fF G E s.1)
 bm:s.2.bm=bm
 clock:s.2.clock=E.length
 it:s.2.it=some (bi,s.1)
def TC(E:List gM)(sn:List Nat):Nat:=(E.filter fun e=> !sn.contains e.2.2).length
theorem PQ{G:List (ByteArray×Int)}{E:List gM}(hE:BU E){sn:List Nat}{e:gM}(h:e∈fF G E sn):e.2.2<E.length:=by
 obtain⟨x,hx,_,hb⟩:=nO h
 obtain⟨i,hi⟩:=List.getElem?_of_mem hx
 rw[hb,hE.born i x hi]
 exact(List.getElem?_eq_some_iff.1 hi).1
theorem PO{G:List (ByteArray×Int)}{E:List gM}(hsm:∀e∈E,e.2.1.length≤200){sn:List Nat}{e:gM}(h:e∈fF G E sn)(hs:sn.contains e.2.2=false):e.2.1.length≤200:=by
 obtain⟨x,hx,he⟩:=List.mem_filterMap.1 h
 have hb:=rN he
 unfold rO at he
 rw[←hb.2,hs]at he
 have he:x=e:=Option.some.inj he
 exact he▸hsm x hx
theorem NH{E:List gM}(hE:BU E){sn:List Nat}{b:Nat}(hb:b<E.length)(hs:sn.contains b=false):TC E (b::sn)<TC E sn:=by
 unfold TC
 have key:∀L:List gM,L.filter (fun e=> !(b::sn).contains e.2.2)=(L.filter fun e=> !sn.contains e.2.2).filter fun e=>e.2.2 !=b:=by
  intro L
  rw[List.filter_filter]
  congr 1
  funext e
  by_cases h:e.2.2=b
  ·simp[h]
  ·simp[h]
 rw[key E]
 have hm:E[b]∈E.filter fun e=> !sn.contains e.2.2:=by
  rw[List.mem_filter]
  refine⟨List.getElem_mem hb,?_⟩
  rw[hE.born b _ (List.getElem?_eq_getElem hb),hs];rfl
 refine Nat.lt_of_le_of_ne (List.length_filter_le _ _) fun he=>?_
 have:=List.length_filter_eq_length_iff.1 he _ hm
 rw[hE.born b _ (List.getElem?_eq_getElem hb)]at this
 simp at this
theorem R9(l:List bF)(j:Nat):(cL l j).eraseIdx j=l.eraseIdx j:=by
 unfold cL
 apply List.ext_getElem?
 intro i
 rw[List.getElem?_eraseIdx,List.getElem?_eraseIdx]
 split
 ·rw[List.getElem?_modify]
  have:¬j=i:=oM
  simp[this]
 ·rw[List.getElem?_modify]
  have:¬j=i+1:=oM
  simp[this]
theorem aBC{l:List bG}(h:l≠[]):uY l≠[]:=by
 have hl:=List.length_pos_iff.2 h
 unfold uY
 obtain⟨n,hn⟩:∃n,l.length=n+1:=⟨l.length - 1,oM⟩
 rw[hn]
 clear hn hl
 induction n with
 |zero=>rw[wO];simp[qd]
 |succ n ih=>
  rw[wO]
  intro h
  exact ih (List.append_eq_nil_iff.1 h).1
theorem W6{h:HM}{k:bG}{j:Nat}{q:bF}(hf:cT h.l (bs k) 0=some (j,q)):
  (xU {h with l:=cL h.l j} (bs k)).l=h.l.eraseIdx j∧(xU {h with l:=cL h.l j} (bs k)).bm=h.bm∧(xU {h with l:=cL h.l j} (bs k)).clock=h.clock∧(xU {h with l:=cL h.l j} (bs k)).it=h.it:=by
 have h1:=rW h.l (bs k) j 0
 rw[hf]at h1
 unfold xU
 simp only
 cases hq:cT (cL h.l j) (bs k) 0 with
 |none=>rw[hq]at h1;cases h1
 |some p=>
  obtain⟨i,q'⟩:=p
  rw[hq]at h1
  obtain rfl:i=j:=by simpa using h1
  exact⟨R9 h.l i,rfl,rfl,rfl⟩
theorem VG{cx:Cx}(aA:cx.ref=[])(G:List (ByteArray×Int))(E:List gM)(hE:BU E)(hsm:∀e∈E,e.2.1.length≤200)(h:HM)(ha:dX h.l E)(jC:h.clock=E.length)(K:Exit→St→Hid→Prop)
  (hK:∀h':HM,dX h'.l (PK G E)→h'.clock=E.length→bI prog cx f176.ntmps .ret ⟨[(2,dG h'.bm)],[]⟩ (hid 254 14 h') K):
  bI prog cx f176.ntmps aCS ⟨[(3,.s (.ptr 3 0)),(4,dG h.bm)],[(3,some (.cells [.mp 18])),(18,some (.smap .int G))]⟩ (hid 254 14 h) K:=by
 refine bI.seq (bI.seq (bI.region (bD.some (rc:=[]) aK 1 aA [3,18] rfl rfl (bD.op rfl (nE.range rfl rfl dC rfl underlying250 fun bi=>bD.nil ?_)))))
 refine bI.block ?_
 refine bI.loop (S:=List Nat×HM) (fun s=>stS G s.2.bm bi) (fun s=>hid 254 14 s.2) (J2 G E h.bm bi) (fun s=>TC E s.1) ([],{h with it:=some (bi,[])}) ⟨by rw[W0];exact ha,rfl,jC,rfl⟩ ?_ ?_
 ·exact HSub.of (eS.of [] (by rw[aA];rfl) rfl ⟨bQ,bQ,oO⟩ ⟨qZ,qZ,qZ,oO⟩)
 ·rintro⟨sn,h⟩ ⟨ha,M8,jC,hit⟩
  have ha:dX h.l (fF G E sn):=ha
  have jC:h.clock=E.length:=jC
  have hit:h.it=some (bi,sn):=hit
  refine bI.seq (bI.region (bD.op rfl (nE.next (bi:=bi) (sn:=sn) rfl rfl dC rfl hit ?_ (fun lE=>?_) (fun q hq WK=>?_))))
  ·intro q hq
   obtain⟨j,hj⟩:=List.getElem?_of_mem hq
   obtain⟨e,he,hqe⟩:=ha.get hj
   show q.born<h.clock
   rw[hqe.born,jC]
   exact PQ hE (List.mem_of_getElem? he)
  ·refine bD.some (rc:=[]) aK 1 aA [3,18] rfl rfl (bD.nil ?_)
   refine bI.seq (bI.cond (bI.exit ?_))
   refine sA aA [3,18] fun _ h'=>?_
   refine bI.sub (σ':=⟨[(2,dG h.bm)],[]⟩) (HSub.of (eS.of [] (by rw[aA];rfl) rfl trivial ⟨qZ,oO⟩)) ?_
   refine hK h ?_ jC
   rw[←KK (G:=G) (E:=E) (sn:=sn)]
   ·exact ha
   ·intro e he
    obtain⟨j,hj⟩:=List.getElem?_of_mem he
    have rF:j<h.l.length:=by rw[ha.len];exact(List.getElem?_eq_some_iff.1 hj).1
    obtain⟨e',IP,hq⟩:=ha.get (List.getElem?_eq_getElem rF)
    rw[hj]at IP
    obtain rfl:e=e':=Option.some.inj IP
    have:=lE _ (List.getElem_mem rF)
    rw[hq.born]at this
    simpa using this
  ·obtain⟨j,hj⟩:=List.getElem?_of_mem hq
   obtain⟨e,he,hqe⟩:=ha.get hj
   have j0:=List.mem_of_getElem? he
   have pR:=PQ hE j0
   have hns:sn.contains e.2.2=false:=by
    rw[←hqe.born]
    simpa using WK
   have qV:=PO hsm j0 hns
   obtain⟨k,ts,b⟩:=e
   have rU:q.key=bs k:=hqe.key
   have aEY:q.born=b:=hqe.born
   have qV:ts.length≤200:=qV
   have hns:sn.contains b=false:=hns
   obtain⟨r,WI,oP⟩:=hqe.row
   have hrn:r.n=ts.length:=oP.n
   have hrf:∀i c,i<ts.length→c<14→aJ (r.f i c) (dN ts i c):=oP.f
   refine bD.some (rc:=[]) aK 1 aA [3,18] rfl rfl (bD.nil ?_)
   refine bI.seq (bI.cond (bI.skip ?_))
   refine bI.block ?_
   have x4:=aAZ (i:=0) (yZ (G:=G) (sn:=sn) hE.keys) he
   rw[Nat.zero_add]at x4
   obtain⟨q0,nS,_⟩:=pD ha x4
   have nS:cT h.l (bs k) 0=some (j,q0):=nS
   have hnd:(h.l.map (·.born)).Nodup:=by
    have:h.l.map (·.born)=(fF G E sn).map (·.2.2):=by
     apply List.ext_getElem?
     intro i
     rw[List.getElem?_map,List.getElem?_map]
     cases hi:h.l[i]? with
     |none=>
      have:h.l.length≤i:=List.getElem?_eq_none_iff.1 hi
      rw[List.getElem?_eq_none (by rw[←ha.len];exact this)];rfl
     |some x=>
      obtain⟨e',IP,hx⟩:=ha.get hi
      rw[IP]
      simp[hx.born]
    rw[this]
    exact wM hE.nodup
   refine bI.seq (bI.region (bD.op rfl (nE.entry (bi:=bi) (j:=j) (sn:=sn) rfl rfl dC rfl rfl hj rfl hnd WI oP.lo (bD.some (rc:=[]) aK 5 aA [3,18,66] rfl rfl (bD.nil ?_)))))
   refine bI.sub (σ':=⟨[(3,.s (.ptr 3 0)),(4,dG h.bm),(13,.s (.ptr 13 0)),(14,.s (.own 66)),(63,.s (.d (.val (.pointer (some ⟨bi,0,none⟩)))))],[(3,some (.cells [.mp 18])),(18,some (.smap .int G)),(13,some (.cells [.d (dT k)])),(66,some (.row 254 ts.length 14 (dN ts)))]⟩) (HSub.of (eS.of [] (by rw[aA];rfl) rfl ⟨bQ,bQ,⟨rfl,aQ.of_eq (by rw[rU];rfl)⟩,⟨rfl,aQ.row hrn fun i c hi hc=>hrf i c oM hc⟩,oO⟩ ⟨qZ,qZ,qZ,qZ,qZ,oO⟩)) ?_
   refine sA aA [3,18,13,66] fun _ h'=>?_
   refine bI.sub (σ':=⟨[(3,.s (.ptr 3 0)),(4,dG h.bm),(13,.s (.ptr 13 0)),(14,.s (.own 66)),(15,.s (.ptr 15 0)),(63,.s (.d (.val (.pointer (some ⟨bi,0,none⟩)))))],[(3,some (.cells [.mp 18])),(18,some (.smap .int G)),(13,some (.cells [.d (dT k)])),(66,some (.row 254 ts.length 14 (dN ts))),(15,some (.cells [.d (dI (aU (KB G k - 1)))]))]⟩) (HSub.of (eS.of [] (by rw[aA];rfl) rfl ⟨bQ,bQ,bQ,bQ,bQ,oO⟩ ⟨qZ,qZ,qZ,qZ,qZ,qZ,oO⟩)) ?_
   refine bI.seq (bI.alone aA [3,18,13,66,15] rfl rfl fun MJ h'=>?_)
   refine AW.seq (ex.sound (rc:=[]) aK mix h' _ ?_)
   refine AW.block ?_
   refine AW.cZ (fun i:Nat=>⟨[(3,.s (.ptr 3 0)),(4,dG h.bm),(13,.s (.ptr 13 0)),(14,.s (.own 66)),(15,.s (.ptr 15 0)),(63,.s (.d (.val (.pointer (some ⟨bi,0,none⟩))))),(73,.s (.own 66)),(74,vI ts.length),(75,vI i)],[(3,some (.cells [.mp 18])),(18,some (.smap .int G)),(13,some (.cells [.d (dT k)])),(66,some (.row 254 ts.length 14 (dN ts))),(15,some (.cells [.d (dI ((ts.take i).foldl (fun a t=>mm true a (tT t).seq) (aU (KB G k - 1))))]))]⟩)
    (fun i=>i≤ts.length) (fun i=>ts.length - i) 0 (Nat.zero_le _) ?_ ?_
   ·exact aP.of [] (by rw[h'];rfl) rfl ⟨bQ,bQ,bQ,bQ,bQ,oO⟩ ⟨qZ,qZ,qZ,qZ,qZ,qZ,qZ,qZ,qZ,oO⟩
   ·intro i hi
    refine ex.sound (rc:=[]) aK mix h' _ ?_
    refine aI (fun g=>?_) (fun g=>?_)
    ·have g:(i:Int)<ts.length:=cB g
     have bN:i<ts.length:=oM
     have ew:aU ((i:Int)+1)=((i+1:Nat):Int):=aG oM oM
     refine oi ⟨oM,oM⟩ ?_
     refine oi (show i<ts.length by omega) ?_
     refine⟨i+1,oM,oM,?_⟩
     refine aP.of [] (by rw[h'];rfl) rfl ⟨bQ,bQ,bQ,bQ,⟨rfl,aQ.of_eq ?_⟩,oO⟩ ⟨qZ,qZ,qZ,qZ,qZ,qZ,qZ,qZ,⟨rfl,aM.int ew⟩,oO⟩
     show jM.cells [.d (dI (mm true ((ts.take i).foldl (fun a t=>mm true a (tT t).seq) (aU (KB G k - 1))) (tT (ts.getD i [])).seq))]=jM.cells [.d (dI ((ts.take (i+1)).foldl (fun a t=>mm true a (tT t).seq) (aU (KB G k - 1))))]
     rw[List.take_add_one,List.getElem?_eq_getElem bN,List.foldl_append,bA bN];rfl
    ·have g:¬(i:Int)<ts.length:=cD g
     obtain rfl:i=ts.length:=oM
     rw[List.take_length]
     refine bI.sub (σ':=⟨[(3,.s (.ptr 3 0)),(4,dG h.bm),(13,.s (.ptr 13 0)),(14,.s (.own 66)),(15,.s (.ptr 15 0)),(63,.s (.d (.val (.pointer (some ⟨bi,0,none⟩)))))],[(3,some (.cells [.mp 18])),(18,some (.smap .int G)),(13,some (.cells [.d (dT k)])),(66,some (.row 254 ts.length 14 (dN ts))),(15,some (.cells [.d (dI (TY G k ts))]))]⟩) (HSub.of (eS.of [] (by rw[aA];rfl) rfl ⟨bQ,bQ,bQ,bQ,bQ,oO⟩ ⟨qZ,qZ,qZ,qZ,qZ,qZ,oO⟩)) ?_
     refine bI.seq (eB [216] aA [3,18,13,66,15] fun _ h'=>?_)
     refine⟨[(1001,66),(1002,15),(1003,3),(1004,13),(1005,18)],_,_,_,_,S6 ts (TY G k ts) k G oM _ rfl,rfl,⟨rfl,rfl,rfl,rfl,rfl,oO⟩,rfl,?_⟩
     have QR:gE G k ts=dH (W7 (TY G k ts) (jB G (bs k))) ts:=rfl
     rw[←QR]
     refine bI.sub (σ':=⟨[(14,.s (.jQ 66 14 0 (gE G k ts).length)),(3,.s (.ptr 3 0)),(4,dG h.bm),(13,.s (.ptr 13 0)),(63,.s (.d (.val (.pointer (some ⟨bi,0,none⟩)))))],[(66,some (.row 254 ts.length 14 (oW (gE G k ts)))),(3,some (.cells [.mp 18])),(18,some (.smap .int G)),(13,some (.cells [.d (dT k)]))]⟩) (HSub.of (eS.of [] (by rw[aA];rfl) rfl ⟨bQ,bQ,bQ,bQ,oO⟩ ⟨qZ,qZ,qZ,qZ,qZ,oO⟩)) ?_
     refine bI.seq (sA aA [66,3,18,13] fun _ h'=>?_)
     refine bI.cond ?_
     refine aI (fun g2=>?_) (fun g2=>?_)
     ·have g2:(((gE G k ts).length:Int)==0)=true:=g2
      have hz:gE G k ts=[]:=List.eq_nil_of_length_eq_zero (by simpa using g2)
      refine bI.seq (bI.region (bD.some (rc:=[]) aK 2 aA [66,3,18,13] rfl rfl (bD.op rfl (nE.del (k:=bs k) rfl rfl rfl rfl underlying250 underlying9 (bD.nil ?_)))))
      refine bI.exit ?_
      have aGI:zK G (k,ts,b)=none:=by unfold zK;rw[show(k,ts,b).1=k from rfl,show(k,ts,b).2.1=ts from rfl,hz];rfl
      have jE:=tJ (G:=G) hE.nodup he hns
      rw[aGI]at jE
      have jE:fF G E (b::sn)=(fF G E sn).eraseIdx j:=jE
      obtain⟨d1,d2,d3,d4⟩:=W6 (h:={h with it:=some (bi,q.born::sn)}) nS
      refine⟨(b::sn,xU {h with l:=cL h.l j,it:=some (bi,q.born::sn)} (bs k)),⟨?_,d2.trans M8,d3.trans jC,d4.trans (by rw[aEY])⟩,NH hE pR hns,?_⟩
      ·show dX (xU {h with l:=cL h.l j,it:=some (bi,q.born::sn)} (bs k)).l (fF G E (b::sn))
       rw[jE,d1]
       exact ha.erase
      ·exact HSub.of (eS.of [] (by rw[aA];rfl) rfl ⟨bQ,bQ,oO⟩ ⟨qZ,⟨rfl,aM.of_eq (by rw[d2];rfl)⟩,qZ,oO⟩)
     ·have g2:(((gE G k ts).length:Int)==0)=false:=g2
      have hnz:gE G k ts≠[]:=fun hz=>by rw[hz]at g2;cases g2
      have J8:(gE G k ts).length≤ts.length:=List.length_filter_le _ _
      have kG:0<(gE G k ts).length:=List.length_pos_iff.2 hnz
      refine bI.skip ?_
      refine bI.sub (σ':=⟨[(14,.s (.jQ 66 14 0 (gE G k ts).length)),(3,.s (.ptr 3 0)),(4,dG h.bm),(13,.s (.ptr 13 0)),(63,.s (.d (.val (.pointer (some ⟨bi,0,none⟩)))))],[(66,some (.row 254 ts.length 14 (oW (gE G k ts)))),(3,some (.cells [.mp 18])),(18,some (.smap .int G)),(13,some (.cells [.d (dT k)]))]⟩) (HSub.of (eS.of [] (by rw[aA];rfl) rfl ⟨bQ,bQ,bQ,bQ,oO⟩ ⟨qZ,qZ,qZ,qZ,qZ,oO⟩)) ?_
      refine bI.sub (HSub.shrink 14 66 aA rfl rfl rfl oM J8) ?_
      refine bI.seq (eB [218] aA [66,3,18,13] fun _ h'=>?_)
      refine⟨[(1001,66)],_,_,_,_,aB7 (gE G k ts) (oW (gE G k ts)) (fun i c hi hc=>aJ.of_eq (by unfold oW;rw[if_pos hi])) oM,rfl,⟨rfl,oO⟩,rfl,?_⟩
      have hsl:(mG (gE G k ts)).length=(gE G k ts).length:=List.length_mergeSort _
      refine bI.sub (σ':=⟨[(3,.s (.ptr 3 0)),(4,dG h.bm),(13,.s (.ptr 13 0)),(14,.s (.own 66)),(63,.s (.d (.val (.pointer (some ⟨bi,0,none⟩)))))],[(3,some (.cells [.mp 18])),(18,some (.smap .int G)),(13,some (.cells [.d (dT k)])),(66,some (.row 254 (mG (gE G k ts)).length 14 (dN (mG (gE G k ts)))))]⟩) (HSub.of (eS.of [] (by rw[aA];rfl) rfl ⟨bQ,bQ,bQ,⟨rfl,aQ.of_eq (by rw[hsl];rfl)⟩,oO⟩ ⟨qZ,qZ,qZ,qZ,qZ,oO⟩)) ?_
      refine bI.aA7 (ks:=[3,18,13,66]) (T:=tab) (rc:=[1500221]) aK (fun f hf=>?_) mix (fun x hx=>p8.spec ?_) (fun x bc hx=>pC hx) (fun x hx=>by rw[aA]at hx;cases hx) 4 rfl rfl rfl (fun c hc=>by cases hc) ?_
      ·have hf:[1500221].contains (f+2000000)=true:=hf
       simp at hf
      ·simp only [List.mem_cons,List.not_mem_nil,or_false]at hx
       rcases hx with rfl|rfl|rfl|rfl <;> rfl
      refine⟨[(1001,66)],_,_,_,_,QL (mG (gE G k ts)) oM,rfl,⟨rfl,oO⟩,rfl,?_⟩
      refine⟨kR,?_⟩
      refine nE.YK (b:=66) (k:=bs k) (n:=(mG (gE G k ts)).length) (n':=(uY (mG (gE G k ts))).length) (lo:=0) aA rfl rfl rfl rfl (.inr rfl) rfl oM underlying250 underlying9 (fun hn=>?_) (fun g3 aMY v=>?_)
      ·have:=rW h.l (bs k) j 0
       rw[nS]at this
       have hn:cT (cL h.l j) (bs k) 0=none:=hn
       rw[hn]at this
       cases this
      generalize oN:(⟨g3,0+(uY (mG (gE G k ts))).length,aMY,0,_⟩:l0)=row
      have hpt:tV G k ts=uY (mG (gE G k ts)):=rfl
      have aL5:tV G k ts≠[]:=aBC (by rw[Ne,←List.length_eq_zero_iff,hsl];omega)
      have O5:uF row (tV G k ts):=by
       subst oN
       refine⟨rfl,by rw[hpt];simp,fun i c hi hc=>aJ.of_eq ?_⟩
       show oW (uY (mG (gE G k ts))) i c=_
       unfold oW
       rw[←hpt,if_pos hi]
      have aGI:zK G (k,ts,b)=some (k,tV G k ts,b):=by
       unfold zK
       rw[show(gE G (k,ts,b).1 (k,ts,b).2.1).isEmpty=false by
        show(gE G k ts).isEmpty=false
        cases hq:gE G k ts with
        |nil=>exact absurd hq hnz
        |cons _ _=>rfl]
       rfl
      have jE:=tJ (G:=G) hE.nodup he hns
      rw[aGI]at jE
      have jE:fF G E (b::sn)=(fF G E sn).modify j fun _=>(k,tV G k ts,b):=jE
      obtain⟨d1,d2,d3,d4⟩:=w5 (h:={h with it:=some (bi,q.born::sn)}) (v:=v) ha nS O5 aL5
      have aGL:(fF G E sn).modify j (fun e=>(e.1,tV G k ts,e.2.2))=(fF G E sn).modify j fun _=>(k,tV G k ts,b):=by
       apply List.ext_getElem?
       intro i
       rw[List.getElem?_modify,List.getElem?_modify]
       by_cases EK:j=i
       ·subst EK
        rw[he];rfl
       ·simp[EK]
      refine⟨(b::sn,eH {h with l:=cL h.l j,it:=some (bi,q.born::sn)} (bs k) v (some row)),⟨?_,d2.trans M8,d3.trans jC,d4.trans (by rw[aEY])⟩,NH hE pR hns,?_⟩
      ·show dX (eH {h with l:=cL h.l j,it:=some (bi,q.born::sn)} (bs k) v (some row)).l (fF G E (b::sn))
       rw[jE,←aGL]
       exact d1
      ·exact HSub.of (eS.of [] (by rw[aA];rfl) rfl ⟨bQ,bQ,oO⟩ ⟨qZ,⟨rfl,aM.of_eq (by rw[d2];rfl)⟩,qZ,oO⟩)
end Go.Pj
--K22
namespace Go.Ax
def LeE:List (ByteArray×Nat×DV)→List (ByteArray×Nat×DV)→Prop
 |[],[]=>True
 |(k,b,x)::r,(k',b',y)::s=>k=k'∧b=b'∧aJ x y∧LeE r s
 |_,_=>False
theorem LeE.iD:∀{l m:List (ByteArray×Nat×DV)} {vs:List Value},LeE l m→k8 l vs=k8 m vs
 |[],[],_,_=>rfl
 |(k,b,x)::r,(k',b',y)::s,[],⟨h1,h2,_,h⟩=>rfl
 |(k,b,x)::r,(k',b',y)::s,v::vs,⟨h1,h2,_,h⟩=>by
  subst h1 h2
  simp only [k8]
  rw[LeE.iD h]
 |[],_::_,_,h=>h.elim
 |_::_,[],_,h=>h.elim
theorem LeE.rep{M:Mem}:∀{l m:List (ByteArray×Nat×DV)} {vs:List Value},LeE l m→uU M l vs→uU M m vs
 |[],[],_,_,r=>r
 |(k,b,x)::r,(k',b',y)::s,v::vs,⟨_,_,h3,h⟩,hr=>⟨h3 M v hr.1,LeE.rep h hr.2⟩
 |(k,b,x)::r,(k',b',y)::s,[],_,hr=>hr.elim
 |[],_::_,_,h,_=>h.elim
 |_::_,[],_,h,_=>h.elim
theorem aQ.dm{l m:List (ByteArray×Nat×DV)}{n n':Nat}(hn:n=n')(h:LeE l m):aQ (.dm l n) (.dm m n'):=by
 subst hn
 rintro M β w x ⟨b,c,vs,h1,h2,h3⟩
 exact⟨b,c,vs,h1,by rw[←h.iD];exact h2,h.rep h3⟩
end Go.Ax
namespace Go.Pj
open Go Go.Ax Go.Ch Go.Proofs Go.Proofs.Tryz
set_option maxRecDepth 100000
set_option maxHeartbeats 1000000
def aBE(ts:List bG):DV:=.fJ ts.length 14 (dN ts)
def L9(E:List gM):List (ByteArray×Nat×DV):=E.map fun e=>(bs e.1,e.2.2,aBE e.2.1)
def sL(l:List Fact):List gM:=PK (o8 l l.length) (gP l l.length)
def FL(l:List Fact):List (ByteArray×Nat×DV):=L9 (sL l)
theorem dX.le:∀{l:List bF} {E:List gM},dX l E→LeE (dmL 14 l) (L9 E)
 |[],[],_=>trivial
 |q::r,e::s,h=>by
  obtain⟨hq,ht⟩:=h
  obtain⟨r0,hr,fT⟩:=hq.row
  refine⟨hq.key,hq.born,?_,dX.le ht⟩
  unfold dmV
  rw[hr]
  exact aJ.xL fT.n fun i j hi hj=>fT.f i j (by rw[←fT.n];exact hi) hj
 |[],_::_,h=>h.elim
 |_::_,[],h=>h.elim
theorem dX.rows:∀{l:List bF} {E:List gM},dX l E→∀q∈l,(∃r,q.row=some r∧r.lo=0)∨(q.row=none∧q.val=.slice none 0 0)
 |[],[],_,q,hq=>by cases hq
 |q::r,e::s,h,x,hx=>by
  rcases List.mem_cons.1 hx with rfl|hx
  ·obtain⟨r0,hr,fT⟩:=h.1.row
   exact .inl ⟨r0,hr,fT.lo⟩
  ·exact dX.rows h.2 x hx
 |[],_::_,h,_,_=>h.elim
 |_::_,[],h,_,_=>h.elim
theorem YR(l:List Fact)(hf:∀f∈l,f.fits)(hv:∀f∈l,fA f=0)(hl:l.length≤200):bM prog 176 [jF l] [] (.s (.mp 99)) [(99,.dm (FL l) (gP l l.length).length)]:=by
 refine gT func176 rfl rfl call176 aK rfl rfl rfl rfl (fun cx aA=>AW.CI ?_)
 have aA:cx.ref=[]:=aA
 refine sA aA [] fun _ h'=>?_
 refine sA aA [] fun _ h'=>?_
 refine bI.seq (bI.region (bD.op rfl (nE.mk (e:=254) (s:=14) rfl rfl dC fun bm=>bD.some (rc:=[]) aK 1 aA [18,3] rfl rfl (bD.nil ?_))))
 refine bI.seq (sA aA [18,3] fun _ h'=>?_)
 refine bI.block ?_
 refine bI.loop (S:=Nat×HM) (fun s=>⟨[(3,.s (.ptr 3 0)),(4,dG s.2.bm),(20,jF l),(21,vI l.length),(22,vI s.1)],[(3,some (.cells [.mp 18])),(18,some (.smap .int (o8 l s.1)))]⟩) (fun s=>hid 254 14 s.2) (J1 l) (fun s=>l.length - s.1) (0,⟨bm,[],0,none⟩) ⟨Nat.zero_le _,trivial,rfl,rfl⟩ ?_ ?_
 ·exact HSub.of (eS.of [] (by rw[aA];rfl) rfl ⟨bQ,bQ,oO⟩ ⟨qZ,qZ,qZ,qZ,qZ,oO⟩)
 ·rintro⟨i,h⟩ ⟨hi,ha,jC,hit⟩
  have hi:i≤l.length:=hi
  have ha:dX h.l (gP l i):=ha
  have jC:h.clock=(gP l i).length:=jC
  have hit:h.it=none:=hit
  refine sA aA [3,18] fun _ h'=>?_
  refine bI.seq (bI.cond ?_)
  refine aI (fun g=>bI.skip ?_) (fun g=>bI.exit ?_)
  ·have g:(i:Int)<l.length:=cB g
   have bN:i<l.length:=oM
   have hg:l.getD i default=l[i]:=bA bN
   have nK:(l.getD i default).fits:=by rw[hg];exact hf _ (List.getElem_mem bN)
   have aAH:fA (l.getD i default)=0:=by rw[hg];exact hv _ (List.getElem_mem bN)
   have hG:=WQ bN
   have hE:=r8 bN
   have ew:aU ((i:Int)+1)=((i+1:Nat):Int):=aG oM oM
   generalize hF:l.getD i default=f at nK aAH hG hE
   refine bI.seq (bI.block ?_)
   refine sA aA [3,18] fun _ h'=>?_
   refine oi ⟨oM,oM⟩ ?_
   refine bI.sub (σ':=⟨[(3,.s (.ptr 3 0)),(4,dG h.bm),(6,.s (.ptr 6 0)),(20,jF l),(21,vI l.length),(22,vI i)],[(3,some (.cells [.mp 18])),(18,some (.smap .int (o8 l i))),(6,some (.cells (tG f)))]⟩) (HSub.of (eS.of [] (by rw[aA];rfl) rfl ⟨bQ,bQ,⟨rfl,aQ.of_eq (by rw[←hF];rfl)⟩,oO⟩ ⟨qZ,qZ,qZ,qZ,qZ,qZ,oO⟩)) ?_
   refine sA aA [3,18,6] fun _ h'=>?_
   refine aB (Key f nK) ?_
   refine bI.seq (sA aA [3,18,6] fun _ h'=>?_)
   refine aB (X2 (dR f) wdB) ?_
   refine sA aA [3,18,6] fun _ h'=>?_
   refine bI.cond ?_
   refine aI (fun g2=>?_) (fun g2=>?_)
   ·have g2:OV f=true:=g2
    have hG2:o8 l (i+1)=jG (o8 l i) (bs (Lib.trimPrefix (dR f) wdB)) (mm true (jB (o8 l i) (bs (Lib.trimPrefix (dR f) wdB))) (aU (f.seq+1))):=by rw[hG];unfold stepG;rw[g2];rfl
    have R2:gP l (i+1)=gP l i:=by rw[hE];unfold C8;rw[g2];rfl
    refine eA aA [3,18,6] fun _ h'=>?_
    refine eA aA [3,18,6] fun _ h'=>?_
    refine⟨(i+1,h),⟨by show i+1≤l.length;omega,by rw[R2];exact ha,by rw[R2];exact jC,hit⟩,by show l.length - (i+1)<l.length - i;omega,?_⟩
    exact(HSub.of (eS.of [] (by rw[aA];rfl) rfl ⟨bQ,⟨rfl,aQ.of_eq (by show jM.smap .int _=jM.smap .int (o8 l (i+1));rw[hG2])⟩,oO⟩ ⟨qZ,qZ,qZ,qZ,⟨rfl,aM.int ew⟩,oO⟩))
   ·have g2:OV f=false:=g2
    have hG2:o8 l (i+1)=o8 l i:=by rw[hG];unfold stepG;rw[g2];rfl
    have R2:gP l (i+1)=oR (gP l i) (dR f) (eI f):=by rw[hE];unfold C8;rw[g2];rfl
    refine bI.skip ?_
    refine sA aA [3,18,6] fun _ h'=>?_
    refine aB (aD5 f nK) ?_
    refine bI.sub (σ':=⟨[(3,.s (.ptr 3 0)),(4,dG h.bm),(7,vT (dR f)),(11,.s (.ptr 11 0)),(12,vT (eI f)),(20,jF l),(21,vI l.length),(22,vI i)],[(3,some (.cells [.mp 18])),(18,some (.smap .int (o8 l i))),(11,some (.cells (tG (eG f))))]⟩) (HSub.of (eS.of [] (by rw[aA];rfl) rfl ⟨bQ,bQ,bQ,oO⟩ ⟨qZ,qZ,qZ,qZ,qZ,qZ,qZ,qZ,oO⟩)) ?_
    refine bI.region (bD.some (rc:=[]) aK 4 aA [3,18,11] rfl rfl (bD.op rfl (nE.look (k:=bs (dR f)) rfl rfl dC rfl rfl rfl underlying250 underlying9 zeroValue255 ?_)))
    cases x4:fE (gP l i) (dR f) 0 with
    |none=>
     have tA:=rX ha x4
     rw[tA]
     refine bD.some (rc:=[]) aK 5 aA [3,18,11] rfl rfl ?_
     refine ob dC ?_
     refine ob dC ?_
     refine bD.op rfl (nE.YK (b:=60) (k:=bs (dR f)) (n:=1) (n':=1) (lo:=0) aA rfl rfl rfl rfl (.inl ⟨rfl,rfl,rfl⟩) rfl dC underlying250 underlying9 (fun _=>hit) (fun g cap v=>bD.nil ?_))
     generalize oN:(⟨g,0+1,cap,0,_⟩:l0)=row
     have oP:uF row [eI f]:=by
      subst oN
      refine⟨rfl,rfl,fun a c ha hc=>?_⟩
      obtain rfl:a=0:=by have:a<1:=ha;omega
      exact toldRow f c hc
     obtain⟨s1,s2,s3,s4⟩:=K8 (v:=v) ha jC tA oP sM
     have G5:oR (gP l i) (dR f) (eI f)=gP l i++ [(dR f,[eI f],(gP l i).length)]:=by unfold oR;rw[x4]
     refine bI.sub (σ':=⟨[(3,.s (.ptr 3 0)),(4,dG h.bm),(20,jF l),(21,vI l.length),(22,vI i)],[(3,some (.cells [.mp 18])),(18,some (.smap .int (o8 l i)))]⟩) (HSub.of (eS.of [] (by rw[aA];rfl) rfl ⟨bQ,bQ,oO⟩ ⟨qZ,qZ,qZ,qZ,qZ,oO⟩)) ?_
     refine eA aA [3,18] fun _ h'=>?_
     refine⟨(i+1,eH h (bs (dR f)) v (some row)),⟨by show i+1≤l.length;omega,by rw[R2,G5];exact s1,by rw[R2,G5,List.length_append];exact s3,s4.trans hit⟩,by show l.length - (i+1)<l.length - i;omega,?_⟩
     exact(HSub.of (eS.of [] (by rw[aA];rfl) rfl ⟨bQ,⟨rfl,aQ.of_eq (by show jM.smap .int _=jM.smap .int (o8 l (i+1));rw[hG2])⟩,oO⟩ ⟨qZ,⟨rfl,aM.of_eq (by show dG h.bm=dG (eH h (bs (dR f)) v (some row)).bm;rw[s2])⟩,qZ,qZ,⟨rfl,aM.int ew⟩,oO⟩))
    |some p=>
     obtain⟨j,e⟩:=p
     obtain⟨q,tA,hq⟩:=pD ha x4
     have tA:cT h.l (bs (dR f)) 0=some (j,q):=tA
     obtain⟨_,EL,hek⟩:=yX x4
     have EL:(gP l i)[j]? =some e:=EL
     obtain⟨r,WI,oP⟩:=hq.row
     have hsm:=nP (l:=l) (i:=i) (List.mem_of_getElem? EL)
     rw[tA]
     show match q.row with|some r=>_|none=>_
     rw[WI]
     obtain⟨g,n,cap,lo,F⟩:=r
     obtain rfl:lo=0:=oP.lo
     obtain rfl:n=e.2.1.length:=oP.n
     have hFF:∀a c,a<e.2.1.length→c<14→aJ (F a c) (dN e.2.1 a c):=oP.f
     refine bD.some (rc:=[]) aK 5 aA [3,18,11,55] rfl rfl ?_
     refine ob (show(e.2.1.length+1)*160≤140737488355328 by omega) ?_
     refine ob (mT fun c hc=>aCF f c hc) ?_
     refine bD.op rfl (nE.YK (b:=60) (k:=bs (dR f)) (n:=e.2.1.length+1) (n':=e.2.1.length+1) (lo:=0) aA rfl rfl rfl rfl (.inl ⟨rfl,rfl,rfl⟩) rfl (Nat.succ_pos _) underlying250 underlying9 (fun _=>hit) (fun g2 QC v=>bD.nil ?_))
     generalize oN:(⟨g2,0+(e.2.1.length+1),QC,0,_⟩:l0)=row
     have O5:uF row (e.2.1++ [eI f]):=by
      subst oN
      refine⟨rfl,sM,fun a c hA hc=>?_⟩
      by_cases hae:a<e.2.1.length
      ·rw[show dN (e.2.1++ [eI f]) a c=dN e.2.1 a c by
        unfold dN
        simp only [List.getD_eq_getElem?_getD,List.getElem?_append_left hae]]
       show aJ (kM e.2.1.length F _ a c) _
       rw[UW hae]
       exact hFF a c hae hc
      ·obtain rfl:a=e.2.1.length:=by simp at hA;omega
       rw[show dN (e.2.1++ [eI f]) e.2.1.length c=lH (eI f) c by
        unfold dN
        simp]
       show aJ (kM e.2.1.length F _ e.2.1.length c) _
       rw[UX]
       exact toldRow f c hc
     obtain⟨s1,s2,s3,s4⟩:=w5 (v:=v) ha tA O5 sM
     have G5:oR (gP l i) (dR f) (eI f)=(gP l i).modify j fun e'=>(e'.1,e.2.1++ [eI f],e'.2.2):=by
      unfold oR
      rw[x4]
      show(gP l i).modify j _=(gP l i).modify j _
      apply List.ext_getElem?
      intro a
      rw[List.getElem?_modify,List.getElem?_modify]
      by_cases hja:j=a
      ·subst hja
       rw[EL];rfl
      ·simp[hja]
     refine bI.sub (σ':=⟨[(3,.s (.ptr 3 0)),(4,dG h.bm),(20,jF l),(21,vI l.length),(22,vI i)],[(3,some (.cells [.mp 18])),(18,some (.smap .int (o8 l i)))]⟩) (HSub.of (eS.of [] (by rw[aA];rfl) rfl ⟨bQ,bQ,oO⟩ ⟨qZ,qZ,qZ,qZ,qZ,oO⟩)) ?_
     refine eA aA [3,18] fun _ h'=>?_
     refine⟨(i+1,eH {h with l:=cL h.l j} (bs (dR f)) v (some row)),⟨by show i+1≤l.length;omega,by rw[R2,G5];exact s1,by rw[R2,G5,List.length_modify];exact s3.trans jC,s4.trans hit⟩,by show l.length - (i+1)<l.length - i;omega,?_⟩
     exact(HSub.of (eS.of [] (by rw[aA];rfl) rfl ⟨bQ,⟨rfl,aQ.of_eq (by show jM.smap .int _=jM.smap .int (o8 l (i+1));rw[hG2])⟩,oO⟩ ⟨qZ,⟨rfl,aM.of_eq (by show dG h.bm=dG (eH {h with l:=cL h.l j} (bs (dR f)) v (some row)).bm;rw[s2])⟩,qZ,qZ,⟨rfl,aM.int ew⟩,oO⟩))
  ·have g:¬(i:Int)<l.length:=cD g
   obtain rfl:i=l.length:=oM
   refine bI.sub (σ':=⟨[(3,.s (.ptr 3 0)),(4,dG h.bm)],[(3,some (.cells [.mp 18])),(18,some (.smap .int (o8 l l.length)))]⟩) (HSub.of (eS.of [] (by rw[aA];rfl) rfl ⟨bQ,bQ,oO⟩ ⟨qZ,qZ,oO⟩)) ?_
   refine VG aA (o8 l l.length) (gP l l.length) (tK l _) (fun e he=>Nat.le_trans (nP he) hl) h ha jC _ (fun h2 ha2 H7=>?_)
   refine bI.sub (HSub.aCX (x:=99) (t:=2) ha2.rows rfl rfl) ?_
   refine bI.sub (σ':=⟨[(2,.s (.mp 99))],[(99,some (.dm (FL l) (gP l l.length).length))]⟩) (HSub.of (eS.of [] (by rw[aA];rfl) rfl ⟨⟨rfl,aQ.dm H7 ha2.le⟩,oO⟩ ⟨qZ,oO⟩)) ?_
   refine bI.ret ?_
   exact⟨aM.rfl,rfl,oO⟩
end Go.Pj
namespace Go.Pj
open Go Go.Ax Go.Ch Go.Proofs Go.Proofs.Tryz Go.Sort Go.RowKit
theorem L1{w:World}{g n:Nat}{os:Array Obj}{cur:Array Value}{e:TypeId}{fr:Nat×Nat}(d:Array bG)(hb:w.heap[g]? =some (.cells cur e fr)):
  (grow (putRow encStr (Sort.ahead w n) g 0 d) os).heap[g]? =some (.cells (putCells encStr 0 d cur) e fr):=by
 have hg:g<w.heap.size:=(Array.getElem?_eq_some_iff.1 hb).1
 rw[heap_grow_old _ _ (by simpa using hg)]
 simp[putRow,mapBlock,Sort.ahead,Array.getElem?_modify,hb,onCells]
theorem yP{w:World}{g n k:Nat}{os:Array Obj}(d:Array bG)(hk:k<w.heap.size)(h:k≠g):
  (grow (putRow encStr (Sort.ahead w n) g 0 d) os).heap[k]? =w.heap[k]? :=by
 rw[heap_grow_old _ _ (by simpa using hk)]
 simp[putRow,mapBlock,Sort.ahead,Array.getElem?_modify,Ne.symm h]
theorem IF{cur:Array Value}{m:List bG}{i:Nat}(hi:i<m.length)(hc:i<cur.size):(putCells encStr 0 m.toArray cur)[i]? =some (.string (bs (m.getD i []))):=by
 unfold putCells
 rw[Array.getElem?_mapIdx]
 simp[hc,hi,encStr,bs]
theorem vJ(l:List bG):(mG l).length=l.length:=by unfold mG;simp
theorem aKZ(l:List bG)(f0:Nat→Nat→DV)(UB:∀i j,i<l.length→j<1→aJ (f0 i j) (sJ l i j))(hl:l.length≤1000000):
  bM prog 223 [.s (.own 1001)] [(1001,.row 9 l.length 1 f0)] (.t []) [(1001,.row 9 l.length 1 (sJ (mG l)))]:=by
 refine⟨call223,fun M β w vs _ hr hM qE hβ=>?_⟩
 obtain⟨b,c,cur,hx,h1,h2,h3,h4,h5,h6⟩:=qE.rep 1001 _ (List.mem_singleton.2 rfl)
 match vs,hr with
 |[v],⟨hv,_⟩=>
  obtain⟨b',c',O1,T6,PD⟩:=hv
  rw[hx]at O1
  cases O1
  subst T6
  have lT:cur.size=c.1:=by rw[h3,Nat.mul_one]
  have cN:∀j,j<l.length→cur[j]? =some (.string (bs (l.getD j []))):=by
   intro j hj
   obtain⟨u,e1,e2⟩:=h6 j 0 hj dC
   rw[Nat.mul_one,Nat.add_zero]at e1
   have:u=.string (bs (l.getD j [])):=UB j 0 hj dC M u e2
   rw[e1,this]
  have hH:Holds encStr w b 0 l.toArray:=by
   intro j hj
   have hj:j<l.length:=by simpa using hj
   refine⟨?_,by simp[World.frozen?,h1]⟩
   simp only [World.cell?,h1,Nat.zero_add,Option.isSome_none,Bool.false_eq_true,if_false]
   rw[cN j hj]
   simp[hj,encStr,bs]
  have hb:b<w.heap.size:=(Array.getElem?_eq_some_iff.1 h1).1
  rw[h2]
  refine(Tryz.slices_Sort_string b 0 c.1 l w hH hb oM).mono ?_
  rintro e w' ⟨he,n,os,hw⟩
  have hw:w'=grow (putRow encStr (Sort.ahead w n) b 0 (mG l).toArray) os:=hw
  have hlen:(mG l).length=l.length:=vJ l
  have oN:=L1 (w:=w) (n:=n) (os:=os) (mG l).toArray h1
  have aAM:∀k,k<w.heap.size→k≠b→w'.heap[k]? =w.heap[k]? :=fun k hk hV=>by rw[hw];exact yP _ hk hV
  rw[←hw]at oN
  have hs:w.heap.size≤w'.heap.size:=by rw[hw];simp[putRow,mapBlock,Sort.ahead]
  have iT:∀x,x∈names [(1001,jM.row 9 l.length 1 (sJ (mG l)))]→x=1001:=fun x hx=>List.mem_singleton.1 hx
  refine⟨.tuple #[],M,β,he,Nm.le_refl β,⟨[],rfl,oO⟩,Grow.refl _ _,?_,⟨?_,?_,?_,?_⟩,?_,?_,?_,?_,hs,?_,oO⟩
  ·intro b2 o u hu
   have hV:b2≠b:=fun h=>by
    subst h
    have:=qE.apart 1001 b2 c (List.mem_singleton.2 rfl) hx o
    rw[this]at hu;cases hu
   have hold:=hM b2 o u hu
   have hb2:b2<w.heap.size:=World.block_lt_of_cell? w ⟨b2,o,none⟩ hold
   simp only [World.cell?]at hold ⊢
   rw[aAM b2 hb2 hV]
   exact hold
  ·intro x h
   rw[iT x h];exact⟨b,c,hx⟩
  ·intro x bx h
   obtain⟨rfl,rfl⟩:=Prod.mk.inj (List.mem_singleton.1 h)
   refine⟨b,c,_,hx,oN,h2,by simp[putCells,h3],h4,h5,fun i j hi hj=>?_⟩
   obtain rfl:j=0:=oM
   refine⟨.string (bs ((mG l).getD i [])),?_,rfl⟩
   rw[Nat.mul_one,Nat.add_zero]
   exact IF oM oM
  ·intro x y b1 c1 c2 hx1 hy1 _ _
   rw[iT x hx1,iT y hy1]
  ·intro x b1 c1 h e o
   rw[iT x h]at e
   rw[hx]at e
   cases e
   exact qE.apart 1001 b c (List.mem_singleton.2 rfl) hx o
  ·intro x b1 c1 h e
   rw[iT x h]at e
   exact .inr ⟨1001,c1,e⟩
  ·rw[hw];rfl
  ·rw[hw];rfl
  ·rw[hw];rfl
  ·intro k hk hV
   exact aAM k hk (fun h=>hV 1001 c (by rw[h];exact hx))
 |[],h=>exact h.elim
 |_::_::_,h=>exact h.2.elim
theorem aB8:aF prog 223 [.s (.d (.val (.slice none 0 0)))] (.t []):=by
 refine⟨call223,fun M w vs _ hr hM=>?_⟩
 match vs,hr with
 |[v],⟨hv,_⟩=>
  have hv:v=.slice none 0 0:=hv
  subst hv
  refine(Tryz.slices_Sort_string_none none 0 w).mono ?_
  rintro e w' ⟨he,rfl⟩
  exact⟨.tuple #[],M,he,⟨[],rfl,oO⟩,Grow.refl _ _,hM,⟨⟨rfl,rfl,rfl,Nat.le_refl _,fun _ _=>rfl⟩,oO⟩⟩
 |[],h=>exact h.elim
 |_::_::_,h=>exact h.2.elim
abbrev M4:=ByteArray×Nat×DV
def kT(q:M4):bG:=q.1.data.toList
def OO(L:List M4):List bG:=mG (L.map kT)
structure DOK(L:List M4)(n:Nat):Prop where
 lt:∀q∈L,q.2.1<n
 nd:(L.map (·.2.1)).Nodup
theorem born_inj{L:List M4}(hn:(L.map (·.2.1)).Nodup){q v:M4}(hq:q∈L)(hv:v∈L)(h:q.2.1=v.2.1):q=v:=by
 induction L with
 |nil=>cases hq
 |cons a r ih=>
  have hn':=List.nodup_cons.1 (show(a.2.1::r.map (·.2.1)).Nodup from hn)
  rcases List.mem_cons.1 hq with rfl|hq'
  ·rcases List.mem_cons.1 hv with rfl|T6
   ·rfl
   ·exact absurd (List.mem_map.2 ⟨v,T6,h.symm⟩) hn'.1
  ·rcases List.mem_cons.1 hv with rfl|T6
   ·exact absurd (List.mem_map.2 ⟨q,hq',h⟩) hn'.1
   ·exact ih hn'.2 hq' T6
theorem GA{L:List M4}(hn:(L.map (·.2.1)).Nodup):L.Nodup:=by
 have:=List.pairwise_map.1 hn
 exact this.imp fun {a b} h e=>h (by rw[e])
theorem all_seen{L vs:List M4}(hn:(L.map (·.2.1)).Nodup)(hv:(vs.map (·.2.1)).Nodup)(hs:∀v∈vs,v∈L)(ha:∀q∈L,q.2.1∈vs.map (·.2.1)):vs.Perm L:=by
 have n1:vs.Nodup:=GA hv
 have n2:L.Nodup:=GA hn
 refine(List.perm_ext_iff_of_nodup n1 n2).2 fun q=>⟨hs q,fun hq=>?_⟩
 obtain⟨v,T6,e⟩:=List.mem_map.1 (ha q hq)
 rw[born_inj hn hq (hs v T6) e.symm];exact T6
theorem VH{a b:List bG}(h:a.Perm b):mG a=mG b:=by
 refine(vH b (mG a) ((List.mergeSort_perm _ _).trans h) ?_)
 have:=List.pairwise_mergeSort (le:=fun x y:bG=>decide (x≤y)) (fun a b c h1 h2=>by
  simp only [decide_eq_true_eq]at*;exact List.le_trans h1 h2) (fun a b=>by
  simp only [Bool.or_eq_true,decide_eq_true_eq];exact List.le_total a b) a
 refine this.imp fun {x y} h=>?_
 rw[ltB,decide_eq_false_iff_not]
 exact List.not_lt.2 (by simpa using h)
theorem Q1(L:List M4)(n:Nat)(h:DOK L n)(hl:L.length≤1000000):bM prog 177 [.s (.mp 1001)] [(1001,.dm L n)] (.s (.d (MI (OO L)))) [(1001,.dm L n)]:=by
 refine kN func177 rfl rfl call177 aK rfl rfl rfl rfl (fun cx aA=>?_)
 refine sX aA ?_
 refine sX aA ?_
 refine AW.seq (sX aA ?_)
 refine AW.block ?_
 refine AW.cZ (fun vs:List M4=>⟨[(3,.s (.mo (vs.reverse.map kT).isEmpty 100)),(6,.s (.ptr 6 0))],[(1001,some (.dm L n)),(6,some (.iter 1001 n (vs.map (·.2.1)))),(100,some (.bW 9 (vs.reverse.map kT).length 1 (sJ (vs.reverse.map kT))))]⟩)
  (fun vs=>(vs.map (·.2.1)).Nodup∧∀v∈vs,v∈L) (fun vs=>L.length - vs.length) [] ⟨List.nodup_nil,fun _ h=>by cases h⟩ ?_ ?_
 ·exact aP.of [(100,1000)] (by rw[aA];rfl) rfl ⟨bQ,bQ,⟨rfl,rfl⟩,oO⟩ ⟨⟨rfl,aM.nil rfl⟩,qZ,oO⟩
 ·rintro vs ⟨hv,hs⟩
  refine sX aA ?_
  refine⟨rfl,h.lt,fun lE=>?_,fun q hq hns=>?_⟩
  ·have hp:=all_seen h.nd hv hs lE
   have he:mG (vs.reverse.map kT)=OO L:=VH (((List.reverse_perm vs).trans hp).map kT)
   have hlen:(vs.reverse.map kT).length=L.length:=by simp[hp.length_eq]
   refine sX aA ?_
   generalize hks:vs.reverse.map kT=ks at he hlen
   cases hz:ks.isEmpty with
   |true=>
    refine AW.fU (σ':=⟨[(3,.s (.d (.val (.slice none 0 0))))],[(1001,some (.dm L n))]⟩) (aP.of [] (by rw[aA];rfl) rfl ⟨bQ,oO⟩ ⟨⟨rfl,aM.YN rfl⟩,oO⟩) ?_
    refine sX aA ?_
    refine aB (aB8) ?_
    refine eX aA ?_
    have:ks=[]:=by simpa using hz
    refine⟨?_,rfl,oO⟩
    rw[←he,this,show mG []=[] by simp[mG]]
    exact fun M u r=>(aM.d aJ.nil:aM (.s (.d dK)) (.s (.d (MI [])))) M nb u r
   |false=>
    refine AW.fU (aP.own (z:=false) (e:=9) (n:=ks.length) (s:=1) (f:=sJ ks) 3 100 rfl rfl rfl) ?_
    refine AW.fU (σ':=⟨[(3,.s (.own 100))],[(1001,some (.dm L n)),(100,some (.row 9 ks.length 1 (sJ ks)))]⟩) (aP.of [] (by rw[aA];rfl) rfl ⟨bQ,bQ,oO⟩ ⟨qZ,oO⟩) ?_
    refine AW.seq (ex.sound (rc:=[223]) aK mix aA _ ?_)
    refine⟨[(1001,100)],_,_,_,_,aKZ ks (sJ ks) (fun _ _ _ _=>fun _ _ r=>r) oM,rfl,⟨rfl,oO⟩,rfl,?_⟩
    refine eX aA ?_
    refine⟨aC.of_eq ?_,rfl,oO⟩
    rw[he,show ks.length=(OO L).length by rw[←he,vJ]]
    rfl
  ·have fR:vs.length<L.length:=by
    have h1:(q::vs).Nodup:=GA (L:=q::vs) (List.nodup_cons.2 ⟨hns,hv⟩)
    have:=List.Nodup.length_le_of_subset h1 (fun x hx=>by
     rcases List.mem_cons.1 hx with rfl|hx
     ·exact hq
     ·exact hs x hx:q::vs⊆L)
    simp at this
    omega
   refine sX aA ?_
   refine AW.block (sX aA ?_)
   refine⟨rfl,h.nd,q,hq,rfl,?_⟩
   refine eX aA ?_
   refine ob dC ?_
   refine ob (by rw[dW];show((vs.reverse.map kT).length+1)*16≤_;simp;omega) ?_
   refine ob (mT (xO rfl)) ?_
   refine⟨q::vs,⟨List.nodup_cons.2 ⟨hns,hv⟩,fun x hx=>?_⟩,by show L.length - (vs.length+1)<L.length - vs.length;omega,?_⟩
   ·rcases List.mem_cons.1 hx with rfl|hx
    ·exact hq
    ·exact hs x hx
   ·have e:(q::vs).reverse.map kT=vs.reverse.map kT++ [kT q]:=sM
    refine aP.of [(100,14)] (by rw[aA];rfl) rfl ⟨bQ,bQ,⟨rfl,?_⟩,oO⟩ ⟨⟨rfl,aM.mo ?_⟩,qZ,oO⟩
    ·show aQ _ (.bW 9 ((q::vs).reverse.map kT).length 1 (sJ ((q::vs).reverse.map kT)))
     rw[e]
     exact aQ.snoc (el:=fun n _=>dT n) (x:=kT q) (xO rfl)
    ·rw[e];exact b9 _ _
end Go.Pj
namespace Go.Pj
open Go Go.Ax Go.Ch Go.Proofs Go.Proofs.Tryz
theorem UG(G:List (ByteArray×Int))(E:List gM):PK G E=fF G E (E.map (·.2.2)):=by
 refine(KK fun e he=>?_).symm
 obtain⟨e',IP,_,hb⟩:=nO he
 rw[hb]
 simpa using⟨_,_,IP⟩
theorem VE(l:List Fact):((sL l).map (·.1)).Nodup:=by
 unfold sL;rw[UG];exact yZ (tK l _).keys
theorem aCM(l:List Fact):((sL l).map (·.2.2)).Nodup:=by
 unfold sL;rw[UG];exact wM (tK l _).nodup
theorem FM{l:List Fact}{x:gM}(h:x∈sL l):∃e∈gP l l.length,x.1=e.1∧x.2.2=e.2.2∧x.2.1=tV (o8 l l.length) e.1 e.2.1∧x.2.1≠[]:=by
 obtain⟨e,he,hx⟩:=List.mem_filterMap.1 h
 unfold zK at hx
 cases hk:(gE (o8 l l.length) e.1 e.2.1).isEmpty with
 |true=>rw[hk]at hx;cases hx
 |false=>
  rw[hk]at hx
  cases hx
  refine⟨e,he,rfl,rfl,rfl,aBC fun hz=>?_⟩
  have:gE (o8 l l.length) e.1 e.2.1=[]:=by
   rw[←List.length_eq_zero_iff,←vJ,hz];rfl
  rw[this]at hk;cases hk
theorem NN{l:List Fact}{x:gM}(h:x∈sL l):0<x.2.1.length∧x.2.1.length≤l.length:=by
 obtain⟨e,he,_,_,hp,hV⟩:=FM h
 refine⟨List.length_pos_iff.2 hV,?_⟩
 rw[hp]
 refine Nat.le_trans (aDZ _ _) ?_
 rw[vJ]
 exact Nat.le_trans (List.length_filter_le _ _) (nP he)
theorem aCJ(l:List Fact):DOK (FL l) (gP l l.length).length:=by
 refine⟨fun q hq=>?_,?_⟩
 ·obtain⟨x,hx,rfl⟩:=List.mem_map.1 hq
  obtain⟨e,he,_,hb,_⟩:=FM hx
  obtain⟨i,hi⟩:=List.getElem?_of_mem he
  show x.2.2<_
  rw[hb,(tK l _).born i e hi]
  exact(List.getElem?_eq_some_iff.1 hi).1
 ·unfold FL L9
  rw[List.map_map]
  exact aCM l
theorem WU(E:List gM):(L9 E).map kT=E.map (·.1):=by
 unfold L9
 rw[List.map_map]
 exact List.map_congr_left fun e _=>BJ e.1
theorem KG:∀(E:List gM) (k:bG) (i:Nat),findD (L9 E) (bs k)=(fE E k i).map fun p=>aBE p.2.2.1
 |[],_,_=>rfl
 |e::r,k,i=>by
  show(bif bs k==bs e.1 then _ else _)=_
  rw[fE]
  have:(bs k==bs e.1)=(k==e.1):=tP k e.1
  rw[this]
  cases k==e.1 with
  |true=>rfl
  |false=>exact KG r k (i+1)
def GK(E:List gM)(k:bG):bG:=match fE E k 0 with
 |some p=>p.2.2.1.getD (p.2.2.1.length - 1) []
 |none=>[]
def qC(l:List Fact):List bG:=mG ((sL l).map (·.1))
theorem aCK(l:List Fact):OO (FL l)=qC l:=by unfold OO qC FL;rw[WU]
def cntF(l:List Fact):List Fact:=(qC l).map fun k=>tT (GK (sL l) k)
theorem JA{l:List Fact}{k:bG}(h:k∈qC l):∃j e,fE (sL l) k 0=some (j,e)∧e∈sL l:=by
 have h1:k∈(sL l).map (·.1):=(List.mergeSort_perm _ _).mem_iff.1 h
 obtain⟨e,he,rfl⟩:=List.mem_map.1 h1
 obtain⟨j,hj⟩:=List.getElem?_of_mem he
 exact⟨_,e,aAZ (VE l) hj,he⟩
theorem aB5(E:List gM)(k t:bG):(oR E k t).length≤E.length+1:=by
 unfold oR
 split <;> simp
theorem y1(l:List Fact):∀i,(gP l i).length≤i
 |0=>Nat.le_refl _
 |i+1=>by
  have ih:=y1 l i
  by_cases h:i<l.length
  ·rw[r8 h]
   unfold C8
   cases OV (l.getD i default)with
   |true=>exact Nat.le_trans ih (Nat.le_succ _)
   |false=>exact Nat.le_trans (aB5 _ _ _) oM
  ·have:gP l (i+1)=gP l i:=by
    unfold gP
    rw[List.take_of_length_le oM,List.take_of_length_le oM]
   rw[this];omega
theorem NM(l:List Fact):(qC l).length≤l.length:=by
 unfold qC
 rw[vJ,List.length_map]
 refine Nat.le_trans (List.length_filterMap_le _ _) (y1 l l.length)
theorem aD1(l:List Fact)(hf:∀f∈l,f.fits)(hv:∀f∈l,fA f=0)(hl:l.length≤200):aF prog 118 [jF l] (jF (cntF l)):=by
 refine eW func118 rfl rfl call118 rfl rfl (fun cx aA=>?_)
 refine sX aA ?_
 refine AW.seq (ex.sound (rc:=[176]) aK mix aA _ ?_)
 refine⟨[(99,8)],_,_,_,_,YR l hf hv hl,rfl,trivial,rfl,?_⟩
 refine sX aA ?_
 refine AW.seq (AW.seq (ex.sound (rc:=[177]) aK mix aA _ ?_))
 refine⟨[(1001,8)],_,_,_,_,Q1 (FL l) _ (aCJ l) (by
  show(L9 (sL l)).length≤_
  unfold L9
  rw[List.length_map]
  have:=y1 l l.length
  have:=List.length_filterMap_le (zK (o8 l l.length)) (gP l l.length)
  show(PK _ _).length≤_
  unfold PK
  omega),rfl,⟨rfl,oO⟩,rfl,?_⟩
 rw[aCK]
 have J8:=NM l
 refine AW.block ?_
 refine AW.cZ (fun i:Nat=>⟨[(3,.s (.mp 8)),(4,.s (.mo ((cntF l).take i).isEmpty 100)),(10,.s (.d (MI (qC l)))),(11,vI (qC l).length),(12,vI i)],[(8,some (.dm (FL l) (gP l l.length).length)),(100,some (.bW 40 ((cntF l).take i).length 13 (pV ((cntF l).take i))))]⟩)
  (fun i=>i≤(qC l).length) (fun i=>(qC l).length - i) 0 (Nat.zero_le _) ?_ ?_
 ·exact aP.b7 aA [(100,1000)] rfl ⟨bQ,⟨rfl,rfl⟩,oO⟩ ⟨qZ,⟨rfl,aM.nil rfl⟩,qZ,qZ,qZ,oO⟩
 ·intro i hi
  refine sX aA ?_
  refine AW.seq (AW.cond ?_)
  refine aI (fun g=>AW.skip ?_) (fun g=>AW.exit ?_)
  ·have g:(i:Int)<(qC l).length:=cB g
   have bN:i<(qC l).length:=oM
   generalize hk:(qC l).getD i []=k
   have j0:k∈qC l:=by rw[←hk,bA bN];exact List.getElem_mem bN
   obtain⟨j,e,x4,he⟩:=JA j0
   have hfd:findD (FL l) (bs k)=some (aBE e.2.1):=by
    show findD (L9 (sL l)) (bs k)=_
    rw[KG _ _ 0,x4];rfl
   obtain⟨hl1,hl2⟩:=NN he
   have ew:aU ((e.2.1.length:Int) - 1)=((e.2.1.length - 1:Nat):Int):=by
    rw[aG oM oM];omega
   have uA:(cntF l).length=(qC l).length:=by unfold cntF;simp
   have tZ:(cntF l).getD i default=tT (e.2.1.getD (e.2.1.length - 1) []):=by
    rw[bA oM]
    unfold cntF
    rw[List.getElem_map,←bA (d:=[]) bN,hk]
    unfold GK
    rw[x4]
   have ht1:(cntF l).take (i+1)=(cntF l).take i++ [(cntF l).getD i default]:=by
    rw[List.take_add_one,List.getElem?_eq_getElem oM,bA oM];rfl
   have e1:aU ((i:Int)+1)=((i+1:Nat):Int):=aG oM oM
   refine AW.seq (AW.block (sX aA ?_))
   refine oi ⟨oM,oM⟩ ?_
   refine eX aA ?_
   refine fun r hr=>?_
   have hr:findD (FL l) (bs ((qC l).getD i []))=r:=hr
   rw[hk,hfd]at hr
   subst hr
   refine fun r hr=>?_
   have hr:findD (FL l) (bs ((qC l).getD i []))=r:=hr
   rw[hk,hfd]at hr
   subst hr
   refine oi (show 0≤aU ((e.2.1.length:Int) - 1)∧aU ((e.2.1.length:Int) - 1)<e.2.1.length by rw[ew];omega) ?_
   refine ob dC ?_
   refine ob (by rw[dW];show(((cntF l).take i).length+1)*144≤_;rw[List.length_take];omega) ?_
   refine ob (mT fun c hc=>by match c,hc with|0,_|1,_|2,_|3,_|4,_|5,_|6,_|7,_|8,_|9,_|10,_|11,_|12,_=>rfl) ?_
   refine eX aA ?_
   refine⟨i+1,oM,oM,?_⟩
   refine aP.b7 aA [(100,29)] rfl ⟨bQ,⟨rfl,?_⟩,oO⟩ ⟨qZ,⟨rfl,aM.mo ?_⟩,qZ,qZ,⟨rfl,aM.int e1⟩,oO⟩
   ·show aQ _ (.bW 40 ((cntF l).take (i+1)).length 13 (pV ((cntF l).take (i+1))))
    rw[ht1,tZ]
    have ewn:(aU ((e.2.1.length:Int) - 1)).toNat=e.2.1.length - 1:=by rw[ew];omega
    refine aQ.snoc (el:=R7) (x:=tT (e.2.1.getD (e.2.1.length - 1) [])) fun c hc=>?_
    rw[←ewn]
    match c,hc with|0,_|1,_|2,_|3,_|4,_|5,_|6,_|7,_|8,_|9,_|10,_|11,_|12,_=>rfl
   ·rw[ht1];exact b9 _ _
  ·have g:¬(i:Int)<(qC l).length:=cD g
   obtain rfl:i=(qC l).length:=oM
   refine sX aA ?_
   refine eX aA ?_
   have uA:(cntF l).length=(qC l).length:=by unfold cntF;simp
   rw[←uA,List.take_length]
   exact aC.mo
abbrev k9(p:Proj)(fs:List Fact):List SV:=[.d (dS p.name),.d (dI p.aS.x),.d (dI p.aS.y),.d (dI p.aS.side),.d (dI p.aS.dP),.d (dI p.aS.rows),.d (cG p.aS.levels),.d (dS p.chan.name),.d (BE p.chan.a8),.d (dI p.chan.over),.d (dI p.chan.buffer),.d (HK p.chan.regions),.d (mX p.gr.bT),.d (uB p.gr.eQ),.d (dI p.agree),.d (dI p.eU),.d (D8 p.eY),.d (UO p.fV),.d (qM p.a6),.d (oY p.b8),.d (UR fs)]
abbrev QY(p:Proj)(fs:List Fact):AV:=.g (k9 p fs)
theorem D1{f:Fact→Int}:∀{l:List Fact},tD f l=0→∀x∈l,f x=0
 |[],_,x,h=>by cases h
 |a::r,he,x,h=>by
  rw[D2]at he
  cases h0:(f a !=0)with
  |true=>
   rw[h0]at he
   have he:f a=0:=he
   rw[he]at h0;cases h0
  |false=>
   rw[h0]at he
   rcases List.mem_cons.1 h with rfl|h
   ·simpa using h0
   ·exact D1 he x h
theorem UU{p:Proj}{f:Fact}(h:XL p f=0):fA f=0∧yE p f=false:=by
 unfold XL at h
 cases h1:(fA f !=0)with
 |true=>
  rw[h1]at h
  have h:fA f=0:=h
  rw[h]at h1;cases h1
 |false=>
  rw[h1]at h
  refine⟨by simpa using h1,?_⟩
  cases h2:yE p f with
  |false=>rfl
  |true=>rw[h2]at h;cases h
structure FOK(p:Proj)(l:List Fact):Prop where
 proj:l8 p=0
 len:l.length≤200
 fmt:∀f∈l,fA f=0
 shape:∀f∈l,yE p f=false
theorem WV{p:Proj}{l:List Fact}(h:mV p l=0):FOK p l:=by
 unfold mV at h
 cases h1:(l8 p !=0)with
 |true=>
  rw[h1]at h
  have h:l8 p=0:=h
  rw[h]at h1;cases h1
 |false=>
  rw[h1]at h
  cases h2:decide ((l.length:Int)>200)with
  |true=>rw[h2]at h;cases h
  |false=>
   rw[h2]at h
   have hz:=D1 (f:=XL p) (l:=l) h
   have h2:¬(l.length:Int)>200:=by simpa using h2
   exact⟨by simpa using h1,oM,fun f hf=>(UU (hz f hf)).1,fun f hf=>(UU (hz f hf)).2⟩
def F9(p:Proj)(l:List Fact)(month first:Int):Int:=bif mV p l !=0 then mV p l else bif !within month first 24 then 2 else 0
theorem F8{p:Proj}{l:List Fact}{m f:Int}(h:F9 p l m f=0):FOK p l∧within m f 24=true:=by
 unfold F9 at h
 cases h1:(mV p l !=0)with
 |true=>
  rw[h1]at h
  have h:mV p l=0:=h
  rw[h]at h1;cases h1
 |false=>
  rw[h1]at h
  refine⟨WV (by simpa using h1),?_⟩
  cases h2:within m f 24 with
  |true=>rfl
  |false=>rw[h2]at h;cases h
theorem aC6(p:Proj)(l:List Fact)(month first:Int)(hp:p.fits)(hf:∀f∈l,f.fits)(hl:l.length≤9223372036854775807)(he:F9 p l month first=0):
  aF prog 60 [LH p,jF l,vI month,vI first] (.t [.g (k9 p (cntF l)),.s (.d (dI 0))]):=by
 obtain⟨hk,hw⟩:=F8 he
 have h1:mV p l=0:=by
  unfold F9 at he
  cases h1:(mV p l !=0)with
  |true=>rw[h1]at he;exact he
  |false=>simpa using h1
 refine eP func60 rfl rfl call60 rfl rfl fun cx aA=>?_
 refine aB (SL p l hp hf hl) ?_
 refine aI (fun h2=>?_) (fun _=>?_)
 ·have h2:(mV p l !=0)=true:=h2
  rw[h1]at h2;cases h2
 refine aB (lK first 24 month rfl) ?_
 refine aI (fun h2=>?_) (fun _=>?_)
 ·have h2:within month first 24=false:=by simpa using h2
  rw[hw]at h2;cases h2
 refine aB (aD1 l hf hk.fmt hk.len) ?_
 refine aD ?_
 exact aC.refl _
def svM(aX month:Int)(f:Fact):Bool:=f.kind==0&&f.aX==aX&&f.month==month
def X4(fs:List Fact)(aX month:Int):Int:=Ch.dA (svM aX month) fs 0
def zQ(fs:List Fact)(aX month:Int)(cell:Nat):Int:=
 bif decide (X4 fs aX month<0)then 30000 else(fs.getD (X4 fs aX month).toNat default).levels.getD cell 0
theorem aIE(f:Fact)(aX month:Int)(c d:Nat→DV)(hc:c 0=dI aX)(hd:d 0=dI month):aF prog 236 [oB f,.s (.d (.rp 1 c)),.s (.d (.rp 1 d))] (vB (svM aX month f)):=by
 refine aF.conv (args:=[oB f,.s (.d (.rp 1 fun _=>dI aX)),.s (.d (.rp 1 fun _=>dI month))]) ?_ ⟨⟨aJ.refl _,aJ.refl _,aJ.refl _,aJ.refl _,aJ.refl _,aJ.refl _,aJ.refl _,aJ.refl _,aJ.refl _,aJ.refl _,aJ.refl _,aJ.refl _,aJ.refl _,oO⟩,aJ.rp fun j hj=>aJ.of_eq (by rw[show j=0 by omega];exact hc),aJ.rp fun j hj=>aJ.of_eq (by rw[show j=0 by omega];exact hd),oO⟩
 refine eP func236 rfl rfl call236 rfl rfl fun cx aA=>?_
 repeat refine aR ?_
 exact aC.refl _
theorem AP{α:Type} [Inhabited α] (q:α→Bool):∀(l:List α) (k:Nat),0≤Ch.dA q l k→k≤(Ch.dA q l k).toNat∧(Ch.dA q l k).toNat - k<l.length∧q (l.getD ((Ch.dA q l k).toNat - k) default)=true
 |[],k,h=>by simp[Ch.dA]at h
 |x::r,k,h=>by
  unfold Ch.dA at h ⊢
  cases hx:q x with
  |true=>simp[hx]
  |false=>
   rw[hx]at h
   obtain⟨h1,h2,h3⟩:=AP q r (k+1) h
   simp only [cond_false]at h ⊢
   refine⟨oM,by simp;omega,?_⟩
   rw[show(Ch.dA q r (k+1)).toNat - k=((Ch.dA q r (k+1)).toNat - (k+1))+1 by omega]
   exact h3
theorem aFL{fs:List Fact}{aX month:Int}(h:0≤X4 fs aX month):(X4 fs aX month).toNat<fs.length∧(fs.getD (X4 fs aX month).toNat default).kind=0:=by
 obtain⟨_,h2,h3⟩:=AP (svM aX month) fs 0 h
 refine⟨h2,?_⟩
 have h3:svM aX month (fs.getD (X4 fs aX month).toNat default)=true:=h3
 unfold svM at h3
 simp only [Bool.and_eq_true,beq_iff_eq]at h3
 exact h3.1.1
theorem FH(p:Proj)(fs:List Fact)(aX month:Int)(cell:Nat)(hl:fs.length≤9223372036854775807)
  (hc:∀f∈fs,f.kind=0→cell<f.levels.length):aF prog 184 [QY p fs,vI aX,vI month,vI cell] (vI (zQ fs aX month cell)):=by
 refine eP func184 rfl rfl call184 rfl rfl fun cx aA=>?_
 refine aB (WB fs hl 236 2 _ (svM aX month) (fun x _=>aIE x aX month _ _ rfl rfl)) ?_
 refine aI (fun h1=>?_) (fun h1=>?_)
 ·have h1:decide (X4 fs aX month<0)=true:=h1
  exact aC.of_eq (by unfold zQ;rw[h1];rfl)
 ·have h1:decide (X4 fs aX month<0)=false:=h1
  have IS:¬X4 fs aX month<0:=by simpa using h1
  have fR:=aFL (fs:=fs) (aX:=aX) (month:=month) oM
  refine oi ⟨by show 0≤X4 fs aX month;omega,by show X4 fs aX month<fs.length;omega⟩ ?_
  have hk:=hc _ (by rw[bA fR.1];exact List.getElem_mem fR.1) fR.2
  refine oi (show(0:Int)≤(cell:Int)∧(cell:Int)<((fs.getD (X4 fs aX month).toNat default).levels.length:Int) by omega) ?_
  exact aC.of_eq (by unfold zQ;rw[h1];rfl)
def aGE(a b c:Int):Int:=mm true (mm false a b) (mm false (mm true a b) c)
theorem median(a b c:Int):aF prog 185 [vI a,vI b,vI c] (vI (aGE a b c)):=by
 refine eP func185 rfl rfl call185 rfl rfl fun cx aA=>?_
 exact aC.refl _
def iO(p:Proj)(fs:List Fact)(month:Int)(cell:Nat):Int×Bool:=
 let a:=zQ fs 0 month cell
 let b:=zQ fs 1 month cell
 let c:=zQ fs 2 month cell
 bif a==30000 then(b,false)else bif b==30000 then(a,false)
 else bif decide (aU (mm true a b - mm false a b)≤p.agree)then(aU (aU (Int.tdiv (aU (aU (aU (a+b)+40000)+1)) 2) - 20000),false)
 else bif c==30000 then(c,true)else(aGE a b c,false)
theorem sQ(p:Proj)(fs:List Fact)(month:Int)(cell:Nat)(hl:fs.length≤9223372036854775807)
  (hc:∀f∈fs,f.kind=0→cell<f.levels.length):aF prog 126 [QY p fs,vI month,vI cell] (.t [.s (.d (dI (iO p fs month cell).1)),.s (.d (.val (.bool (iO p fs month cell).2)))]):=by
 refine eP func126 rfl rfl call126 rfl rfl fun cx aA=>?_
 refine aB (FH p fs 0 month cell hl hc) ?_
 refine aB (FH p fs 1 month cell hl hc) ?_
 refine aD ?_
 generalize ha:zQ fs 0 month cell=a
 generalize hb:zQ fs 1 month cell=b
 generalize o7:zQ fs 2 month cell=c
 refine aI (fun h1=>?_) (fun h1=>?_)
 ·have h1:(a==30000)=true:=h1
  have e:iO p fs month cell=(b,false):=by unfold iO;simp only [ha,hb,h1,cond_true]
  exact aC.ib (by rw[e]) (by rw[e])
 have h1:(a==30000)=false:=h1
 refine aI (fun h2=>?_) (fun h2=>?_)
 ·have h2:(b==30000)=true:=h2
  have e:iO p fs month cell=(a,false):=by unfold iO;simp only [ha,hb,h1,h2,cond_true,cond_false]
  exact aC.ib (by rw[e]) (by rw[e])
 have h2:(b==30000)=false:=h2
 refine aI (fun h3=>?_) (fun h3=>?_)
 ·have h3:decide (aU (mm true a b - mm false a b)≤p.agree)=true:=h3
  have e:iO p fs month cell=(aU (aU (Int.tdiv (aU (aU (aU (a+b)+40000)+1)) 2) - 20000),false):=by unfold iO;simp only [ha,hb,h1,h2,h3,cond_true,cond_false]
  refine oi dC ?_
  exact aC.ib (by rw[e]) (by rw[e])
 have h3:decide (aU (mm true a b - mm false a b)≤p.agree)=false:=h3
 refine aB (FH p fs 2 month cell hl hc) ?_
 rw[o7]
 refine aI (fun h4=>?_) (fun h4=>?_)
 ·have h4:(c==30000)=true:=h4
  have e:iO p fs month cell=(c,true):=by unfold iO;simp only [ha,hb,o7,h1,h2,h3,h4,cond_true,cond_false]
  exact aC.ib (by rw[e]) (by rw[e])
 ·have h4:(c==30000)=false:=h4
  refine aB (median a b c) ?_
  have e:iO p fs month cell=(aGE a b c,false):=by unfold iO;simp only [ha,hb,o7,h1,h2,h3,h4,cond_false]
  exact aC.ib (by rw[e]) (by rw[e])
def aBA(p:Proj)(fs:List Fact)(m:Int):List Int→eO
 |[]=>[(1001,.cells (k9 p fs)),(1002,.cells [.d (dI m)]),(1003,.cells [.d dK])]
 |x::r=>[(1001,.cells (k9 p fs)),(1002,.cells [.d (dI m)]),(1003,.cells [.own 1004]),(1004,.row 3 (x::r).length 1 (dM (x::r)))]
abbrev aHR:SV:=.dQ 125 [.ptr 1001 0,.ptr 1002 0,.ptr 1003 0]
theorem aB2(p:Proj)(fs:List Fact)(m:Int)(l:List Int)(i:Nat)(hl:fs.length≤9223372036854775807)
  (hc:∀f∈fs,f.kind=0→i<f.levels.length) (h:(iO p fs m i).2=false):
  bM prog 125 [vI i,.s (.ptr 1001 0),.s (.ptr 1002 0),.s (.ptr 1003 0)] (aBA p fs m l) (vI (iO p fs m i).1) (aBA p fs m l):=by
 cases l with
 |nil=>
  refine fZ (rc:=[]) (N:=21) func125 rfl rfl call125 aK mix rfl rfl rfl rfl (fun cx aA=>?_)
  refine aB (sQ p fs m i hl hc) ?_
  refine aI (fun h1=>?_) (fun _=>?_)
  ·have h1:(iO p fs m i).2=true:=h1
   rw[h]at h1;cases h1
  ·exact⟨aC.refl _,rfl,rfl,rfl,oO⟩
 |cons x r=>
  refine fZ (rc:=[]) (N:=21) func125 rfl rfl call125 aK mix rfl rfl rfl rfl (fun cx aA=>?_)
  refine aB (sQ p fs m i hl hc) ?_
  refine aI (fun h1=>?_) (fun _=>?_)
  ·have h1:(iO p fs m i).2=true:=h1
   rw[h]at h1;cases h1
  ·exact⟨aC.refl _,rfl,rfl,rfl,rfl,oO⟩
theorem U1(p:Proj)(fs:List Fact)(m:Int)(l:List Int)(i:Nat)(hl:fs.length≤9223372036854775807)(X8:l.length≤1000000)
  (hc:∀f∈fs,f.kind=0→i<f.levels.length) (h:(iO p fs m i).2=true):
  ∃n f,gH 1 n f (fun x _=>dI x) (l++ [(i:Int)])∧
  bM prog 125 [vI i,.s (.ptr 1001 0),.s (.ptr 1002 0),.s (.ptr 1003 0)] (aBA p fs m l) (vI (iO p fs m i).1) [(1001,.cells (k9 p fs)),(1002,.cells [.d (dI m)]),(1003,.cells [.own 19]),(19,.row 3 n 1 f)]:=by
 cases l with
 |nil=>
  apply Exists.intro
  apply Exists.intro
  apply And.intro
  rotate_left
  ·refine EA (rc:=[]) (N:=21) func125 rfl rfl call125 aK mix rfl rfl rfl (fun cx aA=>?_)
   refine aB (sQ p fs m i hl hc) ?_
   refine aI (fun _=>?_) (fun h1=>?_)
   ·refine ob dC ?_
    refine ob dC ?_
    exact⟨aM.rfl,rfl,rfl,rfl,rfl,oO⟩
   ·have h1:(iO p fs m i).2=false:=h1
    rw[h]at h1;cases h1
  all_goals exact gH.one (xO rfl)
 |cons x r=>
  apply Exists.intro
  apply Exists.intro
  apply And.intro
  rotate_left
  ·refine EA (rc:=[]) (N:=21) func125 rfl rfl call125 aK mix rfl rfl rfl (fun cx aA=>?_)
   refine aB (sQ p fs m i hl hc) ?_
   refine aI (fun _=>?_) (fun h1=>?_)
   ·refine ob (by show((x::r).length+1)*8≤_;omega) ?_
    refine ob (mT (xO rfl)) ?_
    exact⟨aM.rfl,rfl,rfl,rfl,rfl,oO⟩
   ·have h1:(iO p fs m i).2=false:=h1
    rw[h]at h1;cases h1
  all_goals exact gH.snoc (gH.refl (l:=x::r) (el:=fun (x:Int) (_:Nat)=>dI x)) (xO rfl)
def nD(p:Proj)(fs:List Fact)(m:Int)(i:Nat):List Int:=(List.range i).filterMap fun k=>bif (iO p fs m k).2 then some (k:Int)else none
def iK(p:Proj)(fs:List Fact)(m:Int)(i:Nat):List Int:=(List.range i).map fun k=>(iO p fs m k).1
theorem SE(p:Proj)(fs:List Fact)(m:Int)(i:Nat):nD p fs m (i+1)=bif (iO p fs m i).2 then nD p fs m i++ [(i:Int)]else nD p fs m i:=by
 unfold nD
 rw[cR]
 cases(iO p fs m i).2 <;> simp
theorem W3(p:Proj)(fs:List Fact)(m:Int)(i:Nat):(nD p fs m i).length≤i:=by
 have:=List.length_filterMap_le (fun k=>bif (iO p fs m k).2 then some (k:Int)else none) (List.range i)
 rw[List.length_range]at this
 exact this
theorem V3(p:Proj)(fs:List Fact)(m:Int)(i:Nat):iK p fs m (i+1)=iK p fs m i++ [(iO p fs m i).1]:=by
 unfold iK
 rw[List.range_succ,List.map_append];rfl
theorem ZY(p:Proj)(fs:List Fact)(m:Int)(i:Nat):(iK p fs m i).length=i:=by unfold iK;simp
abbrev UE(g:fS)(lv:SV):List SV:=[.d (dI g.x),.d (dI g.y),.d (dI g.side),.d (dI g.dP),.d (dI g.rows),lv]
def gSt(p:Proj)(fs:List Fact)(m:Int)(i:Nat):List Int→St
 |[]=>⟨[(1,.s aHR),(2,.s (.ptr 2 0)),(4,.s (.ptr 4 0)),(5,.s (.ptr 5 0)),(15,vI p.aS.levels.length),(16,vI i)],[(2,some (.cells (k9 p fs))),(4,some (.cells (iE ty24.zero))),(5,some (.cells (UE p.aS (.mo (iK p fs m i).isEmpty 100)))),(100,some (.bW 3 (iK p fs m i).length 1 (dM (iK p fs m i)))),(1001,some (.cells (k9 p fs))),(1002,some (.cells [.d (dI m)])),(1003,some (.cells [.d dK]))]⟩
 |x::r=>⟨[(1,.s aHR),(2,.s (.ptr 2 0)),(4,.s (.ptr 4 0)),(5,.s (.ptr 5 0)),(15,vI p.aS.levels.length),(16,vI i)],[(2,some (.cells (k9 p fs))),(4,some (.cells (iE ty24.zero))),(5,some (.cells (UE p.aS (.mo (iK p fs m i).isEmpty 100)))),(100,some (.bW 3 (iK p fs m i).length 1 (dM (iK p fs m i)))),(1001,some (.cells (k9 p fs))),(1002,some (.cells [.d (dI m)])),(1003,some (.cells [.own 1004])),(1004,some (.row 3 (x::r).length 1 (dM (x::r))))]⟩
theorem aJ1(p:Proj)(fs:List Fact)(m:Int)(hl:fs.length≤9223372036854775807)(hn:0<p.aS.levels.length∧p.aS.levels.length≤1024)(hc:∀f∈fs,f.kind=0→f.levels.length=p.aS.levels.length):
  bM prog 124 [QY p fs,.s aHR] (aBA p fs m []) (.g (UE p.aS (.own 1005))) (aBA p fs m (nD p fs m p.aS.levels.length)++ [(1005,.row 3 p.aS.levels.length 1 (dM (iK p fs m p.aS.levels.length)))]):=by
 refine gT func124 rfl rfl call124 aK rfl (by cases nD p fs m p.aS.levels.length <;> rfl) (by cases nD p fs m p.aS.levels.length <;> rfl) rfl (fun cx aA=>?_)
 refine sX aA ?_
 refine sX aA ?_
 refine sX aA ?_
 refine AW.seq (sX aA ?_)
 refine AW.block ?_
 refine AW.cZ (fun i:Nat=>gSt p fs m i (nD p fs m i)) (fun i=>i≤p.aS.levels.length) (fun i=>p.aS.levels.length - i) 0 (Nat.zero_le _) ?_ ?_
 ·exact aP.of [(100,1000)] (by rw[aA];rfl) rfl ⟨bQ,bQ,⟨rfl,aQ.cells ⟨aM.rfl,aM.rfl,aM.rfl,aM.rfl,aM.rfl,aM.nil rfl,oO⟩⟩,⟨rfl,rfl⟩,bQ,bQ,bQ,oO⟩ ⟨qZ,qZ,qZ,qZ,qZ,qZ,oO⟩
 ·intro i hi
  have hlen:=W3 p fs m i
  have fD:=SE p fs m i
  have WM:=V3 p fs m i
  have X8:=ZY p fs m i
  cases hL:nD p fs m i with
  |nil=>
   rw[hL]at fD hlen
   refine sX aA ?_
   refine AW.seq (AW.cond ?_)
   refine aI (fun h1=>AW.skip ?_) (fun h1=>AW.exit ?_)
   ·have h1:(i:Int)<p.aS.levels.length:=cB h1
    have bN:i<p.aS.levels.length:=oM
    have hci:∀f∈fs,f.kind=0→i<f.levels.length:=fun f hf hk=>by rw[hc f hf hk];exact bN
    refine AW.seq (AW.block (sX aA ?_))
    cases h3:(iO p fs m i).2 with
    |true=>
     rw[h3]at fD
     obtain⟨n,f,oN,dV⟩:=U1 p fs m [] i hl oM hci h3
     refine ex.sound (rc:=[1500125]) aK mix aA _ ?_
     refine⟨[(19,701)],_,_,_,_,dV,rfl,⟨rfl,rfl,rfl,oO⟩,rfl,?_⟩
     refine ob dC ?_
     refine ob (by rw[dW];show((iK p fs m i).length+1)*8≤_;rw[X8];omega) ?_
     refine ob (mT (xO rfl)) ?_
     refine aD ?_
     refine eX aA ?_
     refine⟨i+1,oM,oM,?_⟩
     rw[fD]
     refine aP.of [(1004,701),(100,25)] (by rw[aA];rfl) rfl ⟨bQ,bQ,⟨rfl,aQ.cells ⟨aM.rfl,aM.rfl,aM.rfl,aM.rfl,aM.rfl,aM.mo (by rw[WM];exact b9 _ _),oO⟩⟩,⟨rfl,?_⟩,bQ,bQ,bQ,⟨rfl,oN.row⟩,oO⟩ ⟨qZ,qZ,qZ,qZ,qZ,⟨rfl,aM.int (aG oM oM)⟩,oO⟩
     show aQ _ (.bW 3 (iK p fs m (i+1)).length 1 (dM (iK p fs m (i+1))))
     rw[WM]
     exact aQ.snoc (el:=fun n _=>dI n) (x:=(iO p fs m i).1) (xO rfl)
    |false=>
     rw[h3]at fD
     refine ex.sound (rc:=[1500125]) aK mix aA _ ?_
     refine⟨[],_,_,_,_,aB2 p fs m [] i hl hci h3,rfl,⟨rfl,rfl,rfl,oO⟩,rfl,?_⟩
     refine ob dC ?_
     refine ob (by rw[dW];show((iK p fs m i).length+1)*8≤_;rw[X8];omega) ?_
     refine ob (mT (xO rfl)) ?_
     refine aD ?_
     refine eX aA ?_
     refine⟨i+1,oM,oM,?_⟩
     rw[fD]
     refine aP.of [(100,25)] (by rw[aA];rfl) rfl ⟨bQ,bQ,⟨rfl,aQ.cells ⟨aM.rfl,aM.rfl,aM.rfl,aM.rfl,aM.rfl,aM.mo (by rw[WM];exact b9 _ _),oO⟩⟩,⟨rfl,?_⟩,bQ,bQ,bQ,oO⟩ ⟨qZ,qZ,qZ,qZ,qZ,⟨rfl,aM.int (aG oM oM)⟩,oO⟩
     show aQ _ (.bW 3 (iK p fs m (i+1)).length 1 (dM (iK p fs m (i+1))))
     rw[WM]
     exact aQ.snoc (el:=fun n _=>dI n) (x:=(iO p fs m i).1) (xO rfl)
   ·have h1:¬(i:Int)<p.aS.levels.length:=cD h1
    obtain rfl:i=p.aS.levels.length:=oM
    rw[hL]
    have hz:(iK p fs m p.aS.levels.length).isEmpty=false:=by
     cases hq:iK p fs m p.aS.levels.length with
     |nil=>rw[hq]at X8;simp at X8;omega
     |cons _ _=>rfl
    refine AW.fU (aP.aF7 (z:=(iK p fs m p.aS.levels.length).isEmpty) (e:=3) (n:=(iK p fs m p.aS.levels.length).length) (s:=1) (f:=dM (iK p fs m p.aS.levels.length)) (cs:=UE p.aS (.mo (iK p fs m p.aS.levels.length).isEmpty 100)) 5 5 100 rfl rfl hz rfl) ?_
    refine AW.fU (σ':=⟨[(4,.s (.ptr 4 0)),(5,.s (.ptr 5 0))],[(4,some (.cells (iE ty24.zero))),(5,some (.cells (UE p.aS (.own 1005)))),(1005,some (.row 3 p.aS.levels.length 1 (dM (iK p fs m p.aS.levels.length)))),(1001,some (.cells (k9 p fs))),(1002,some (.cells [.d (dI m)])),(1003,some (.cells [.d dK]))]⟩) (aP.of [(1005,100)] (by rw[aA];rfl) rfl ⟨bQ,⟨rfl,aQ.cells ⟨aM.rfl,aM.rfl,aM.rfl,aM.rfl,aM.rfl,fun _ _ _ r=>r.2 hz,oO⟩⟩,⟨rfl,aQ.of_eq (by rw[X8];rfl)⟩,bQ,bQ,bQ,oO⟩ ⟨qZ,qZ,oO⟩) ?_
    refine eX aA ?_
    exact⟨aM.rfl,rfl,rfl,rfl,rfl,oO⟩
  |cons x r=>
   rw[hL]at fD hlen
   refine sX aA ?_
   refine AW.seq (AW.cond ?_)
   refine aI (fun h1=>AW.skip ?_) (fun h1=>AW.exit ?_)
   ·have h1:(i:Int)<p.aS.levels.length:=cB h1
    have bN:i<p.aS.levels.length:=oM
    have hci:∀f∈fs,f.kind=0→i<f.levels.length:=fun f hf hk=>by rw[hc f hf hk];exact bN
    refine AW.seq (AW.block (sX aA ?_))
    cases h3:(iO p fs m i).2 with
    |true=>
     rw[h3]at fD
     obtain⟨n,f,oN,dV⟩:=U1 p fs m (x::r) i hl oM hci h3
     refine ex.sound (rc:=[1500125]) aK mix aA _ ?_
     refine⟨[(19,701)],_,_,_,_,dV,rfl,⟨rfl,rfl,rfl,rfl,oO⟩,rfl,?_⟩
     refine ob dC ?_
     refine ob (by rw[dW];show((iK p fs m i).length+1)*8≤_;rw[X8];omega) ?_
     refine ob (mT (xO rfl)) ?_
     refine aD ?_
     refine eX aA ?_
     refine⟨i+1,oM,oM,?_⟩
     rw[fD]
     refine aP.of [(1004,701),(100,25)] (by rw[aA];rfl) rfl ⟨bQ,bQ,⟨rfl,aQ.cells ⟨aM.rfl,aM.rfl,aM.rfl,aM.rfl,aM.rfl,aM.mo (by rw[WM];exact b9 _ _),oO⟩⟩,⟨rfl,?_⟩,bQ,bQ,bQ,⟨rfl,oN.row⟩,oO⟩ ⟨qZ,qZ,qZ,qZ,qZ,⟨rfl,aM.int (aG oM oM)⟩,oO⟩
     show aQ _ (.bW 3 (iK p fs m (i+1)).length 1 (dM (iK p fs m (i+1))))
     rw[WM]
     exact aQ.snoc (el:=fun n _=>dI n) (x:=(iO p fs m i).1) (xO rfl)
    |false=>
     rw[h3]at fD
     refine ex.sound (rc:=[1500125]) aK mix aA _ ?_
     refine⟨[],_,_,_,_,aB2 p fs m (x::r) i hl hci h3,rfl,⟨rfl,rfl,rfl,rfl,oO⟩,rfl,?_⟩
     refine ob dC ?_
     refine ob (by rw[dW];show((iK p fs m i).length+1)*8≤_;rw[X8];omega) ?_
     refine ob (mT (xO rfl)) ?_
     refine aD ?_
     refine eX aA ?_
     refine⟨i+1,oM,oM,?_⟩
     rw[fD]
     refine aP.of [(100,25)] (by rw[aA];rfl) rfl ⟨bQ,bQ,⟨rfl,aQ.cells ⟨aM.rfl,aM.rfl,aM.rfl,aM.rfl,aM.rfl,aM.mo (by rw[WM];exact b9 _ _),oO⟩⟩,⟨rfl,?_⟩,bQ,bQ,bQ,bQ,oO⟩ ⟨qZ,qZ,qZ,qZ,qZ,⟨rfl,aM.int (aG oM oM)⟩,oO⟩
     show aQ _ (.bW 3 (iK p fs m (i+1)).length 1 (dM (iK p fs m (i+1))))
     rw[WM]
     exact aQ.snoc (el:=fun n _=>dI n) (x:=(iO p fs m i).1) (xO rfl)
   ·have h1:¬(i:Int)<p.aS.levels.length:=cD h1
    obtain rfl:i=p.aS.levels.length:=oM
    rw[hL]
    have hz:(iK p fs m p.aS.levels.length).isEmpty=false:=by
     cases hq:iK p fs m p.aS.levels.length with
     |nil=>rw[hq]at X8;simp at X8;omega
     |cons _ _=>rfl
    refine AW.fU (aP.aF7 (z:=(iK p fs m p.aS.levels.length).isEmpty) (e:=3) (n:=(iK p fs m p.aS.levels.length).length) (s:=1) (f:=dM (iK p fs m p.aS.levels.length)) (cs:=UE p.aS (.mo (iK p fs m p.aS.levels.length).isEmpty 100)) 5 5 100 rfl rfl hz rfl) ?_
    refine AW.fU (σ':=⟨[(4,.s (.ptr 4 0)),(5,.s (.ptr 5 0))],[(4,some (.cells (iE ty24.zero))),(5,some (.cells (UE p.aS (.own 1005)))),(1005,some (.row 3 p.aS.levels.length 1 (dM (iK p fs m p.aS.levels.length)))),(1001,some (.cells (k9 p fs))),(1002,some (.cells [.d (dI m)])),(1003,some (.cells [.own 1004])),(1004,some (.row 3 (x::r).length 1 (dM (x::r))))]⟩) (aP.of [(1005,100)] (by rw[aA];rfl) rfl ⟨bQ,⟨rfl,aQ.cells ⟨aM.rfl,aM.rfl,aM.rfl,aM.rfl,aM.rfl,fun _ _ _ r=>r.2 hz,oO⟩⟩,⟨rfl,aQ.of_eq (by rw[X8];rfl)⟩,bQ,bQ,bQ,bQ,oO⟩ ⟨qZ,qZ,oO⟩) ?_
    refine eX aA ?_
    exact⟨aM.rfl,rfl,rfl,rfl,rfl,rfl,oO⟩
theorem aH1{a:TV}{x y:DV}(h:aJ x y):aM (.t [a,.s (.d x)]) (.t [a,.s (.d y)]):=by
 rintro M β v ⟨vs,e,r⟩
 match vs,r with
 |[u1,u2],⟨r1,r2,r3⟩=>exact⟨[u1,u2],e,r1,h M u2 r2,r3⟩
structure SOK(p:Proj)(fs:List Fact):Prop where
 len:fs.length≤200
 n:0<p.aS.levels.length∧p.aS.levels.length≤100
 shape:∀f∈fs,f.kind=0→f.levels.length=p.aS.levels.length
theorem S1(p:Proj)(fs:List Fact)(m:Int)(h:SOK p fs):
  bM prog 63 [QY p fs,vI m] [] (.t [.g (UE p.aS (.own 9)),.s (.d (cG (nD p fs m p.aS.levels.length)))]) [(9,.row 3 p.aS.levels.length 1 (dM (iK p fs m p.aS.levels.length)))]:=by
 have QT:=aJ1 p fs m (by have:=h.len;omega) ⟨h.n.1,by have:=h.n.2;omega⟩ h.shape
 generalize nD p fs m p.aS.levels.length=L at QT
 cases L with
 |nil=>
  refine fG (rc:=[124]) (N:=13) func63 rfl rfl call63 aK mix rfl rfl rfl rfl (fun cx aA=>?_)
  refine⟨[(1001,2),(1002,3),(1003,6),(1005,9)],_,_,_,_,QT,rfl,⟨rfl,rfl,rfl,oO⟩,rfl,?_⟩
  refine aD ?_
  exact⟨aH1 aJ.nil,rfl,oO⟩
 |cons x r=>
  refine fG (rc:=[124]) (N:=13) func63 rfl rfl call63 aK mix rfl rfl rfl rfl (fun cx aA=>?_)
  refine⟨[(1001,2),(1002,3),(1003,6),(1005,9)],_,_,_,_,QT,rfl,⟨rfl,rfl,rfl,oO⟩,rfl,?_⟩
  refine aD ?_
  exact⟨aM.rfl,rfl,oO⟩
def lC(p:Proj)(fs:List Fact):Nat→Nat→Int
 |0,i=>bif (iO p fs (0:Nat) i).1==30000 then p.aS.levels.getD i 0 else(iO p fs (0:Nat) i).1
 |m+1,i=>mm false (iO p fs (m+1:Nat) i).1 (lC p fs m i)
def o6(p:Proj)(fs:List Fact)(m:Nat):List Int:=(List.range p.aS.levels.length).map (lC p fs m)
def xP(p:Proj)(fs:List Fact)(m:Nat):fS:={p.aS with levels:=o6 p fs m}
def cY(p:Proj)(fs:List Fact)(k:Nat):List fS:=(List.range k).map (xP p fs)
def qD(p:Proj)(fs:List Fact)(m i:Nat):List Int:=(List.range p.aS.levels.length).map fun k=>if k<i then lC p fs m k else(iO p fs m k).1
theorem nR{p:Proj}{fs:List Fact}{m i k:Nat}(h:k<p.aS.levels.length):(qD p fs m i).getD k 0=if k<i then lC p fs m k else(iO p fs m k).1:=by
 unfold qD
 simp[List.getD_eq_getElem?_getD,List.getElem?_map,List.getElem?_range h]
theorem TS{p:Proj}{fs:List Fact}{m:Int}{n k:Nat}(h:k<n):(iK p fs m n).getD k 0=(iO p fs m k).1:=by
 unfold iK
 simp[List.getD_eq_getElem?_getD,List.getElem?_map,List.getElem?_range h]
theorem OC(p:Proj)(fs:List Fact)(m:Nat):qD p fs m p.aS.levels.length=o6 p fs m:=by
 unfold qD o6
 exact List.map_congr_left fun k hk=>if_pos (List.mem_range.1 hk)
theorem mN(p:Proj)(fs:List Fact)(k:Nat):(cY p fs k).length=k:=by unfold cY;simp
theorem mO{p:Proj}{fs:List Fact}{k m:Nat}(h:m<k):(cY p fs k).getD m default=xP p fs m:=by
 unfold cY
 simp[List.getD_eq_getElem?_getD,List.getElem?_map,List.getElem?_range h]
theorem V1(p:Proj)(fs:List Fact)(k:Nat):cY p fs (k+1)=cY p fs k++ [xP p fs k]:=by
 unfold cY
 rw[List.range_succ,List.map_append];rfl
theorem AI{p:Proj}{fs:List Fact}{m k:Nat}(h:k<p.aS.levels.length):(o6 p fs m).getD k 0=lC p fs m k:=by
 unfold o6
 simp[List.getD_eq_getElem?_getD,List.getElem?_map,List.getElem?_range h]
theorem ZS{p:Proj}{fs:List Fact}{m i a:Nat}(ha:a<p.aS.levels.length)(h:(iO p fs m i).1=lC p fs m i):(qD p fs m i).getD a 0=(qD p fs m (i+1)).getD a 0:=by
 rw[nR ha,nR ha]
 by_cases h1:a<i
 ·rw[if_pos h1,if_pos oM]
 ·rw[if_neg h1]
  by_cases h2:a=i
  ·subst h2;rw[if_pos oM,h]
  ·rw[if_neg oM]
theorem TR{p:Proj}{fs:List Fact}{m i a c:Nat}{x:Int}(ha:a<p.aS.levels.length)(hc:c<1)(h:x=lC p fs m i):fK (dM (qD p fs m i)) i 0 [.d (dI x)] a c=dI ((qD p fs m (i+1)).getD a 0):=by
 obtain rfl:c=0:=oM
 by_cases h2:a=i
 ·subst h2
  rw[qH,nR ha,if_pos oM,h]
 ·rw[w8 h2]
  show dI ((qD p fs m i).getD a 0)=_
  rw[nR ha,nR ha]
  by_cases h1:a<i
  ·rw[if_pos h1,if_pos oM]
  ·rw[if_neg h1,if_neg oM]
def aLS(p:Proj)(fs:List Fact)(n:Nat):Nat→St
 |0=>⟨[(2,.s (.ptr 2 0)),(5,.s (.d dK)),(12,vI n),(13,vI (0:Nat))],[(2,some (.cells (k9 p fs)))]⟩
 |k+1=>⟨[(2,.s (.ptr 2 0)),(5,.s (.own 100)),(12,vI n),(13,vI (k+1:Nat))],[(2,some (.cells (k9 p fs))),(100,some (.row 24 (cY p fs (k+1)).length 6 (CQ (cY p fs (k+1)))))]⟩
theorem lowest(p:Proj)(fs:List Fact)(month:Nat)(h:SOK p fs)(hm:month≤24):aF prog 61 [QY p fs,vI month] (.s (.d (cP (cY p fs (month+1))))):=by
 obtain⟨hn0,hn1⟩:=h.n
 refine eW func61 rfl rfl call61 rfl rfl (fun cx aA=>?_)
 refine sX aA ?_
 refine sX aA ?_
 refine AW.seq (sX aA ?_)
 refine AW.block ?_
 refine AW.cZ (fun k:Nat=>aLS p fs (month+1) k) (fun k=>k≤month+1) (fun k=>month+1 - k) 0 (Nat.zero_le _) ?_ ?_
 ·exact aP.b7 aA [] rfl ⟨bQ,oO⟩ ⟨qZ,qZ,⟨rfl,aM.int (aG oM oM)⟩,qZ,oO⟩
 ·intro k hk
  cases k with
  |zero=>
   refine sX aA ?_
   refine AW.seq (AW.cond ?_)
   refine aI (fun h1=>AW.skip ?_) (fun h1=>by simp at h1)
   refine AW.seq (AW.block (sX aA ?_))
   refine AW.seq (ex.sound (rc:=[63]) aK mix aA _ ?_)
   refine⟨[(9,700)],_,_,_,_,S1 p fs (0:Nat) h,rfl,trivial,rfl,?_⟩
   refine AW.fU (σ':=⟨[(2,.s (.ptr 2 0)),(5,.s (.d dK)),(6,vI (0:Nat)),(7,.s (.ptr 7 0)),(12,vI (month+1:Nat)),(13,vI (0:Nat))],[(2,some (.cells (k9 p fs))),(7,some (.cells (UE p.aS (.own 700)))),(700,some (.row 3 p.aS.levels.length 1 (dM (iK p fs (0:Nat) p.aS.levels.length))))]⟩) (aP.b7 aA [] rfl ⟨bQ,bQ,bQ,oO⟩ ⟨qZ,qZ,qZ,qZ,qZ,qZ,oO⟩) ?_
   refine AW.seq (sX aA ?_)
   refine AW.block ?_
   refine AW.cZ (fun i:Nat=>⟨[(2,.s (.ptr 2 0)),(5,.s (.d dK)),(6,vI (0:Nat)),(7,.s (.ptr 7 0)),(12,vI (month+1:Nat)),(13,vI (0:Nat)),(23,.s (.own 700)),(24,vI p.aS.levels.length),(25,vI i)],[(2,some (.cells (k9 p fs))),(7,some (.cells (UE p.aS (.own 700)))),(700,some (.row 3 p.aS.levels.length 1 (dM (qD p fs 0 i))))]⟩)
    (fun i=>i≤p.aS.levels.length) (fun i=>p.aS.levels.length - i) 0 (Nat.zero_le _) ?_ ?_
   ·exact aP.b7 aA [] rfl ⟨bQ,bQ,⟨rfl,aQ.row rfl fun a c ha hc=>aJ.of_eq (by show dI ((iK p fs (0:Nat) p.aS.levels.length).getD a 0)=dI ((qD p fs 0 0).getD a 0);rw[TS ha,nR ha,if_neg (Nat.not_lt_zero _)])⟩,oO⟩ ⟨qZ,qZ,qZ,qZ,qZ,qZ,qZ,qZ,qZ,oO⟩
   ·intro i hi
    refine sX aA ?_
    refine AW.seq (AW.cond ?_)
    refine aI (fun h2=>AW.skip ?_) (fun h2=>AW.exit ?_)
    ·have h2:(i:Int)<p.aS.levels.length:=cB h2
     have bN:i<p.aS.levels.length:=oM
     refine AW.seq (AW.block (sX aA ?_))
     refine oi ⟨oM,oM⟩ ?_
     refine oi (show i<p.aS.levels.length by omega) ?_
     refine AW.block (sX aA ?_)
     repeat refine aR ?_
     refine AW.cond ?_
     refine aI (fun h3=>?_) (fun h3=>?_)
     ·have h3:((0:Int)==0&&(qD p fs 0 i).getD i 0==30000)=true:=h3
      rw[nR bN,if_neg (Nat.lt_irrefl i)]at h3
      have EJ:lC p fs 0 i=p.aS.levels.getD i 0:=by
       unfold lC
       rw[show((iO p fs ((0:Nat):Int) i).1==30000)=true by simpa using h3];rfl
      refine eX aA ?_
      refine oi ⟨oM,oM⟩ ?_
      refine oi ⟨oM,oM⟩ ?_
      refine ob (show((i:Nat):Int).toNat<p.aS.levels.length by omega) ?_
      refine aD ?_
      refine eX aA ?_
      refine⟨i+1,oM,oM,?_⟩
      refine aP.b7 aA [] rfl ⟨bQ,bQ,⟨rfl,aQ.row rfl fun a c ha hc=>aJ.of_eq ?_⟩,oO⟩ ⟨qZ,qZ,qZ,qZ,qZ,qZ,qZ,qZ,⟨rfl,aM.int (aG oM oM)⟩,oO⟩
      show fK (dM (qD p fs 0 i)) i 0 [.d (dI (p.aS.levels.getD i 0))] a c=dI ((qD p fs 0 (i+1)).getD a 0)
      exact TR ha hc EJ.symm
     ·have h3:((0:Int)==0&&(qD p fs 0 i).getD i 0==30000)=false:=h3
      rw[nR bN,if_neg (Nat.lt_irrefl i)]at h3
      have EJ:lC p fs 0 i=(iO p fs (0:Nat) i).1:=by
       unfold lC
       rw[show((iO p fs ((0:Nat):Int) i).1==30000)=false by simpa using h3];rfl
      refine sX aA ?_
      refine AW.cond ?_
      refine aI (fun h4=>by simp at h4) (fun h4=>AW.skip ?_)
      refine eX aA ?_
      refine⟨i+1,oM,oM,?_⟩
      refine aP.b7 aA [] rfl ⟨bQ,bQ,⟨rfl,aQ.row rfl fun a c ha hc=>aJ.of_eq ?_⟩,oO⟩ ⟨qZ,qZ,qZ,qZ,qZ,qZ,qZ,qZ,⟨rfl,aM.int (aG oM oM)⟩,oO⟩
      show dI ((qD p fs 0 i).getD a 0)=dI ((qD p fs 0 (i+1)).getD a 0)
      exact congrArg dI (ZS ha EJ.symm)
    ·have h2:¬(i:Int)<p.aS.levels.length:=cD h2
     obtain rfl:i=p.aS.levels.length:=oM
     rw[OC]
     refine AW.VC (σ':=⟨[(2,.s (.ptr 2 0)),(5,.s (.d dK)),(7,.s (.ptr 7 0)),(12,vI (month+1:Nat)),(13,vI (0:Nat))],[(2,some (.cells (k9 p fs))),(7,some (.cells (UE p.aS (.d (cG (o6 p fs 0))))))]⟩) (kH.of aA [] [700] rfl rfl rfl ⟨⟨rfl,iI.rfl⟩,⟨rfl,iI.cells ⟨bO.rfl,bO.rfl,bO.rfl,bO.rfl,bO.rfl,(bO.own sM rfl).then (aM.d (aJ.of_eq (by unfold cG;rw[show(o6 p fs 0).length=p.aS.levels.length by unfold o6;simp]))),oO⟩⟩,oO⟩ ⟨⟨rfl,bO.rfl⟩,⟨rfl,bO.rfl⟩,⟨rfl,bO.rfl⟩,⟨rfl,bO.rfl⟩,⟨rfl,bO.rfl⟩,oO⟩) ?_
     refine eX aA ?_
     refine ob dC ?_
     refine ob dC ?_
     refine eX aA ?_
     refine⟨0+1,oM,oM,?_⟩
     exact aP.b7 aA [(100,70)] rfl ⟨bQ,⟨rfl,aQ.row (by rw[mN]) fun a c ha hc=>aJ.of_eq (by
      obtain rfl:a=0:=oM
      match c,hc with|0,_|1,_|2,_|3,_|4,_|5,_=>rfl)⟩,oO⟩ ⟨qZ,qZ,qZ,⟨rfl,aM.int (aG oM oM)⟩,oO⟩
  |succ k=>
   refine sX aA ?_
   refine AW.seq (AW.cond ?_)
   refine aI (fun h1=>AW.skip ?_) (fun h1=>AW.exit ?_)
   ·have h1:((k+1:Nat):Int)<((month+1:Nat):Int):=cB h1
    refine AW.seq (AW.block (sX aA ?_))
    refine AW.seq (ex.sound (rc:=[63]) aK mix aA _ ?_)
    refine⟨[(9,700)],_,_,_,_,S1 p fs (k+1:Nat) h,rfl,trivial,rfl,?_⟩
    refine AW.fU (σ':=⟨[(2,.s (.ptr 2 0)),(5,.s (.own 100)),(6,vI (k+1:Nat)),(7,.s (.ptr 7 0)),(12,vI (month+1:Nat)),(13,vI (k+1:Nat))],[(2,some (.cells (k9 p fs))),(100,some (.row 24 (cY p fs (k+1)).length 6 (CQ (cY p fs (k+1))))),(7,some (.cells (UE p.aS (.own 700)))),(700,some (.row 3 p.aS.levels.length 1 (dM (iK p fs (k+1:Nat) p.aS.levels.length))))]⟩) (aP.b7 aA [] rfl ⟨bQ,bQ,bQ,bQ,oO⟩ ⟨qZ,qZ,qZ,qZ,qZ,qZ,oO⟩) ?_
    refine AW.seq (sX aA ?_)
    refine AW.block ?_
    refine AW.cZ (fun i:Nat=>⟨[(2,.s (.ptr 2 0)),(5,.s (.own 100)),(6,vI (k+1:Nat)),(7,.s (.ptr 7 0)),(12,vI (month+1:Nat)),(13,vI (k+1:Nat)),(23,.s (.own 700)),(24,vI p.aS.levels.length),(25,vI i)],[(2,some (.cells (k9 p fs))),(100,some (.row 24 (cY p fs (k+1)).length 6 (CQ (cY p fs (k+1))))),(7,some (.cells (UE p.aS (.own 700)))),(700,some (.row 3 p.aS.levels.length 1 (dM (qD p fs (k+1) i))))]⟩)
     (fun i=>i≤p.aS.levels.length) (fun i=>p.aS.levels.length - i) 0 (Nat.zero_le _) ?_ ?_
    ·exact aP.b7 aA [] rfl ⟨bQ,bQ,bQ,⟨rfl,aQ.row rfl fun a c ha hc=>aJ.of_eq (by show dI ((iK p fs (k+1:Nat) p.aS.levels.length).getD a 0)=dI ((qD p fs (k+1) 0).getD a 0);rw[TS ha,nR ha,if_neg (Nat.not_lt_zero _)])⟩,oO⟩ ⟨qZ,qZ,qZ,qZ,qZ,qZ,qZ,qZ,qZ,oO⟩
    ·intro i hi
     refine sX aA ?_
     refine AW.seq (AW.cond ?_)
     refine aI (fun h2=>AW.skip ?_) (fun h2=>AW.exit ?_)
     ·have h2:(i:Int)<p.aS.levels.length:=cB h2
      have bN:i<p.aS.levels.length:=oM
      refine AW.seq (AW.block (sX aA ?_))
      refine oi ⟨oM,oM⟩ ?_
      refine oi (show i<p.aS.levels.length by omega) ?_
      refine AW.block (sX aA ?_)
      repeat refine aR ?_
      refine AW.cond ?_
      refine aI (fun h3=>?_) (fun h3=>?_)
      ·have h3:((((k+1:Nat):Int)==0)&&(qD p fs (k+1) i).getD i 0==30000)=true:=h3
       rw[show((((k+1:Nat):Int)==0))=false by simp only [beq_eq_false_iff_ne];omega]at h3
       cases h3
      ·have EJ:mm false (iO p fs (k+1:Nat) i).1 (lC p fs k i)=lC p fs (k+1) i:=rfl
       have aL4:(qD p fs (k+1) i).getD i 0=(iO p fs (k+1:Nat) i).1:=by rw[nR bN,if_neg (Nat.lt_irrefl i)]
       have ek:aU (((k+1:Nat):Int) - 1)=(k:Int):=by rw[aG oM oM];omega
       have ekn:(aU (((k+1:Nat):Int) - 1)).toNat=k:=by rw[ek];rfl
       refine sX aA ?_
       refine AW.cond ?_
       refine aI (fun h4=>?_) (fun h4=>?_)
       ·refine eX aA ?_
        refine oi (show 0≤aU (((k+1:Nat):Int) - 1)∧aU (((k+1:Nat):Int) - 1)<((cY p fs (k+1)).length:Int) by rw[ek,mN];omega) ?_
        refine oi (show(aU (((k+1:Nat):Int) - 1)).toNat<(cY p fs (k+1)).length by rw[ekn,mN];omega) ?_
        refine oi (show(0:Int)≤(i:Int)∧(i:Int)<((((cY p fs (k+1)).getD (aU (((k+1:Nat):Int) - 1)).toNat default).levels.length:Nat):Int) by rw[ekn,mO oM];show(0:Int)≤(i:Int)∧(i:Int)<((o6 p fs k).length:Int);unfold o6;simp;omega) ?_
        refine oi ⟨oM,oM⟩ ?_
        refine ob (show((i:Nat):Int).toNat<p.aS.levels.length by omega) ?_
        refine aD ?_
        refine eX aA ?_
        refine⟨i+1,oM,oM,?_⟩
        refine aP.b7 aA [] rfl ⟨bQ,bQ,bQ,⟨rfl,aQ.row rfl fun a c ha hc=>aJ.of_eq ?_⟩,oO⟩ ⟨qZ,qZ,qZ,qZ,qZ,qZ,qZ,qZ,⟨rfl,aM.int (aG oM oM)⟩,oO⟩
        refine TR (x:=mm false ((qD p fs (k+1) i).getD i 0) (((cY p fs (k+1)).getD (aU (((k+1:Nat):Int) - 1)).toNat default).levels.getD i 0)) ha hc ?_
        rw[aL4,ekn,mO oM]
        show mm false _ ((o6 p fs k).getD i 0)=_
        rw[AI bN]
        exact EJ
       ·have h4:decide (((k+1:Nat):Int)>0)=false:=h4
        simp at h4
     ·have h2:¬(i:Int)<p.aS.levels.length:=cD h2
      obtain rfl:i=p.aS.levels.length:=oM
      rw[OC]
      refine AW.VC (σ':=⟨[(2,.s (.ptr 2 0)),(5,.s (.own 100)),(7,.s (.ptr 7 0)),(12,vI (month+1:Nat)),(13,vI (k+1:Nat))],[(2,some (.cells (k9 p fs))),(100,some (.row 24 (cY p fs (k+1)).length 6 (CQ (cY p fs (k+1))))),(7,some (.cells (UE p.aS (.d (cG (o6 p fs (k+1)))))))]⟩) (kH.of aA [] [700] rfl rfl rfl ⟨⟨rfl,iI.rfl⟩,⟨rfl,iI.rfl⟩,⟨rfl,iI.cells ⟨bO.rfl,bO.rfl,bO.rfl,bO.rfl,bO.rfl,(bO.own sM rfl).then (aM.d (aJ.of_eq (by unfold cG;rw[show(o6 p fs (k+1)).length=p.aS.levels.length by unfold o6;simp]))),oO⟩⟩,oO⟩ ⟨⟨rfl,bO.rfl⟩,⟨rfl,bO.rfl⟩,⟨rfl,bO.rfl⟩,⟨rfl,bO.rfl⟩,⟨rfl,bO.rfl⟩,oO⟩) ?_
      refine eX aA ?_
      refine ob (by rw[mN];show(k+1+1)*64≤_;omega) ?_
      refine ob (mT fun c hc=>by match c,hc with|0,_|1,_|2,_|3,_|4,_|5,_=>rfl) ?_
      refine eX aA ?_
      refine⟨(k+1)+1,oM,oM,?_⟩
      refine aP.b7 aA [(100,70)] rfl ⟨bQ,⟨rfl,?_⟩,oO⟩ ⟨qZ,qZ,qZ,⟨rfl,aM.int (aG oM oM)⟩,oO⟩
      show aQ _ (.row 24 (cY p fs (k+1+1)).length 6 (CQ (cY p fs (k+1+1))))
      rw[V1 p fs (k+1)]
      exact gH.row (el:=aE7) (gH.snoc gH.refl fun c hc=>by match c,hc with|0,_|1,_|2,_|3,_|4,_|5,_=>rfl)
   ·have h1:¬((k+1:Nat):Int)<((month+1:Nat):Int):=cD h1
    obtain rfl:k=month:=oM
    refine eX aA ?_
    exact aC.refl _
abbrev aKY(b:Batch):List SV:=[.d (dI b.number),.d (dI b.aS),.d (dI b.over),.d (dS b.aN),.d (dI b.cls)]
def x9(l:List oG)(s:ByteArray):Int:=Ch.dA (fun x=>dE x.aN s) l 0
theorem aJ8(q:oG)(s:ByteArray)(f:Nat→DV)(hf:f 0=dS s):aF prog 352 [.g [.d (dS q.aN),.d (dI q.num),.d (dI q.den)],.s (.d (.rp 1 f))] (vB (dE q.aN s)):=by
 refine aF.conv (args:=[.g [.d (dS q.aN),.d (dI q.num),.d (dI q.den)],.s (.d (.rp 1 fun _=>dS s))]) ?_ ⟨⟨aJ.refl _,aJ.refl _,aJ.refl _,oO⟩,aJ.rp fun j hj=>aJ.of_eq (by rw[show j=0 by omega];exact hf),oO⟩
 refine eP func352 rfl rfl call352 rfl rfl fun cx aA=>?_
 exact aC.refl _
theorem PL(y:gR)(s:ByteArray)(hl:y.b8.length≤9223372036854775807):aF prog 327 [xJ y,vS s] (vI (x9 y.b8 s)):=by
 refine eP func327 rfl rfl call327 rfl rfl fun cx aA=>?_
 refine aB (WC y.b8 hl 352 1 _ (fun q=>dE q.aN s) (fun q _=>aJ8 q s _ rfl)) ?_
 exact aC.refl _
def QG(y:gR)(b:Batch):Int:=
 bif !within b.number 1 1000000|| !within b.aS 0 1000000000000|| !within b.over 0 b.aS then 2
 else bif decide (x9 y.b8 b.aN<0)then 6 else bif !within b.cls 0 9 then 2 else 0
theorem SM(y:gR)(b:Batch)(hl:y.b8.length≤9223372036854775807):aF prog 324 [xJ y,aEB b] (vI (QG y b)):=by
 refine eP func324 rfl rfl call324 rfl rfl fun cx aA=>?_
 refine aB (jW _ _ _) ?_
 repeat refine aR ?_
 refine eJ (jW _ _ _) ?_
 repeat refine aR ?_
 refine eJ (jW _ _ _) ?_
 repeat refine aR ?_
 refine aI (fun h1=>?_) (fun h1=>?_)
 ·have h1:(!within b.number 1 1000000|| !within b.aS 0 1000000000000|| !within b.over 0 b.aS)=true:=h1
  exact aC.of_eq (by unfold QG;rw[h1];rfl)
 have h1:(!within b.number 1 1000000|| !within b.aS 0 1000000000000|| !within b.over 0 b.aS)=false:=h1
 refine aB (PL y b.aN hl) ?_
 refine aI (fun h2=>?_) (fun h2=>?_)
 ·have h2:decide (x9 y.b8 b.aN<0)=true:=h2
  exact aC.of_eq (by unfold QG;rw[h1,h2];rfl)
 have h2:decide (x9 y.b8 b.aN<0)=false:=h2
 refine aB (jW _ _ _) ?_
 refine aI (fun h3=>?_) (fun h3=>?_)
 ·have h3:(!within b.cls 0 9)=true:=h3
  exact aC.of_eq (by unfold QG;rw[h1,h2,h3];rfl)
 ·have h3:(!within b.cls 0 9)=false:=h3
  exact aC.of_eq (by unfold QG;rw[h1,h2,h3];rfl)
def wZ(y:gR)(b:Batch):Int:=bif nC y !=0 then nC y else QG y b
theorem S7(y:gR)(b:Batch)(hy:y.fits):aF prog 274 [xJ y,aEB b] (vI (wZ y b)):=by
 refine eP func274 rfl rfl call274 rfl rfl fun cx aA=>?_
 refine aB (aBD y hy) ?_
 refine aI (fun h1=>?_) (fun h1=>?_)
 ·have h1:(nC y !=0)=true:=h1
  exact aC.of_eq (by unfold wZ;rw[h1];rfl)
 have h1:(nC y !=0)=false:=h1
 refine aB (SM y b hy.b8) ?_
 exact aC.of_eq (by unfold wZ;rw[h1];rfl)
def MG(y:gR)(n:Int):Bool:=y.cC.any fun d=>d.batch==n
theorem aMU(q:QV)(n:Int)(f:Nat→DV)(hf:f 0=dI n):aF prog 326 [aDX q,.s (.d (.rp 1 f))] (vB (q.batch==n)):=by
 refine aF.conv (args:=[aDX q,.s (.d (.rp 1 fun _=>dI n))]) ?_ ⟨⟨aJ.refl _,aJ.refl _,aJ.refl _,oO⟩,aJ.rp fun j hj=>aJ.of_eq (by rw[show j=0 by omega];exact hf),oO⟩
 refine eP func326 rfl rfl call326 rfl rfl fun cx aA=>?_
 exact aC.refl _
theorem W5(y:gR)(n:Int)(hl:y.cC.length≤9223372036854775807):aF prog 275 [xJ y,vI n] (vB (MG y n)):=by
 refine eP func275 rfl rfl call275 rfl rfl fun cx aA=>?_
 refine aB (P3 y.cC hl 326 1 _ (fun q=>q.batch==n) (fun q _=>aMU q n _ rfl)) ?_
 exact aC.refl _
def IE(y:gR)(p:xI)(cls jO:Int):Int:=bif !p.bB.contains cls then 20 else bif decide (N3 y p<jO)then 19 else 0
theorem refusal(y:gR)(p:xI)(cls jO:Int)(hl:y.cC.length≤9223372036854775807)(hc:p.bB.length≤1000000):aF prog 277 [xJ y,LI p,vI cls,vI jO] (vI (IE y p cls jO)):=by
 refine eP func277 rfl rfl call277 rfl rfl fun cx aA=>?_
 refine aB (X3 p.bB cls hc) ?_
 refine aI (fun h1=>?_) (fun h1=>?_)
 ·have h1:(!p.bB.contains cls)=true:=h1
  exact aC.of_eq (by unfold IE;rw[h1];rfl)
 have h1:(!p.bB.contains cls)=false:=h1
 refine aB (aE9 y p hl) ?_
 refine aI (fun h2=>?_) (fun h2=>?_)
 ·have h2:decide (N3 y p<jO)=true:=h2
  exact aC.of_eq (by unfold IE;rw[h1,h2];rfl)
 ·have h2:decide (N3 y p<jO)=false:=h2
  exact aC.of_eq (by unfold IE;rw[h1,h2];rfl)
theorem MR:aF prog 161 [zN []] (.s (.d dK)):=by
 refine eP func161 rfl rfl call161 rfl rfl fun cx aA=>?_
 refine aI (fun h=>?_) (fun h=>?_)
 ·exact aC.refl _
 ·cases h
theorem aD3(y:gR)(h:y.small)(wG:0<y.a6.length)(hc:0<y.carry.length)(hd:y.cC=[]):bM prog 88 [xJ y] [] (.g [.d (qM y.a6),.d (oY y.b8),.d dK,.own 9]) [(9,.row 3 y.carry.length 1 (dM y.carry))]:=by
 have hp:=h.a6
 have uA:=h.carry
 refine gT func88 rfl rfl call88 aK rfl rfl rfl rfl (fun cx aA=>?_)
 have aA:cx.ref=[]:=aA
 refine sX aA ?_
 refine AW.seq (ex.sound (rc:=[1000159,1000162]) aK mix aA _ ?_)
 refine⟨[(9,501)],_,_,_,_,y9 y.a6 wG h.a6,rfl,rfl,rfl,?_⟩
 refine aB (tO y.b8 h.b8) ?_
 rw[hd]
 refine aB (MR) ?_
 refine⟨[(9,502)],_,_,_,_,HP y.carry hc uA,rfl,rfl,rfl,?_⟩
 refine aD ?_
 refine AW.seq (sX aA ?_)
 refine AW.block ?_
 refine AW.cZ (fun i:Nat=>⟨[(2,.s (.ptr 2 0)),(3,.s (.ptr 3 0)),(20,vI y.a6.length),(21,vI i)],[(2,some (.cells (iE ty88.zero))),(3,some (.cells [.own 501,.d (oY y.b8),.d dK,.own 502])),(501,some (.row 69 y.a6.length 6 (DF y.a6))),(502,some (.row 3 y.carry.length 1 (dM y.carry)))]⟩) (fun i=>i≤y.a6.length) (fun i=>y.a6.length - i) 0 (Nat.zero_le _) ?_ ?_
 ·exact aP.b7 aA [] rfl ⟨bQ,bQ,⟨rfl,(xF (el:=ZM) y.a6).row⟩,⟨rfl,(xF (el:=fun x _=>dI x) y.carry).row⟩,oO⟩ ⟨qZ,qZ,qZ,qZ,oO⟩
 ·intro i hi
  refine eX aA ?_
  refine aI (fun h5=>?_) (fun h5=>?_)
  ·have h5:(i:Int)<y.a6.length:=cB h5
   refine oi ⟨oM,oM⟩ ?_
   refine oi (by show(i:Int).toNat<y.a6.length;omega) ?_
   refine aB (sD (y.a6.getD i default).bB (h.bB _ (dZ oM))) ?_
   refine oi ⟨oM,oM⟩ ?_
   refine ob (by show(i:Int).toNat<y.a6.length;omega) ?_
   refine aD ?_
   refine⟨i+1,oM,oM,?_⟩
   exact aP.b7 aA [] rfl ⟨bQ,bQ,⟨rfl,(MP y.a6 i).row⟩,bQ,oO⟩ ⟨qZ,qZ,qZ,⟨rfl,aM.int (aG oM oM)⟩,oO⟩
  ·refine AW.VC (σ':=⟨[(2,.s (.ptr 2 0)),(3,.s (.ptr 3 0))],[(2,some (.cells (iE ty88.zero))),(3,some (.cells [.d (qM y.a6),.d (oY y.b8),.d dK,.own 9])),(9,some (.row 3 y.carry.length 1 (dM y.carry)))]⟩) (kH.of aA [(9,502)] [501] rfl rfl rfl ⟨⟨rfl,iI.rfl⟩,⟨rfl,iI.cells ⟨bO.own sM rfl,bO.rfl,bO.rfl,bO.rfl,oO⟩⟩,⟨rfl,iI.rfl⟩,oO⟩ ⟨⟨rfl,bO.rfl⟩,⟨rfl,bO.rfl⟩,oO⟩) ?_
   refine eX aA ?_
   exact⟨aM.rfl,rfl,oO⟩
theorem aD2(y:gR)(h:y.small)(wG:0<y.a6.length)(hc:0<y.carry.length)(hd:0<y.cC.length):bM prog 88 [xJ y] [] (.g [.d (qM y.a6),.d (oY y.b8),.own 8,.own 9]) [(8,.row 177 y.cC.length 3 (D7 y.cC)),(9,.row 3 y.carry.length 1 (dM y.carry))]:=by
 have hp:=h.a6
 have uA:=h.carry
 refine gT func88 rfl rfl call88 aK rfl rfl rfl rfl (fun cx aA=>?_)
 have aA:cx.ref=[]:=aA
 refine sX aA ?_
 refine AW.seq (ex.sound (rc:=[1000159,1000161,1000162]) aK mix aA _ ?_)
 refine⟨[(9,501)],_,_,_,_,y9 y.a6 wG h.a6,rfl,rfl,rfl,?_⟩
 refine aB (tO y.b8 h.b8) ?_
 refine⟨[(9,503)],_,_,_,_,SJ y.cC hd h.cC,rfl,rfl,rfl,?_⟩
 refine⟨[(9,502)],_,_,_,_,HP y.carry hc uA,rfl,rfl,rfl,?_⟩
 refine aD ?_
 refine AW.seq (sX aA ?_)
 refine AW.block ?_
 refine AW.cZ (fun i:Nat=>⟨[(2,.s (.ptr 2 0)),(3,.s (.ptr 3 0)),(20,vI y.a6.length),(21,vI i)],[(2,some (.cells (iE ty88.zero))),(3,some (.cells [.own 501,.d (oY y.b8),.own 503,.own 502])),(501,some (.row 69 y.a6.length 6 (DF y.a6))),(503,some (.row 177 y.cC.length 3 (D7 y.cC))),(502,some (.row 3 y.carry.length 1 (dM y.carry)))]⟩) (fun i=>i≤y.a6.length) (fun i=>y.a6.length - i) 0 (Nat.zero_le _) ?_ ?_
 ·exact aP.b7 aA [] rfl ⟨bQ,bQ,⟨rfl,(xF (el:=ZM) y.a6).row⟩,⟨rfl,(xF (el:=aDY) y.cC).row⟩,⟨rfl,(xF (el:=fun x _=>dI x) y.carry).row⟩,oO⟩ ⟨qZ,qZ,qZ,qZ,oO⟩
 ·intro i hi
  refine eX aA ?_
  refine aI (fun h5=>?_) (fun h5=>?_)
  ·have h5:(i:Int)<y.a6.length:=cB h5
   refine oi ⟨oM,oM⟩ ?_
   refine oi (by show(i:Int).toNat<y.a6.length;omega) ?_
   refine aB (sD (y.a6.getD i default).bB (h.bB _ (dZ oM))) ?_
   refine oi ⟨oM,oM⟩ ?_
   refine ob (by show(i:Int).toNat<y.a6.length;omega) ?_
   refine aD ?_
   refine⟨i+1,oM,oM,?_⟩
   exact aP.b7 aA [] rfl ⟨bQ,bQ,⟨rfl,(MP y.a6 i).row⟩,bQ,bQ,oO⟩ ⟨qZ,qZ,qZ,⟨rfl,aM.int (aG oM oM)⟩,oO⟩
  ·refine AW.VC (σ':=⟨[(2,.s (.ptr 2 0)),(3,.s (.ptr 3 0))],[(2,some (.cells (iE ty88.zero))),(3,some (.cells [.d (qM y.a6),.d (oY y.b8),.own 8,.own 9])),(8,some (.row 177 y.cC.length 3 (D7 y.cC))),(9,some (.row 3 y.carry.length 1 (dM y.carry)))]⟩) (kH.of aA [(8,503),(9,502)] [501] rfl rfl rfl ⟨⟨rfl,iI.rfl⟩,⟨rfl,iI.cells ⟨bO.own sM rfl,bO.rfl,bO.rfl,bO.rfl,oO⟩⟩,⟨rfl,iI.rfl⟩,⟨rfl,iI.rfl⟩,oO⟩ ⟨⟨rfl,bO.rfl⟩,⟨rfl,bO.rfl⟩,oO⟩) ?_
   refine eX aA ?_
   exact⟨aM.rfl,rfl,rfl,oO⟩
def HX(y:gR)(b:Batch):Nat:=(x9 y.b8 b.aN).toNat
def QE(y:gR)(b:Batch):Int:=aU (aU (aU (b.aS - b.over)*(y.b8.getD (HX y b) default).num)+y.carry.getD (HX y b) 0)
def pY(y:gR)(b:Batch):Int:=aU (Int.tdiv (QE y b) (y.b8.getD (HX y b) default).den)
def oD(y:gR)(b:Batch):List Int:=y.carry.set (HX y b) (Int.tmod (QE y b) (y.b8.getD (HX y b) default).den)
theorem aHU(y:gR)(b:Batch)(hl:y.b8.length≤1000000)(h0:0≤x9 y.b8 b.aN)(hc:y.carry.length=y.b8.length)(hd:(y.b8.getD (HX y b) default).den≠0):
  bM prog 276 [xJ y,aEB b,.s (.own 1001)] [(1001,.row 3 y.carry.length 1 (dM y.carry))] (vI (pY y b)) [(1001,.row 3 y.carry.length 1 (dM (oD y b)))]:=by
 have fR:HX y b<y.b8.length:=(AP (fun x:oG=>dE x.aN b.aN) y.b8 0 h0).2.1
 have hN:x9 y.b8 b.aN=(HX y b:Int):=by unfold HX;omega
 refine kN func276 rfl rfl call276 aK rfl rfl rfl rfl (fun cx aA=>?_)
 refine sX aA ?_
 refine sX aA ?_
 refine aB (PL y b.aN oM) ?_
 rw[hN]
 generalize hi:HX y b=i at fR hd
 refine sX aA ?_
 refine oi ⟨oM,oM⟩ ?_
 refine sX aA ?_
 refine oi ⟨oM,oM⟩ ?_
 refine oi (show((i:Nat):Int).toNat<y.carry.length by omega) ?_
 refine aD ?_
 refine sX aA ?_
 refine oi hd ?_
 refine oi ⟨oM,oM⟩ ?_
 refine ob (show((i:Nat):Int).toNat<y.carry.length by omega) ?_
 have hT:QE y b=aU (aU (aU (b.aS - b.over)*(y.b8.getD i default).num)+y.carry.getD i 0):=by unfold QE;rw[hi]
 refine AW.fU (σ':=⟨[(8,.s (.ptr 8 0)),(9,vI (QE y b))],[(8,some (.cells [.d (dI (y.b8.getD i default).num),.d (dI (y.b8.getD i default).den)])),(1001,some (.row 3 y.carry.length 1 (dM (oD y b))))]⟩) (aP.of [] (by rw[aA];rfl) rfl ⟨bQ,⟨rfl,aQ.row rfl fun a c ha PD=>aJ.of_eq ?_⟩,oO⟩ ⟨qZ,⟨rfl,aM.int hT.symm⟩,oO⟩) ?_
 ·obtain rfl:c=0:=oM
  show fK (dM y.carry) i 0 [.d (dI (Int.tmod (aU (aU (aU (b.aS - b.over)*(y.b8.getD i default).num)+y.carry.getD i 0)) (y.b8.getD i default).den))] a 0=dI ((oD y b).getD a 0)
  unfold oD
  rw[hi,hT]
  by_cases h2:a=i
  ·subst h2
   rw[qH]
   simp[List.getD_eq_getElem?_getD,show a<y.carry.length by omega]
  ·rw[w8 h2]
   show dI (y.carry.getD a 0)=_
   simp[List.getD_eq_getElem?_getD,Ne.symm h2]
 refine eX aA ?_
 refine oi hd ?_
 refine⟨aC.of_eq (by unfold pY;rw[hi];rfl),rfl,oO⟩
def nW(y:gR)(b:Batch)(cQ:ByteArray):Int:=
 bif wZ y b !=0 then wZ y b else bif MG y b.number then 5 else bif decide (nX y.a6 cQ<0)then 6
 else bif IE y (y.a6.getD (nX y.a6 cQ).toNat default) b.cls (pY y b) !=0 then IE y (y.a6.getD (nX y.a6 cQ).toNat default) b.cls (pY y b)
 else bif decide ((y.cC.length:Int)≥200)then 8 else 0
def N7(y:gR)(b:Batch)(cQ:ByteArray):gR:={y with cC:=y.cC++ [⟨b.number,cQ,pY y b⟩],carry:=oD y b}
def F2(y:gR)(b:Batch)(cQ:ByteArray):List SV:=bif nW y b cQ !=0 then iE ty88.zero else B1 (N7 y b cQ)
structure wW(y:gR):Prop where
 fits:y.fits
 small:y.small
 zero:nC y=0→y.carry.length=y.b8.length∧∀i,i<y.b8.length→(y.b8.getD i default).den≠0
theorem Place(y:gR)(b:Batch)(cQ:ByteArray)(hy:wW y):aF prog 228 [xJ y,aEB b,vS cQ] (.t [.g (F2 y b cQ),.s (.d (dI (nW y b cQ)))]):=by
 have aAR:=hy.fits
 have yN:=hy.small
 have hl:y.cC.length≤9223372036854775807:=aAR.cC
 have tF:∀{e:Int},nW y b cQ=e→(e !=0)=true→aC (.t [.g (iE ty88.zero),.s (.d (dI e))]) (.t [.g (F2 y b cQ),.s (.d (dI (nW y b cQ)))]):=fun h1 h2=>aC.of_eq (by unfold F2;rw[h1,h2];rfl)
 refine eW func228 rfl rfl call228 rfl rfl (fun cx aA=>?_)
 refine sX aA ?_
 refine AW.seq (sX aA ?_)
 refine aB (S7 y b aAR) ?_
 refine sX aA ?_
 refine AW.cond ?_
 refine aI (fun h1=>?_) (fun h1=>AW.skip ?_)
 ·have h1:(wZ y b !=0)=true:=h1
  refine eX aA ?_
  exact tF (by unfold nW;rw[h1];rfl) h1
 have h1:(wZ y b !=0)=false:=h1
 have hyz:nC y=0:=by
  have IS:wZ y b=0:=by simpa using h1
  unfold wZ at IS
  cases h:(nC y !=0)with
  |true=>
   rw[h]at IS
   have IS:nC y=0:=IS
   rw[IS]at h;cases h
  |false=>simpa using h
 have hba:QG y b=0:=by
  have IS:wZ y b=0:=by simpa using h1
  unfold wZ at IS
  rw[hyz]at IS
  exact IS
 have hblk:0≤x9 y.b8 b.aN:=by
  unfold QG at hba
  cases h:decide (x9 y.b8 b.aN<0)with
  |false=>
   have:¬x9 y.b8 b.aN<0:=by simpa using h
   omega
  |true=>
   rw[h]at hba
   cases h':(!within b.number 1 1000000|| !within b.aS 0 1000000000000|| !within b.over 0 b.aS) <;> rw[h']at hba <;> cases hba
 obtain⟨uA,aMJ⟩:=hy.zero hyz
 have fR:HX y b<y.b8.length:=(AP (fun x:oG=>dE x.aN b.aN) y.b8 0 hblk).2.1
 refine sX aA ?_
 refine aB (aEP y cQ aAR.a6) ?_
 refine AW.seq (AW.block (sX aA ?_))
 refine aB (W5 y b.number hl) ?_
 refine AW.cond ?_
 refine aI (fun h2=>?_) (fun h2=>?_)
 ·have h2:MG y b.number=true:=h2
  refine eX aA ?_
  exact tF (by unfold nW;rw[h1,h2];rfl) rfl
 have h2:MG y b.number=false:=h2
 refine sX aA ?_
 refine AW.cond ?_
 refine aI (fun h3=>?_) (fun h3=>AW.skip ?_)
 ·have h3:decide (nX y.a6 cQ<0)=true:=h3
  refine eX aA ?_
  exact tF (by unfold nW;rw[h1,h2,h3];rfl) rfl
 have h3:decide (nX y.a6 cQ<0)=false:=h3
 have hp0:0≤nX y.a6 cQ:=by
  have:¬nX y.a6 cQ<0:=by simpa using h3
  omega
 have hpl:(nX y.a6 cQ).toNat<y.a6.length:=(AP (fun x:xI=>dE x.name cQ) y.a6 0 hp0).2.1
 have aJO:(y.a6.getD (nX y.a6 cQ).toNat default).bB.length≤1000000:=yN.bB _ (dZ hpl)
 have hb:=aHU y b yN.b8 hblk uA (aMJ _ fR)
 by_cases hd:y.cC=[]
 ·refine AW.seq (ex.sound (rc:=[88]) aK mix aA _ ?_)
  refine⟨[(9,602)],_,_,_,_,aD3 y yN oM oM hd,rfl,trivial,rfl,?_⟩
  refine AW.seq (ex.sound (rc:=[276]) aK mix aA _ ?_)
  refine⟨[(1001,602)],_,_,_,_,hb,rfl,⟨rfl,oO⟩,rfl,?_⟩
  refine AW.seq (sX aA ?_)
  refine oi ⟨oM,oM⟩ ?_
  refine aB (refusal y (y.a6.getD (nX y.a6 cQ).toNat default) b.cls (pY y b) hl aJO) ?_
  refine aD ?_
  refine sX aA ?_
  refine AW.cond ?_
  refine aI (fun h4=>?_) (fun h4=>AW.skip ?_)
  ·have h4:(IE y (y.a6.getD (nX y.a6 cQ).toNat default) b.cls (pY y b) !=0)=true:=h4
   refine eX aA ?_
   exact tF (by unfold nW;rw[h1,h2,h3,h4];rfl) h4
  have h4:(IE y (y.a6.getD (nX y.a6 cQ).toNat default) b.cls (pY y b) !=0)=false:=h4
  refine AW.seq (sX aA ?_)
  refine AW.cond ?_
  refine aI (fun h5=>?_) (fun h5=>AW.skip ?_)
  ·have h5:decide ((y.cC.length:Int)≥200)=true:=h5
   refine eX aA ?_
   exact tF (by unfold nW;rw[h1,h2,h3,h4,h5];rfl) rfl
  have h5:decide ((y.cC.length:Int)≥200)=false:=h5
  have he:nW y b cQ=0:=by unfold nW;rw[h1,h2,h3,h4,h5];rfl
  have aGT:(oD y b).length=y.carry.length:=by unfold oD;simp
  refine AW.fU (σ':=⟨[(2,vS cQ),(6,.s (.ptr 6 0)),(4,.s (.ptr 4 0)),(10,.s (.ptr 10 0)),(11,vI (pY y b))],[(4,some (.cells (aKY b))),(6,some (.cells (iE ty88.zero))),(10,some (.cells [.d (qM y.a6),.d (oY y.b8),.d dK,.own 602])),(602,some (.row 3 (oD y b).length 1 (dM (oD y b))))]⟩) (aP.b7 aA [] rfl ⟨bQ,bQ,bQ,⟨rfl,aQ.of_eq (by rw[aGT];rfl)⟩,oO⟩ ⟨qZ,qZ,qZ,qZ,qZ,oO⟩) ?_
  refine eX aA ?_
  refine ob dC ?_
  refine ob dC ?_
  rw[show F2 y b cQ=B1 (N7 y b cQ) by unfold F2;rw[he];rfl,he]
  refine aC.t ⟨⟨aJ.refl _,aJ.refl _,?_,aJ.refl _,oO⟩,aJ.refl _,oO⟩
  show aJ _ (KM (y.cC++ [⟨b.number,cQ,pY y b⟩]))
  rw[hd]
  exact gH.fJ (el:=aDY) (gH.one (lt3 rfl rfl rfl))
 ·refine AW.seq (ex.sound (rc:=[88]) aK mix aA _ ?_)
  refine⟨[(8,601),(9,602)],_,_,_,_,aD2 y yN oM oM (List.length_pos_iff.2 hd),rfl,trivial,rfl,?_⟩
  refine AW.seq (ex.sound (rc:=[276]) aK mix aA _ ?_)
  refine⟨[(1001,602)],_,_,_,_,hb,rfl,⟨rfl,oO⟩,rfl,?_⟩
  refine AW.seq (sX aA ?_)
  refine oi ⟨oM,oM⟩ ?_
  refine aB (refusal y (y.a6.getD (nX y.a6 cQ).toNat default) b.cls (pY y b) hl aJO) ?_
  refine aD ?_
  refine sX aA ?_
  refine AW.cond ?_
  refine aI (fun h4=>?_) (fun h4=>AW.skip ?_)
  ·have h4:(IE y (y.a6.getD (nX y.a6 cQ).toNat default) b.cls (pY y b) !=0)=true:=h4
   refine eX aA ?_
   exact tF (by unfold nW;rw[h1,h2,h3,h4];rfl) h4
  have h4:(IE y (y.a6.getD (nX y.a6 cQ).toNat default) b.cls (pY y b) !=0)=false:=h4
  refine AW.seq (sX aA ?_)
  refine AW.cond ?_
  refine aI (fun h5=>?_) (fun h5=>AW.skip ?_)
  ·have h5:decide ((y.cC.length:Int)≥200)=true:=h5
   refine eX aA ?_
   exact tF (by unfold nW;rw[h1,h2,h3,h4,h5];rfl) rfl
  have h5:decide ((y.cC.length:Int)≥200)=false:=h5
  have he:nW y b cQ=0:=by unfold nW;rw[h1,h2,h3,h4,h5];rfl
  have aGT:(oD y b).length=y.carry.length:=by unfold oD;simp
  refine AW.fU (σ':=⟨[(2,vS cQ),(6,.s (.ptr 6 0)),(4,.s (.ptr 4 0)),(10,.s (.ptr 10 0)),(11,vI (pY y b))],[(4,some (.cells (aKY b))),(6,some (.cells (iE ty88.zero))),(10,some (.cells [.d (qM y.a6),.d (oY y.b8),.own 601,.own 602])),(601,some (.row 177 y.cC.length 3 (D7 y.cC))),(602,some (.row 3 (oD y b).length 1 (dM (oD y b))))]⟩) (aP.b7 aA [] rfl ⟨bQ,bQ,bQ,bQ,⟨rfl,aQ.of_eq (by rw[aGT];rfl)⟩,oO⟩ ⟨qZ,qZ,qZ,qZ,qZ,oO⟩) ?_
  refine eX aA ?_
  refine ob (show(y.cC.length+1)*32≤140737488355328 by have:=yN.cC;omega) ?_
  refine ob (mT (lt3 rfl rfl rfl)) ?_
  rw[show F2 y b cQ=B1 (N7 y b cQ) by unfold F2;rw[he];rfl,he]
  refine aC.t ⟨⟨aJ.refl _,aJ.refl _,?_,aJ.refl _,oO⟩,aJ.refl _,oO⟩
  show aJ _ (KM (y.cC++ [⟨b.number,cQ,pY y b⟩]))
  exact gH.fJ (el:=aDY) (gH.snoc gH.refl (lt3 rfl rfl rfl))
end Go.Pj
namespace Go.Ch
open Go Go.Ax Go.Proofs Go.Proofs.Tryz
theorem Mul64(n:Int)(h:0≤n)(k:n<4294967296):aF prog 355 [uI 1,uI n] (.t [.s (.d (duI 0)),.s (.d (duI n))]):=by
 refine eP func355 rfl rfl call355 rfl rfl fun cx _=>?_
 refine oi dC ?_
 refine oi dC ?_
 refine oi dC ?_
 refine oi dC ?_
 refine oi dC ?_
 refine aC.of_eq ?_
 have e1:XS .u64 1 4294967295=1:=andM dC dC
 have e2:YW .u64 1 32=0:=aFP dC dC
 have e3:=andM h k
 have e4:=aFP h k
 have e5:IntKind.u64.wrap n=n:=QW h oM
 have e6:IntKind.u64.wrap 0=0:=rfl
 have e7:XS .u64 0 4294967295=0:=andM dC dC
 have e8:YW .u64 0 32=0:=aFP dC dC
 show AV.t [.s (.d (.val (.int .u64 _))),.s (.d (.val (.int .u64 _)))]=_
 simp only [e1,e2,e3,e4,e5,e6,e7,e8,Int.one_mul,Int.zero_mul,Int.mul_zero,Int.add_zero]
theorem Mul(n:Int)(h:0≤n)(k:n<4294967296):aF prog 329 [uI 1,uI n] (.t [.s (.d (duI 0)),.s (.d (duI n))]):=by
 refine eP func329 rfl rfl call329 rfl rfl fun cx _=>?_
 refine aB (Mul64 n h k) ?_
 exact aC.refl _
theorem aEI{f:Nat→Nat→DV}{v:Int}{n:Nat}(hf:f 0 0=dI v)(hn:n≤1000000):bM prog 278 [.s (.own 1001),vI n] [(1001,.row 3 1 1 f)] (.s (.own 30)) [(1001,.row 3 1 1 f),(30,.row 3 n 1 (A6 v n))]:=by
 refine fG (rc:=[]) (N:=48) func278 rfl rfl call278 aK mix rfl rfl rfl rfl (fun cx aA=>?_)
 refine aI (fun h=>absurd (cB h) oM) (fun _=>?_)
 have e1:IntKind.u64.wrap (1:Int)=1:=rfl
 have e2:IntKind.u64.wrap (n:Int)=n:=QW oM oM
 have hM:aF prog 329 [uI (IntKind.u64.wrap ((1:Nat):Int)),uI (IntKind.u64.wrap n)] (.t [.s (.d (duI 0)),.s (.d (duI n))]):=by
  rw[e2];exact Mul n oM oM
 refine aB hM ?_
 repeat first|refine sk ?_|refine st ?_|refine sg ?_
 refine aI (fun h=>?_) (fun _=>?_)
 ·have h:(decide ((0:Int)>0)||decide ((n:Int)>9223372036854775807))=true:=h
  simp only [gt_iff_lt,Int.lt_irrefl,decide_false,Bool.false_or,decide_eq_true_eq]at h
  omega
 have e3:IntKind.i64.wrap (n:Int)=n:=aG oM oM
 refine ob (show 0≤IntKind.i64.wrap (n:Int) by omega) ?_
 refine ob (Int.le_refl _) ?_
 refine ob (show((8:Nat):Int)*IntKind.i64.wrap (n:Int)≤_ by omega) ?_
 refine ob (fun k j hk hj=>?_) ?_
 ·obtain rfl:k=0:=oM
  obtain rfl:j=0:=oM
  rw[hf];rfl
 refine AW.cZ (fun k:Nat=>⟨[(7,.s (.own 30)),(8,vI k)],[(30,some (.row 3 n 1 (A6 v k))),(1001,some (.row 3 1 1 f))]⟩)
  (fun k=>k≤n∧(0<n→0<k)) (fun k=>n - k) (min 1 n) oM ?_ ?_
 ·refine aP.of [] (by rw[aA];rfl) rfl ⟨⟨rfl,aQ.row (by rw[e3];rfl) fun k j hk hj=>aJ.of_eq ?_⟩,bQ,oO⟩ ⟨qZ,⟨rfl,aM.int ?_⟩,oO⟩
  ·have hj:j=0:=by have:j<1:=hj;omega
   subst hj
   have hk:k<(IntKind.i64.wrap (n:Int)).toNat:=hk
   rw[e3]at hk ⊢
   show(if 0≤k∧k<0+Nat.min 1 n then f (k - 0) 0 else dI 0)=(if k<min 1 n then dI v else dI 0)
   rw[Nat.zero_add]
   by_cases h1:k<min 1 n
   ·obtain rfl:k=0:=oM
    rw[if_pos h1,if_pos ⟨Nat.zero_le _,h1⟩,hf]
   ·rw[if_neg h1,if_neg (fun h=>h1 h.2)]
  ·rw[e3];rfl
 ·intro k ⟨hk,RU⟩
  refine eX aA ?_
  refine aI (fun h=>?_) (fun h=>?_)
  ·have h:(k:Int)<n:=cB h
   refine oi (show 0≤(k:Int)∧(k:Int)≤(n:Int)∧(n:Int)≤n by omega) ?_
   refine oi (show(0:Int)≤0∧(0:Int)≤(k:Int)∧(k:Int)≤n by omega) ?_
   refine ob (fun i j _ _=>?_) ?_
   ·show(if 0+i<k then dI v else dI 0).fit=true
    split <;> rfl
   refine aD ?_
   have hq:Nat.min (k - 0) (n - k)≤k:=Nat.min_le_left _ _
   have hq2:Nat.min (k - 0) (n - k)≤n - k:=Nat.min_le_right _ _
   have hq3:0<Nat.min (k - 0) (n - k):=Nat.lt_min.2 ⟨oM,oM⟩
   refine⟨k+Nat.min (k - 0) (n - k),⟨oM,oM⟩,oM,?_⟩
   refine aP.of [] (by rw[aA];rfl) rfl ⟨⟨rfl,aQ.row rfl fun i j hi hj=>aJ.of_eq ?_⟩,bQ,oO⟩ ⟨qZ,⟨rfl,aM.int ?_⟩,oO⟩
   ·show MN k (Nat.min (k - 0) (n - k)) (A6 v k) (fun i=>A6 v k (0+i)) i j=_
    exact aBH hq
   ·show aU ((k:Int)+((Nat.min (k - 0) (n - k):Nat):Int))=_
    rw[aG oM oM];omega
  ·have h:¬(k:Int)<n:=cD h
   obtain rfl:k=n:=oM
   exact⟨aM.rfl,rfl,rfl,oO⟩
theorem aH6(g:fS)(hg:ES g):bM prog 230 [yS g] [] (.g [.d (dI g.x),.d (dI g.y),.d (dI g.side),.d (dI g.dP),.d (dI g.rows),.own 601]) [(601,.row 3 g.levels.length 1 (A6 30000 g.levels.length))]:=by
 have hn:=hg.n
 have e:aU (g.dP*g.rows)=(g.levels.length:Int):=by rw[←hg.len];exact aG oM oM
 refine fG (rc:=[278]) (N:=12) func230 rfl rfl call230 aK mix rfl rfl rfl rfl (fun cx _=>?_)
 refine⟨[(1001,3),(30,601)],_,_,_,_,aEI (v:=30000) (n:=g.levels.length) rfl oM,congrArg (fun n=>[_,vI n]) e,⟨rfl,oO⟩,rfl,?_⟩
 exact⟨aM.rfl,rfl,oO⟩
def x5(c:kO)(g:fS)(less:Int):fS×Int:=bif lR c [g] !=0 then(YG,lR c [g])else(lU c g less,0)
def dgP(c:kO)(g:fS)(less:Int)(i:Nat):Nat→Nat→DV:=fun k _=>dI (if k<i then KU c g less k else 30000)
attribute [local irreducible] lN qY in
theorem aJ7(c:kO)(g:fS)(less:Int)(hc:c.ok)(hg:g.ok):aF prog 179 [chan c,yS g,vI less] (rGE (x5 c g less).1 (x5 c g less).2):=by
 refine gA (rc:=[230]) (N:=46) func179 rfl rfl call179 aK mix rfl rfl (fun cx aA=>?_)
 refine aB (aKR c g hc hg) ?_
 refine aI (fun h1=>?_) (fun h1=>?_)
 ·have h1:(lR c [g] !=0)=true:=h1
  have e:x5 c g less=(YG,lR c [g]):=by unfold x5;rw[h1];rfl
  rw[e]
  exact YF rfl
 have h1:(lR c [g] !=0)=false:=h1
 have h0:lR c [g]=0:=by simpa using h1
 obtain⟨e1,e2⟩:=H9 h0
 have e:x5 c g less=(lU c g less,0):=by unfold x5;rw[h1];rfl
 rw[e]
 have hv:=aFH c e1
 have gv:=ES.of e2
 have hn:=gv.n
 refine⟨[(601,601)],_,_,_,_,aH6 g gv,rfl,trivial,rfl,?_⟩
 refine AW.cZ (fun i:Nat=>⟨[(2,vI less),(3,.s (.ptr 3 0)),(4,.s (.ptr 4 0)),(6,.s (.ptr 6 0)),(9,.s (.ptr 9 0)),(24,vI g.levels.length),(25,vI i)],
   [(3,some (P9 c)),(4,some (aJ0 g)),(6,some (.cells [.d (dI 0),.d (dI 0),.d (dI 0),.d (dI 0),.d (dI 0),.d (.val (.slice none 0 0))])),(9,some (.cells [.d (dI g.x),.d (dI g.y),.d (dI g.side),.d (dI g.dP),.d (dI g.rows),.own 601])),(601,some (.row 3 g.levels.length 1 (dgP c g less i)))]⟩)
  (fun i=>i≤g.levels.length) (fun i=>g.levels.length - i) 0 (Nat.zero_le _) ?_ ?_
 ·refine aP.b7 aA [] rfl ⟨bQ,bQ,bQ,bQ,⟨rfl,aQ.row rfl fun k j hk _=>aJ.of_eq ?_⟩,oO⟩ ⟨qZ,qZ,qZ,qZ,qZ,qZ,qZ,oO⟩
  unfold A6 dgP
  rw[if_pos hk,if_neg (Nat.not_lt_zero k)]
 ·intro i hi
  refine ex.sound (rc:=[230]) aK mix aA _ ?_
  refine aI (fun h=>?_) (fun h=>?_)
  ·have h:(i:Int)<g.levels.length:=cB h
   have bN:i<g.levels.length:=oM
   have hgd:=(QA gv bN).1
   refine aB (aD6 g i e2 oM h oM) ?_
   refine aB (aG6 c (dF g i) hv hgd) ?_
   refine aD ?_
   refine aI (fun h2=>?_) (fun h2=>?_)
   ·have h2:(SF c (dF g i)).2=true:=h2
    have e:KU c g less i=aU ((SF c (dF g i)).1 - less):=by unfold KU;rw[h2];rfl
    refine oi ⟨oM,oM⟩ ?_
    refine ob bN ?_
    refine⟨i+1,oM,oM,?_⟩
    refine aP.b7 aA [] rfl ⟨bQ,bQ,bQ,bQ,⟨rfl,aQ.row rfl fun k j hk hj=>aJ.of_eq ?_⟩,oO⟩ ⟨qZ,qZ,qZ,qZ,qZ,qZ,⟨rfl,aM.int (aG oM oM)⟩,oO⟩
    have hj:j=0:=by have:j<1:=hj;omega
    subst hj
    by_cases M6:k=i
    ·subst M6
     refine qH.trans ?_
     unfold dgP
     rw[if_pos (Nat.lt_succ_self _),e]
    ·refine(w8 M6).trans ?_
     unfold dgP
     by_cases fR:k<i
     ·rw[if_pos fR,if_pos oM]
     ·rw[if_neg fR,if_neg oM]
   ·have h2:(SF c (dF g i)).2=false:=h2
    have e:KU c g less i=30000:=by unfold KU;rw[h2];rfl
    refine⟨i+1,oM,oM,?_⟩
    refine aP.b7 aA [] rfl ⟨bQ,bQ,bQ,bQ,⟨rfl,aQ.row rfl fun k j hk hj=>aJ.of_eq ?_⟩,oO⟩ ⟨qZ,qZ,qZ,qZ,qZ,qZ,⟨rfl,aM.int (aG oM oM)⟩,oO⟩
    unfold dgP
    by_cases M6:k=i
    ·subst M6
     rw[if_neg (Nat.lt_irrefl _),if_pos (Nat.lt_succ_self _),e]
    ·by_cases fR:k<i
     ·rw[if_pos fR,if_pos oM]
     ·rw[if_neg fR,if_neg oM]
  ·have h:¬(i:Int)<g.levels.length:=cD h
   have bN:i=g.levels.length:=oM
   subst bN
   refine aC.t ⟨⟨aJ.refl _,aJ.refl _,aJ.refl _,aJ.refl _,aJ.refl _,aJ.xL (by simp[lU]) fun k j hk hj=>aJ.of_eq ?_,oO⟩,aJ.refl _,oO⟩
   unfold dgP dM
   rw[if_pos hk]
   congr 2
   simp[lU,hk]
theorem G9(c:kO)(g:fS)(hc:c.ok)(hg:g.ok):aF prog 120 [chan c,yS g] (rGE (x5 c g c.over).1 (x5 c g c.over).2):=by
 refine eP func120 rfl rfl call120 rfl rfl fun cx aA=>?_
 refine aB (aJ7 c g c.over hc hg) ?_
 exact aC.refl _
def hR(a b p:Pt):Bool:=(!(decide (a.x≤p.x)==decide (b.x≤p.x)))&&(decide (sgn (oZ a b p)<0)==decide (a.x<b.x))
def aIQ(f:Nat→Bool):Nat→Bool
 |0=>false
 |n+1=>aIQ f n !=f n
def aF8(l:List Pt)(p:Pt)(i:Nat):Bool:=kX (JO l i) (y8 l (i+1)) p
def aLH(l:List Pt)(p:Pt)(i:Nat):Bool:=hR (JO l i) (y8 l (i+1)) p
def aLZ(l:List Pt)(p:Pt):Int:=bif QI l.length (aF8 l p)then 0 else bif aIQ (aLH l p) l.length then 1 else -1
def aK5(g:fS)(l:List Pt)(i:Nat):Bool:=decide (aLZ l (dF g i)≥0)
def aK4(g:fS)(l:List Pt)(i:Nat):List Int:=(List.range i).filterMap fun k=>bif aK5 g l k then some (k:Int)else none
end Go.Ch
namespace Go.Pj
open Go Go.Ax Go.Ch Go.Proofs Go.Proofs.Tryz
def sqF(a b:Pt):Int:=bif [a,b].any (fun p=> !fY p)then 0 else dot a b b
theorem aHY(a b:Pt):aF prog 281 [pt a,pt b] (vI (sqF a b)):=by
 refine eP func281 rfl rfl call281 rfl rfl fun cx aA=>?_
 refine aB ((AX [a,b] sM).conv (args':=_) ⟨aJ.fJ fun i j hi hj=>aJ.of_eq ?_,oO⟩) ?_
 ·have hi:i<2:=hi
  have hj:j<2:=hj
  match i,j,hi,hj with
  |0,0,_,_=>rfl
  |0,1,_,_=>rfl
  |1,0,_,_=>rfl
  |1,1,_,_=>rfl
 refine aI (fun h=>?_) (fun h=>?_)
 ·have h:([a,b].any fun p=> !fY p)=true:=h
  exact aC.of_eq (by unfold sqF;rw[h];rfl)
 ·have h:([a,b].any fun p=> !fY p)=false:=h
  refine aB (aJ5 a b b) ?_
  exact aC.of_eq (by unfold sqF;rw[h];rfl)
def KW(n:Int):Bool:= !within n (-20000) 20000
theorem aM3(n:Int):aF prog 234 [vI n] (vB (KW n)):=by
 refine eP func234 rfl rfl call234 rfl rfl fun cx aA=>?_
 refine aB (NS n) ?_
 exact aC.refl _
def EP(g:Ground)(p:Pt)(l:List Int):Int:=bif gF g !=0 then gF g else bif !fY p||l.any KW then 2 else 0
theorem asked(g:Ground)(p:Pt)(l:List Int)(hg:g.fits)(hl:l.length≤9223372036854775807):aF prog 182 [WO g,pt p,kA l] (vI (EP g p l)):=by
 refine eP func182 rfl rfl call182 rfl rfl fun cx aA=>?_
 refine aB (D9 g hg) ?_
 refine aI (fun h=>?_) (fun h=>?_)
 ·have h:(gF g !=0)=true:=h
  exact aC.of_eq (by unfold EP;rw[h];rfl)
 have h:(gF g !=0)=false:=h
 refine aB (ZL p) ?_
 repeat refine aR ?_
 refine eJ (sC l hl 234 0 (fun _=>.bC) KW (fun n _=>aM3 n)) ?_
 repeat refine aR ?_
 refine aI (fun h2=>?_) (fun h2=>?_)
 ·have h2:(!fY p||l.any KW)=true:=h2
  exact aC.of_eq (by unfold EP;rw[h,h2];rfl)
 ·have h2:(!fY p||l.any KW)=false:=h2
  exact aC.of_eq (by unfold EP;rw[h,h2];rfl)
def bPt(b:iM):Pt:=⟨b.x,b.y⟩
def N9(l:List iM)(p:Pt):Nat→Nat×Int
 |0=>(0,0)
 |i+1=>bif i==0||decide (sqF (bPt (l.getD i default)) p<(N9 l p i).2)then(i,sqF (bPt (l.getD i default)) p)else N9 l p i
theorem LL(l:List iM)(p:Pt):∀i,0<i→(N9 l p i).1<i
 |0,h=>by omega
 |1,_=>Nat.lt_succ_self 0
 |i+2,_=>by
  have ih:=LL l p (i+1) oM
  rw[N9]
  cases(i+1==0||decide (sqF (bPt (l.getD (i+1) default)) p<(N9 l p (i+1)).2))with
  |true=>exact Nat.lt_succ_self (i+1)
  |false=>exact Nat.lt_succ_of_lt ih
theorem nearest(g:Ground)(p:Pt)(hl:g.eQ.length≤9223372036854775807):aF prog 235 [WO g,pt p] (vI (N9 g.eQ p g.eQ.length).1):=by
 refine eP func235 rfl rfl call235 rfl rfl fun cx aA=>?_
 refine AW.cZ (fun i:Nat=>⟨[(3,.s (.ptr 3 0)),(5,vI (N9 g.eQ p i).1),(6,vI (N9 g.eQ p i).2),(12,FE g.eQ),(13,vI g.eQ.length),(14,vI i)],[(3,some (ptB p))]⟩) (fun i=>i≤g.eQ.length) (fun i=>g.eQ.length - i) 0 (Nat.zero_le _) ?_ ?_
 ·exact aP.b7 aA [] rfl ⟨bQ,oO⟩ ⟨qZ,qZ,qZ,qZ,qZ,qZ,oO⟩
 ·intro i hi
  refine eX aA ?_
  refine aI (fun h=>?_) (fun h=>?_)
  ·have h:(i:Int)<g.eQ.length:=cB h
   refine oi ⟨oM,oM⟩ ?_
   refine aB (aHY (bPt (g.eQ.getD i default)) p) ?_
   repeat refine aR ?_
   have ez:(((i:Nat):Int)==0)=(i==0):=by
    rw[Bool.eq_iff_iff];simp
   refine aI (fun h2=>?_) (fun h2=>?_)
   ·have h2:(((i:Nat):Int)==0||decide (sqF (bPt (g.eQ.getD i default)) p<(N9 g.eQ p i).2))=true:=h2
    rw[ez]at h2
    have e:N9 g.eQ p (i+1)=(i,sqF (bPt (g.eQ.getD i default)) p):=by rw[N9,h2];rfl
    refine⟨i+1,oM,oM,?_⟩
    exact aP.b7 aA [] rfl ⟨bQ,oO⟩ ⟨qZ,⟨rfl,aM.int (by rw[e])⟩,⟨rfl,aM.int (by rw[e])⟩,qZ,qZ,⟨rfl,aM.int (aG oM oM)⟩,oO⟩
   ·have h2:(((i:Nat):Int)==0||decide (sqF (bPt (g.eQ.getD i default)) p<(N9 g.eQ p i).2))=false:=h2
    rw[ez]at h2
    have e:N9 g.eQ p (i+1)=N9 g.eQ p i:=by rw[N9,h2];rfl
    refine⟨i+1,oM,oM,?_⟩
    exact aP.b7 aA [] rfl ⟨bQ,oO⟩ ⟨qZ,⟨rfl,aM.int (by rw[e])⟩,⟨rfl,aM.int (by rw[e])⟩,qZ,qZ,⟨rfl,aM.int (aG oM oM)⟩,oO⟩
  ·have h:¬(i:Int)<g.eQ.length:=cD h
   obtain rfl:i=g.eQ.length:=oM
   exact aC.refl _
def B2(l:List uJ)(hi:Int)(i:Nat):Int:=bif decide ((i:Int)>0)then mm false hi (l.getD i default).top else hi
def EN(l:List uJ)(lo:Int)(i:Nat):Int:=bif decide (((i+1:Nat):Int)<l.length)then mm true lo (l.getD (i+1) default).top else lo
def V4(l:List uJ)(hi lo:Int)(i:Nat):Option Part:=bif decide (B2 l hi i>EN l lo i)then some ⟨(l.getD i default).aN,B2 l hi i,EN l lo i⟩else none
def mK(l:List uJ)(hi lo:Int)(n:Nat):List Part:=(List.range n).filterMap (V4 l hi lo)
theorem XC(l:List uJ)(hi lo:Int)(n:Nat):mK l hi lo (n+1)=mK l hi lo n++(V4 l hi lo n).toList:=by
 unfold mK
 rw[cR]
theorem P4(l:List uJ)(hi lo:Int)(n:Nat):(mK l hi lo n).length≤n:=by
 have:=List.length_filterMap_le (V4 l hi lo) (List.range n)
 rw[List.length_range]at this
 exact this
def sG(g:Ground)(p:Pt):iM:=g.eQ.getD (N9 g.eQ p g.eQ.length).1 default
theorem column(g:Ground)(p:Pt)(hi lo:Int)(h0:0<g.eQ.length)(hl:g.eQ.length≤9223372036854775807)(hy:(sG g p).bR.length≤1000000):
  aF prog 183 [WO g,pt p,vI hi,vI lo] (gW (mK (sG g p).bR hi lo (sG g p).bR.length)):=by
 have fR:=LL g.eQ p g.eQ.length h0
 refine eW func183 rfl rfl call183 rfl rfl (fun cx aA=>?_)
 refine sX aA ?_
 refine sX aA ?_
 refine aB (nearest g p hl) ?_
 refine oi ⟨oM,oM⟩ ?_
 refine aD ?_
 generalize hL:(sG g p).bR=L at hy
 have hL':(g.eQ.getD (N9 g.eQ p g.eQ.length).1 default).bR=L:=hL
 refine AW.fU (σ':=⟨[(2,vI hi),(3,vI lo),(9,.s (.ptr 9 0))],[(9,some (.cells [.d .bC,.d .bC,.d .bC,.d (nT L)]))]⟩) (aP.b7 aA [] rfl ⟨⟨rfl,aQ.cells ⟨aM.d fun _ _ _=>trivial,aM.d fun _ _ _=>trivial,aM.d fun _ _ _=>trivial,aM.of_eq (by rw[←hL'];rfl),oO⟩⟩,oO⟩ ⟨qZ,qZ,qZ,oO⟩) ?_
 refine sX aA ?_
 refine AW.seq (sX aA ?_)
 refine AW.block ?_
 refine AW.cZ (fun i:Nat=>⟨[(2,vI hi),(3,vI lo),(9,.s (.ptr 9 0)),(10,.s (.mo (mK L hi lo i).isEmpty 100)),(24,zM L),(25,vI L.length),(26,vI i)],[(9,some (.cells [.d .bC,.d .bC,.d .bC,.d (nT L)])),(100,some (.bW 210 (mK L hi lo i).length 3 (tU (mK L hi lo i))))]⟩) (fun i=>i≤L.length) (fun i=>L.length - i) 0 (Nat.zero_le _) ?_ ?_
 ·exact aP.b7 aA [(100,1000)] rfl ⟨bQ,⟨rfl,rfl⟩,oO⟩ ⟨qZ,qZ,qZ,⟨rfl,aM.nil rfl⟩,qZ,qZ,qZ,oO⟩
 ·intro i bN
  have hlen:=P4 L hi lo i
  have fD:=XC L hi lo i
  refine sX aA ?_
  refine AW.seq (AW.cond ?_)
  refine aI (fun h=>AW.skip ?_) (fun h=>AW.exit ?_)
  ·have h:(i:Int)<L.length:=cB h
   have e1:aU ((i:Int)+1)=((i+1:Nat):Int):=aG oM oM
   refine AW.seq (AW.block ?_)
   refine sX aA ?_
   refine oi ⟨oM,oM⟩ ?_
   refine sX aA ?_
   refine AW.fU (σ':=⟨[(2,vI hi),(3,vI lo),(9,.s (.ptr 9 0)),(10,.s (.mo (mK L hi lo i).isEmpty 100)),(11,vI i),(12,.s (.ptr 12 0)),(13,vI hi),(14,vI lo),(24,zM L),(25,vI L.length),(26,vI i)],[(9,some (.cells [.d .bC,.d .bC,.d .bC,.d (nT L)])),(12,some (.cells [.d (dI (L.getD i default).top),.d (dS (L.getD i default).aN)])),(100,some (.bW 210 (mK L hi lo i).length 3 (tU (mK L hi lo i))))]⟩) (aP.b7 aA [] rfl ⟨bQ,bQ,bQ,oO⟩ ⟨qZ,qZ,qZ,qZ,qZ,qZ,qZ,qZ,qZ,qZ,qZ,oO⟩) ?_
   refine AW.cut (σ':=⟨[(2,vI hi),(3,vI lo),(9,.s (.ptr 9 0)),(10,.s (.mo (mK L hi lo i).isEmpty 100)),(11,vI i),(12,.s (.ptr 12 0)),(13,vI (B2 L hi i)),(14,vI lo),(24,zM L),(25,vI L.length),(26,vI i)],[(9,some (.cells [.d .bC,.d .bC,.d .bC,.d (nT L)])),(12,some (.cells [.d (dI (L.getD i default).top),.d (dS (L.getD i default).aN)])),(100,some (.bW 210 (mK L hi lo i).length 3 (tU (mK L hi lo i))))]⟩) ?_ ?_
   ·refine sX aA ?_
    refine AW.cond ?_
    refine aI (fun h1=>?_) (fun h1=>AW.skip ?_)
    ·have h1:decide ((i:Int)>0)=true:=h1
     refine eX aA ?_
     exact⟨rfl,aP.b7 aA [] rfl ⟨bQ,bQ,bQ,oO⟩ ⟨qZ,qZ,qZ,qZ,qZ,qZ,⟨rfl,aM.int (by unfold B2;rw[h1];rfl)⟩,qZ,qZ,qZ,qZ,oO⟩⟩
    ·have h1:decide ((i:Int)>0)=false:=h1
     exact⟨rfl,aP.b7 aA [] rfl ⟨bQ,bQ,bQ,oO⟩ ⟨qZ,qZ,qZ,qZ,qZ,qZ,⟨rfl,aM.int (by unfold B2;rw[h1];rfl)⟩,qZ,qZ,qZ,qZ,oO⟩⟩
   refine AW.cut (σ':=⟨[(2,vI hi),(3,vI lo),(9,.s (.ptr 9 0)),(10,.s (.mo (mK L hi lo i).isEmpty 100)),(11,vI i),(12,.s (.ptr 12 0)),(13,vI (B2 L hi i)),(14,vI (EN L lo i)),(24,zM L),(25,vI L.length),(26,vI i)],[(9,some (.cells [.d .bC,.d .bC,.d .bC,.d (nT L)])),(12,some (.cells [.d (dI (L.getD i default).top),.d (dS (L.getD i default).aN)])),(100,some (.bW 210 (mK L hi lo i).length 3 (tU (mK L hi lo i))))]⟩) ?_ ?_
   ·refine sX aA ?_
    refine AW.cond ?_
    refine aI (fun h1=>?_) (fun h1=>AW.skip ?_)
    ·have h1:decide (aU ((i:Int)+1)<(L.length:Int))=true:=h1
     rw[e1]at h1
     have IS:((i+1:Nat):Int)<L.length:=cB h1
     refine eX aA ?_
     refine oi (show 0≤aU ((i:Int)+1)∧aU ((i:Int)+1)<L.length by rw[e1];omega) ?_
     have e1n:(aU ((i:Int)+1)).toNat=i+1:=by rw[e1];omega
     exact⟨rfl,aP.b7 aA [] rfl ⟨bQ,bQ,bQ,oO⟩ ⟨qZ,qZ,qZ,qZ,qZ,qZ,qZ,⟨rfl,aM.int (by unfold EN;rw[h1,←e1n];rfl)⟩,qZ,qZ,qZ,oO⟩⟩
    ·have h1:decide (aU ((i:Int)+1)<(L.length:Int))=false:=h1
     rw[e1]at h1
     exact⟨rfl,aP.b7 aA [] rfl ⟨bQ,bQ,bQ,oO⟩ ⟨qZ,qZ,qZ,qZ,qZ,qZ,qZ,⟨rfl,aM.int (by unfold EN;rw[h1];rfl)⟩,qZ,qZ,qZ,oO⟩⟩
   refine sX aA ?_
   refine AW.cond ?_
   refine aI (fun h1=>?_) (fun h1=>AW.skip ?_)
   ·have h1:decide (B2 L hi i>EN L lo i)=true:=h1
    have e:mK L hi lo (i+1)=mK L hi lo i++ [⟨(L.getD i default).aN,B2 L hi i,EN L lo i⟩]:=by rw[fD];unfold V4;rw[h1];rfl
    refine eX aA ?_
    refine ob dC ?_
    refine ob (by rw[dW];show((mK L hi lo i).length+1)*32≤_;omega) ?_
    refine ob (mT (lt3 rfl rfl rfl)) ?_
    refine eX aA ?_
    refine⟨i+1,oM,oM,?_⟩
    refine aP.b7 aA [(100,64)] rfl ⟨bQ,⟨rfl,?_⟩,oO⟩ ⟨qZ,qZ,qZ,⟨rfl,aM.mo (by rw[e];exact b9 _ _)⟩,qZ,qZ,⟨rfl,aM.int e1⟩,oO⟩
    show aQ _ (.bW 210 (mK L hi lo (i+1)).length 3 (tU (mK L hi lo (i+1))))
    rw[e]
    refine aQ.snoc (el:=VV) (x:=⟨(L.getD i default).aN,B2 L hi i,EN L lo i⟩) (fun c hc=>?_)
    have hc:c<3:=hc
    match c,hc with|0,_|1,_|2,_=>rfl
   ·have h1:decide (B2 L hi i>EN L lo i)=false:=h1
    have e:mK L hi lo (i+1)=mK L hi lo i:=by rw[fD];unfold V4;rw[h1];exact List.append_nil _
    refine eX aA ?_
    refine⟨i+1,oM,oM,?_⟩
    exact aP.b7 aA [] rfl ⟨bQ,⟨rfl,aQ.of_eq (by rw[e];rfl)⟩,oO⟩ ⟨qZ,qZ,qZ,⟨rfl,aM.of_eq (by rw[e];rfl)⟩,qZ,qZ,⟨rfl,aM.int e1⟩,oO⟩
  ·have h:¬(i:Int)<L.length:=cD h
   obtain rfl:i=L.length:=oM
   refine eX aA ?_
   exact aC.mo
def EU(g:Ground)(p:Pt)(hi lo:Int):Int:=bif EP g p [hi,lo] !=0 then EP g p [hi,lo]else bif decide (hi<lo)then 9 else 0
def tS(g:Ground)(p:Pt)(hi lo:Int):List Part:=bif EU g p hi lo !=0 then []else mK (sG g p).bR hi lo (sG g p).bR.length
theorem DY{g:Ground}(h:gF g=0):0<g.eQ.length∧g.eQ.length≤20:=by
 unfold gF at h
 cases h1:(sN g.bT !=0)with
 |true=>
  rw[h1]at h
  have h:sN g.bT=0:=h
  rw[h]at h1;cases h1
 |false=>
  rw[h1]at h
  cases h2:((g.eQ.length:Int)==0)with
  |true=>rw[h2]at h;cases h
  |false=>
   rw[h2]at h
   cases h3:decide ((g.eQ.length:Int)>20)with
   |true=>rw[h3]at h;cases h
   |false=>
    have h2:¬(g.eQ.length:Int)=0:=by simpa using h2
    have h3:¬(g.eQ.length:Int)>20:=by simpa using h3
    omega
theorem aCC(g:Ground)(p:Pt)(hi lo:Int)(hg:g.fits)(hy:∀x∈g.eQ,x.bR.length≤1000000):aF prog 122 [WO g,pt p,vI hi,vI lo] (.t [.s (.d (PW (tS g p hi lo))),.s (.d (dI (EU g p hi lo)))]):=by
 refine eP func122 rfl rfl call122 rfl rfl fun cx aA=>?_
 refine aB ((asked g p [hi,lo] hg sM).conv (args':=_) ⟨⟨aJ.refl _,aJ.refl _,oO⟩,⟨aJ.refl _,aJ.refl _,oO⟩,aJ.fJ fun i j hi hj=>aJ.of_eq ?_,oO⟩) ?_
 ·have hi:i<2:=hi
  have hj:j<1:=hj
  match i,j,hi,hj with
  |0,0,_,_=>rfl
  |1,0,_,_=>rfl
 refine aI (fun h1=>?_) (fun h1=>?_)
 ·have h1:(EP g p [hi,lo] !=0)=true:=h1
  have e:EU g p hi lo=EP g p [hi,lo]:=by unfold EU;rw[h1];rfl
  have e2:tS g p hi lo=[]:=by unfold tS;rw[e,h1];rfl
  rw[e,e2]
  exact aC.t ⟨aJ.nil,aJ.refl _,oO⟩
 have h1:(EP g p [hi,lo] !=0)=false:=h1
 refine aI (fun h2=>?_) (fun h2=>?_)
 ·have h2:decide (hi<lo)=true:=h2
  have e:EU g p hi lo=9:=by unfold EU;rw[h1,h2];rfl
  have e2:tS g p hi lo=[]:=by unfold tS;rw[e];rfl
  rw[e,e2]
  exact aC.t ⟨aJ.nil,aJ.refl _,oO⟩
 have h2:decide (hi<lo)=false:=h2
 have e:EU g p hi lo=0:=by unfold EU;rw[h1,h2];rfl
 have e2:tS g p hi lo=mK (sG g p).bR hi lo (sG g p).bR.length:=by unfold tS;rw[e];rfl
 have hz:gF g=0:=by
  have IS:EP g p [hi,lo]=0:=by simpa using h1
  unfold EP at IS
  cases h:(gF g !=0)with
  |true=>
   rw[h]at IS
   have IS:gF g=0:=IS
   rw[IS]at h;cases h
  |false=>simpa using h
 obtain⟨hb0,hb1⟩:=DY hz
 have fR:=LL g.eQ p g.eQ.length hb0
 refine aB (column g p hi lo hb0 oM (hy _ (dZ fR))) ?_
 rw[e,e2]
 exact aC.refl _
def qO(v p:Int):Int:=aU (Int.tdiv (aU (aU (v*p)+500000)) 1000000)
theorem BI(v p:Int):aF prog 66 [vI v,vI p] (vI (qO v p)):=by
 refine eP func66 rfl rfl call66 rfl rfl fun cx aA=>?_
 refine oi dC ?_
 exact aC.refl _
def uQ(l:List Piece)(s:ByteArray):Nat→Int
 |0=>0
 |i+1=>bif dE (l.getD i default).aN s&&decide ((l.getD i default).load>0)then aU (uQ l s i+(l.getD i default).gO)else uQ l s i
def HL(l:List uG)(s:ByteArray):Nat→Int
 |0=>0
 |i+1=>bif dE (l.getD i default).aN s then(l.getD i default).BI else HL l s i
def aG5(p:Proj)(l:List Piece)(s:ByteArray):Due:=⟨s,uQ l s l.length,HL p.eY s p.eY.length,qO (uQ l s l.length) (HL p.eY s p.eY.length)⟩
def aA6(p:Proj)(l:List Piece)(i:Nat):Option Due:=bif decide (uQ l (p.gr.bT.getD i default).name l.length>0)then some (aG5 p l (p.gr.bT.getD i default).name)else none
def fN(p:Proj)(l:List Piece)(n:Nat):List Due:=(List.range n).filterMap (aA6 p l)
theorem SD(p:Proj)(l:List Piece)(n:Nat):fN p l (n+1)=fN p l n++(aA6 p l n).toList:=by
 unfold fN
 rw[cR]
theorem KL(p:Proj)(l:List Piece)(n:Nat):(fN p l n).length≤n:=by
 have:=List.length_filterMap_le (aA6 p l) (List.range n)
 rw[List.length_range]at this
 exact this
theorem W2(p:Proj)(fs:List Fact)(l:List Piece)(hs:p.gr.bT.length≤1000000)(hl:l.length≤9223372036854775807)(hp:p.eY.length≤9223372036854775807):aF prog 64 [QY p fs,gX l] (aEK (fN p l p.gr.bT.length)):=by
 refine eW func64 rfl rfl call64 rfl rfl (fun cx aA=>?_)
 refine sX aA ?_
 refine sX aA ?_
 refine AW.seq (sX aA ?_)
 refine AW.block ?_
 refine AW.cZ (fun i:Nat=>⟨[(1,gX l),(2,.s (.ptr 2 0)),(5,.s (.mo (fN p l i).isEmpty 100)),(16,mL p.gr.bT),(17,vI p.gr.bT.length),(18,vI i)],[(2,some (.cells (k9 p fs))),(100,some (.bW 80 (fN p l i).length 4 (D5 (fN p l i))))]⟩) (fun i=>i≤p.gr.bT.length) (fun i=>p.gr.bT.length - i) 0 (Nat.zero_le _) ?_ ?_
 ·exact aP.b7 aA [(100,1000)] rfl ⟨bQ,⟨rfl,rfl⟩,oO⟩ ⟨qZ,qZ,⟨rfl,aM.nil rfl⟩,qZ,qZ,qZ,oO⟩
 ·intro i hi
  have hlen:=KL p l i
  have fD:=SD p l i
  refine sX aA ?_
  refine AW.seq (AW.cond ?_)
  refine aI (fun h=>AW.skip ?_) (fun h=>AW.exit ?_)
  ·have h:(i:Int)<p.gr.bT.length:=cB h
   refine AW.seq (AW.block ?_)
   refine sX aA ?_
   refine oi ⟨oM,oM⟩ ?_
   refine sX aA ?_
   generalize hS:(p.gr.bT.getD i default).name=s
   refine AW.fU (σ':=⟨[(1,gX l),(2,.s (.ptr 2 0)),(5,.s (.mo (fN p l i).isEmpty 100)),(7,.s (.ptr 7 0)),(8,.s (.ptr 8 0)),(16,mL p.gr.bT),(17,vI p.gr.bT.length),(18,vI i)],[(2,some (.cells (k9 p fs))),(7,some (.cells [.d (dS s),.d .bC,.d .bC,.d .bC,.d .bC])),(8,some (.cells [.d (dS s),.d (dI 0),.d (dI 0),.d (dI 0)])),(100,some (.bW 80 (fN p l i).length 4 (D5 (fN p l i))))]⟩) (aP.b7 aA [] rfl ⟨bQ,⟨rfl,aQ.cells ⟨aM.of_eq (by rw[←hS];rfl),aM.d fun _ _ _=>trivial,aM.d fun _ _ _=>trivial,aM.d fun _ _ _=>trivial,aM.d fun _ _ _=>trivial,oO⟩⟩,⟨rfl,aQ.cells ⟨aM.of_eq (by rw[←hS];rfl),aM.rfl,aM.rfl,aM.rfl,oO⟩⟩,bQ,oO⟩ ⟨qZ,qZ,qZ,qZ,qZ,qZ,qZ,qZ,oO⟩) ?_
   refine AW.cut (σ':=⟨[(1,gX l),(2,.s (.ptr 2 0)),(5,.s (.mo (fN p l i).isEmpty 100)),(7,.s (.ptr 7 0)),(8,.s (.ptr 8 0)),(16,mL p.gr.bT),(17,vI p.gr.bT.length),(18,vI i)],[(2,some (.cells (k9 p fs))),(7,some (.cells [.d (dS s),.d .bC,.d .bC,.d .bC,.d .bC])),(8,some (.cells [.d (dS s),.d (dI (uQ l s l.length)),.d (dI 0),.d (dI 0)])),(100,some (.bW 80 (fN p l i).length 4 (D5 (fN p l i))))]⟩) ?_ ?_
   ·refine sX aA ?_
    refine AW.block ?_
    refine AW.cZ (fun j:Nat=>⟨[(1,gX l),(2,.s (.ptr 2 0)),(5,.s (.mo (fN p l i).isEmpty 100)),(7,.s (.ptr 7 0)),(8,.s (.ptr 8 0)),(16,mL p.gr.bT),(17,vI p.gr.bT.length),(18,vI i),(25,gX l),(26,vI l.length),(27,vI j)],[(2,some (.cells (k9 p fs))),(7,some (.cells [.d (dS s),.d .bC,.d .bC,.d .bC,.d .bC])),(8,some (.cells [.d (dS s),.d (dI (uQ l s j)),.d (dI 0),.d (dI 0)])),(100,some (.bW 80 (fN p l i).length 4 (D5 (fN p l i))))]⟩) (fun j=>j≤l.length) (fun j=>l.length - j) 0 (Nat.zero_le _) ?_ ?_
    ·exact aP.b7 aA [] rfl ⟨bQ,bQ,bQ,bQ,oO⟩ ⟨qZ,qZ,qZ,qZ,qZ,qZ,qZ,qZ,qZ,qZ,qZ,oO⟩
    ·intro j hj
     refine sX aA ?_
     refine AW.seq (AW.cond ?_)
     refine aI (fun h2=>AW.skip ?_) (fun h2=>AW.exit ?_)
     ·have h2:(j:Int)<l.length:=cB h2
      refine AW.seq (AW.block ?_)
      refine sX aA ?_
      refine oi ⟨oM,oM⟩ ?_
      refine sX aA ?_
      repeat refine aR ?_
      refine AW.cond ?_
      refine aI (fun h3=>?_) (fun h3=>AW.skip ?_)
      ·have h3:(dE (l.getD j default).aN s&&decide ((l.getD j default).load>0))=true:=h3
       have e:uQ l s (j+1)=aU (uQ l s j+(l.getD j default).gO):=by rw[uQ,h3];rfl
       refine eX aA ?_
       refine eX aA ?_
       refine⟨j+1,oM,oM,?_⟩
       exact aP.b7 aA [] rfl ⟨bQ,bQ,⟨rfl,aQ.of_eq (by rw[e];rfl)⟩,bQ,oO⟩ ⟨qZ,qZ,qZ,qZ,qZ,qZ,qZ,qZ,qZ,qZ,⟨rfl,aM.int (aG oM oM)⟩,oO⟩
      ·have h3:(dE (l.getD j default).aN s&&decide ((l.getD j default).load>0))=false:=h3
       have e:uQ l s (j+1)=uQ l s j:=by rw[uQ,h3];rfl
       refine eX aA ?_
       refine⟨j+1,oM,oM,?_⟩
       exact aP.b7 aA [] rfl ⟨bQ,bQ,⟨rfl,aQ.of_eq (by rw[e];rfl)⟩,bQ,oO⟩ ⟨qZ,qZ,qZ,qZ,qZ,qZ,qZ,qZ,qZ,qZ,⟨rfl,aM.int (aG oM oM)⟩,oO⟩
     ·have h2:¬(j:Int)<l.length:=cD h2
      obtain rfl:j=l.length:=oM
      exact⟨rfl,aP.b7 aA [] rfl ⟨bQ,bQ,bQ,bQ,oO⟩ ⟨qZ,qZ,qZ,qZ,qZ,qZ,qZ,qZ,oO⟩⟩
   refine AW.cut (σ':=⟨[(1,gX l),(2,.s (.ptr 2 0)),(5,.s (.mo (fN p l i).isEmpty 100)),(7,.s (.ptr 7 0)),(8,.s (.ptr 8 0)),(16,mL p.gr.bT),(17,vI p.gr.bT.length),(18,vI i)],[(2,some (.cells (k9 p fs))),(7,some (.cells [.d (dS s),.d .bC,.d .bC,.d .bC,.d .bC])),(8,some (.cells [.d (dS s),.d (dI (uQ l s l.length)),.d (dI (HL p.eY s p.eY.length)),.d (dI 0)])),(100,some (.bW 80 (fN p l i).length 4 (D5 (fN p l i))))]⟩) ?_ ?_
   ·refine sX aA ?_
    refine AW.block ?_
    refine AW.cZ (fun j:Nat=>⟨[(1,gX l),(2,.s (.ptr 2 0)),(5,.s (.mo (fN p l i).isEmpty 100)),(7,.s (.ptr 7 0)),(8,.s (.ptr 8 0)),(16,mL p.gr.bT),(17,vI p.gr.bT.length),(18,vI i),(50,NF p.eY),(51,vI p.eY.length),(52,vI j)],[(2,some (.cells (k9 p fs))),(7,some (.cells [.d (dS s),.d .bC,.d .bC,.d .bC,.d .bC])),(8,some (.cells [.d (dS s),.d (dI (uQ l s l.length)),.d (dI (HL p.eY s j)),.d (dI 0)])),(100,some (.bW 80 (fN p l i).length 4 (D5 (fN p l i))))]⟩) (fun j=>j≤p.eY.length) (fun j=>p.eY.length - j) 0 (Nat.zero_le _) ?_ ?_
    ·exact aP.b7 aA [] rfl ⟨bQ,bQ,bQ,bQ,oO⟩ ⟨qZ,qZ,qZ,qZ,qZ,qZ,qZ,qZ,qZ,qZ,qZ,oO⟩
    ·intro j hj
     refine sX aA ?_
     refine AW.seq (AW.cond ?_)
     refine aI (fun h2=>AW.skip ?_) (fun h2=>AW.exit ?_)
     ·have h2:(j:Int)<p.eY.length:=cB h2
      refine AW.seq (AW.block ?_)
      refine sX aA ?_
      refine oi ⟨oM,oM⟩ ?_
      refine sX aA ?_
      refine AW.cond ?_
      refine aI (fun h3=>?_) (fun h3=>AW.skip ?_)
      ·have h3:dE (p.eY.getD j default).aN s=true:=h3
       have e:HL p.eY s (j+1)=(p.eY.getD j default).BI:=by rw[HL,h3];rfl
       refine eX aA ?_
       refine eX aA ?_
       refine⟨j+1,oM,oM,?_⟩
       exact aP.b7 aA [] rfl ⟨bQ,bQ,⟨rfl,aQ.of_eq (by rw[e];rfl)⟩,bQ,oO⟩ ⟨qZ,qZ,qZ,qZ,qZ,qZ,qZ,qZ,qZ,qZ,⟨rfl,aM.int (aG oM oM)⟩,oO⟩
      ·have h3:dE (p.eY.getD j default).aN s=false:=h3
       have e:HL p.eY s (j+1)=HL p.eY s j:=by rw[HL,h3];rfl
       refine eX aA ?_
       refine⟨j+1,oM,oM,?_⟩
       exact aP.b7 aA [] rfl ⟨bQ,bQ,⟨rfl,aQ.of_eq (by rw[e];rfl)⟩,bQ,oO⟩ ⟨qZ,qZ,qZ,qZ,qZ,qZ,qZ,qZ,qZ,qZ,⟨rfl,aM.int (aG oM oM)⟩,oO⟩
     ·have h2:¬(j:Int)<p.eY.length:=cD h2
      obtain rfl:j=p.eY.length:=oM
      exact⟨rfl,aP.b7 aA [] rfl ⟨bQ,bQ,bQ,bQ,oO⟩ ⟨qZ,qZ,qZ,qZ,qZ,qZ,qZ,qZ,oO⟩⟩
   refine sX aA ?_
   refine aB (BI (uQ l s l.length) (HL p.eY s p.eY.length)) ?_
   refine sX aA ?_
   refine AW.cond ?_
   refine aI (fun h3=>?_) (fun h3=>AW.skip ?_)
   ·have h3:decide (uQ l s l.length>0)=true:=h3
    have e:fN p l (i+1)=fN p l i++ [aG5 p l s]:=by rw[fD];unfold aA6;rw[hS,h3];rfl
    refine eX aA ?_
    refine ob dC ?_
    refine ob (by rw[dW];show((fN p l i).length+1)*40≤_;omega) ?_
    refine ob (mT (lt4 rfl rfl rfl rfl)) ?_
    refine eX aA ?_
    refine⟨i+1,oM,oM,?_⟩
    refine aP.b7 aA [(100,77)] rfl ⟨bQ,⟨rfl,?_⟩,oO⟩ ⟨qZ,qZ,⟨rfl,aM.mo (by rw[e];exact b9 _ _)⟩,qZ,qZ,⟨rfl,aM.int (aG oM oM)⟩,oO⟩
    show aQ _ (.bW 80 (fN p l (i+1)).length 4 (D5 (fN p l (i+1))))
    rw[e]
    refine aQ.snoc (el:=aKF) (x:=aG5 p l s) (fun c hc=>?_)
    have hc:c<4:=hc
    match c,hc with|0,_|1,_|2,_|3,_=>rfl
   ·have h3:decide (uQ l s l.length>0)=false:=h3
    have e:fN p l (i+1)=fN p l i:=by rw[fD];unfold aA6;rw[hS,h3];exact List.append_nil _
    refine eX aA ?_
    refine⟨i+1,oM,oM,?_⟩
    exact aP.b7 aA [] rfl ⟨bQ,⟨rfl,aQ.of_eq (by rw[e];rfl)⟩,oO⟩ ⟨qZ,qZ,⟨rfl,aM.of_eq (by rw[e];rfl)⟩,qZ,qZ,⟨rfl,aM.int (aG oM oM)⟩,oO⟩
  ·have h:¬(i:Int)<p.gr.bT.length:=cD h
   obtain rfl:i=p.gr.bT.length:=oM
   refine eX aA ?_
   exact aC.mo
theorem dJ{e r:Int}(h:(bif e !=0 then e else r)=0):e=0∧r=0:=by
 cases h1:(e !=0)with
 |true=>
  rw[h1]at h
  have h:e=0:=h
  rw[h]at h1;cases h1
 |false=>
  rw[h1]at h
  exact⟨by simpa using h1,h⟩
theorem cW{c:Bool}{e r:Int}(he:e≠0)(h:(bif c then e else r)=0):c=false∧r=0:=by
 cases c with
 |true=>exact absurd h he
 |false=>exact⟨rfl,h⟩
structure PV(p:Proj):Prop where
 aS:lN p.aS=0
 side:p.aS.side≤1000
 cells:p.aS.levels.length≤100
 chan:qY p.chan=0
 gr:gF p.gr=0
 agree:0≤p.agree∧p.agree≤1000
 eU:0≤p.eU∧p.eU≤1000000
 eY:AD p=0
 fV:zV p=0
 new:OB p.a6 p.b8=0
theorem PV.of{p:Proj}(h:l8 p=0):PV p:=by
 unfold l8 at h
 obtain⟨_,h⟩:=cW dC h
 obtain⟨h1,h⟩:=dJ h
 obtain⟨h2,h⟩:=cW dC h
 obtain⟨h3,h⟩:=dJ h
 obtain⟨h4,h⟩:=dJ h
 obtain⟨h5,h⟩:=cW dC h
 obtain⟨h6,h⟩:=dJ h
 simp only [Bool.or_eq_false_iff,decide_eq_false_iff_not]at h2
 simp only [Bool.or_eq_false_iff,Bool.not_eq_false',within,Bool.and_eq_true,decide_eq_true_eq]at h5
 unfold yD at h6
 obtain⟨h7,h8⟩:=dJ h6
 exact⟨h1,oM,oM,h3,h4,oM,oM,h7,h8,h⟩
theorem ES.gok{g:fS}(h:ES g):g.ok:=by
 have hn:=h.n
 have key:∀n:Int, -2000000≤n→n≤2000000→mC n:=fun n h1 h2=>by
  simp[mC,Lit.wf,IntKind.min,IntKind.max,IntKind.signed,IntKind.bits];omega
 have:=h.x;have:=h.y;have:=h.side;have:=h.dP;have:=h.rows
 refine⟨key _ oM oM,key _ oM oM,key _ oM oM,key _ oM oM,key _ oM oM,oM,fun a ha=>?_⟩
 rcases h.lev a ha with h|h <;> exact key _ oM oM
theorem PV.gv{p:Proj}(h:PV p):ES p.aS:=ES.of h.aS
theorem PV.with{p:Proj}(h:PV p):lR p.chan [p.aS]=0:=by
 unfold lR
 rw[h.chan]
 show(bif lN p.aS !=0 then lN p.aS else 0)=0
 rw[h.aS];rfl
theorem PV.yS{p:Proj}(h:PV p)(less:Int):x5 p.chan p.aS less=(lU p.chan p.aS less,0):=by unfold x5;rw[h.with];rfl
def aJK(des low:List Int)(i:Nat):Bool:=des.getD i 0 !=30000&&decide (low.getD i 0>des.getD i 0)
abbrev aMT(p:Proj):fS:=lU p.chan p.aS 0
def aKJ(p:Proj)(s:ByteArray):List Pt:=(p.chan.regions.getD (ZC p.chan.regions s).toNat default).qN
def aMW(p:Proj)(s:ByteArray)(low:fS):Bool:= !(aK4 p.aS (aKJ p s) p.aS.levels.length).any fun n=>aJK (aMT p).levels low.levels n.toNat
def aK6(s:ByteArray)(m:Int)(f:Fact):Bool:=f.kind==2&&dE f.cE s&&f.month==m
def aFG(fs:List Fact)(s:ByteArray)(m:Int):Bool:=fs.any (aK6 s m)
def aIY(p:Proj)(fs:List Fact)(m:Int)(low:fS)(s:ER):Bool:=(decide (s.due≤m)&& !aFG fs s.name m)&& !aMW p s.name low
def aI0(p:Proj)(fs:List Fact)(m:Int)(low:fS)(i:Nat):Option M3:=bif aIY p fs m low (p.fV.getD i default)then some ⟨(p.fV.getD i default).name,(p.fV.getD i default).pen⟩else none
def LU(p:Proj)(fs:List Fact)(m:Int)(low:fS)(n:Nat):List M3:=(List.range n).filterMap (aI0 p fs m low)
theorem Z4(p:Proj)(fs:List Fact)(m:Int)(low:fS)(n:Nat):(LU p fs m low n).length≤n:=by
 have:=List.length_filterMap_le (aI0 p fs m low) (List.range n)
 rw[List.length_range]at this
 exact this
abbrev Room:=Fact×Int
def rmD(x:Room)(j:Nat):DV:=if j=13 then dI x.2 else R7 x.1 j
def jU(l:List Room)(i:Nat)(j:Nat):DV:=rmD (l.getD i default) j
structure DS where
 out:List Piece
 lo:Nat
 v:Int
 p:Int
 cur:List Room
def aT(pt:Piece)(s:DS):DS:=
 bif decide (s.lo<s.cur.length)then
  {out:=s.out++ [⟨pt.month,pt.cell,pt.aN,mm false s.v (s.cur.getD s.lo default).2,mm false s.p (mm false s.v (s.cur.getD s.lo default).2),(s.cur.getD s.lo default).1.number,(s.cur.getD s.lo default).1.cQ⟩],
   lo:=bif aU ((s.cur.getD s.lo default).2 - mm false s.v (s.cur.getD s.lo default).2)==0 then s.lo+1 else s.lo,
   v:=aU (s.v - mm false s.v (s.cur.getD s.lo default).2),p:=aU (s.p - mm false s.p (mm false s.v (s.cur.getD s.lo default).2)),
   cur:=s.cur.set s.lo ((s.cur.getD s.lo default).1,aU ((s.cur.getD s.lo default).2 - mm false s.v (s.cur.getD s.lo default).2))}
 else {s with out:=s.out++ [⟨pt.month,pt.cell,pt.aN,s.v,mm false s.p s.v,pt.load,pt.cQ⟩],v:=aU (s.v - s.v),p:=aU (s.p - mm false s.p s.v)}
def oK(pt:Piece):Nat→DS→DS
 |0,s=>s
 |k+1,s=>bif decide (s.v>0)then oK pt k (aT pt s)else s
def pH(pt:Piece)(lo:Nat)(l:List Room):DS:=⟨[],lo,pt.jO,pt.gO,l⟩
def cA(pt:Piece)(lo:Nat)(l:List Room):DS:=oK pt (l.length - lo+1) (pH pt lo l)
structure DJ(pt:Piece)(n:Nat)(fin:DS)(x:Nat×DS):Prop where
 run:oK pt x.1 x.2=fin
 lo:x.2.lo≤n
 len:x.2.cur.length=n
 v:0≤x.2.v∧x.2.v≤1000000000000000
 fuel:x.2.v>0→n - x.2.lo<x.1
 left:∀i,x.2.lo≤i→i<n→1≤(x.2.cur.getD i default).2∧(x.2.cur.getD i default).2≤1000000000000
 few:x.2.out.length+x.1≤1000000
theorem aIV(x y:Int):mm false x y=min x y:=by unfold mm;simp only;split <;> omega
theorem DJ.step{pt:Piece}{n:Nat}{fin:DS}{k:Nat}{s:DS}(h:DJ pt n fin (k,s))(hv:s.v>0):∃k',k=k'+1∧DJ pt n fin (k',aT pt s):=by
 have hf:=h.fuel hv
 simp only at hf
 obtain⟨k',rfl⟩:∃k',k=k'+1:=⟨k - 1,oM⟩
 refine⟨k',rfl,?_⟩
 have hr:=h.run
 simp only [oK,decide_eq_true hv,cond_true]at hr
 have CP:=h.lo
 have hlen:=h.len
 have hvv:=h.v
 have RX:=h.few
 simp only at CP hlen hvv RX
 by_cases hl:s.lo<n
 ·have hd:decide (s.lo<s.cur.length)=true:=decide_eq_true oM
  obtain⟨l1,l2⟩:=h.left s.lo (Nat.le_refl _) hl
  simp only at l1 l2
  have hm:=aIV s.v (s.cur.getD s.lo default).2
  have T5:aU ((s.cur.getD s.lo default).2 - mm false s.v (s.cur.getD s.lo default).2)=(s.cur.getD s.lo default).2 - mm false s.v (s.cur.getD s.lo default).2:=aG oM oM
  have T4:aU (s.v - mm false s.v (s.cur.getD s.lo default).2)=s.v - mm false s.v (s.cur.getD s.lo default).2:=aG oM oM
  have e1:(aT pt s).lo=bif aU ((s.cur.getD s.lo default).2 - mm false s.v (s.cur.getD s.lo default).2)==0 then s.lo+1 else s.lo:=by unfold aT;rw[hd];rfl
  have e2:(aT pt s).cur=s.cur.set s.lo ((s.cur.getD s.lo default).1,aU ((s.cur.getD s.lo default).2 - mm false s.v (s.cur.getD s.lo default).2)):=by unfold aT;rw[hd];rfl
  have e3:(aT pt s).v=aU (s.v - mm false s.v (s.cur.getD s.lo default).2):=by unfold aT;rw[hd];rfl
  have e4:(aT pt s).out.length=s.out.length+1:=by unfold aT;rw[hd];simp
  have key:∀i,i<n→i≠s.lo→(s.cur.set s.lo ((s.cur.getD s.lo default).1,aU ((s.cur.getD s.lo default).2 - mm false s.v (s.cur.getD s.lo default).2))).getD i default=s.cur.getD i default:=fun i hi hV=>by
   simp[List.getD_eq_getElem?_getD,Ne.symm hV]
  have aLW:(s.cur.set s.lo ((s.cur.getD s.lo default).1,aU ((s.cur.getD s.lo default).2 - mm false s.v (s.cur.getD s.lo default).2))).getD s.lo default=((s.cur.getD s.lo default).1,aU ((s.cur.getD s.lo default).2 - mm false s.v (s.cur.getD s.lo default).2)):=by
   simp[List.getD_eq_getElem?_getD,show s.lo<s.cur.length by omega]
  cases hz:(aU ((s.cur.getD s.lo default).2 - mm false s.v (s.cur.getD s.lo default).2)==0)with
  |true=>
   rw[hz]at e1
   have e1:(aT pt s).lo=s.lo+1:=e1
   refine⟨hr,by simp only [e1];omega,by simp only [e2,List.length_set];exact hlen,by simp only [e3,T4];omega,fun _=>by simp only [e1];omega,fun i h1 h2=>?_,by simp only [e4];omega⟩
   simp only [e1]at h1
   simp only [e2]
   rw[key i h2 oM]
   exact h.left i (by simp only;omega) h2
  |false=>
   rw[hz]at e1
   have e1:(aT pt s).lo=s.lo:=e1
   have hV:aU ((s.cur.getD s.lo default).2 - mm false s.v (s.cur.getD s.lo default).2)≠0:=by simpa using hz
   refine⟨hr,by simp only [e1];omega,by simp only [e2,List.length_set];exact hlen,by simp only [e3,T4];omega,fun X6=>by simp only [e3,T4]at X6;omega,fun i h1 h2=>?_,by simp only [e4];omega⟩
   simp only [e1]at h1
   simp only [e2]
   by_cases hi:i=s.lo
   ·subst hi
    rw[aLW]
    simp only
    omega
   ·rw[key i h2 hi]
    exact h.left i (by simp only;omega) h2
 ·have hd:decide (s.lo<s.cur.length)=false:=decide_eq_false oM
  have e1:(aT pt s).lo=s.lo:=by unfold aT;rw[hd];rfl
  have e2:(aT pt s).cur=s.cur:=by unfold aT;rw[hd];rfl
  have e3:(aT pt s).v=0:=by unfold aT;rw[hd];show aU (s.v - s.v)=0;rw[Int.sub_self];rfl
  have e4:(aT pt s).out.length=s.out.length+1:=by unfold aT;rw[hd];simp
  exact⟨hr,by simp only [e1];omega,by simp only [e2];exact hlen,by simp only [e3];omega,fun X6=>by simp only [e3]at X6;omega,fun i h1 h2=>by simp only [e1]at h1;omega,by simp only [e4];omega⟩
theorem zY{pt:Piece}{k:Nat}{s:DS}(h:¬s.v>0):oK pt k s=s:=by
 cases k with
 |zero=>rfl
 |succ k=>rw[oK,decide_eq_false h];rfl
def xD(s:DS):Int:=bif decide (s.lo<s.cur.length)then mm false s.v (s.cur.getD s.lo default).2 else s.v
def H5(pt:Piece)(s:DS):Int:=bif decide (s.lo<s.cur.length)then(s.cur.getD s.lo default).1.number else pt.load
def EX(pt:Piece)(s:DS):ByteArray:=bif decide (s.lo<s.cur.length)then(s.cur.getD s.lo default).1.cQ else pt.cQ
theorem kQ(pt:Piece)(s:DS):(aT pt s).out=s.out++ [⟨pt.month,pt.cell,pt.aN,xD s,mm false s.p (xD s),H5 pt s,EX pt s⟩]:=by
 unfold aT xD H5 EX;cases decide (s.lo<s.cur.length) <;> rfl
theorem K6(pt:Piece)(s:DS):(aT pt s).v=aU (s.v - xD s):=by
 unfold aT xD;cases decide (s.lo<s.cur.length) <;> rfl
theorem K7(pt:Piece)(s:DS):(aT pt s).p=aU (s.p - mm false s.p (xD s)):=by
 unfold aT xD;cases decide (s.lo<s.cur.length) <;> rfl
theorem aCB{x y:DV}{a:TV}(h:aJ x y):aM (.t [.s (.d x),a]) (.t [.s (.d y),a]):=by
 rintro M β v ⟨vs,e,r⟩
 match vs,r with
 |[u1,u2],⟨r1,r2,r3⟩=>exact⟨[u1,u2],e,h M u1 r1,r2,r3⟩
theorem aEM{l:List Room}{i a c:Nat}{x:Int}(hi:i<l.length)(ha:a<l.length)(hc:c<14):fK (jU l) i 13 [.d (dI x)] a c=jU (l.set i ((l.getD i default).1,x)) a c:=by
 unfold fK
 by_cases h:a=i
 ·subst h
  rw[if_pos rfl]
  unfold jU
  rw[show(l.set a ((l.getD a default).1,x)).getD a default=((l.getD a default).1,x) by simp[List.getD_eq_getElem?_getD,ha]]
  by_cases h13:c=13
  ·subst h13;rfl
  ·match c,hc,h13 with
   |0,_,_|1,_,_|2,_,_|3,_,_|4,_,_|5,_,_|6,_,_|7,_,_|8,_,_|9,_,_|10,_,_|11,_,_|12,_,_=>rfl
   |13,_,h=>exact absurd rfl h
 ·rw[if_neg h]
  unfold jU
  congr 1
  simp[List.getD_eq_getElem?_getD,Ne.symm h]
theorem aA8(pt:Piece)(l:List Room)(lo n:Nat)(hn:l.length=n)(CP:lo≤n)(hn2:n≤1000)(hv:0≤pt.jO∧pt.jO≤1000000000000000)
  (hl:∀i,lo≤i→i<n→1≤(l.getD i default).2∧(l.getD i default).2≤1000000000000):
  bM prog 123 [aF5 pt,.s (.jQ 1001 14 lo (n - lo))] [(1001,.row 259 n 14 (jU l))]
   (.t [.s (.d (UQ (cA pt lo l).out)),.s (.jQ 1001 14 (cA pt lo l).lo (n - (cA pt lo l).lo))]) [(1001,.row 259 n 14 (jU (cA pt lo l).cur))]:=by
 generalize aAS:cA pt lo l=fin
 refine gT func123 rfl rfl call123 aK rfl rfl rfl rfl (fun cx aA=>?_)
 refine sX aA ?_
 refine sX aA ?_
 refine sX aA ?_
 refine aD ?_
 refine AW.seq ?_
 refine AW.block ?_
 refine AW.cZ (fun x:Nat×DS=>⟨[(1,.s (.jQ 1001 14 x.2.lo (n - x.2.lo))),(2,.s (.ptr 2 0)),(6,.s (.mo x.2.out.isEmpty 100)),(7,vI x.2.v),(8,vI x.2.p)],[(1001,some (.row 259 n 14 (jU x.2.cur))),(2,some (.cells [.d (dI pt.month),.d (dI pt.cell),.d (dS pt.aN),.d (dI pt.jO),.d (dI pt.gO),.d (dI pt.load),.d (dS pt.cQ)])),(100,some (.bW 130 x.2.out.length 7 (dY x.2.out)))]⟩) (DJ pt n fin) (fun x=>x.1) (n - lo+1,pH pt lo l) ⟨by rw[←aAS];unfold cA;rw[hn],CP,hn,hv,fun _=>by show n - lo<n - lo+1;omega,hl,by show 0+(n - lo+1)≤_;omega⟩ ?_ ?_
 ·exact aP.of [(100,1000)] (by rw[aA];rfl) rfl ⟨bQ,bQ,⟨rfl,rfl⟩,oO⟩ ⟨qZ,qZ,⟨rfl,aM.nil rfl⟩,qZ,qZ,oO⟩
 ·rintro⟨k,s⟩ hJ
  have aGO:=hJ.lo
  have hlen:=hJ.len
  have RX:=hJ.few
  have hvb:=hJ.v
  simp only at aGO hlen RX hvb
  refine AW.seq (sX aA ?_)
  refine AW.cond ?_
  refine aI (fun h1=>AW.skip ?_) (fun h1=>AW.exit ?_)
  ·have h1:s.v>0:=cB h1
   obtain⟨k',rfl,hJ2⟩:=hJ.step h1
   refine AW.block ?_
   refine sX aA ?_
   refine sX aA ?_
   refine AW.fU (σ':=⟨[(1,.s (.jQ 1001 14 s.lo (n - s.lo))),(2,.s (.ptr 2 0)),(6,.s (.mo s.out.isEmpty 100)),(7,vI s.v),(8,vI s.p),(9,.s (.ptr 9 0))],[(1001,some (.row 259 n 14 (jU s.cur))),(2,some (.cells [.d (dI pt.month),.d (dI pt.cell),.d (dS pt.aN),.d (dI pt.jO),.d (dI pt.gO),.d (dI pt.load),.d (dS pt.cQ)])),(100,some (.bW 130 s.out.length 7 (dY s.out))),(9,some (.cells [.d (dI pt.month),.d (dI pt.cell),.d (dS pt.aN),.d (dI s.v),.d (dI pt.gO),.d (dI pt.load),.d (dS pt.cQ)]))]⟩) (aP.of [] (by rw[aA];rfl) rfl ⟨bQ,bQ,bQ,bQ,oO⟩ ⟨qZ,qZ,qZ,qZ,qZ,qZ,oO⟩) ?_
   have aJX:(aT pt s).cur.length=n:=hJ2.len
   refine AW.cut (σ':=⟨[(1,.s (.jQ 1001 14 (aT pt s).lo (n - (aT pt s).lo))),(2,.s (.ptr 2 0)),(6,.s (.mo s.out.isEmpty 100)),(7,vI s.v),(8,vI s.p),(9,.s (.ptr 9 0))],[(1001,some (.row 259 n 14 (jU (aT pt s).cur))),(2,some (.cells [.d (dI pt.month),.d (dI pt.cell),.d (dS pt.aN),.d (dI pt.jO),.d (dI pt.gO),.d (dI pt.load),.d (dS pt.cQ)])),(100,some (.bW 130 s.out.length 7 (dY s.out))),(9,some (.cells [.d (dI pt.month),.d (dI pt.cell),.d (dS pt.aN),.d (dI (xD s)),.d (dI pt.gO),.d (dI (H5 pt s)),.d (dS (EX pt s))]))]⟩) ?_ ?_
   ·refine sX aA ?_
    refine AW.cond ?_
    refine aI (fun h2=>?_) (fun h2=>AW.skip ?_)
    ·have h2:((n - s.lo:Nat):Int)>0:=cB h2
     have fR:s.lo<n:=oM
     have xC:decide (s.lo<s.cur.length)=true:=decide_eq_true oM
     have WW:xD s=mm false s.v (s.cur.getD s.lo default).2:=by unfold xD;rw[xC];rfl
     have el:H5 pt s=(s.cur.getD s.lo default).1.number:=by unfold H5;rw[xC];rfl
     have ep:EX pt s=(s.cur.getD s.lo default).1.cQ:=by unfold EX;rw[xC];rfl
     refine sX aA ?_
     refine oi ⟨oM,oM⟩ ?_
     refine oi (show s.lo+(0:Int).toNat<n by omega) ?_
     refine AW.fU (σ':=⟨[(1,.s (.jQ 1001 14 s.lo (n - s.lo))),(2,.s (.ptr 2 0)),(6,.s (.mo s.out.isEmpty 100)),(7,vI s.v),(8,vI s.p),(9,.s (.ptr 9 0))],[(1001,some (.row 259 n 14 (jU s.cur))),(2,some (.cells [.d (dI pt.month),.d (dI pt.cell),.d (dS pt.aN),.d (dI pt.jO),.d (dI pt.gO),.d (dI pt.load),.d (dS pt.cQ)])),(100,some (.bW 130 s.out.length 7 (dY s.out))),(9,some (.cells [.d (dI pt.month),.d (dI pt.cell),.d (dS pt.aN),.d (dI (xD s)),.d (dI pt.gO),.d (dI pt.load),.d (dS pt.cQ)]))]⟩) (aP.of [] (by rw[aA];rfl) rfl ⟨bQ,bQ,bQ,⟨rfl,aQ.of_eq (by rw[WW];rfl)⟩,oO⟩ ⟨qZ,qZ,qZ,qZ,qZ,qZ,oO⟩) ?_
     refine sX aA ?_
     refine oi ⟨oM,oM⟩ ?_
     refine oi (show s.lo+(0:Int).toNat<n by omega) ?_
     refine oi ⟨oM,oM⟩ ?_
     refine oi (show s.lo+(0:Int).toNat<n by omega) ?_
     refine aD ?_
     refine AW.fU (σ':=⟨[(1,.s (.jQ 1001 14 s.lo (n - s.lo))),(2,.s (.ptr 2 0)),(6,.s (.mo s.out.isEmpty 100)),(7,vI s.v),(8,vI s.p),(9,.s (.ptr 9 0))],[(1001,some (.row 259 n 14 (jU s.cur))),(2,some (.cells [.d (dI pt.month),.d (dI pt.cell),.d (dS pt.aN),.d (dI pt.jO),.d (dI pt.gO),.d (dI pt.load),.d (dS pt.cQ)])),(100,some (.bW 130 s.out.length 7 (dY s.out))),(9,some (.cells [.d (dI pt.month),.d (dI pt.cell),.d (dS pt.aN),.d (dI (xD s)),.d (dI pt.gO),.d (dI (H5 pt s)),.d (dS (EX pt s))]))]⟩) (aP.of [] (by rw[aA];rfl) rfl ⟨bQ,bQ,bQ,⟨rfl,aQ.of_eq (by rw[el,ep];rfl)⟩,oO⟩ ⟨qZ,qZ,qZ,qZ,qZ,qZ,oO⟩) ?_
     have e2:(aT pt s).cur=s.cur.set s.lo ((s.cur.getD s.lo default).1,aU ((s.cur.getD s.lo default).2 - xD s)):=by rw[WW];unfold aT;rw[xC];rfl
     have e1:(aT pt s).lo=bif aU ((s.cur.getD s.lo default).2 - xD s)==0 then s.lo+1 else s.lo:=by rw[WW];unfold aT;rw[xC];rfl
     refine sX aA ?_
     refine oi ⟨oM,oM⟩ ?_
     refine oi (show s.lo+(0:Int).toNat<n by omega) ?_
     refine oi ⟨oM,oM⟩ ?_
     refine ob (show s.lo+(0:Int).toNat<n by omega) ?_
     refine aD ?_
     refine AW.fU (σ':=⟨[(1,.s (.jQ 1001 14 s.lo (n - s.lo))),(2,.s (.ptr 2 0)),(6,.s (.mo s.out.isEmpty 100)),(7,vI s.v),(8,vI s.p),(9,.s (.ptr 9 0))],[(1001,some (.row 259 n 14 (jU (aT pt s).cur))),(2,some (.cells [.d (dI pt.month),.d (dI pt.cell),.d (dS pt.aN),.d (dI pt.jO),.d (dI pt.gO),.d (dI pt.load),.d (dS pt.cQ)])),(100,some (.bW 130 s.out.length 7 (dY s.out))),(9,some (.cells [.d (dI pt.month),.d (dI pt.cell),.d (dS pt.aN),.d (dI (xD s)),.d (dI pt.gO),.d (dI (H5 pt s)),.d (dS (EX pt s))]))]⟩) (aP.of [] (by rw[aA];rfl) rfl ⟨⟨rfl,aQ.row rfl fun a c ha hc=>aJ.of_eq (by rw[e2];exact aEM (x:=aU ((s.cur.getD (s.lo+(0:Int).toNat) default).2 - xD s)) oM oM hc)⟩,bQ,bQ,bQ,oO⟩ ⟨qZ,qZ,qZ,qZ,qZ,qZ,oO⟩) ?_
     have hg:((aT pt s).cur.getD s.lo default).2=aU ((s.cur.getD s.lo default).2 - xD s):=by
      rw[e2]
      simp[List.getD_eq_getElem?_getD,show s.lo<s.cur.length by omega]
     refine sX aA ?_
     refine oi ⟨oM,oM⟩ ?_
     refine oi (show s.lo+(0:Int).toNat<n by omega) ?_
     refine AW.cond ?_
     refine aI (fun h3=>?_) (fun h3=>AW.skip ?_)
     ·have h3:(((aT pt s).cur.getD s.lo default).2==0)=true:=h3
      rw[hg]at h3
      rw[h3]at e1
      have e1:(aT pt s).lo=s.lo+1:=e1
      refine eX aA ?_
      refine oi (show(0:Int)≤1∧(1:Int)≤((n - s.lo:Nat):Int)∧((n - s.lo:Nat):Int)≤((n - s.lo:Nat):Int) by omega) ?_
      exact⟨rfl,aP.of [] (by rw[aA];rfl) rfl ⟨bQ,bQ,bQ,bQ,oO⟩ ⟨⟨rfl,aM.of_eq (by rw[e1,show n - (s.lo+1)=n - s.lo - 1 by omega];rfl)⟩,qZ,qZ,qZ,qZ,qZ,oO⟩⟩
     ·have h3:(((aT pt s).cur.getD s.lo default).2==0)=false:=h3
      rw[hg]at h3
      rw[h3]at e1
      have e1:(aT pt s).lo=s.lo:=e1
      exact⟨rfl,aP.of [] (by rw[aA];rfl) rfl ⟨bQ,bQ,bQ,bQ,oO⟩ ⟨⟨rfl,aM.of_eq (by rw[e1];rfl)⟩,qZ,qZ,qZ,qZ,qZ,oO⟩⟩
    ·have h2:¬((n - s.lo:Nat):Int)>0:=cD h2
     have xC:decide (s.lo<s.cur.length)=false:=decide_eq_false oM
     have WW:xD s=s.v:=by unfold xD;rw[xC];rfl
     have el:H5 pt s=pt.load:=by unfold H5;rw[xC];rfl
     have ep:EX pt s=pt.cQ:=by unfold EX;rw[xC];rfl
     have e1:(aT pt s).lo=s.lo:=by unfold aT;rw[xC];rfl
     have e2:(aT pt s).cur=s.cur:=by unfold aT;rw[xC];rfl
     exact⟨rfl,aP.of [] (by rw[aA];rfl) rfl ⟨⟨rfl,aQ.of_eq (by rw[e2];rfl)⟩,bQ,bQ,⟨rfl,aQ.of_eq (by rw[WW,el,ep];rfl)⟩,oO⟩ ⟨⟨rfl,aM.of_eq (by rw[e1];rfl)⟩,qZ,qZ,qZ,qZ,qZ,oO⟩⟩
   ·refine sX aA ?_
    refine sX aA ?_
    refine aD ?_
    refine eX aA ?_
    refine ob dC ?_
    refine ob (by rw[dW];show(s.out.length+1)*72≤_;omega) ?_
    refine ob (mT fun c hc=>by match c,hc with|0,_|1,_|2,_|3,_|4,_|5,_|6,_=>rfl) ?_
    refine⟨(k',aT pt s),hJ2,Nat.lt_succ_self _,?_⟩
    refine aP.of [(100,73)] (by rw[aA];rfl) rfl ⟨bQ,bQ,⟨rfl,?_⟩,oO⟩ ⟨qZ,qZ,⟨rfl,aM.mo (by rw[kQ];exact b9 _ _)⟩,⟨rfl,aM.int (K6 pt s).symm⟩,⟨rfl,aM.int (K7 pt s).symm⟩,oO⟩
    show aQ _ (.bW 130 (aT pt s).out.length 7 (dY (aT pt s).out))
    rw[kQ]
    refine aQ.snoc (el:=aC1) (x:=⟨pt.month,pt.cell,pt.aN,xD s,mm false s.p (xD s),H5 pt s,EX pt s⟩) (fun c hc=>?_)
    have hc:c<7:=hc
    match c,hc with|0,_|1,_|2,_|3,_|4,_|5,_|6,_=>rfl
  ·have h1:¬s.v>0:=cD h1
   have hr:=hJ.run
   simp only at hr
   rw[zY h1]at hr
   subst hr
   refine eX aA ?_
   exact⟨aCB (aJ.xL (dW _) fun _ _ _ _=>aJ.refl _),rfl,oO⟩
end Go.Pj
namespace Go.Ax
open Go.RowKit
section
variable{P:Program}{T:List (Nat×bJ)}{N:Nat}{all:List Oper}{md:Region.Mode}{ft:List fI}
def TJ(e:Ef):Prop:=∀p∈e.2,∀b,p.2=some b→b.real=true
def I4(P:Program)(T:List (Nat×bJ))(N:Nat)(all:List Oper)(m:Nat)(om:Oper)(em:Ef)(fm:fI)(C:St→Prop)(i:Nat)(o:Oper)(σ:St)(e:Ef)(f:fI):Prop:=
 (i≠m∧EE P T N [] all o σ e f∧TJ e)∨(i=m∧o=om∧e=em∧f=fm∧C σ)
structure Mid(all:List Oper)(om:Oper)(em:Ef)(fm:fI)(C:St→Prop):Prop where
 wr:em.2.map (·.1)=fm.2
 real:TJ em
 congr:∀σ σ',C σ→S9 all om σ σ'→(∀x,x∈fm.2→aH σ'.box x=aH σ.box x)→C σ'
variable{m:Nat}{om:Oper}{em:Ef}{fm:fI}{C:St→Prop}(hm:Mid all om em fm C)
include hm
theorem I4.wr{i:Nat}{o:Oper}{σ:St}{e:Ef}{f:fI}(h:I4 P T N all m om em fm C i o σ e f):e.2.map (·.1)=f.2:=by
 rcases h with⟨_,h,_⟩|⟨_,_,rfl,rfl,_⟩
 ·exact h.wr
 ·exact hm.wr
theorem I4.congr{i:Nat}{o:Oper}{σ σ':St}{e:Ef}{f:fI}(h:I4 P T N all m om em fm C i o σ e f)(ht:S9 all o σ σ')(hr:uZ f.1 σ σ')(hw:∀x,x∈f.2→aH σ'.box x=aH σ.box x):I4 P T N all m om em fm C i o σ' e f:=by
 rcases h with⟨h0,h,h1⟩|⟨h0,rfl,rfl,rfl,h⟩
 ·exact .inl ⟨h0,h.congr ht hr hw,h1⟩
 ·exact .inr ⟨h0,rfl,rfl,rfl,hm.congr _ _ h ht hw⟩
theorem I4.eqv{i:Nat}{o:Oper}{σ σ':St}{e:Ef}{f:fI}(h:I4 P T N all m om em fm C i o σ e f)(k:ET σ σ'):I4 P T N all m om em fm C i o σ' e f:=
 h.congr hm (fun t _=>k.env t) (fun x _=>k.box x) (fun x _=>k.box x)
theorem I4.past{j:Nat}{oi oj:Oper}{ei ej:Ef}{fi fj:fI}{σ:St}(hwi:ei.2.map (·.1)=fi.2)(B0:oi.apart all.toArray oj=true)(wH:iL fi fj=true)(h:I4 P T N all m om em fm C j oj (eL oi ei σ) ej fj):I4 P T N all m om em fm C j oj σ ej fj:=by
 obtain⟨h1,h2,h3⟩:=Oper.apart_spec B0
 obtain⟨k1,k2,k3⟩:=iL.spec wH
 have ht:S9 all oj σ (eL oi ei σ):=S9.eL h1
 refine h.congr hm (fun t DR=>(ht t DR).symm) (fun x hx=>(oE (fun hw=>?_)).symm) (fun x hx=>(oE (fun hw=>?_)).symm)
 ·exact k1 x (hwi▸hw) hx
 ·exact k2 x (hwi▸hw) hx
theorem I4.over{i:Nat}{oi oj:Oper}{ei ej:Ef}{fi fj:fI}{σ:St}(hwj:ej.2.map (·.1)=fj.2)(B0:oi.apart all.toArray oj=true)(wH:iL fi fj=true)(h:I4 P T N all m om em fm C i oi σ ei fi):I4 P T N all m om em fm C i oi (eL oj ej σ) ei fi:=by
 obtain⟨h1,h2,h3⟩:=Oper.apart_spec B0
 obtain⟨k1,k2,k3⟩:=iL.spec wH
 refine h.congr hm (S9.eL h3) (fun x hx=>oE (fun hw=>?_)) (fun x hx=>oE (fun hw=>?_))
 ·exact k3 x (hwj▸hw) hx
 ·exact k2 x hx (hwj▸hw)
omit hm
def uV(P:Program)(T:List (Nat×bJ))(N:Nat)(all:List Oper)(m:Nat)(om:Oper)(em:Ef)(fm:fI)(C:St→Prop)(md:Region.Mode)(ft:List fI)(σf:St)(last:Nat):Nat→Array Bool→St→Prop
 |0,_,_=>False
 |fuel+1,listed,σ=>
  Region.ready md all.toArray listed≠[]∧
  ∀i∈Region.ready md all.toArray listed,(i=last∧Region.ready md all.toArray (listed.setIfInBounds i true)=[]∧listed.getD m true=true∧ET σf σ)∨
   (i≠last∧∃o e f,all[i]? =some o∧ft[i]? =some f∧I4 P T N all m om em fm C i o σ e f∧uV P T N all m om em fm C md ft σf last fuel (listed.setIfInBounds i true) (eL o e σ))
include hm
theorem uV.eqv{σf:St}{last:Nat}:∀(fuel:Nat) {listed:Array Bool} {σ σ':St},ET σ σ'→uV P T N all m om em fm C md ft σf last fuel listed σ→uV P T N all m om em fm C md ft σf last fuel listed σ'
 |0,_,_,_,_,h=>h
 |fuel+1,_,_,_,k,h=>⟨h.1,fun i hi=>by
  rcases h.2 i hi with⟨h1,h2,h3,h4⟩|⟨h0,o,e,f,h1,h2,h3,h4⟩
  ·exact .inl ⟨h1,h2,h3,h4.trans k⟩
  ·exact .inr ⟨h0,o,e,f,h1,h2,h3.eqv hm k,uV.eqv fuel (eL.eqv k) h4⟩⟩
theorem uV.first{σf:St}{last:Nat}{i:Nat}{oi:Oper}{ei:Ef}{fi:fI}(hi:all[i]? =some oi)(hfi:ft[i]? =some fi)(hil:i≠last){d:Nat}(aAT:dep md all.toArray i d last=true):
  ∀(fuel:Nat) (listed:Array Bool) (σ:St),
   (∀j oj fj,all[j]? =some oj→ft[j]? =some fj→j≠i→listed.getD j true=false→(∀n,dep md all.toArray i n j=false)→oi.apart all.toArray oj=true∧iL fi fj=true)→rB md all listed→
   i∈Region.ready md all.toArray listed→I4 P T N all m om em fm C i oi σ ei fi→
   uV P T N all m om em fm C md ft σf last fuel (listed.setIfInBounds i true) (eL oi ei σ)→uV P T N all m om em fm C md ft σf last (fuel+1) listed σ:=by
 intro fuel
 induction fuel with
 |zero=>intro listed σ _ _ hr hy H;exact H.elim
 |succ fuel ih=>
  intro listed σ DX uA hr hy H
  refine⟨fun h=>(by rw[h]at hr;cases hr),fun j hj=>?_⟩
  by_cases EK:j=i
  ·subst EK;exact .inr ⟨hil,oi,ei,fi,hi,hfi,hy,H⟩
  ·obtain⟨O9,oj',aAO,lE⟩:=mem_ready.1 hj
   have DU:all[j]? =some oj':=by simpa using aAO
   have L0:∀n,dep md all.toArray i n j=false:=fun n=>MF uA (L6 (mem_ready.1 hr).1) n j oj' DU lE
   have rF:j≠last:=fun e=>by rw[e]at L0;rw[L0 d]at aAT;cases aAT
   rcases H.2 j (ready_mono hj EK)with⟨h1,_,_⟩|⟨_,oj,ej,fj,RQ,hfj,hyj,Hj⟩
   ·exact absurd h1 rF
   obtain rfl:oj=oj':=Option.some.inj (RQ.symm.trans DU)
   obtain⟨B0,wH⟩:=DX j oj fj RQ hfj EK O9 L0
   have aAE:I4 P T N all m om em fm C j oj σ ej fj:=I4.past hm (hy.wr hm) B0 wH hyj
   have aAF:I4 P T N all m om em fm C i oi (eL oj ej σ) ei fi:=I4.over hm (hyj.wr hm) B0 wH hy
   have G2:∀k ok fk,all[k]? =some ok→ft[k]? =some fk→k≠i→(listed.setIfInBounds j true).getD k true=false→
     (∀n,dep md all.toArray i n k=false)→oi.apart all.toArray ok=true∧iL fi fk=true:=fun k ok fk hk nS M6 T7 WJ=>by
    refine DX k ok fk hk nS M6 ?_ WJ
    by_cases hjk:j=k
    ·subst hjk;exact O9
    ·rw[getD_set_ne true hjk]at T7;exact T7
   refine .inr ⟨rF,oj,ej,fj,RQ,hfj,aAE,ih (listed.setIfInBounds j true) (eL oj ej σ) G2 (uA.set RQ lE) (ready_mono hr (Ne.symm EK)) aAF ?_⟩
   rw[Array.setIfInBounds_comm _ _ EK]
   refine uV.eqv hm fuel ?_ Hj
   obtain⟨h1,h2,h3⟩:=Oper.apart_spec B0
   obtain⟨k1,k2,k3⟩:=iL.spec wH
   exact(eL.comm (fun d hd=>h2 d hd) (fun x hx=>by rw[hy.wr hm]at hx;rw[hyj.wr hm];exact k2 x hx)).symm
omit hm
def S8(P:Program)(T:List (Nat×bJ))(N:Nat)(all:List Oper)(m:Nat)(om:Oper)(em:Ef)(fm:fI)(C:St→Prop):Nat→List Oper→St→List Ef→List fI→Prop
 |_,[],_,[],[]=>True
 |k,o::l,σ,e::es,f::fs=>I4 P T N all m om em fm C k o σ e f∧S8 P T N all m om em fm C (k+1) l (eL o e σ) es fs
 |_,_,_,_,_=>False
def ZW(md:Region.Mode)(ops:Array Oper)(ft:List fI)(last m:Nat):Nat→Nat→Array Bool→Bool
 |0,_,listed=>(match Region.ready md ops listed with|[i]=>Nat.beq i last|_=>false)&&(Region.ready md ops (listed.setIfInBounds last true)).isEmpty&&listed.getD m true
 |fuel+1,k,listed=>(Region.ready md ops listed).contains k&&A0 md ops ft listed k&&(!Nat.beq k last&&dep md ops k 8 last)&&ZW md ops ft last m fuel (k+1) (listed.setIfInBounds k true)
include hm
theorem uV.lex{last:Nat}:∀(l:List Oper) (k:Nat) (listed:Array Bool) (σ:St) (es:List Ef) (fs:List fI),(∀j o,l[j]? =some o→all[k+j]? =some o)→(∀j,fs[j]? =ft[k+j]?)→
  rB md all listed→ZW md all.toArray ft last m l.length k listed=true→S8 P T N all m om em fm C k l σ es fs→uV P T N all m om em fm C md ft (p7 l σ es) last (l.length+1) listed σ
 |[],_,listed,_,[],[],_,_,_,hB,_=>by
  simp only [List.length_nil,ZW,Bool.and_eq_true]at hB
  obtain⟨⟨h1,h2⟩,h3⟩:=hB
  cases hr:Region.ready md all.toArray listed with
  |nil=>rw[hr]at h1;cases h1
  |cons i t=>
   rw[hr]at h1
   cases t with
   |cons _ _=>cases h1
   |nil=>
    have hi:=Nat.eq_of_beq_eq_true h1
    subst hi
    show uV P T N all m om em fm C md ft _ i 1 listed _
    refine⟨by rw[hr];simp,fun j hj=>?_⟩
    rw[hr]at hj
    obtain rfl:j=i:=by simpa using hj
    exact .inl ⟨rfl,by simpa using h2,h3,ET.refl _⟩
 |o::l,k,listed,σ,e::es,f::fs,hl,hf,uA,hB,⟨h1,h2⟩=>by
  have h0:all[k]? =some o:=hl 0 o rfl
  have UB:ft[k]? =some f:=by simpa using(hf 0).symm
  simp only [List.length_cons,ZW,Bool.and_eq_true,Bool.not_eq_true']at hB
  obtain⟨⟨⟨hr,hfr⟩,hV,hdp⟩,hB'⟩:=hB
  have BZ:k∈Region.ready md all.toArray listed:=by simpa using hr
  have J8:k≠last:=fun e=>by subst e;simp at hV
  have lE:∀e∈o.after,Region.binds md e=true→listed.getD e.on false=true:=by
   obtain⟨_,o',qW,h⟩:=mem_ready.1 BZ
   have:all[k]? =some o':=by simpa using qW
   rw[h0]at this;cases this
   exact h
  exact uV.first hm h0 UB J8 hdp (l.length+1) listed σ (A0.spec h0 UB hfr) uA BZ h1
   (uV.lex l (k+1) _ _ es fs (fun j o' h=>by have:=hl (j+1) o' h;simpa [Nat.add_assoc,Nat.add_comm 1 j]using this) (fun j=>by have:=hf (j+1);simpa [Nat.add_assoc,Nat.add_comm 1 j]using this) (uA.set h0 lE) hB' h2)
 |[],_,_,_,_::_,_,_,_,_,_,h=>by cases ‹List fI› <;> exact h.elim
 |[],_,_,_,[],_::_,_,_,_,_,h=>h.elim
 |_::_,_,_,_,[],_,_,_,_,_,h=>h.elim
 |_::_,_,_,_,_::_,[],_,_,_,_,h=>h.elim
end
section
variable{P:Program}{T:List (Nat×bJ)}{N:Nat}{all:List Oper}{md:Region.Mode}{ft:List fI}
variable{m:Nat}{om:Oper}{em:Ef}{fm:fI}{C:St→Prop}{cx:Cx}{H0 H1:Hid}
theorem KC:∀{l k:aO} {x:Nat} {y:Option jM},aH (l++k) x=some y→(∃p∈l,p.2=y)∨aH k x=some y
 |[],_,_,_,h=>.inr h
 |(a,b)::r,k,x,y,h=>by
  rw[List.cons_append,aL]at h
  by_cases hx:a=x
  ·rw[if_pos hx]at h
   exact .inl ⟨(a,b),List.mem_cons_self ..,Option.some.inj h⟩
  ·rw[if_neg hx]at h
   rcases KC h with⟨p,hp,e⟩|h
   ·exact .inl ⟨p,List.mem_cons_of_mem _ hp,e⟩
   ·exact .inr h
def JK(σ:St):Prop:=∀x b,aH σ.box x=some (some b)→b.real=true
theorem JK.app{o:Oper}{e:Ef}{σ:St}(h:JK σ)(he:TJ e):JK (eL o e σ):=by
 intro x b hb
 have YC:aH (e.2++σ.box) x=some (some b):=by
  have:(eL o e σ).box=e.2++σ.box:=by unfold eL;simp only [E9]
  rw[this]at hb;exact hb
 rcases KC YC with⟨p,hp,e1⟩|h1
 ·exact he p hp b e1
 ·exact h x b h1
theorem DZ{x:Nat}{y:Option jM}:∀{l:aO},aH l x=some y→x∈l.map (·.1)
 |[],h=>by cases h
 |(k,v)::r,h=>by
  rw[aL]at h
  by_cases hk:k=x
  ·subst hk;simp
  ·rw[if_neg hk]at h
   simp only [List.map_cons,List.mem_cons]
   exact .inr (DZ h)
theorem uV.sound(hm:Mid all om em fm C)(hT:b5 P T)(aA:cx.ref=[]){last:Nat}{ol:Oper}(G0:all[last]? =some ol)(hg:ol.guard=none)(hgm:om.guard=none)
  (aAI:∀σ,C σ→nE P cx N om σ H0 fun s H'=>s=eL om em σ∧H'=H1)
  {σf:St} {K:St→Hid→Prop} (tZ:nE P cx N ol σf H1 K) {M0:Mem} {w0:World} {Q:Exit→Act→World→Prop} (hQ:∀a' w',wX cx N M0 w0 K a' w'→Q .normal a' w'):
  ∀(fuel:Nat) {listed:Array Bool} {σ:St} {M:Mem} {β:Nm} {a:Act} {w:World},
   uV P T N all m om em fm C md ft σf last fuel listed σ→Inv cx N M β σ a w→lQ cx M β σ w (bif listed.getD m true then H1 else H0)→JK σ→Grow cx.B M0 M→b6 cx w0 w→
   wpAnyIn (FW cx.rd) 0 P md all.toArray Q fuel listed a w:=by
 intro fuel
 induction fuel with
 |zero=>intro listed σ M β a w h;exact h.elim
 |succ fuel ih=>
  intro listed σ M β a w h i hi jZ g0 k0
  refine⟨fun h0=>absurd h0 h.1,fun k hk=>?_⟩
  rcases h.2 k hk with⟨J8,hr,hlm,heq⟩|⟨J8,o,e,f,ho,hf,fT,J7⟩
  ·subst J8
   have qW:all.toArray[k]? =some ol:=by simpa using G0
   unfold wpOpIn
   rw[qW]
   simp only
   rw[if_pos (by simp[Region.wanted,hg])]
   rw[hlm]at hi
   have bN:lQ cx M β σ w H1:=hi
   have hi2:lQ cx M β σf w H1:=⟨bN.holds,bN.low,bN.apart,fun x bc b c e1=>bN.names x bc b c (by rw[←e1];exact heq.box x)⟩
   exact LJ tZ.1 (Oper.wp_mono (fun a' w' hp=>wpAny_done fuel hr (hQ a' w' (hp.trans g0 k0))) (tZ.2 M β a w (i.eqv heq.symm) hi2 Q))
  ·have qW:all.toArray[k]? =some o:=by simpa using ho
   have T7:=(mem_ready.1 hk).1
   rcases fT with⟨hkm,fT,T9⟩|⟨hkm,rfl,rfl,rfl,hc⟩
   ·have aMA:(listed.setIfInBounds k true).getD m true=listed.getD m true:=getD_set_ne true hkm
    let ks:List Nat:=(σ.box.map (·.1)).filter fun x=>match aH σ.box x with|some (some _)=>true|_=>false
    have lD:∀x,x∈ks→∃bc,aH σ.box x=some (some bc):=by
     intro x hx
     have h2:=(List.mem_filter.1 hx).2
     cases hb:aH σ.box x with
     |none=>rw[hb]at h2;cases h2
     |some y=>cases y with
      |none=>rw[hb]at h2;cases h2
      |some bc=>exact⟨bc,rfl⟩
    have lE:∀x bc,aH σ.box x=some (some bc)→x∈ks:=fun x bc hx=>List.mem_filter.2 ⟨DZ hx,by rw[hx]⟩
    have hV:∀x,x∈ks→∃p,β x=some p:=fun x hx=>by
     obtain⟨bc,h1⟩:=lD x hx
     obtain⟨b,c,e⟩:=(i.box x bc h1).exb (jZ x bc h1)
     exact⟨_,e⟩
    have hrf:∀x,x∈cx.ref→x∈ks:=fun x hx=>by rw[aA]at hx;cases hx
    have ii:=i.aDJ (rd:=cx.rd) lD lE hV i.defers
    have jE:=aT.sound (cx:=Cx.part w ks β cx.rd cx.df) (Q:=Q) hT (fun f hf=>by cases hf) (fT.pt (fun e'=>e'=e) rfl) ii
    have next:∀a' w',BR (Cx.part w ks β cx.rd cx.df) N M w o σ (fun e'=>e'=e) a' w'→wpAnyIn (FW cx.rd) 0 P md all.toArray Q fuel (listed.setIfInBounds k true) a' w':=by
     rintro a' w' ⟨e',M',β',rfl,i',g,kp⟩
     refine ih J7 (Inv.back i lD hrf i' (b6.back i lD kp) i'.defers i'.tmps i'.env) ?_ (jZ.app T9) (g0.trans (Grow.back i g)) (k0.trans (b6.back i lD kp))
     rw[aMA]
     exact hi.after lD i' g kp
    unfold wpOpIn
    rw[qW]
    simp only
    split
    ·rename_i hw
     rw[if_pos hw]at jE
     exact LJ jE.1 (Oper.wp_mono next jE.2)
    ·rename_i hw
     rw[if_neg hw]at jE
     exact⟨fun _ _=>trivial,next _ _ jE⟩
   ·subst hkm
    have hl0:listed.getD k true=false:=T7
    rw[hl0]at hi
    have bN:lQ cx M β σ w H0:=hi
    have fR:k<listed.size:=by
     by_cases lT:k<listed.size
     ·exact lT
     ·simp[lT]at hl0
    have hl1:(listed.setIfInBounds k true).getD k true=true:=by simp[fR]
    unfold wpOpIn
    rw[qW]
    simp only
    rw[if_pos (by simp[Region.wanted,hgm])]
    have hs:=aAI σ hc
    refine LJ hs.1 (Oper.wp_mono ?_ (hs.2 M β a w i bN Q))
    rintro a' w' ⟨σ',M',β',H',⟨rfl,rfl⟩,i',hh,g,kp⟩
    refine ih J7 i' ?_ (jZ.app hm.real) (g0.trans g) (k0.trans kp)
    rw[hl1]
    exact hh
def N4(e:Ef):Bool:=e.2.all fun p=>match p.2 with|some b=>b.real|none=>true
theorem N4.spec{e:Ef}(h:N4 e=true):TJ e:=by
 intro p hp b hb
 unfold N4 at h
 rw[List.all_eq_true]at h
 have:=h p hp
 rw[hb]at this
 exact this
def runM(P:Program)(T:List (Nat×bJ))(N:Nat)(all:List Oper)(m:Nat)(om:Oper)(em:Ef)(fm:fI)(C:St→Prop):Nat→List Oper→St→List fI→(St→List fI→Prop)→Prop
 |_,[],σ,fs,K=>K σ fs.reverse
 |k,o::rest,σ,fs,K=>match Nat.beq k m with
  |true=>o=om∧C σ∧runM P T N all m om em fm C (k+1) rest (eL o em σ) (fm::fs) K
  |false=>aT P T N [] all o σ fun e=>N4 e=true∧runM P T N all m om em fm C (k+1) rest (eL o e σ) (L8 σ o e::fs) K
theorem runM.chain:∀{l:List Oper} {k:Nat} {σ:St} {fs:List fI} {K:St→List fI→Prop},runM P T N all m om em fm C k l σ fs K→∃es gs,S8 P T N all m om em fm C k l σ es gs∧es.length=l.length∧K (p7 l σ es) (fs.reverse++gs)
 |[],k,σ,fs,K,h=>⟨[],[],trivial,rfl,by have h':K σ fs.reverse:=h;simpa [p7]using h'⟩
 |o::rest,k,σ,fs,K,h=>by
  unfold runM at h
  cases hb:Nat.beq k m with
  |true=>
   rw[hb]at h
   obtain⟨ho,hc,h⟩:=h
   obtain⟨es,gs,hch,hl,hK⟩:=runM.chain h
   refine⟨em::es,fm::gs,⟨.inr ⟨Nat.eq_of_beq_eq_true hb,ho,rfl,rfl,hc⟩,hch⟩,by simp[hl],?_⟩
   simpa [p7]using hK
  |false=>
   rw[hb]at h
   obtain⟨e,⟨T9,hk⟩,hp⟩:=aT.pt h
   obtain⟨es,gs,hch,hl,hK⟩:=runM.chain hk
   refine⟨e::es,L8 σ o e::gs,⟨.inl ⟨fun hkm=>(by subst hkm;rw[Nat.beq_refl]at hb;cases hb),⟨hp,rfl,rfl⟩,N4.spec T9⟩,hch⟩,by simp[hl],?_⟩
   simpa [p7]using hK
theorem bI.UJ{K:Exit→St→Hid→Prop}{id:Nat}{ops:Array Oper}{σ:St}(hm:Mid ops.toList om em fm C)(hT:b5 P T)(aA:cx.ref=[])(hmx:P.follows .mixedOrders=true)(jZ:JK σ)(last:Nat){ol:Oper}
  (G0:ops.toList[last]? =some ol) (lT:Nat.beq ops.toList.length (last+1)=true) (hml:m<last) (hg:ol.guard=none) (hgm:om.guard=none)
  (aAI:∀σ,C σ→nE P cx N om σ H0 fun s H'=>s=eL om em σ∧H'=H1)
  (h:runM P T N ops.toList m om em fm C 0 (ops.toList.take last) σ [] fun σ' fs=>ZW .any ops.toList.toArray fs last m (ops.toList.take last).length 0 (Array.replicate ops.toList.length false)=true∧nE P cx N ol σ' H1 (K .normal)):
  bI P cx N (.region id ops true) σ H0 K:=by
 obtain⟨es,gs,hc,_,hl,hK⟩:=runM.chain h
 intro M β a w i hi
 refine wpIn_region_any hmx ?_
 have aAV:=uV.lex (md:=.any) (ft:=gs) hm (ops.toList.take last) 0 (Array.replicate ops.toList.length false) σ es gs (fun j o h=>by
  rw[Nat.zero_add]
  exact(List.getElem?_eq_some_iff.1 h).elim fun h1 h2=>by rw[List.getElem_take]at h2;rw[List.length_take]at h1;rw[List.getElem?_eq_getElem oM];exact congrArg some h2) sM (fun m om _ h=>by simp[Array.getElem?_replicate]at h;split at h <;> simp_all) hl hc
 have M7:Inv cx N M β σ a {w with drawn:=w.drawn+1}:=
  ⟨i.defers,i.tmps,⟨i.heap.le,i.heap.tab⟩,i.env,i.mem,i.keys,i.box,i.inj,i.apart,i.low,i.ref⟩
 have hh1:lQ cx M β σ {w with drawn:=w.drawn+1} H0:=⟨H0.loc M M w _ hi.holds (Mem.le_refl M) fun _ _=>rfl,hi.low,hi.apart,hi.names⟩
 have kd:b6 cx w {w with drawn:=w.drawn+1}:=⟨rfl,rfl,rfl,Nat.le_refl _,fun _ _ _=>rfl,oO⟩
 have hlen:ops.toList.length=last+1:=Nat.eq_of_beq_eq_true lT
 have hm0:(Array.replicate ops.toList.length false).getD m true=false:=by
  have:m<ops.toList.length:=oM
  simp only [Array.getD,Array.size_replicate,this,dite_true]
  simp
 have:=uV.sound (cx:=cx) (Q:=fun e a' w'=>wX cx N M w (K e) a' w') (M0:=M) (w0:={w with drawn:=w.drawn+1}) hm hT aA G0 hg hgm aAI hK
  (fun a2 w2 hp=>hp.trans (Grow.refl _ _) kd) _ aAV M7 (by rw[hm0];exact hh1) jZ (Grow.refl _ _) (b6.refl _ _)
 have aJG:(ops.toList.take last).length+1=ops.toList.length:=by
  rw[List.length_take];omega
 rw[aJG]at this
 simpa using this
end
end Go.Ax
namespace Go.Pj.Rm
open Go Go.Pj Go.Ax Go.Ch Go.Proofs Go.Proofs.Tryz
abbrev gM:=bG×List Room×Nat
structure uF(r:l0)(ts:List Room):Prop where
 lo:r.lo=0
 n:r.n=ts.length
 f:∀i j,i<ts.length→j<14→aJ (r.f i j) (jU ts i j)
structure EOK(q:bF)(e:gM):Prop where
 key:q.key=bs e.1
 born:q.born=e.2.2
 ne:e.2.1≠[]
 row:∃r,q.row=some r∧uF r e.2.1
def dX:List bF→List gM→Prop
 |[],[]=>True
 |q::r,e::s=>EOK q e∧dX r s
 |_,_=>False
theorem dX.append:∀{l m:List bF} {E F:List gM},dX l E→dX m F→dX (l++m) (E++F)
 |[],_,[],_,_,h=>h
 |_::_,_,_::_,_,h,k=>⟨h.1,dX.append h.2 k⟩
 |[],_,_::_,_,h,_=>h.elim
 |_::_,_,[],_,h,_=>h.elim
theorem dX.modify:∀{l:List bF} {E:List gM} {i:Nat} {g:bF→bF} {g':gM→gM},dX l E→(∀q e,l[i]? =some q→E[i]? =some e→EOK q e→EOK (g q) (g' e))→dX (l.modify i g) (E.modify i g')
 |[],[],_,_,_,_,_=>by simp[dX]
 |q::r,e::s,0,g,g',h,k=>by
  simp only [List.modify_zero_cons]
  exact⟨k q e rfl rfl h.1,h.2⟩
 |q::r,e::s,i+1,g,g',h,k=>by
  simp only [List.modify_succ_cons]
  exact⟨h.1,dX.modify h.2 fun q e hq he=>k q e (by simpa using hq) (by simpa using he)⟩
 |[],_::_,_,_,_,h,_=>h.elim
 |_::_,[],_,_,_,h,_=>h.elim
def fE:List gM→bG→Nat→Option (Nat×gM)
 |[],_,_=>none
 |e::r,k,i=>bif k==e.1 then some (i,e)else fE r k (i+1)
theorem rX:∀{l:List bF} {E:List gM} {k:bG} {i:Nat},dX l E→fE E k i=none→cT l (bs k) i=none
 |[],[],_,_,_,_=>rfl
 |q::r,e::s,k,i,h,hf=>by
  rw[fE]at hf
  rw[cT,h.1.key,tP]
  cases hk:k==e.1 with
  |true=>rw[hk]at hf;cases hf
  |false=>rw[hk]at hf;exact rX h.2 hf
 |[],_::_,_,_,h,_=>h.elim
 |_::_,[],_,_,h,_=>h.elim
theorem pD:∀{l:List bF} {E:List gM} {k:bG} {i:Nat} {p:Nat×gM},dX l E→fE E k i=some p→∃q,cT l (bs k) i=some (p.1,q)∧EOK q p.2
 |[],[],_,_,_,_,hf=>by cases hf
 |q::r,e::s,k,i,p,h,hf=>by
  rw[fE]at hf
  rw[cT,h.1.key,tP]
  cases hk:k==e.1 with
  |true=>
   rw[hk]at hf
   obtain rfl:(i,e)=p:=Option.some.inj hf
   exact⟨q,rfl,h.1⟩
  |false=>rw[hk]at hf;exact pD h.2 hf
 |[],_::_,_,_,_,h,_=>h.elim
 |_::_,[],_,_,_,h,_=>h.elim
theorem yX:∀{E:List gM} {k:bG} {i:Nat} {p:Nat×gM},fE E k i=some p→i≤p.1∧E[p.1 - i]? =some p.2∧p.2.1=k
 |[],_,_,_,h=>by cases h
 |e::r,k,i,p,h=>by
  rw[fE]at h
  cases hk:k==e.1 with
  |true=>
   rw[hk]at h
   obtain rfl:(i,e)=p:=Option.some.inj h
   exact⟨Nat.le_refl _,sM,(by simpa using hk:k=e.1).symm⟩
  |false=>
   rw[hk]at h
   obtain⟨h1,h2,h3⟩:=yX (i:=i+1) h
   refine⟨oM,?_,h3⟩
   rw[show p.1 - i=(p.1 - (i+1))+1 by omega,List.getElem?_cons_succ]
   exact h2
def oR(E:List gM)(k:bG)(t:Room):List gM:=match fE E k 0 with
 |some (i,_)=>E.modify i fun e=>(e.1,e.2.1++ [t],e.2.2)
 |none=>E++ [(k,[t],E.length)]
theorem w5{h:HM}{E:List gM}{k:bG}{j:Nat}{q:bF}{v:Value}{r:l0}{ts:List Room}(ha:dX h.l E)(hf:cT h.l (bs k) 0=some (j,q))(hr:uF r ts)(hV:ts≠[]):
  dX (eH {h with l:=cL h.l j} (bs k) v (some r)).l (E.modify j fun e=>(e.1,ts,e.2.2))∧(eH {h with l:=cL h.l j} (bs k) v (some r)).bm=h.bm∧(eH {h with l:=cL h.l j} (bs k) v (some r)).clock=h.clock∧(eH {h with l:=cL h.l j} (bs k) v (some r)).it=h.it:=by
 have h1:=Go.Pj.rW h.l (bs k) j 0
 rw[hf]at h1
 unfold eH
 simp only
 cases hq:cT (cL h.l j) (bs k) 0 with
 |none=>rw[hq]at h1;cases h1
 |some p=>
  obtain⟨i,q'⟩:=p
  rw[hq]at h1
  obtain rfl:i=j:=by simpa using h1
  refine⟨?_,rfl,rfl,rfl⟩
  show dX ((cL h.l i).modify i _) _
  unfold cL
  rw[List.modify_modify_eq]
  exact ha.modify fun q e _ _ ho=>⟨ho.key,ho.born,hV,r,rfl,hr⟩
theorem K8{h:HM}{E:List gM}{k:bG}{v:Value}{r:l0}{ts:List Room}(ha:dX h.l E)(hc:h.clock=E.length)(hf:cT h.l (bs k) 0=none)(hr:uF r ts)(hV:ts≠[]):
  dX (eH h (bs k) v (some r)).l (E++ [(k,ts,E.length)])∧(eH h (bs k) v (some r)).bm=h.bm∧(eH h (bs k) v (some r)).clock=E.length+1∧(eH h (bs k) v (some r)).it=h.it:=by
 unfold eH
 rw[hf]
 refine⟨?_,rfl,by simp only;omega,rfl⟩
 refine ha.append ⟨⟨rfl,by simp only;exact hc,hV,r,rfl,hr⟩,oO⟩
end Go.Pj.Rm
namespace Go.Pj
open Go Go.Ax Go.Ch Go.Proofs Go.Proofs.Tryz Go.Sort Go.Shelf
def aKN(a b:Int):Int:=if a<b then -1 else if b<a then 1 else 0
def orI(a b:Int):Int:=bif a !=0 then a else bif b !=0 then b else 0
def cfL(x y:Fact):Int:=orI (aKN x.month y.month) (aKN x.number y.number)
def IA(l:List Fact):List Fact:=l.mergeSort fun x y=> !(ltOf cfL y x)
theorem zR(l:List Fact):(IA l).length=l.length:=by unfold IA;simp
end Go.Pj
namespace Go.Pj
open Go Go.Ax Go.Ch Go.Proofs Go.Proofs.Tryz
theorem U6{y:gR}(h:nC y=0):y.carry.length=y.b8.length∧∀i,i<y.b8.length→(y.b8.getD i default).den≠0:=by
 unfold nC at h
 obtain⟨_,h⟩:=cW dC h
 obtain⟨_,h⟩:=dJ h
 obtain⟨h,_⟩:=dJ h
 unfold uS at h
 obtain⟨_,h⟩:=cW dC h
 obtain⟨h1,h⟩:=dJ h
 obtain⟨h2,_⟩:=cW dC h
 have h2:(y.carry.length:Int)=y.b8.length:=by simpa using h2
 refine⟨oM,fun i hi=>?_⟩
 have hb:=o9 h1 i (Nat.zero_le _) oM
 unfold C1 at hb
 obtain⟨_,hb⟩:=cW dC hb
 obtain⟨_,hb⟩:=cW dC hb
 unfold R6 at hb
 obtain⟨hb,_⟩:=cW dC hb
 simp only [Bool.or_eq_false_iff,Bool.not_eq_false',within,Bool.and_eq_true,decide_eq_true_eq]at hb
 omega
theorem wW.of{y:gR}(h1:y.fits)(h2:y.small):wW y:=⟨h1,h2,U6⟩
theorem wW.plc{y:gR}(h:wW y){b:Batch}{cQ:ByteArray}(he:nW y b cQ=0):wW (N7 y b cQ):=by
 have hd:y.cC.length<200:=by
  unfold nW at he
  obtain⟨_,he⟩:=dJ he
  obtain⟨_,he⟩:=cW dC he
  obtain⟨_,he⟩:=cW dC he
  obtain⟨_,he⟩:=dJ he
  obtain⟨he,_⟩:=cW dC he
  simp only [decide_eq_false_iff_not]at he
  omega
 have hc:(oD y b).length=y.carry.length:=by unfold oD;simp
 have hf:=h.fits
 have hs:=h.small
 refine wW.of ⟨hf.a6,hf.b8,?_,?_,hf.DE,hf.x8,hf.bB⟩ ⟨hs.a6,hs.b8,?_,?_,hs.bB⟩
 ·show(y.cC++_).length≤_
  rw[List.length_append];simp only [List.length_singleton];omega
 ·show(oD y b).length≤_
  rw[hc];exact hf.carry
 ·show(y.cC++_).length≤_
  rw[List.length_append];simp only [List.length_singleton];omega
 ·show(oD y b).length≤_
  rw[hc];exact hs.carry
def xW(f:Fact):Batch:=⟨f.number,f.aS,f.over,f.aN,f.cls⟩
def rP(fs:List Fact)(m:Int):List Fact:=fs.filter fun f=>f.kind==1&&decide (f.month≤m)
def jT(fs:List Fact)(m:Int):List Fact:=IA (rP fs m)
def iC(p:Proj)(l:List Fact):Nat→List Fact×gR
 |0=>([],GD p.a6 p.b8)
 |k+1=>bif nW (iC p l k).2 (xW (l.getD k default)) (l.getD k default).cQ==0 then((iC p l k).1++ [l.getD k default],N7 (iC p l k).2 (xW (l.getD k default)) (l.getD k default).cQ)else iC p l k
theorem J9{p:Proj}{l:List Fact}(h:wW (GD p.a6 p.b8)):∀k,wW (iC p l k).2
 |0=>h
 |k+1=>by
  have ih:=J9 (l:=l) h k
  rw[iC]
  cases he:(nW (iC p l k).2 (xW (l.getD k default)) (l.getD k default).cQ==0)with
  |true=>exact ih.plc (by simpa using he)
  |false=>exact ih
theorem AT(p:Proj)(l:List Fact):∀k,(iC p l k).1.length≤k
 |0=>Nat.le_refl _
 |k+1=>by
  have ih:=AT p l k
  rw[iC]
  cases(nW (iC p l k).2 (xW (l.getD k default)) (l.getD k default).cQ==0)with
  |true=>show(_++ [_]).length≤_;rw[List.length_append];simp only [List.length_singleton];omega
  |false=>exact Nat.le_succ_of_le ih
theorem aLP{p:Proj}(hp:p.fits)(hv:PV p):GD p.a6 p.b8=GC p.a6 p.b8∧wW (GD p.a6 p.b8):=by
 have e:GD p.a6 p.b8=GC p.a6 p.b8:=by unfold GD;rw[hv.new];rfl
 refine⟨e,?_⟩
 rw[e]
 exact wW.of (JQ hp.small hp.DE hp.x8) hp.small
def xK(fs:List Fact)(m:Int)(i:Nat):List Fact:=(fs.take i).filter fun f=>f.kind==1&&decide (f.month≤m)
theorem VB{fs:List Fact}{m:Int}{i:Nat}(h:i<fs.length):xK fs m (i+1)=xK fs m i++(bif (fs.getD i default).kind==1&&decide ((fs.getD i default).month≤m)then [fs.getD i default]else []):=by
 unfold xK
 rw[List.take_add_one,List.getElem?_eq_getElem h,List.filter_append,bA h]
 cases hh:(fs[i].kind==1&&decide (fs[i].month≤m)) <;> simp[hh]
theorem YP(fs:List Fact)(m:Int)(i:Nat):(xK fs m i).length≤i:=Nat.le_trans (List.length_filter_le _ _) (by simp;omega)
end Go.Pj
--K37
namespace Go.Ax
theorem AW.aMV{P:Program}{cx:Cx}{N:Nat}{σ σ':St}{K:Exit→St→Prop}{x y:Code}(h:AW P cx N x σ fun e s=>e=.normal∧kH cx N s σ')(k:AW P cx N y σ' K):AW P cx N (.seq x y) σ K:=
 AW.seq (AW.mono h fun _ _ ⟨he,hs⟩=>by subst he;exact AW.VC hs k)
end Go.Ax
namespace Go.Pj
open Go Go.Ax Go.Ch Go.Proofs Go.Proofs.Tryz
set_option maxRecDepth 100000
set_option maxHeartbeats 1000000
theorem aB9(a:AV):aF prog 224 [.s (.d dK),a] (.t []):=by
 refine⟨call224,fun M w vs _ hr hM=>?_⟩
 match vs,hr with
 |[v,v2],⟨hv,_,_⟩=>
  have hv:v=.slice none 0 0:=hv
  subst hv
  refine(AnyF.slices_SortFunc_none (P:=prog) (ρ:=Tryz.AJ) {Tryz.Z2 with} none 0 v2 w).mono ?_
  rintro e w' ⟨he,rfl⟩
  exact⟨.tuple #[],M,he,⟨[],rfl,oO⟩,Grow.refl _ _,hM,⟨⟨rfl,rfl,rfl,Nat.le_refl _,fun _ _=>rfl⟩,oO⟩⟩
 |[],h=>exact h.elim
 |[_],h=>exact h.2.elim
 |_::_::_::_,h=>exact h.2.2.elim
def XV(fs:List Fact)(m:Int):Prop:=0<(rP fs m).length→bM prog 224 [.s (.own 1001),.s (.dQ 225 [])] [(1001,.row 40 (rP fs m).length 13 (pV (rP fs m)))] (.t []) [(1001,.row 40 (rP fs m).length 13 (pV (IA (rP fs m))))]
theorem aGW(p:Proj)(fs:List Fact)(m:Int)(hp:p.fits)(hv:PV p)(hl:fs.length≤200)(hn:XV fs m):
  aF prog 178 [QY p fs,vI m] (.t [.s (.d (UR (iC p (jT fs m) (jT fs m).length).1)),.g (B1 (iC p (jT fs m) (jT fs m).length).2)]):=by
 obtain⟨eN,gN⟩:=aLP hp hv
 have aMP:=aKI p.a6 p.b8 hp.small hp.DE hp.x8
 have lE:xK fs m fs.length=rP fs m:=by unfold xK rP;rw[List.take_length]
 have hLl:(jT fs m).length≤200:=by
  unfold jT
  rw[zR]
  exact Nat.le_trans (List.length_filter_le _ _) hl
 have n9:=fun k=>J9 (l:=jT fs m) gN k
 refine eW func178 rfl rfl call178 rfl rfl (fun cx aA=>?_)
 refine sX aA ?_
 refine sX aA ?_
 refine AW.cut (σ':=⟨[(1,vI m),(2,.s (.ptr 2 0)),(5,.s (.ptr 5 0)),(6,.s (.mo (rP fs m).isEmpty 100))],[(2,some (.cells (k9 p fs))),(5,some (.cells (iE ty88.zero))),(100,some (.bW 40 (rP fs m).length 13 (pV (rP fs m))))]⟩) ?_ ?_
 ·refine sX aA ?_
  refine AW.block ?_
  refine AW.cZ (fun i:Nat=>⟨[(1,vI m),(2,.s (.ptr 2 0)),(5,.s (.ptr 5 0)),(6,.s (.mo (xK fs m i).isEmpty 100)),(17,jF fs),(18,vI fs.length),(19,vI i)],[(2,some (.cells (k9 p fs))),(5,some (.cells (iE ty88.zero))),(100,some (.bW 40 (xK fs m i).length 13 (pV (xK fs m i))))]⟩) (fun i=>i≤fs.length) (fun i=>fs.length - i) 0 (Nat.zero_le _) ?_ ?_
  ·exact aP.b7 aA [(100,1000)] rfl ⟨bQ,bQ,⟨rfl,rfl⟩,oO⟩ ⟨qZ,qZ,qZ,⟨rfl,aM.nil rfl⟩,qZ,qZ,qZ,oO⟩
  ·intro i hi
   have hlen:=YP fs m i
   refine sX aA ?_
   refine AW.seq (AW.cond ?_)
   refine aI (fun h=>AW.skip ?_) (fun h=>AW.exit ?_)
   ·have h:(i:Int)<fs.length:=cB h
    have fD:=VB (m:=m) (show i<fs.length by omega)
    refine AW.seq (AW.block ?_)
    refine sX aA ?_
    refine oi ⟨oM,oM⟩ ?_
    refine sX aA ?_
    repeat refine aR ?_
    refine AW.cond ?_
    refine aI (fun h2=>?_) (fun h2=>AW.skip ?_)
    ·have h2:((fs.getD i default).kind==1&&decide ((fs.getD i default).month≤m))=true:=h2
     rw[h2]at fD
     have fD:xK fs m (i+1)=xK fs m i++ [fs.getD i default]:=fD
     refine eX aA ?_
     refine ob dC ?_
     refine ob (by rw[dW];show((xK fs m i).length+1)*144≤_;omega) ?_
     refine ob (mT fun c hc=>by match c,hc with|0,_|1,_|2,_|3,_|4,_|5,_|6,_|7,_|8,_|9,_|10,_|11,_|12,_=>rfl) ?_
     refine eX aA ?_
     refine⟨i+1,oM,oM,?_⟩
     refine aP.b7 aA [(100,35)] rfl ⟨bQ,bQ,⟨rfl,?_⟩,oO⟩ ⟨qZ,qZ,qZ,⟨rfl,aM.mo (by rw[fD];exact b9 _ _)⟩,qZ,qZ,⟨rfl,aM.int (aG oM oM)⟩,oO⟩
     show aQ _ (.bW 40 (xK fs m (i+1)).length 13 (pV (xK fs m (i+1))))
     rw[fD]
     refine aQ.snoc (el:=R7) (x:=fs.getD i default) (fun c hc=>?_)
     have hc:c<13:=hc
     match c,hc with|0,_|1,_|2,_|3,_|4,_|5,_|6,_|7,_|8,_|9,_|10,_|11,_|12,_=>rfl
    ·have h2:((fs.getD i default).kind==1&&decide ((fs.getD i default).month≤m))=false:=h2
     rw[h2]at fD
     have fD:xK fs m (i+1)=xK fs m i:=fD.trans (List.append_nil _)
     refine eX aA ?_
     refine⟨i+1,oM,oM,?_⟩
     exact aP.b7 aA [] rfl ⟨bQ,bQ,⟨rfl,aQ.of_eq (by rw[fD];rfl)⟩,oO⟩ ⟨qZ,qZ,qZ,⟨rfl,aM.of_eq (by rw[fD];rfl)⟩,qZ,qZ,⟨rfl,aM.int (aG oM oM)⟩,oO⟩
   ·have h:¬(i:Int)<fs.length:=cD h
    obtain rfl:i=fs.length:=oM
    rw[lE]
    exact⟨rfl,aP.b7 aA [] rfl ⟨bQ,bQ,bQ,oO⟩ ⟨qZ,qZ,qZ,qZ,oO⟩⟩
 refine AW.aMV (σ':=⟨[(2,.s (.ptr 2 0)),(5,.s (.ptr 5 0)),(6,jF (jT fs m))],[(2,some (.cells (k9 p fs))),(5,some (.cells (iE ty88.zero)))]⟩) ?_ ?_
 ·have hn:0<(rP fs m).length→bM prog 224 [.s (.own 1001),.s (.dQ 225 [])] [(1001,.row 40 (rP fs m).length 13 (pV (rP fs m)))] (.t []) [(1001,.row 40 (rP fs m).length 13 (pV (IA (rP fs m))))]:=hn
  generalize hD:rP fs m=D at hn
  have hsD:jT fs m=IA D:=by unfold jT;rw[hD]
  cases hz:D.isEmpty with
  |true=>
   have hDn:D=[]:=by simpa using hz
   refine AW.fU (σ':=⟨[(2,.s (.ptr 2 0)),(5,.s (.ptr 5 0)),(6,.s (.d dK))],[(2,some (.cells (k9 p fs))),(5,some (.cells (iE ty88.zero)))]⟩) (aP.b7 aA [] rfl ⟨bQ,bQ,oO⟩ ⟨qZ,qZ,⟨rfl,aM.YN rfl⟩,oO⟩) ?_
   refine eX aA ?_
   refine aB (aB9 _) ?_
   exact⟨rfl,kH.w9 (aP.b7 aA [] rfl ⟨bQ,bQ,oO⟩ ⟨qZ,qZ,⟨rfl,aM.d (by rw[hsD,hDn,show IA []=[] by simp[IA]];exact aJ.nil)⟩,oO⟩)⟩
  |false=>
   refine AW.fU (aP.own (z:=false) (e:=40) (n:=D.length) (s:=13) (f:=pV D) 6 100 rfl rfl rfl) ?_
   refine AW.fU (σ':=⟨[(2,.s (.ptr 2 0)),(5,.s (.ptr 5 0)),(6,.s (.own 100))],[(2,some (.cells (k9 p fs))),(5,some (.cells (iE ty88.zero))),(100,some (.row 40 D.length 13 (pV D)))]⟩) (aP.b7 aA [] rfl ⟨bQ,bQ,bQ,oO⟩ ⟨qZ,qZ,qZ,oO⟩) ?_
   refine ex.sound (rc:=[224]) aK mix aA _ ?_
   have hDl:D.length≤200:=by rw[←hD];exact Nat.le_trans (List.length_filter_le _ _) hl
   refine⟨[(1001,100)],_,_,_,_,hn (by cases D with|nil=>cases hz|cons a b=>simp),rfl,⟨rfl,oO⟩,rfl,?_⟩
   exact⟨rfl,kH.of aA [] [100] rfl rfl rfl ⟨⟨rfl,iI.rfl⟩,⟨rfl,iI.rfl⟩,oO⟩ ⟨⟨rfl,bO.rfl⟩,⟨rfl,bO.rfl⟩,⟨rfl,(bO.own sM rfl).then (aM.d (aJ.of_eq (by rw[hsD];unfold UR;rw[zR])))⟩,oO⟩⟩
 generalize jT fs m=L at hLl n9
 refine sX aA ?_
 refine aB (aMP) ?_
 refine sX aA ?_
 refine AW.seq (sX aA ?_)
 refine AW.block ?_
 refine AW.cZ (fun k:Nat=>⟨[(5,.s (.ptr 5 0)),(9,.s (.ptr 9 0)),(11,.s (.mo (iC p L k).1.isEmpty 100)),(49,jF L),(50,vI L.length),(51,vI k)],[(5,some (.cells (iE ty88.zero))),(9,some (.cells (B1 (iC p L k).2))),(100,some (.bW 40 (iC p L k).1.length 13 (pV (iC p L k).1)))]⟩) (fun k=>k≤L.length) (fun k=>L.length - k) 0 (Nat.zero_le _) ?_ ?_
 ·exact aP.b7 aA [(100,1000)] rfl ⟨bQ,bQ,⟨rfl,rfl⟩,oO⟩ ⟨qZ,qZ,⟨rfl,aM.nil rfl⟩,qZ,qZ,qZ,oO⟩
 ·intro k hk
  have hlen:=AT p L k
  have hg:=n9 k
  refine sX aA ?_
  refine AW.seq (AW.cond ?_)
  refine aI (fun h=>AW.skip ?_) (fun h=>AW.exit ?_)
  ·have h:(k:Int)<L.length:=cB h
   refine AW.seq (AW.block ?_)
   refine sX aA ?_
   refine oi ⟨oM,oM⟩ ?_
   generalize hF:L.getD k default=f
   have hP:=Place (iC p L k).2 (xW f) f.cQ hg
   have jE:iC p L (k+1)=bif nW (iC p L k).2 (xW f) f.cQ==0 then((iC p L k).1++ [f],N7 (iC p L k).2 (xW f) f.cQ)else iC p L k:=by rw[iC,hF]
   refine AW.fU (σ':=⟨[(5,.s (.ptr 5 0)),(9,.s (.ptr 9 0)),(11,.s (.mo (iC p L k).1.isEmpty 100)),(49,jF L),(50,vI L.length),(51,vI k),(13,.s (.ptr 13 0))],[(5,some (.cells (iE ty88.zero))),(9,some (.cells (B1 (iC p L k).2))),(100,some (.bW 40 (iC p L k).1.length 13 (pV (iC p L k).1))),(13,some (.cells (tG f)))]⟩) (aP.b7 aA [] rfl ⟨bQ,bQ,bQ,⟨rfl,aQ.of_eq (by rw[←hF];rfl)⟩,oO⟩ ⟨qZ,qZ,qZ,qZ,qZ,qZ,qZ,oO⟩) ?_
   generalize hau:iC p L k=RU at hP jE hlen hg
   obtain⟨o,y⟩:=RU
   simp only at hP jE hlen hg
   cases he:(nW y (xW f) f.cQ==0)with
   |true=>
    have he0:nW y (xW f) f.cQ=0:=by simpa using he
    have eC:F2 y (xW f) f.cQ=B1 (N7 y (xW f) f.cQ):=by unfold F2;rw[he0];rfl
    rw[he]at jE
    have jE:iC p L (k+1)=(o++ [f],N7 y (xW f) f.cQ):=jE
    rw[eC,he0]at hP
    refine sX aA ?_
    refine aB (hP) ?_
    refine sX aA ?_
    refine AW.cond ?_
    refine aI (fun _=>?_) (fun h2=>by cases h2)
    refine sX aA ?_
    refine eX aA ?_
    refine ob dC ?_
    refine ob (by rw[dW];show(o.length+1)*144≤_;omega) ?_
    refine ob (mT fun c hc=>by match c,hc with|0,_|1,_|2,_|3,_|4,_|5,_|6,_|7,_|8,_|9,_|10,_|11,_|12,_=>rfl) ?_
    refine eX aA ?_
    refine⟨k+1,oM,oM,?_⟩
    rw[jE]
    refine aP.b7 aA [(100,79)] rfl ⟨bQ,bQ,⟨rfl,?_⟩,oO⟩ ⟨qZ,qZ,⟨rfl,aM.mo (b9 _ _)⟩,qZ,qZ,⟨rfl,aM.int (aG oM oM)⟩,oO⟩
    show aQ _ (.bW 40 (o++ [f]).length 13 (pV (o++ [f])))
    refine aQ.snoc (el:=R7) (x:=f) (fun c hc=>?_)
    have hc:c<13:=hc
    match c,hc with|0,_|1,_|2,_|3,_|4,_|5,_|6,_|7,_|8,_|9,_|10,_|11,_|12,_=>rfl
   |false=>
    have eC:F2 y (xW f) f.cQ=iE ty88.zero:=by
     unfold F2
     rw[show(nW y (xW f) f.cQ !=0)=true by simpa [bne]using he];rfl
    rw[he]at jE
    have jE:iC p L (k+1)=(o,y):=jE
    rw[eC]at hP
    refine sX aA ?_
    refine aB (hP) ?_
    refine sX aA ?_
    refine AW.cond ?_
    refine aI (fun h2=>?_) (fun _=>AW.skip ?_)
    ·have h2:(nW y (xW f) f.cQ==0)=true:=h2
     rw[he]at h2;cases h2
    refine eX aA ?_
    refine⟨k+1,oM,oM,?_⟩
    rw[jE]
    exact aP.b7 aA [] rfl ⟨bQ,bQ,bQ,oO⟩ ⟨qZ,qZ,qZ,qZ,qZ,⟨rfl,aM.int (aG oM oM)⟩,oO⟩
  ·have h:¬(k:Int)<L.length:=cD h
   obtain rfl:k=L.length:=oM
   refine eX aA ?_
   refine aD ?_
   exact aC.t ⟨aJ.xL (dW _) fun _ _ _ _=>aJ.refl _,⟨aJ.refl _,aJ.refl _,aJ.refl _,aJ.refl _,oO⟩,oO⟩
end Go.Pj
namespace Go.Pj
open Go Go.Ax Go.Ch Go.Proofs Go.Proofs.Tryz
def F7(l:List Piece):Nat→Int
 |0=>0
 |i+1=>aU (F7 l i+aU ((l.getD i default).jO - (l.getD i default).gO))
def duT(t:Int)(l:List Due):Nat→Int
 |0=>t
 |i+1=>aU (duT t l i+(l.getD i default).HZ)
def laT(t:Int)(l:List M3):Nat→Int
 |0=>t
 |i+1=>aU (laT t l i - (l.getD i default).HZ)
def aCI(p:Proj)(m:Int)(kV:List Piece)(D4:List Due)(H4:List M3)(dsp:List Int):Stmt:=
 ⟨m,(F7 kV kV.length),(qO (F7 kV kV.length) p.eU),(laT (duT (aU (0 - (qO (F7 kV kV.length) p.eU))) D4 D4.length) H4 H4.length),D4,H4,dsp⟩
theorem XW(p:Proj)(l:List Fact)(M:Nat)(kV:List Piece)(hp:p.fits)(hf:∀f∈l,f.fits)(hl:l.length≤9223372036854775807)(he:F9 p l M 1=0)(hS:SOK p (cntF l))(hM:M≤24)
  (hlp:kV.length≤1000000) (O8:aF prog 65 [QY p (cntF l),vI M,yS (xP p (cntF l) M)] (TB (LU p (cntF l) M (xP p (cntF l) M) p.fV.length))) (hP:aF prog 62 [QY p (cntF l),vI M,.s (.d (cP (cY p (cntF l) (M+1))))] (gX kV)):
  aF prog 21 [LH p,jF l,vI M] (.t [.g [.d (dI M),.d (dI (F7 kV kV.length)),.d (dI (aCI p M kV (fN p kV p.gr.bT.length) (LU p (cntF l) M (xP p (cntF l) M) p.fV.length) (nD p (cntF l) M p.aS.levels.length)).eU),.d (dI (aCI p M kV (fN p kV p.gr.bT.length) (LU p (cntF l) M (xP p (cntF l) M) p.fV.length) (nD p (cntF l) M p.aS.levels.length)).total),.d (wQ (fN p kV p.gr.bT.length)),.d (wP (LU p (cntF l) M (xP p (cntF l) M) p.fV.length)),.d (cG (nD p (cntF l) M p.aS.levels.length))],.s (.d (dI 0))]):=by
 obtain⟨hk,_⟩:=F8 he
 have hv:=PV.of hk.proj
 have hO:=aC6 p l M 1 hp hf hl he
 generalize cntF l=fs at hS hP hO O8
 have hfl:=hS.len
 have GZ:p.gr.bT.length≤1000000:=by
  have h:=hv.gr
  unfold gF sN at h
  obtain⟨h,_⟩:=dJ h
  obtain⟨_,h⟩:=cW dC h
  obtain⟨h,_⟩:=cW dC h
  simp only [decide_eq_false_iff_not]at h
  omega
 have EJ:((cY p fs (M+1)).getD (M:Int).toNat default)=xP p fs M:=mO oM
 have aNC:(xP p fs M).levels.length=p.aS.levels.length:=by
  show(o6 p fs M).length=_
  unfold o6;simp
 rw[←EJ]at O8
 have aMH:=KL p kV p.gr.bT.length
 have aMC:=Z4 p fs M (xP p fs M) p.fV.length
 have hsl:p.fV.length≤20:=by
  have h:=hv.fV
  unfold zV at h
  obtain⟨h,_⟩:=cW dC h
  simp only [decide_eq_false_iff_not]at h
  omega
 refine eW func21 rfl rfl call21 rfl rfl (fun cx aA=>?_)
 refine sX aA ?_
 refine sX aA ?_
 refine aB (hO) ?_
 refine AW.seq (sX aA ?_)
 refine AW.cond ?_
 refine aI (fun h=>by cases h) (fun _=>AW.skip ?_)
 refine sX aA ?_
 refine aB (lowest p fs M hS hM) ?_
 refine sX aA ?_
 refine aB (hP) ?_
 refine AW.seq (ex.sound (rc:=[63]) aK mix aA _ ?_)
 refine⟨[(9,700)],_,_,_,_,S1 p fs M hS,rfl,trivial,rfl,?_⟩
 refine sX aA ?_
 refine aB (W2 p fs kV GZ oM hp.eY) ?_
 refine oi (show(0:Int)≤(M:Int)∧(M:Int)<((cY p fs (M+1)).length:Int) by rw[mN];omega) ?_
 refine aB (O8) ?_
 refine aD ?_
 rw[EJ]
 generalize fN p kV p.gr.bT.length=D4 at aMH
 generalize LU p fs M (xP p fs M) p.fV.length=H4 at aMC
 generalize nD p fs M p.aS.levels.length=dsp
 refine AW.fU (σ':=⟨[(3,.s (.ptr 3 0)),(6,.s (.ptr 6 0)),(11,gX kV),(14,.s (.ptr 14 0))],[(3,some (.cells (F0 p))),(6,some (.cells (iE ty73.zero))),(14,some (.cells [.d (dI M),.d (dI 0),.d (dI 0),.d (dI 0),.d (wQ D4),.d (wP H4),.d (cG dsp)]))]⟩) (aP.b7 aA [] rfl ⟨bQ,bQ,bQ,oO⟩ ⟨qZ,qZ,qZ,qZ,oO⟩) ?_
 refine AW.cut (σ':=⟨[(3,.s (.ptr 3 0)),(6,.s (.ptr 6 0)),(11,gX kV),(14,.s (.ptr 14 0))],[(3,some (.cells (F0 p))),(6,some (.cells (iE ty73.zero))),(14,some (.cells [.d (dI M),.d (dI (F7 kV kV.length)),.d (dI 0),.d (dI 0),.d (wQ D4),.d (wP H4),.d (cG dsp)]))]⟩) ?_ ?_
 ·refine sX aA ?_
  refine AW.block ?_
  refine AW.cZ (fun i:Nat=>⟨[(3,.s (.ptr 3 0)),(6,.s (.ptr 6 0)),(11,gX kV),(14,.s (.ptr 14 0)),(58,gX kV),(59,vI kV.length),(60,vI i)],[(3,some (.cells (F0 p))),(6,some (.cells (iE ty73.zero))),(14,some (.cells [.d (dI M),.d (dI (F7 kV i)),.d (dI 0),.d (dI 0),.d (wQ D4),.d (wP H4),.d (cG dsp)]))]⟩) (fun i=>i≤kV.length) (fun i=>kV.length - i) 0 (Nat.zero_le _) ?_ ?_
  ·exact aP.b7 aA [] rfl ⟨bQ,bQ,bQ,oO⟩ ⟨qZ,qZ,qZ,qZ,qZ,qZ,qZ,oO⟩
  ·intro i hi
   refine sX aA ?_
   refine AW.seq (AW.cond ?_)
   refine aI (fun h=>AW.skip ?_) (fun h=>AW.exit ?_)
   ·have h:(i:Int)<kV.length:=cB h
    refine AW.seq (AW.block ?_)
    refine sX aA ?_
    refine oi ⟨oM,oM⟩ ?_
    refine eX aA ?_
    refine eX aA ?_
    refine⟨i+1,oM,oM,?_⟩
    exact aP.b7 aA [] rfl ⟨bQ,bQ,bQ,oO⟩ ⟨qZ,qZ,qZ,qZ,qZ,qZ,⟨rfl,aM.int (aG oM oM)⟩,oO⟩
   ·have h:¬(i:Int)<kV.length:=cD h
    obtain rfl:i=kV.length:=oM
    exact⟨rfl,aP.b7 aA [] rfl ⟨bQ,bQ,bQ,oO⟩ ⟨qZ,qZ,qZ,qZ,oO⟩⟩
 refine sX aA ?_
 refine aB (BI (F7 kV kV.length) p.eU) ?_
 refine sX aA ?_
 refine AW.fU (σ':=⟨[(3,.s (.ptr 3 0)),(6,.s (.ptr 6 0)),(11,gX kV),(14,.s (.ptr 14 0))],[(3,some (.cells (F0 p))),(6,some (.cells (iE ty73.zero))),(14,some (.cells [.d (dI M),.d (dI (F7 kV kV.length)),.d (dI (qO (F7 kV kV.length) p.eU)),.d (dI (aU (0 - (qO (F7 kV kV.length) p.eU)))),.d (wQ D4),.d (wP H4),.d (cG dsp)]))]⟩) (aP.b7 aA [] rfl ⟨bQ,bQ,bQ,oO⟩ ⟨qZ,qZ,qZ,qZ,oO⟩) ?_
 refine AW.cut (σ':=⟨[(3,.s (.ptr 3 0)),(6,.s (.ptr 6 0)),(11,gX kV),(14,.s (.ptr 14 0))],[(3,some (.cells (F0 p))),(6,some (.cells (iE ty73.zero))),(14,some (.cells [.d (dI M),.d (dI (F7 kV kV.length)),.d (dI (qO (F7 kV kV.length) p.eU)),.d (dI (duT (aU (0 - (qO (F7 kV kV.length) p.eU))) D4 D4.length)),.d (wQ D4),.d (wP H4),.d (cG dsp)]))]⟩) ?_ ?_
 ·refine sX aA ?_
  refine AW.block ?_
  refine AW.cZ (fun i:Nat=>⟨[(3,.s (.ptr 3 0)),(6,.s (.ptr 6 0)),(11,gX kV),(14,.s (.ptr 14 0)),(85,aEK D4),(86,vI D4.length),(87,vI i)],[(3,some (.cells (F0 p))),(6,some (.cells (iE ty73.zero))),(14,some (.cells [.d (dI M),.d (dI (F7 kV kV.length)),.d (dI (qO (F7 kV kV.length) p.eU)),.d (dI (duT (aU (0 - (qO (F7 kV kV.length) p.eU))) D4 i)),.d (wQ D4),.d (wP H4),.d (cG dsp)]))]⟩) (fun i=>i≤D4.length) (fun i=>D4.length - i) 0 (Nat.zero_le _) ?_ ?_
  ·exact aP.b7 aA [] rfl ⟨bQ,bQ,bQ,oO⟩ ⟨qZ,qZ,qZ,qZ,qZ,qZ,qZ,oO⟩
  ·intro i hi
   refine sX aA ?_
   refine AW.seq (AW.cond ?_)
   refine aI (fun h=>AW.skip ?_) (fun h=>AW.exit ?_)
   ·have h:(i:Int)<D4.length:=cB h
    refine AW.seq (AW.block ?_)
    refine sX aA ?_
    refine oi ⟨oM,oM⟩ ?_
    refine eX aA ?_
    refine eX aA ?_
    refine⟨i+1,oM,oM,?_⟩
    exact aP.b7 aA [] rfl ⟨bQ,bQ,bQ,oO⟩ ⟨qZ,qZ,qZ,qZ,qZ,qZ,⟨rfl,aM.int (aG oM oM)⟩,oO⟩
   ·have h:¬(i:Int)<D4.length:=cD h
    obtain rfl:i=D4.length:=oM
    exact⟨rfl,aP.b7 aA [] rfl ⟨bQ,bQ,bQ,oO⟩ ⟨qZ,qZ,qZ,qZ,oO⟩⟩
 refine AW.cut (σ':=⟨[(3,.s (.ptr 3 0)),(6,.s (.ptr 6 0)),(11,gX kV),(14,.s (.ptr 14 0))],[(3,some (.cells (F0 p))),(6,some (.cells (iE ty73.zero))),(14,some (.cells [.d (dI M),.d (dI (F7 kV kV.length)),.d (dI (qO (F7 kV kV.length) p.eU)),.d (dI (laT (duT (aU (0 - (qO (F7 kV kV.length) p.eU))) D4 D4.length) H4 H4.length)),.d (wQ D4),.d (wP H4),.d (cG dsp)]))]⟩) ?_ ?_
 ·refine sX aA ?_
  refine AW.block ?_
  refine AW.cZ (fun i:Nat=>⟨[(3,.s (.ptr 3 0)),(6,.s (.ptr 6 0)),(11,gX kV),(14,.s (.ptr 14 0)),(99,TB H4),(100,vI H4.length),(101,vI i)],[(3,some (.cells (F0 p))),(6,some (.cells (iE ty73.zero))),(14,some (.cells [.d (dI M),.d (dI (F7 kV kV.length)),.d (dI (qO (F7 kV kV.length) p.eU)),.d (dI (laT (duT (aU (0 - (qO (F7 kV kV.length) p.eU))) D4 D4.length) H4 i)),.d (wQ D4),.d (wP H4),.d (cG dsp)]))]⟩) (fun i=>i≤H4.length) (fun i=>H4.length - i) 0 (Nat.zero_le _) ?_ ?_
  ·exact aP.b7 aA [] rfl ⟨bQ,bQ,bQ,oO⟩ ⟨qZ,qZ,qZ,qZ,qZ,qZ,qZ,oO⟩
  ·intro i hi
   refine sX aA ?_
   refine AW.seq (AW.cond ?_)
   refine aI (fun h=>AW.skip ?_) (fun h=>AW.exit ?_)
   ·have h:(i:Int)<H4.length:=cB h
    refine AW.seq (AW.block ?_)
    refine sX aA ?_
    refine oi ⟨oM,oM⟩ ?_
    refine eX aA ?_
    refine eX aA ?_
    refine⟨i+1,oM,oM,?_⟩
    exact aP.b7 aA [] rfl ⟨bQ,bQ,bQ,oO⟩ ⟨qZ,qZ,qZ,qZ,qZ,qZ,⟨rfl,aM.int (aG oM oM)⟩,oO⟩
   ·have h:¬(i:Int)<H4.length:=cD h
    obtain rfl:i=H4.length:=oM
    exact⟨rfl,aP.b7 aA [] rfl ⟨bQ,bQ,bQ,oO⟩ ⟨qZ,qZ,qZ,qZ,oO⟩⟩
 refine eX aA ?_
 exact aC.refl _
theorem aB4{E:List gM}{k t:bG}{e:gM}(he:e∈oR E k t):(∃e'∈E,e.1=e'.1∧∀x∈e.2.1,x∈e'.2.1∨(x=t∧e.1=k))∨(e.1=k∧∀x∈e.2.1,x=t):=by
 unfold oR at he
 split at he
 ·rename_i i p hp
  obtain⟨_,hg,hk⟩:=yX hp
  obtain⟨j,hj⟩:=List.getElem?_of_mem he
  rw[List.getElem?_modify]at hj
  cases hE:E[j]? with
  |none=>rw[hE]at hj;cases hj
  |some y=>
   rw[hE]at hj
   have hj:(if i=j then(y.1,y.2.1++ [t],y.2.2)else y)=e:=by simpa using hj
   left
   refine⟨y,List.mem_of_getElem? hE,?_⟩
   by_cases YA:i=j
   ·rw[if_pos YA]at hj
    subst hj
    refine⟨rfl,fun x hx=>?_⟩
    rcases List.mem_append.1 hx with hx|hx
    ·exact .inl hx
    ·refine .inr ⟨List.mem_singleton.1 hx,?_⟩
     simp only [Nat.sub_zero]at hg
     rw[YA,hE]at hg
     obtain rfl:=Option.some.inj hg
     exact hk
   ·rw[if_neg YA]at hj
    subst hj
    exact⟨rfl,fun x hx=>.inl hx⟩
 ·rcases List.mem_append.1 he with he|he
  ·exact .inl ⟨e,he,rfl,fun x hx=>.inl hx⟩
  ·rw[List.mem_singleton.1 he]
   exact .inr ⟨rfl,fun x hx=>List.mem_singleton.1 hx⟩
theorem xE{l:List Fact}:∀{i:Nat} {e:gM},e∈gP l i→∀t∈e.2.1,∃g∈l,t=eI g∧dR g=e.1
 |0,e,he,_,_=>by simp[gP]at he
 |i+1,e,he,t,ht=>by
  by_cases h:i<l.length
  ·rw[r8 h]at he
   unfold C8 at he
   have hm:l.getD i default∈l:=dZ h
   cases hw:OV (l.getD i default)with
   |true=>
    rw[hw]at he
    exact xE (i:=i) he t ht
   |false=>
    rw[hw]at he
    rcases aB4 he with⟨e',IP,hk,hx⟩|⟨hk,hx⟩
    ·rcases hx t ht with h1|⟨h1,h2⟩
     ·obtain⟨g,g1,g2,g3⟩:=xE (i:=i) IP t h1
      exact⟨g,g1,g2,g3.trans hk.symm⟩
     ·exact⟨_,hm,h1,h2.symm⟩
    ·exact⟨_,hm,hx t ht,hk.symm⟩
  ·have e1:gP l (i+1)=gP l i:=by
    unfold gP
    rw[List.take_of_length_le oM,List.take_of_length_le oM]
   rw[e1]at he
   exact xE (i:=i) he t ht
theorem aD0{l:List bG}{t:bG}(h:t∈uY l):t∈l:=by
 unfold uY y5 at h
 obtain⟨i,hi,hx⟩:=List.mem_filterMap.1 h
 have hi:=List.mem_range.1 hi
 cases hq:qd l i with
 |true=>
  rw[hq]at hx
  have hx:l.getD i []=t:=Option.some.inj hx
  rw[←hx,bA hi]
  exact List.getElem_mem hi
 |false=>rw[hq]at hx;cases hx
theorem VX{G:List (ByteArray×Int)}{k:bG}{ts:List bG}{t:bG}(h:t∈tV G k ts):t∈ts:=by
 unfold tV at h
 have h1:=(List.mergeSort_perm _ _).mem_iff.1 (aD0 h)
 unfold gE dH at h1
 exact(List.mem_filter.1 h1).1
theorem US{l:List Fact}(hv:∀f∈l,fA f=0){f:Fact}(h:f∈cntF l):∃k∈qC l,f=tT (GK (sL l) k)∧∃g∈l,f=bH g∧dR g=k:=by
 unfold cntF at h
 obtain⟨k,hk,rfl⟩:=List.mem_map.1 h
 refine⟨k,hk,rfl,?_⟩
 obtain⟨j,e,x4,he⟩:=JA hk
 obtain⟨hl1,_⟩:=NN he
 obtain⟨e',IP,x0,_,hp,_⟩:=FM he
 have tZ:GK (sL l) k=e.2.1.getD (e.2.1.length - 1) []:=by unfold GK;rw[x4]
 have j0:GK (sL l) k∈e.2.1:=by
  rw[tZ,bA oM]
  exact List.getElem_mem _
 rw[hp]at j0
 obtain⟨g,hg,ht,rU⟩:=xE IP _ (VX j0)
 refine⟨g,hg,?_,?_⟩
 ·rw[ht]
  exact XG (hv g hg)
 ·rw[rU,←x0]
  exact(yX x4).2.2
theorem P5{p:Proj}{l:List Fact}(hk:FOK p l):SOK p (cntF l):=by
 have hv:=PV.of hk.proj
 have gv:=hv.gv
 have h1:=gv.len
 have hc:=gv.dP
 have hr:=gv.rows
 have wG:0<p.aS.dP*p.aS.rows:=Int.mul_pos oM oM
 have uA:(cntF l).length≤l.length:=by unfold cntF;rw[List.length_map];exact NM l
 have hlen:=hk.len
 refine⟨oM,⟨oM,hv.cells⟩,fun f hf h0=>?_⟩
 obtain⟨_,_,_,g,hg,rfl,_⟩:=US hk.fmt hf
 have h0:g.kind=0:=h0
 have hs:=hk.shape g hg
 unfold yE at hs
 rw[h0]at hs
 have hs:((g.levels.length:Int) !=p.aS.levels.length)=false:=hs
 have hs:(g.levels.length:Int)=p.aS.levels.length:=by simpa using hs
 show(bif g.kind==0 then g.levels else []).length=_
 rw[h0]
 show g.levels.length=_
 omega
end Go.Pj
--K54
namespace Go.Ax
theorem nE.dead{P:Program}{cx:Cx}{N:Nat}{o:Oper}{σ:St}{H H1:Hid}{s:St}(b:Nat)(h:nE P cx N o σ H fun s' H'=>s'=s∧H'=H1):nE P cx N o σ H fun s' H'=>s'=⟨s.env,(b,none)::s.box⟩∧H'=H1:=by
 refine⟨h.1,fun M β a w i hi Q=>Oper.wp_mono ?_ (h.2 M β a w i hi Q)⟩
 rintro a' w' ⟨σ',M',β',H',⟨rfl,rfl⟩,i',bN,g,kp⟩
 refine⟨_,M',β',H',⟨rfl,rfl⟩,i'.dead b,⟨bN.holds,bN.low,bN.apart,fun x bc bb c e1 e2=>?_⟩,g,kp⟩
 have e1:aH ((b,none)::σ'.box) x=some (some bc):=e1
 rw[aL]at e1
 by_cases hx:b=x
 ·rw[if_pos hx]at e1;cases e1
 ·rw[if_neg hx]at e1;exact bN.names x bc bb c e1 e2
end Go.Ax
namespace Go.Pj.Rm
open Go Go.Pj Go.Ax Go.Ch Go.Proofs Go.Proofs.Tryz
set_option maxRecDepth 100000
set_option maxHeartbeats 1000000
def kS(f:Fact):bG:=f.aN.data.toList
def I8(m:Int)(E:List gM)(f:Fact):List gM:=bif f.month==m then oR E (kS f) (f,f.aS)else E
def j8(L:List Fact)(m:Int)(i:Nat):List gM:=(L.take i).foldl (I8 m) []
theorem CT{L:List Fact}{m:Int}{i:Nat}(h:i<L.length):j8 L m (i+1)=I8 m (j8 L m i) (L.getD i default):=by
 unfold j8
 rw[List.take_add_one,List.getElem?_eq_getElem h,bA h,List.foldl_append];rfl
theorem zD{E:List gM}{k:bG}{t:Room}{m:Nat}(h:∀e∈E,e.2.1.length≤m):∀e∈oR E k t,e.2.1.length≤m+1:=by
 intro e he
 unfold oR at he
 split at he
 ·rename_i i p hp
  obtain⟨j,hj⟩:=List.getElem?_of_mem he
  rw[List.getElem?_modify]at hj
  cases hE:E[j]? with
  |none=>rw[hE]at hj;cases hj
  |some y=>
   rw[hE]at hj
   have hy:=h y (List.mem_of_getElem? hE)
   have hj:(if i=j then(y.1,y.2.1++ [t],y.2.2)else y)=e:=by simpa using hj
   split at hj
   ·subst hj;simp;omega
   ·subst hj;omega
 ·rcases List.mem_append.1 he with he|he
  ·have:=h e he;omega
  ·rw[List.mem_singleton.1 he];simp
theorem pW{L:List Fact}{m:Int}:∀{i:Nat} {e:gM},e∈j8 L m i→e.2.1.length≤i
 |0,e,he=>by simp[j8]at he
 |i+1,e,he=>by
  by_cases h:i<L.length
  ·rw[CT h]at he
   unfold I8 at he
   cases hw:((L.getD i default).month==m)with
   |false=>
    rw[hw]at he
    have:=pW (i:=i) he
    omega
   |true=>
    rw[hw]at he
    exact zD (fun e he=>pW (i:=i) he) e he
  ·have e1:j8 L m (i+1)=j8 L m i:=by
    unfold j8
    rw[List.take_of_length_le oM,List.take_of_length_le oM]
   rw[e1]at he
   have:=pW (i:=i) he
   omega
theorem TH(f:Fact):∀c,c<14→aJ (VN 14 [.d (dI f.kind),.d (dI f.seq),.d (dI f.aX),.d (dI f.month),.d (dI f.number),.d (dI f.aS),.d (dI f.over),.d (dI f.cls),.d (dI f.target),.d (dS f.aN),.d (dS f.cQ),.d (dS f.cE),.d (cG f.levels),.d (dI f.aS)] 0 c) (rmD (f,f.aS) c)
 |0,_|1,_|2,_|3,_|4,_|5,_|6,_|7,_|8,_|9,_|10,_|11,_|12,_|13,_=>aJ.refl _
abbrev OF:Oper:={dst:=some 33,op:=Op.lookup 200 (Operand.tmp 30) (Operand.tmp 32) false,type:=211,pos:= "settle.go:174",after:= #[{on:=3,ground:=Ground.data},{on:=5,ground:=Ground.data}],guard:=none}
def J1(L:List Fact)(m:Int)(s:Nat×HM):Prop:=s.1≤L.length∧dX s.2.l (j8 L m s.1)∧s.2.clock=(j8 L m s.1).length∧s.2.it=none
def rmK(L:List Fact)(m:Int)(x:DV)(H:Hid):Prop:=∃h:HM,x=.val (.map (some h.bm))∧H=hid 259 14 h∧dX h.l (j8 L m L.length)∧h.clock=(j8 L m L.length).length∧h.it=none
theorem aIK(p:Proj)(fs:List Fact)(m:Int)(hp:p.fits)(hv:PV p)(hl:fs.length≤200)(hn:XV fs m):
  aCD prog 119 [QY p fs,vI m] (rmK (iC p (jT fs m) (jT fs m).length).1 m):=by
 have hH:=aGW p fs m hp hv hl hn
 have hLl:(iC p (jT fs m) (jT fs m).length).1.length≤200:=by
  refine Nat.le_trans (AT p _ _) ?_
  unfold jT
  rw[zR]
  exact Nat.le_trans (List.length_filter_le _ _) hl
 generalize (iC p (jT fs m) (jT fs m).length).1=L at hH hLl
 refine MT func119 rfl rfl call119 aK rfl rfl (fun cx aA=>?_)
 refine sA aA [] fun _ h'=>?_
 refine bI.seq (bI.region (bD.op rfl (nE.mk (e:=259) (s:=14) rfl rfl dC fun bm=>bD.some (rc:=[]) aK 1 aA [2] rfl rfl (bD.nil ?_))))
 refine sA aA [2] fun _ h'=>?_
 refine aB (hH) ?_
 refine bI.sub (σ':=⟨[(1,vI m),(5,dG bm),(6,jF L)],[]⟩) (HSub.of (eS.of [] (by rw[aA];rfl) rfl trivial ⟨qZ,qZ,qZ,oO⟩)) ?_
 refine bI.seq (sA aA [] fun _ h'=>?_)
 refine bI.block ?_
 refine bI.loop (S:=Nat×HM) (fun s=>⟨[(1,vI m),(5,dG s.2.bm),(17,jF L),(18,vI L.length),(19,vI s.1)],[]⟩) (fun s=>hid 259 14 s.2) (J1 L m) (fun s=>L.length - s.1) (0,⟨bm,[],0,none⟩) ⟨Nat.zero_le _,trivial,rfl,rfl⟩ ?_ ?_
 ·exact HSub.of (eS.of [] (by rw[aA];rfl) rfl trivial ⟨qZ,qZ,qZ,qZ,qZ,oO⟩)
 ·rintro⟨i,h⟩ ⟨hi,ha,jC,hit⟩
  have hi:i≤L.length:=hi
  have ha:dX h.l (j8 L m i):=ha
  have jC:h.clock=(j8 L m i).length:=jC
  have hit:h.it=none:=hit
  refine sA aA [] fun _ h'=>?_
  refine bI.seq (bI.cond ?_)
  refine aI (fun g=>bI.skip ?_) (fun g=>bI.exit ?_)
  ·have g:(i:Int)<L.length:=cB g
   have bN:i<L.length:=oM
   have hE:=CT (m:=m) bN
   have ew:aU ((i:Int)+1)=((i+1:Nat):Int):=aG oM oM
   generalize hF:L.getD i default=f at hE
   refine bI.seq (bI.block ?_)
   refine sA aA [] fun _ h'=>?_
   refine oi ⟨oM,oM⟩ ?_
   refine bI.sub (σ':=⟨[(1,vI m),(5,dG h.bm),(9,.s (.ptr 9 0)),(17,jF L),(18,vI L.length),(19,vI i)],[(9,some (.cells (tG f)))]⟩) (HSub.of (eS.of [] (by rw[aA];rfl) rfl ⟨⟨rfl,aQ.of_eq (by rw[←hF];rfl)⟩,oO⟩ ⟨qZ,qZ,qZ,qZ,qZ,qZ,oO⟩)) ?_
   refine sA aA [9] fun _ h'=>?_
   refine bI.cond ?_
   refine aI (fun g2=>?_) (fun g2=>bI.skip ?_)
   ·have g2:(f.month==m)=true:=g2
    have R2:j8 L m (i+1)=oR (j8 L m i) (kS f) (f,f.aS):=by rw[hE];unfold I8;rw[g2];rfl
    have GZ:bs (kS f)=f.aN:=rfl
    have aAK:JK ⟨[(1,vI m),(5,dG h.bm),(9,.s (.ptr 9 0)),(17,jF L),(18,vI L.length),(19,vI i)],[(9,some (.cells (tG f)))]⟩:=by
     intro x b hb
     have hb:aH [(9,some (jM.cells (tG f)))] x=some (some b):=hb
     rw[aL]at hb
     by_cases hx:9=x
     ·rw[if_pos hx]at hb
      cases hb;rfl
     ·rw[if_neg hx]at hb;cases hb
    refine bI.sub (σ':=⟨[(1,vI m),(5,dG h.bm),(9,.s (.ptr 9 0)),(17,jF L),(18,vI L.length),(19,vI i)],[(9,some (.cells (tG f)))]⟩) (HSub.of (eS.of [] (by rw[aA];rfl) rfl ⟨bQ,oO⟩ ⟨qZ,qZ,qZ,qZ,qZ,qZ,oO⟩)) ?_
    cases x4:fE (j8 L m i) (kS f) 0 with
    |none=>
     have tA:=rX ha x4
     refine bI.UJ (m:=6) (om:=OF) (em:=(some (.s (.d dK)),[(33,none)])) (fm:=([],[33])) (C:=fun σ=>eZ σ.env 30=dG h.bm∧eZ σ.env 32=.s (.d (.val (.string (bs (kS f)))))∧aH σ.box 33=none) (H1:=hid 259 14 h) ⟨rfl,(fun p hp b hb=>(by obtain rfl:=List.mem_singleton.1 hp;cases hb)),(fun σ σ' hc ht hw=>⟨(ht 30 dC).trans hc.1,(ht 32 dC).trans hc.2.1,(hw 33 dC).trans hc.2.2⟩)⟩ aK aA mix aAK 13 rfl rfl dC rfl rfl (fun σ hc=>?_) ?_
     ·have hlk:=nE.look (P:=prog) (cx:=cx) (N:=f119.ntmps) (e:=259) (s:=14) (d:=33) (t:=200) (kt:=9) (et:=211) (h:=h) (σ:=σ) (K:=fun s H'=>s=⟨(33,.s (.d dK))::σ.env,σ.box⟩∧H'=hid 259 14 h) (o:=OF) (x:=.tmp 30) (y:=.tmp 32) (k:=bs (kS f)) rfl rfl dC hc.2.2 hc.1 hc.2.1 underlying200 underlying9 zeroValue211 (by rw[tA];exact⟨rfl,rfl⟩)
      exact hlk.dead 33
     ·refine And.intro rfl ?_
      refine And.intro rfl ?_
      refine And.intro rfl ?_
      refine And.intro rfl ?_
      refine And.intro rfl ?_
      refine And.intro rfl ?_
      refine⟨rfl,⟨rfl,rfl,rfl⟩,?_⟩
      refine And.intro rfl ?_
      refine And.intro rfl ?_
      refine And.intro rfl ?_
      refine And.intro rfl ?_
      refine And.intro rfl ?_
      refine ob dC ?_
      refine ob dC ?_
      refine And.intro rfl ?_
      refine aD ?_
      refine nE.YK (b:=39) (k:=bs (kS f)) (n:=1) (n':=1) (lo:=0) aA rfl rfl rfl rfl (.inl ⟨rfl,rfl,rfl⟩) rfl dC underlying200 underlying9 (fun _=>hit) (fun g cap v=>?_)
      generalize oN:(⟨g,0+1,cap,0,_⟩:l0)=row
      have oP:uF row [(f,f.aS)]:=by
       subst oN
       refine⟨rfl,rfl,fun a c ha hc=>?_⟩
       obtain rfl:a=0:=by have:a<1:=ha;omega
       exact TH f c hc
      obtain⟨s1,s2,s3,s4⟩:=K8 (v:=v) ha jC tA oP sM
      have G5:oR (j8 L m i) (kS f) (f,f.aS)=j8 L m i++ [(kS f,[(f,f.aS)],(j8 L m i).length)]:=by unfold oR;rw[x4]
      refine bI.sub (σ':=⟨[(1,vI m),(5,dG h.bm),(17,jF L),(18,vI L.length),(19,vI i)],[]⟩) (HSub.of (eS.of [] (by rw[aA];rfl) rfl trivial ⟨qZ,qZ,qZ,qZ,qZ,oO⟩)) ?_
      refine eA aA [] fun _ h'=>?_
      refine⟨(i+1,eH h (bs (kS f)) v (some row)),⟨by show i+1≤L.length;omega,by rw[R2,G5];exact s1,by rw[R2,G5,List.length_append];exact s3,s4.trans hit⟩,by show L.length - (i+1)<L.length - i;omega,?_⟩
      exact HSub.of (eS.of [] (by rw[aA];rfl) rfl trivial ⟨qZ,⟨rfl,aM.of_eq (by show dG h.bm=dG (eH h (bs (kS f)) v (some row)).bm;rw[s2])⟩,qZ,qZ,⟨rfl,aM.int ew⟩,oO⟩)
    |some pr=>
     obtain⟨j,e⟩:=pr
     obtain⟨q,tA,hq⟩:=pD ha x4
     have tA:cT h.l (bs (kS f)) 0=some (j,q):=tA
     obtain⟨_,EL,hek⟩:=yX x4
     have EL:(j8 L m i)[j]? =some e:=EL
     obtain⟨r,WI,oP⟩:=hq.row
     have hsm:=pW (L:=L) (m:=m) (i:=i) (List.mem_of_getElem? EL)
     obtain⟨g0,n0,aKT,BY,F⟩:=r
     obtain rfl:BY=0:=oP.lo
     obtain rfl:n0=e.2.1.length:=oP.n
     have hFF:∀a c,a<e.2.1.length→c<14→aJ (F a c) (jU e.2.1 a c):=oP.f
     refine bI.UJ (m:=6) (om:=OF) (em:=(some (.s (.own 33)),[(33,some (.row 259 e.2.1.length 14 F))])) (fm:=([],[33])) (C:=fun σ=>eZ σ.env 30=dG h.bm∧eZ σ.env 32=.s (.d (.val (.string (bs (kS f)))))∧aH σ.box 33=none) (H1:=hid 259 14 {h with l:=cL h.l j}) ⟨rfl,(fun p hp b hb=>(by obtain rfl:=List.mem_singleton.1 hp;cases hb;rfl)),(fun σ σ' hc ht hw=>⟨(ht 30 dC).trans hc.1,(ht 32 dC).trans hc.2.1,(hw 33 dC).trans hc.2.2⟩)⟩ aK aA mix aAK 13 rfl rfl dC rfl rfl (fun σ hc=>?_) ?_
     ·exact nE.look (P:=prog) (cx:=cx) (N:=f119.ntmps) (e:=259) (s:=14) (d:=33) (t:=200) (kt:=9) (et:=211) (h:=h) (σ:=σ) (K:=fun s H'=>s=eL OF (some (.s (.own 33)),[(33,some (.row 259 e.2.1.length 14 F))]) σ∧H'=hid 259 14 {h with l:=cL h.l j}) (o:=OF) (x:=.tmp 30) (y:=.tmp 32) (k:=bs (kS f)) rfl rfl dC hc.2.2 hc.1 hc.2.1 underlying200 underlying9 zeroValue211 (by
       rw[tA]
       show match q.row with|some r=>_|none=>_
       rw[WI]
       exact⟨rfl,rfl⟩)
     ·refine And.intro rfl ?_
      refine And.intro rfl ?_
      refine And.intro rfl ?_
      refine And.intro rfl ?_
      refine And.intro rfl ?_
      refine And.intro rfl ?_
      refine⟨rfl,⟨rfl,rfl,rfl⟩,?_⟩
      refine And.intro rfl ?_
      refine And.intro rfl ?_
      refine And.intro rfl ?_
      refine And.intro rfl ?_
      refine And.intro rfl ?_
      refine ob (show(e.2.1.length+1)*152≤140737488355328 by omega) ?_
      refine ob (mT fun c hc=>by match c,hc with|0,_|1,_|2,_|3,_|4,_|5,_|6,_|7,_|8,_|9,_|10,_|11,_|12,_|13,_=>rfl) ?_
      refine And.intro rfl ?_
      refine aD ?_
      refine nE.YK (b:=39) (k:=bs (kS f)) (n:=e.2.1.length+1) (n':=e.2.1.length+1) (lo:=0) aA rfl rfl rfl rfl (.inl ⟨rfl,rfl,rfl⟩) rfl (Nat.succ_pos _) underlying200 underlying9 (fun _=>hit) (fun g2 QC v=>?_)
      generalize oN:(⟨g2,0+(e.2.1.length+1),QC,0,_⟩:l0)=row
      have O5:uF row (e.2.1++ [(f,f.aS)]):=by
       subst oN
       refine⟨rfl,sM,fun a c hA hc=>?_⟩
       by_cases hae:a<e.2.1.length
       ·rw[show jU (e.2.1++ [(f,f.aS)]) a c=jU e.2.1 a c by
         unfold jU
         simp only [List.getD_eq_getElem?_getD,List.getElem?_append_left hae]]
        show aJ (kM e.2.1.length F _ a c) _
        rw[UW hae]
        exact hFF a c hae hc
       ·obtain rfl:a=e.2.1.length:=by simp at hA;omega
        rw[show jU (e.2.1++ [(f,f.aS)]) e.2.1.length c=rmD (f,f.aS) c by
         unfold jU
         simp]
        show aJ (kM e.2.1.length F _ e.2.1.length c) _
        rw[UX]
        exact TH f c hc
      obtain⟨s1,s2,s3,s4⟩:=w5 (v:=v) ha tA O5 sM
      have G5:oR (j8 L m i) (kS f) (f,f.aS)=(j8 L m i).modify j fun e'=>(e'.1,e.2.1++ [(f,f.aS)],e'.2.2):=by
       unfold oR
       rw[x4]
       show(j8 L m i).modify j _=(j8 L m i).modify j _
       apply List.ext_getElem?
       intro a
       rw[List.getElem?_modify,List.getElem?_modify]
       by_cases hja:j=a
       ·subst hja
        rw[EL];rfl
       ·simp[hja]
      refine bI.sub (σ':=⟨[(1,vI m),(5,dG h.bm),(17,jF L),(18,vI L.length),(19,vI i)],[]⟩) (HSub.of (eS.of [] (by rw[aA];rfl) rfl trivial ⟨qZ,qZ,qZ,qZ,qZ,oO⟩)) ?_
      refine eA aA [] fun _ h'=>?_
      refine⟨(i+1,eH {h with l:=cL h.l j} (bs (kS f)) v (some row)),⟨by show i+1≤L.length;omega,by rw[R2,G5];exact s1,by rw[R2,G5,List.length_modify];exact s3.trans jC,s4.trans hit⟩,by show L.length - (i+1)<L.length - i;omega,?_⟩
      exact HSub.of (eS.of [] (by rw[aA];rfl) rfl trivial ⟨qZ,⟨rfl,aM.of_eq (by show dG h.bm=dG (eH {h with l:=cL h.l j} (bs (kS f)) v (some row)).bm;rw[s2])⟩,qZ,qZ,⟨rfl,aM.int ew⟩,oO⟩)
   ·have g2:(f.month==m)=false:=g2
    have R2:j8 L m (i+1)=j8 L m i:=by rw[hE];unfold I8;rw[g2];rfl
    refine eA aA [9] fun _ h'=>?_
    refine⟨(i+1,h),⟨by show i+1≤L.length;omega,by rw[R2];exact ha,by rw[R2];exact jC,hit⟩,by show L.length - (i+1)<L.length - i;omega,?_⟩
    exact HSub.of (eS.of [] (by rw[aA];rfl) rfl trivial ⟨qZ,qZ,qZ,qZ,⟨rfl,aM.int ew⟩,oO⟩)
  ·have g:¬(i:Int)<L.length:=cD g
   obtain rfl:i=L.length:=oM
   refine sA aA [] fun _ h'=>?_
   refine bI.ret ?_
   exact⟨_,rfl,h,rfl,rfl,ha,jC,hit⟩
end Go.Pj.Rm
namespace Go.Pj
open Go Go.Ax Go.Ch Go.Proofs Go.Proofs.Tryz
theorem UL(pt:Piece)(l:List Room)(n:Nat)(hn:l.length=n)(hn2:n≤1000)(hv:0≤pt.jO∧pt.jO≤1000000000000000)
  (hl:∀i,i<n→1≤(l.getD i default).2∧(l.getD i default).2≤1000000000000):
  bM prog 123 [aF5 pt,.s (.own 1001)] [(1001,.row 259 n 14 (jU l))]
   (.t [.s (.d (UQ (cA pt 0 l).out)),.s (.jQ 1001 14 (cA pt 0 l).lo (n - (cA pt 0 l).lo))]) [(1001,.row 259 n 14 (jU (cA pt 0 l).cur))]:=by
 generalize aAS:cA pt 0 l=fin
 refine gT func123 rfl rfl call123 aK rfl rfl rfl rfl (fun cx aA=>?_)
 refine AW.fU (aP.EY (e:=259) (n:=n) (s:=14) (f:=jU l) 1 1001 rfl rfl) ?_
 refine sX aA ?_
 refine sX aA ?_
 refine sX aA ?_
 refine aD ?_
 refine AW.seq ?_
 refine AW.block ?_
 refine AW.cZ (fun x:Nat×DS=>⟨[(1,.s (.jQ 1001 14 x.2.lo (n - x.2.lo))),(2,.s (.ptr 2 0)),(6,.s (.mo x.2.out.isEmpty 100)),(7,vI x.2.v),(8,vI x.2.p)],[(1001,some (.row 259 n 14 (jU x.2.cur))),(2,some (.cells [.d (dI pt.month),.d (dI pt.cell),.d (dS pt.aN),.d (dI pt.jO),.d (dI pt.gO),.d (dI pt.load),.d (dS pt.cQ)])),(100,some (.bW 130 x.2.out.length 7 (dY x.2.out)))]⟩) (DJ pt n fin) (fun x=>x.1) (n - 0+1,pH pt 0 l) ⟨by rw[←aAS];unfold cA;rw[hn],Nat.zero_le _,hn,hv,fun _=>by show n - 0<n - 0+1;omega,fun i _ h=>hl i h,by show 0+(n - 0+1)≤_;omega⟩ ?_ ?_
 ·exact aP.of [(100,1000)] (by rw[aA];rfl) rfl ⟨bQ,bQ,⟨rfl,rfl⟩,oO⟩ ⟨qZ,qZ,⟨rfl,aM.nil rfl⟩,qZ,qZ,oO⟩
 ·rintro⟨k,s⟩ hJ
  have aGO:=hJ.lo
  have hlen:=hJ.len
  have RX:=hJ.few
  have hvb:=hJ.v
  simp only at aGO hlen RX hvb
  refine AW.seq (sX aA ?_)
  refine AW.cond ?_
  refine aI (fun h1=>AW.skip ?_) (fun h1=>AW.exit ?_)
  ·have h1:s.v>0:=cB h1
   obtain⟨k',rfl,hJ2⟩:=hJ.step h1
   refine AW.block ?_
   refine sX aA ?_
   refine sX aA ?_
   refine AW.fU (σ':=⟨[(1,.s (.jQ 1001 14 s.lo (n - s.lo))),(2,.s (.ptr 2 0)),(6,.s (.mo s.out.isEmpty 100)),(7,vI s.v),(8,vI s.p),(9,.s (.ptr 9 0))],[(1001,some (.row 259 n 14 (jU s.cur))),(2,some (.cells [.d (dI pt.month),.d (dI pt.cell),.d (dS pt.aN),.d (dI pt.jO),.d (dI pt.gO),.d (dI pt.load),.d (dS pt.cQ)])),(100,some (.bW 130 s.out.length 7 (dY s.out))),(9,some (.cells [.d (dI pt.month),.d (dI pt.cell),.d (dS pt.aN),.d (dI s.v),.d (dI pt.gO),.d (dI pt.load),.d (dS pt.cQ)]))]⟩) (aP.of [] (by rw[aA];rfl) rfl ⟨bQ,bQ,bQ,bQ,oO⟩ ⟨qZ,qZ,qZ,qZ,qZ,qZ,oO⟩) ?_
   have aJX:(aT pt s).cur.length=n:=hJ2.len
   refine AW.cut (σ':=⟨[(1,.s (.jQ 1001 14 (aT pt s).lo (n - (aT pt s).lo))),(2,.s (.ptr 2 0)),(6,.s (.mo s.out.isEmpty 100)),(7,vI s.v),(8,vI s.p),(9,.s (.ptr 9 0))],[(1001,some (.row 259 n 14 (jU (aT pt s).cur))),(2,some (.cells [.d (dI pt.month),.d (dI pt.cell),.d (dS pt.aN),.d (dI pt.jO),.d (dI pt.gO),.d (dI pt.load),.d (dS pt.cQ)])),(100,some (.bW 130 s.out.length 7 (dY s.out))),(9,some (.cells [.d (dI pt.month),.d (dI pt.cell),.d (dS pt.aN),.d (dI (xD s)),.d (dI pt.gO),.d (dI (H5 pt s)),.d (dS (EX pt s))]))]⟩) ?_ ?_
   ·refine sX aA ?_
    refine AW.cond ?_
    refine aI (fun h2=>?_) (fun h2=>AW.skip ?_)
    ·have h2:((n - s.lo:Nat):Int)>0:=cB h2
     have fR:s.lo<n:=oM
     have xC:decide (s.lo<s.cur.length)=true:=decide_eq_true oM
     have WW:xD s=mm false s.v (s.cur.getD s.lo default).2:=by unfold xD;rw[xC];rfl
     have el:H5 pt s=(s.cur.getD s.lo default).1.number:=by unfold H5;rw[xC];rfl
     have ep:EX pt s=(s.cur.getD s.lo default).1.cQ:=by unfold EX;rw[xC];rfl
     refine sX aA ?_
     refine oi ⟨oM,oM⟩ ?_
     refine oi (show s.lo+(0:Int).toNat<n by omega) ?_
     refine AW.fU (σ':=⟨[(1,.s (.jQ 1001 14 s.lo (n - s.lo))),(2,.s (.ptr 2 0)),(6,.s (.mo s.out.isEmpty 100)),(7,vI s.v),(8,vI s.p),(9,.s (.ptr 9 0))],[(1001,some (.row 259 n 14 (jU s.cur))),(2,some (.cells [.d (dI pt.month),.d (dI pt.cell),.d (dS pt.aN),.d (dI pt.jO),.d (dI pt.gO),.d (dI pt.load),.d (dS pt.cQ)])),(100,some (.bW 130 s.out.length 7 (dY s.out))),(9,some (.cells [.d (dI pt.month),.d (dI pt.cell),.d (dS pt.aN),.d (dI (xD s)),.d (dI pt.gO),.d (dI pt.load),.d (dS pt.cQ)]))]⟩) (aP.of [] (by rw[aA];rfl) rfl ⟨bQ,bQ,bQ,⟨rfl,aQ.of_eq (by rw[WW];rfl)⟩,oO⟩ ⟨qZ,qZ,qZ,qZ,qZ,qZ,oO⟩) ?_
     refine sX aA ?_
     refine oi ⟨oM,oM⟩ ?_
     refine oi (show s.lo+(0:Int).toNat<n by omega) ?_
     refine oi ⟨oM,oM⟩ ?_
     refine oi (show s.lo+(0:Int).toNat<n by omega) ?_
     refine aD ?_
     refine AW.fU (σ':=⟨[(1,.s (.jQ 1001 14 s.lo (n - s.lo))),(2,.s (.ptr 2 0)),(6,.s (.mo s.out.isEmpty 100)),(7,vI s.v),(8,vI s.p),(9,.s (.ptr 9 0))],[(1001,some (.row 259 n 14 (jU s.cur))),(2,some (.cells [.d (dI pt.month),.d (dI pt.cell),.d (dS pt.aN),.d (dI pt.jO),.d (dI pt.gO),.d (dI pt.load),.d (dS pt.cQ)])),(100,some (.bW 130 s.out.length 7 (dY s.out))),(9,some (.cells [.d (dI pt.month),.d (dI pt.cell),.d (dS pt.aN),.d (dI (xD s)),.d (dI pt.gO),.d (dI (H5 pt s)),.d (dS (EX pt s))]))]⟩) (aP.of [] (by rw[aA];rfl) rfl ⟨bQ,bQ,bQ,⟨rfl,aQ.of_eq (by rw[el,ep];rfl)⟩,oO⟩ ⟨qZ,qZ,qZ,qZ,qZ,qZ,oO⟩) ?_
     have e2:(aT pt s).cur=s.cur.set s.lo ((s.cur.getD s.lo default).1,aU ((s.cur.getD s.lo default).2 - xD s)):=by rw[WW];unfold aT;rw[xC];rfl
     have e1:(aT pt s).lo=bif aU ((s.cur.getD s.lo default).2 - xD s)==0 then s.lo+1 else s.lo:=by rw[WW];unfold aT;rw[xC];rfl
     refine sX aA ?_
     refine oi ⟨oM,oM⟩ ?_
     refine oi (show s.lo+(0:Int).toNat<n by omega) ?_
     refine oi ⟨oM,oM⟩ ?_
     refine ob (show s.lo+(0:Int).toNat<n by omega) ?_
     refine aD ?_
     refine AW.fU (σ':=⟨[(1,.s (.jQ 1001 14 s.lo (n - s.lo))),(2,.s (.ptr 2 0)),(6,.s (.mo s.out.isEmpty 100)),(7,vI s.v),(8,vI s.p),(9,.s (.ptr 9 0))],[(1001,some (.row 259 n 14 (jU (aT pt s).cur))),(2,some (.cells [.d (dI pt.month),.d (dI pt.cell),.d (dS pt.aN),.d (dI pt.jO),.d (dI pt.gO),.d (dI pt.load),.d (dS pt.cQ)])),(100,some (.bW 130 s.out.length 7 (dY s.out))),(9,some (.cells [.d (dI pt.month),.d (dI pt.cell),.d (dS pt.aN),.d (dI (xD s)),.d (dI pt.gO),.d (dI (H5 pt s)),.d (dS (EX pt s))]))]⟩) (aP.of [] (by rw[aA];rfl) rfl ⟨⟨rfl,aQ.row rfl fun a c ha hc=>aJ.of_eq (by rw[e2];exact aEM (x:=aU ((s.cur.getD (s.lo+(0:Int).toNat) default).2 - xD s)) oM oM hc)⟩,bQ,bQ,bQ,oO⟩ ⟨qZ,qZ,qZ,qZ,qZ,qZ,oO⟩) ?_
     have hg:((aT pt s).cur.getD s.lo default).2=aU ((s.cur.getD s.lo default).2 - xD s):=by
      rw[e2]
      simp[List.getD_eq_getElem?_getD,show s.lo<s.cur.length by omega]
     refine sX aA ?_
     refine oi ⟨oM,oM⟩ ?_
     refine oi (show s.lo+(0:Int).toNat<n by omega) ?_
     refine AW.cond ?_
     refine aI (fun h3=>?_) (fun h3=>AW.skip ?_)
     ·have h3:(((aT pt s).cur.getD s.lo default).2==0)=true:=h3
      rw[hg]at h3
      rw[h3]at e1
      have e1:(aT pt s).lo=s.lo+1:=e1
      refine eX aA ?_
      refine oi (show(0:Int)≤1∧(1:Int)≤((n - s.lo:Nat):Int)∧((n - s.lo:Nat):Int)≤((n - s.lo:Nat):Int) by omega) ?_
      exact⟨rfl,aP.of [] (by rw[aA];rfl) rfl ⟨bQ,bQ,bQ,bQ,oO⟩ ⟨⟨rfl,aM.of_eq (by rw[e1,show n - (s.lo+1)=n - s.lo - 1 by omega];rfl)⟩,qZ,qZ,qZ,qZ,qZ,oO⟩⟩
     ·have h3:(((aT pt s).cur.getD s.lo default).2==0)=false:=h3
      rw[hg]at h3
      rw[h3]at e1
      have e1:(aT pt s).lo=s.lo:=e1
      exact⟨rfl,aP.of [] (by rw[aA];rfl) rfl ⟨bQ,bQ,bQ,bQ,oO⟩ ⟨⟨rfl,aM.of_eq (by rw[e1];rfl)⟩,qZ,qZ,qZ,qZ,qZ,oO⟩⟩
    ·have h2:¬((n - s.lo:Nat):Int)>0:=cD h2
     have xC:decide (s.lo<s.cur.length)=false:=decide_eq_false oM
     have WW:xD s=s.v:=by unfold xD;rw[xC];rfl
     have el:H5 pt s=pt.load:=by unfold H5;rw[xC];rfl
     have ep:EX pt s=pt.cQ:=by unfold EX;rw[xC];rfl
     have e1:(aT pt s).lo=s.lo:=by unfold aT;rw[xC];rfl
     have e2:(aT pt s).cur=s.cur:=by unfold aT;rw[xC];rfl
     exact⟨rfl,aP.of [] (by rw[aA];rfl) rfl ⟨⟨rfl,aQ.of_eq (by rw[e2];rfl)⟩,bQ,bQ,⟨rfl,aQ.of_eq (by rw[WW,el,ep];rfl)⟩,oO⟩ ⟨⟨rfl,aM.of_eq (by rw[e1];rfl)⟩,qZ,qZ,qZ,qZ,qZ,oO⟩⟩
   ·refine sX aA ?_
    refine sX aA ?_
    refine aD ?_
    refine eX aA ?_
    refine ob dC ?_
    refine ob (by rw[dW];show(s.out.length+1)*72≤_;omega) ?_
    refine ob (mT fun c hc=>by match c,hc with|0,_|1,_|2,_|3,_|4,_|5,_|6,_=>rfl) ?_
    refine⟨(k',aT pt s),hJ2,Nat.lt_succ_self _,?_⟩
    refine aP.of [(100,73)] (by rw[aA];rfl) rfl ⟨bQ,bQ,⟨rfl,?_⟩,oO⟩ ⟨qZ,qZ,⟨rfl,aM.mo (by rw[kQ];exact b9 _ _)⟩,⟨rfl,aM.int (K6 pt s).symm⟩,⟨rfl,aM.int (K7 pt s).symm⟩,oO⟩
    show aQ _ (.bW 130 (aT pt s).out.length 7 (dY (aT pt s).out))
    rw[kQ]
    refine aQ.snoc (el:=aC1) (x:=⟨pt.month,pt.cell,pt.aN,xD s,mm false s.p (xD s),H5 pt s,EX pt s⟩) (fun c hc=>?_)
    have hc:c<7:=hc
    match c,hc with|0,_|1,_|2,_|3,_|4,_|5,_|6,_=>rfl
  ·have h1:¬s.v>0:=cD h1
   have hr:=hJ.run
   simp only at hr
   rw[zY h1]at hr
   subst hr
   refine eX aA ?_
   exact⟨aCB (aJ.xL (dW _) fun _ _ _ _=>aJ.refl _),rfl,oO⟩
theorem E6(pt:Piece)(hv:0≤pt.jO∧pt.jO≤1000000000000000):
  aF prog 123 [aF5 pt,.s (.d dK)] (.t [.s (.d (UQ (cA pt 0 []).out)),.s (.d dK)]):=by
 generalize aAS:cA pt 0 []=fin
 refine eW func123 rfl rfl call123 rfl rfl (fun cx aA=>?_)
 refine sX aA ?_
 refine sX aA ?_
 refine sX aA ?_
 refine aD ?_
 refine AW.seq ?_
 refine AW.block ?_
 refine AW.cZ (fun x:Nat×DS=>⟨[(1,.s (.d dK)),(2,.s (.ptr 2 0)),(6,.s (.mo x.2.out.isEmpty 100)),(7,vI x.2.v),(8,vI x.2.p)],[(2,some (.cells [.d (dI pt.month),.d (dI pt.cell),.d (dS pt.aN),.d (dI pt.jO),.d (dI pt.gO),.d (dI pt.load),.d (dS pt.cQ)])),(100,some (.bW 130 x.2.out.length 7 (dY x.2.out)))]⟩) (fun x=>DJ pt 0 fin x∧x.2.cur=[]) (fun x=>x.1) (1,pH pt 0 []) ⟨⟨by rw[←aAS];rfl,Nat.zero_le _,rfl,hv,fun _=>by show 0 - 0<1;omega,fun i _ h=>by omega,by show 0+1≤_;omega⟩,rfl⟩ ?_ ?_
 ·exact aP.b7 aA [(100,1000)] rfl ⟨bQ,⟨rfl,rfl⟩,oO⟩ ⟨qZ,qZ,⟨rfl,aM.nil rfl⟩,qZ,qZ,oO⟩
 ·rintro⟨k,s⟩ ⟨hJ,aAU⟩
  have RX:=hJ.few
  have hvb:=hJ.v
  simp only at RX hvb aAU
  refine AW.seq (sX aA ?_)
  refine AW.cond ?_
  refine aI (fun h1=>AW.skip ?_) (fun h1=>AW.exit ?_)
  ·have h1:s.v>0:=cB h1
   obtain⟨k',rfl,hJ2⟩:=hJ.step h1
   refine AW.block ?_
   refine sX aA ?_
   refine sX aA ?_
   refine AW.fU (σ':=⟨[(1,.s (.d dK)),(2,.s (.ptr 2 0)),(6,.s (.mo s.out.isEmpty 100)),(7,vI s.v),(8,vI s.p),(9,.s (.ptr 9 0))],[(2,some (.cells [.d (dI pt.month),.d (dI pt.cell),.d (dS pt.aN),.d (dI pt.jO),.d (dI pt.gO),.d (dI pt.load),.d (dS pt.cQ)])),(100,some (.bW 130 s.out.length 7 (dY s.out))),(9,some (.cells [.d (dI pt.month),.d (dI pt.cell),.d (dS pt.aN),.d (dI s.v),.d (dI pt.gO),.d (dI pt.load),.d (dS pt.cQ)]))]⟩) (aP.b7 aA [] rfl ⟨bQ,bQ,bQ,oO⟩ ⟨qZ,qZ,qZ,qZ,qZ,qZ,oO⟩) ?_
   have xC:decide (s.lo<s.cur.length)=false:=by rw[aAU];simp
   have WW:xD s=s.v:=by unfold xD;rw[xC];rfl
   have el:H5 pt s=pt.load:=by unfold H5;rw[xC];rfl
   have ep:EX pt s=pt.cQ:=by unfold EX;rw[xC];rfl
   have e2:(aT pt s).cur=[]:=by unfold aT;rw[xC];exact aAU
   refine AW.cut (σ':=⟨[(1,.s (.d dK)),(2,.s (.ptr 2 0)),(6,.s (.mo s.out.isEmpty 100)),(7,vI s.v),(8,vI s.p),(9,.s (.ptr 9 0))],[(2,some (.cells [.d (dI pt.month),.d (dI pt.cell),.d (dS pt.aN),.d (dI pt.jO),.d (dI pt.gO),.d (dI pt.load),.d (dS pt.cQ)])),(100,some (.bW 130 s.out.length 7 (dY s.out))),(9,some (.cells [.d (dI pt.month),.d (dI pt.cell),.d (dS pt.aN),.d (dI (xD s)),.d (dI pt.gO),.d (dI (H5 pt s)),.d (dS (EX pt s))]))]⟩) ?_ ?_
   ·refine sX aA ?_
    refine AW.cond ?_
    refine aI (fun h2=>by simp at h2) (fun h2=>AW.skip ?_)
    exact⟨rfl,aP.b7 aA [] rfl ⟨bQ,bQ,⟨rfl,aQ.of_eq (by rw[WW,el,ep];rfl)⟩,oO⟩ ⟨qZ,qZ,qZ,qZ,qZ,qZ,oO⟩⟩
   ·refine sX aA ?_
    refine sX aA ?_
    refine aD ?_
    refine eX aA ?_
    refine ob dC ?_
    refine ob (by rw[dW];show(s.out.length+1)*72≤_;omega) ?_
    refine ob (mT fun c hc=>by match c,hc with|0,_|1,_|2,_|3,_|4,_|5,_|6,_=>rfl) ?_
    refine⟨(k',aT pt s),⟨hJ2,e2⟩,Nat.lt_succ_self _,?_⟩
    refine aP.b7 aA [(100,73)] rfl ⟨bQ,⟨rfl,?_⟩,oO⟩ ⟨qZ,qZ,⟨rfl,aM.mo (by rw[kQ];exact b9 _ _)⟩,⟨rfl,aM.int (K6 pt s).symm⟩,⟨rfl,aM.int (K7 pt s).symm⟩,oO⟩
    show aQ _ (.bW 130 (aT pt s).out.length 7 (dY (aT pt s).out))
    rw[kQ]
    refine aQ.snoc (el:=aC1) (x:=⟨pt.month,pt.cell,pt.aN,xD s,mm false s.p (xD s),H5 pt s,EX pt s⟩) (fun c hc=>?_)
    have hc:c<7:=hc
    match c,hc with|0,_|1,_|2,_|3,_|4,_|5,_|6,_=>rfl
  ·have h1:¬s.v>0:=cD h1
   have hr:=hJ.run
   simp only at hr
   rw[zY h1]at hr
   subst hr
   refine eX aA ?_
   exact aC.t ⟨aJ.xL (dW _) fun _ _ _ _=>aJ.refl _,aJ.refl _,oO⟩
end Go.Pj
namespace Go.Ax
open Go.RowKit
section
variable{P:Program}{cx:Cx}{N:Nat}{σ:St}
open Go.ChangeMaps
theorem nE.K4{e s t kt et:Nat}{x y z:Operand}{k:ByteArray}{o:Oper}{h:HM}{K:St→Hid→Prop}(ho:o.op=.mapUpdate t x y z)(hd:o.dst=none)
  (hx:ev σ x=.s (.d (.val (.map (some h.bm))))) (hy:ev σ y=.s (.d (.val (.string k)))) (hz:ev σ z=.s (.d (.val (.slice none 0 0))))
  (ht:P.underlying t=some (.map kt et)) (hk:P.underlying kt=some .string) (hit:cT h.l k 0=none→h.it=none)
  (hK:K σ (hid e s (eH h k (.slice none 0 0) none))):nE P cx N o σ (hid e s h) K:=by
 refine⟨fun c hc=>(by rw[ho]at hc;cases hc),fun M β a w i hi Q=>?_⟩
 have ex:a.eval x=.map (some h.bm):=by have:=ev.rep i x;rw[hx]at this;exact this
 have ey:a.eval y=.string k:=by have:=ev.rep i y;rw[hy]at this;exact this
 have hv:a.eval z=.slice none 0 0:=by have:=ev.rep i z;rw[hz]at this;exact this
 have hF:h.F e s M w:=hi.holds
 have hS0:h.S h.bm:=.inl rfl
 have jC:∀b,(Instr.checkKey b 10000 kt (.string k)).run P w=.ok () w:=fun b=>iV w hk b k 9999
 have nS:=w7 (P:=P) (w:=w) hk k h.l
 obtain⟨h',AR⟩:∃h',eH h k (.slice none 0 0) none=h':=⟨_,rfl⟩
 have M8:h'.bm=h.bm:=by rw[←AR];unfold eH;split <;> rfl
 have aV:(execOp a.eval o).run P w=.ok .skip (setBlock w h.bm (.map (h'.l.map bF.mJ).toArray h'.clock)):=by
  cases hq:cT h.l k 0 with
  |none=>
   rw[hq]at nS
   have e1:h'= {h with l:=h.l++ [⟨k,h.clock,.slice none 0 0,none⟩],clock:=h.clock+1}:=by rw[←AR];unfold eH;rw[hq]
   have e3:(h.l.map bF.mJ).toArray.push {key:=.string k,val:=.slice none 0 0,born:=h.clock}=(h'.l.map bF.mJ).toArray:=by rw[e1];simp[bF.mJ]
   have e4:h'.clock=h.clock+1:=by rw[e1]
   have hm:(Instr.mapUpdate t (.map (some h.bm)) (.string k) (.slice none 0 0)).run P w=.ok () (setBlock w h.bm (.map (h'.l.map bF.mJ).toArray h'.clock)):=by
    rw[e4,←e3]
    simp[Instr.mapUpdate,run_underlying ht,MapKept.run_getObj_map hF.map,jC,nS,fQ hF.map]
   simp[execOp,ho,ex,ey,hv,hm]
  |some p=>
   obtain⟨j,q⟩:=p
   rw[hq]at nS
   obtain⟨_,AS,rU⟩:=tE hq
   simp only [Nat.sub_zero]at AS
   have rU:q.key=k:=rU
   have e1:h'= {h with l:=h.l.modify j fun x=>{x with val:=.slice none 0 0,row:=none}}:=by rw[←AR];unfold eH;rw[hq]
   have e3:=GF (.slice none 0 0) none AS rU
   have e4:h'.clock=h.clock:=by rw[e1]
   have GY:(Instr.keyThatStays (.string k) (.string k)).run P w=.ok (.string k) w:=by simp[Instr.keyThatStays,Instr.sameBits]
   have hm:(Instr.mapUpdate t (.map (some h.bm)) (.string k) (.slice none 0 0)).run P w=.ok () (setBlock w h.bm (.map (h'.l.map bF.mJ).toArray h'.clock)):=by
    have e5:h'.l.map bF.mJ=(h.l.map bF.mJ).modify j (fun e=>{e with key:=.string k,val:=.slice none 0 0}):=by rw[e1];exact e3.symm
    have e6:(Option.map ((fun x:MapEntry=>x.key)∘bF.mJ) h.l[j]?).getD (.string k)=.string k:=by rw[AS];simp[bF.mJ,rU]
    rw[e4,e5]
    simp[Instr.mapUpdate,run_underlying ht,MapKept.run_getObj_map hF.map,jC,nS,e6,GY,fQ hF.map]
   simp[execOp,ho,ex,ey,hv,hm]
 unfold Oper.wp
 rw[aV,Oper.upon_skip,hd]
 have QP:=fO w h.bm (.map (h'.l.map bF.mJ).toArray h'.clock)
 have qW:∀k',k'≠h.bm→(setBlock w h.bm (.map (h'.l.map bF.mJ).toArray h'.clock)).heap[k']? =w.heap[k']? :=fun k' x0=>eT _ _ _ x0
 have hat:=iN (ob':=.map (h'.l.map bF.mJ).toArray h'.clock) hF.map
 generalize hw:setBlock w h.bm (.map (h'.l.map bF.mJ).toArray h'.clock)=w' at*
 have i1:=i.zO hi hS0 QP qW
 have kp:=b6.zO hi hS0 QP qW (by rw[←hw];rfl) (by rw[←hw];rfl) (by rw[←hw];rfl) (by rw[←hw];exact trivial)
 refine⟨_,M,β,_,AR▸hK,i1,?_,Grow.refl _ _,kp⟩
 have gK:∀k',h'.S k'→h.S k':=by
  rintro k' (rfl|⟨x,hx,r,hr,rfl⟩|⟨sn,hs⟩)
  ·exact M8▸.inl rfl
  ·rw[←AR]at hx
   rcases zT hx with h1|⟨_,h2⟩
   ·exact .inr (.inl ⟨x,h1,r,hr,rfl⟩)
   ·rw[hr]at h2;cases h2
  ·refine .inr (.inr ⟨sn,?_⟩)
   rw[←AR]at hs
   unfold eH at hs
   split at hs <;> exact hs
 refine⟨⟨by rw[M8];exact hat,fun x hx r hr=>?_,fun bi sn hs=>?_,?_⟩,fun k' x0=>hi.low k' (gK k' x0),fun k' x0=>hi.apart k' (gK k' x0),fun x bx b' c' e1 e2 hs=>hi.names x bx b' c' e1 e2 (gK b' hs)⟩
 ·rw[←AR]at hx
  rcases zT hx with h1|⟨h1,h2⟩
  ·obtain⟨o,cur,q1,q2,q3,q4,q5⟩:=hF.rows x h1 r hr
   exact⟨o,cur,q1,q2,q3,(qW r.g (fun e=>by rw[e,hF.map]at q4;cases q4)).trans q4,q5⟩
  ·rw[hr]at h2;cases h2
 ·have hs0:h.it=some (bi,sn)∧h'.clock=h.clock:=by
   rw[←AR]at hs ⊢
   unfold eH at hs ⊢
   split at hs
   ·exact⟨hs,rfl⟩
   ·rename_i hq;rw[hit hq]at hs;cases hs
  have:=hF.iter bi sn hs0.1
  rw[hs0.2,M8]
  exact(qW bi (fun e=>by rw[e,hF.map]at this;cases this)).trans this
 ·intro j1 j2 x1 x2 r1 r2 g1 g2 hr1 WH eg
  rw[←AR]at g1 g2
  rcases zU g1 with q1|⟨q1,p1⟩
  ·rcases zU g2 with q2|⟨q2,p2⟩
   ·exact hF.HJ j1 j2 x1 x2 r1 r2 q1 q2 hr1 WH eg
   ·rw[WH]at q2;cases q2
  ·rw[hr1]at q1;cases q1
end
end Go.Ax
namespace Go.Pj
open Go Go.Ax Go.Ch Go.Proofs Go.Proofs.Tryz
theorem TG{pt:Piece}{n:Nat}{fin:DS}:∀{k:Nat} {s:DS},DJ pt n fin (k,s)→∃k',DJ pt n fin (k',fin)
 |0,s,h=>⟨0,by have:=h.run;simp only [oK]at this;subst this;exact h⟩
 |k+1,s,h=>by
  by_cases hv:s.v>0
  ·obtain⟨k',hk,h2⟩:=h.step hv
   obtain rfl:k=k':=oM
   exact TG h2
  ·have hr:=h.run
   simp only at hr
   rw[zY hv]at hr
   subst hr
   exact⟨_,h⟩
theorem VF{pt:Piece}{lo n:Nat}{l:List Room}(hn:l.length=n)(CP:lo≤n)(hn2:n≤1000)(hv:0≤pt.jO∧pt.jO≤1000000000000000)(hl:∀i,lo≤i→i<n→1≤(l.getD i default).2∧(l.getD i default).2≤1000000000000):
  DJ pt n (cA pt lo l) (n - lo+1,pH pt lo l):=
 ⟨by unfold cA;rw[hn],CP,hn,hv,fun _=>by show n - lo<n - lo+1;omega,hl,by show 0+(n - lo+1)≤_;omega⟩
theorem E4{pt:Piece}{lo n:Nat}{l:List Room}(hn:l.length=n)(CP:lo≤n)(hn2:n≤1000)(hv:0≤pt.jO∧pt.jO≤1000000000000000)(hl:∀i,lo≤i→i<n→1≤(l.getD i default).2∧(l.getD i default).2≤1000000000000):
  (cA pt lo l).lo≤n∧(cA pt lo l).cur.length=n∧∀i,(cA pt lo l).lo≤i→i<n→1≤((cA pt lo l).cur.getD i default).2∧((cA pt lo l).cur.getD i default).2≤1000000000000:=by
 obtain⟨k,h⟩:=TG (VF hn CP hn2 hv hl)
 exact⟨h.lo,h.len,h.left⟩
theorem N0{pt:Piece}:∀(k:Nat) (s:DS),(oK pt k s).out.length≤s.out.length+k
 |0,s=>Nat.le_refl _
 |k+1,s=>by
  rw[oK]
  cases decide (s.v>0)with
  |false=>show s.out.length≤_;omega
  |true=>
   have:=N0 (pt:=pt) k (aT pt s)
   have e:(aT pt s).out.length=s.out.length+1:=by rw[kQ];simp
   show(oK pt k (aT pt s)).out.length≤_
   omega
theorem pX(pt:Piece)(lo:Nat)(l:List Room):(cA pt lo l).out.length≤l.length - lo+1:=by
 have:=N0 (pt:=pt) (l.length - lo+1) (pH pt lo l)
 have e:(pH pt lo l).out.length=0:=rfl
 unfold cA
 omega
abbrev lO:=bG×(Nat×List Room)×Nat
def fP:List lO→bG→Nat→Option (Nat×lO)
 |[],_,_=>none
 |e::r,k,i=>bif k==e.1 then some (i,e)else fP r k (i+1)
def AY(E:List lO)(k:bG):Nat×List Room:=match fP E k 0 with
 |some (_,e)=>e.2.1
 |none=>(0,[])
def YY(E:List lO)(k:bG)(v:Nat×List Room):List lO:=match fP E k 0 with
 |some (i,_)=>E.modify i fun e=>(e.1,v,e.2.2)
 |none=>E++ [(k,v,E.length)]
def c8(p:Proj):Int:=aU (p.aS.side*p.aS.side)
def OG(p:Proj)(i:Nat):Int:=(lU p.chan p.aS p.chan.over).levels.getD i 0
def bE(p:Proj)(m:Int)(i:Nat)(x:Part):Piece:=
 ⟨m,i,x.aN,aU (aU (x.top - x.bot)*c8 p),bif OG p i !=30000 then aU (mm true 0 (aU (x.top - mm true x.bot (OG p i)))*c8 p)else 0,0,bs []⟩
abbrev PS:=List lO×List Piece
def nU(p:Proj)(m:Int)(i:Nat)(s:PS)(x:Part):PS:=
 (YY s.1 (x.aN.data.toList) ((cA (bE p m i x) (AY s.1 x.aN.data.toList).1 (AY s.1 x.aN.data.toList).2).lo,(cA (bE p m i x) (AY s.1 x.aN.data.toList).1 (AY s.1 x.aN.data.toList).2).cur),
  s.2++(cA (bE p m i x) (AY s.1 x.aN.data.toList).1 (AY s.1 x.aN.data.toList).2).out)
def vG(p:Proj)(fs:List Fact)(M:Nat)(s:PS)(i:Nat):PS:=
 bif lC p fs (M - 1) i==30000||decide (lC p fs M i≥lC p fs (M - 1) i)then s
 else(tS p.gr (dF p.aS i) (lC p fs (M - 1) i) (lC p fs M i)).foldl (nU p M i) s
def pG(E:List Rm.gM):List lO:=E.map fun e=>(e.1,(0,e.2.1),e.2.2)
def F5(p:Proj)(fs:List Fact)(M:Nat):List Piece:=
 ((List.range p.aS.levels.length).foldl (vG p fs M) (pG (Rm.j8 (iC p (jT fs M) (jT fs M).length).1 M (iC p (jT fs M) (jT fs M).length).1.length),[])).2
structure XY(r:l0)(v:Nat×List Room):Prop where
 lo:r.lo=v.1
 n:r.n=v.2.length
 le:v.1≤v.2.length
 f:∀i j,i<v.2.length→j<14→aJ (r.f i j) (jU v.2 i j)
structure POK(q:bF)(e:lO):Prop where
 key:q.key=bs e.1
 born:q.born=e.2.2
 row:(e.2.1.2≠[]∧∃r,q.row=some r∧XY r e.2.1)∨(q.row=none∧q.val=.slice none 0 0∧e.2.1=(0,[]))
def lP:List bF→List lO→Prop
 |[],[]=>True
 |q::r,e::s=>POK q e∧lP r s
 |_,_=>False
theorem lP.of:∀{l:List bF} {E:List Rm.gM},Rm.dX l E→lP l (pG E)
 |[],[],_=>trivial
 |q::r,e::s,h=>by
  obtain⟨x,hx,ho⟩:=h.1.row
  exact⟨⟨h.1.key,h.1.born,.inl ⟨h.1.ne,x,hx,⟨ho.lo,ho.n,Nat.zero_le _,ho.f⟩⟩⟩,lP.of h.2⟩
 |[],_::_,h=>h.elim
 |_::_,[],h=>h.elim
theorem lP.append:∀{l m:List bF} {E F:List lO},lP l E→lP m F→lP (l++m) (E++F)
 |[],_,[],_,_,h=>h
 |_::_,_,_::_,_,h,k=>⟨h.1,lP.append h.2 k⟩
 |[],_,_::_,_,h,_=>h.elim
 |_::_,_,[],_,h,_=>h.elim
theorem lP.modify:∀{l:List bF} {E:List lO} {i:Nat} {g:bF→bF} {g':lO→lO},lP l E→(∀q e,l[i]? =some q→E[i]? =some e→POK q e→POK (g q) (g' e))→lP (l.modify i g) (E.modify i g')
 |[],[],_,_,_,_,_=>by simp[lP]
 |q::r,e::s,0,g,g',h,k=>by
  simp only [List.modify_zero_cons]
  exact⟨k q e rfl rfl h.1,h.2⟩
 |q::r,e::s,i+1,g,g',h,k=>by
  simp only [List.modify_succ_cons]
  exact⟨h.1,lP.modify h.2 fun q e hq he=>k q e (by simpa using hq) (by simpa using he)⟩
 |[],_::_,_,_,_,h,_=>h.elim
 |_::_,[],_,_,_,h,_=>h.elim
theorem yW:∀{l:List bF} {E:List lO} {k:bG} {i:Nat},lP l E→fP E k i=none→cT l (bs k) i=none
 |[],[],_,_,_,_=>rfl
 |q::r,e::s,k,i,h,hf=>by
  rw[fP]at hf
  rw[cT,h.1.key,tP]
  cases hk:k==e.1 with
  |true=>rw[hk]at hf;cases hf
  |false=>rw[hk]at hf;exact yW h.2 hf
 |[],_::_,_,_,h,_=>h.elim
 |_::_,[],_,_,h,_=>h.elim
theorem yV:∀{l:List bF} {E:List lO} {k:bG} {i:Nat} {p:Nat×lO},lP l E→fP E k i=some p→∃q,cT l (bs k) i=some (p.1,q)∧POK q p.2
 |[],[],_,_,_,_,hf=>by cases hf
 |q::r,e::s,k,i,p,h,hf=>by
  rw[fP]at hf
  rw[cT,h.1.key,tP]
  cases hk:k==e.1 with
  |true=>
   rw[hk]at hf
   obtain rfl:(i,e)=p:=Option.some.inj hf
   exact⟨q,rfl,h.1⟩
  |false=>rw[hk]at hf;exact yV h.2 hf
 |[],_::_,_,_,_,h,_=>h.elim
 |_::_,[],_,_,_,h,_=>h.elim
theorem sO{h:HM}{E:List lO}{k:bG}{j:Nat}{q:bF}{v:Value}{r:l0}{x:Nat×List Room}(ha:lP h.l E)(hf:cT h.l (bs k) 0=some (j,q))(hr:XY r x)(hV:x.2≠[]):
  lP (eH {h with l:=cL h.l j} (bs k) v (some r)).l (E.modify j fun e=>(e.1,x,e.2.2))∧(eH {h with l:=cL h.l j} (bs k) v (some r)).bm=h.bm∧(eH {h with l:=cL h.l j} (bs k) v (some r)).clock=h.clock∧(eH {h with l:=cL h.l j} (bs k) v (some r)).it=h.it:=by
 have h1:=rW h.l (bs k) j 0
 rw[hf]at h1
 unfold eH
 simp only
 cases hq:cT (cL h.l j) (bs k) 0 with
 |none=>rw[hq]at h1;cases h1
 |some p=>
  obtain⟨i,q'⟩:=p
  rw[hq]at h1
  obtain rfl:i=j:=by simpa using h1
  refine⟨?_,rfl,rfl,rfl⟩
  show lP ((cL h.l i).modify i _) _
  unfold cL
  rw[List.modify_modify_eq]
  exact ha.modify fun q e _ _ ho=>⟨ho.key,ho.born,.inl ⟨hV,r,rfl,hr⟩⟩
theorem NV{h:HM}{E:List lO}{k:bG}{j:Nat}{q:bF}(ha:lP h.l E)(hf:cT h.l (bs k) 0=some (j,q)):
  lP (eH h (bs k) (.slice none 0 0) none).l (E.modify j fun e=>(e.1,(0,[]),e.2.2))∧(eH h (bs k) (.slice none 0 0) none).bm=h.bm∧(eH h (bs k) (.slice none 0 0) none).clock=h.clock∧(eH h (bs k) (.slice none 0 0) none).it=h.it:=by
 unfold eH
 rw[hf]
 refine⟨?_,rfl,rfl,rfl⟩
 exact ha.modify fun q e _ _ ho=>⟨ho.key,ho.born,.inr ⟨rfl,rfl,rfl⟩⟩
theorem NW{h:HM}{E:List lO}{k:bG}(ha:lP h.l E)(hc:h.clock=E.length)(hf:cT h.l (bs k) 0=none):
  lP (eH h (bs k) (.slice none 0 0) none).l (E++ [(k,(0,[]),E.length)])∧(eH h (bs k) (.slice none 0 0) none).bm=h.bm∧(eH h (bs k) (.slice none 0 0) none).clock=E.length+1∧(eH h (bs k) (.slice none 0 0) none).it=h.it:=by
 unfold eH
 rw[hf]
 refine⟨?_,rfl,by simp only;omega,rfl⟩
 refine ha.append ⟨⟨rfl,by simp only;exact hc,.inr ⟨rfl,rfl,rfl⟩⟩,oO⟩
theorem PV.bR{p:Proj}(h:PV p):∀x∈p.gr.eQ,x.bR.length≤1000000:=by
 intro x hx
 obtain⟨i,hi,rfl⟩:=List.getElem_of_mem hx
 have hg:=h.gr
 unfold gF at hg
 obtain⟨_,hg⟩:=dJ hg
 obtain⟨_,hg⟩:=cW dC hg
 obtain⟨_,hg⟩:=cW dC hg
 have hb:=o9 hg i (Nat.zero_le _) oM
 unfold EO at hb
 obtain⟨_,hb⟩:=cW dC hb
 obtain⟨_,hb⟩:=cW dC hb
 unfold HW at hb
 obtain⟨_,hb⟩:=cW dC hb
 obtain⟨_,hb⟩:=cW dC hb
 obtain⟨hb,_⟩:=cW dC hb
 simp only [decide_eq_false_iff_not]at hb
 rw[bA hi]at hb
 omega
end Go.Pj
--K60
namespace Go.Ax
open Go.RowKit
variable{P:Program}{cx:Cx}{N:Nat}{σ σ':St}{H H':Hid}
theorem bD.sub{all l:List Oper}{K:St→Hid→Prop}(h:HSub cx N σ H σ' H')(k:bD P cx N all l σ' H' K):bD P cx N all l σ H K:=by
 intro M β a w Q i hi hQ
 obtain⟨M',β',i',bN,g⟩:=h M β a w i hi
 exact k M' β' a w Q i' bN fun a' w' hp=>hQ a' w' (hp.trans g (b6.refl _ _))
theorem bI.cut{x y:Code}{K:Exit→St→Hid→Prop}(h:bI P cx N x σ H fun e s h=>e=.normal∧HSub cx N s h σ' H')(k:bI P cx N y σ' H' K):bI P cx N (.seq x y) σ H K:=
 bI.seq (bI.mono h fun _ _ _ ⟨he,hs⟩=>by subst he;exact bI.sub hs k)
end Go.Ax
namespace Go.Pj
open Go Go.Ax Go.Ch Go.Proofs Go.Proofs.Tryz
set_option maxRecDepth 100000
set_option maxHeartbeats 1000000
theorem PV.Z3{p:Proj}(h:PV p):∀x∈p.gr.eQ,x.bR.length≤12:=by
 intro x hx
 obtain⟨i,hi,rfl⟩:=List.getElem_of_mem hx
 have hg:=h.gr
 unfold gF at hg
 obtain⟨_,hg⟩:=dJ hg
 obtain⟨_,hg⟩:=cW dC hg
 obtain⟨_,hg⟩:=cW dC hg
 have hb:=o9 hg i (Nat.zero_le _) oM
 unfold EO at hb
 obtain⟨_,hb⟩:=cW dC hb
 obtain⟨_,hb⟩:=cW dC hb
 unfold HW at hb
 obtain⟨_,hb⟩:=cW dC hb
 obtain⟨_,hb⟩:=cW dC hb
 obtain⟨hb,_⟩:=cW dC hb
 simp only [decide_eq_false_iff_not]at hb
 rw[bA hi]at hb
 omega
theorem NZ{pt:Piece}:∀(k:Nat) (s:DS),s.out.length≤(oK pt k s).out.length
 |0,s=>Nat.le_refl _
 |k+1,s=>by
  rw[oK]
  cases decide (s.v>0)with
  |false=>exact Nat.le_refl _
  |true=>
   have:=NZ (pt:=pt) k (aT pt s)
   have e:(aT pt s).out.length=s.out.length+1:=by rw[kQ];simp
   show _≤(oK pt k (aT pt s)).out.length
   omega
theorem pE{pt:Piece}{lo:Nat}{l:List Room}(hv:0<pt.jO):0<(cA pt lo l).out.length:=by
 unfold cA
 rw[oK,show decide ((pH pt lo l).v>0)=true from decide_eq_true hv]
 have:=NZ (pt:=pt) (l.length - lo) (aT pt (pH pt lo l))
 have e:(aT pt (pH pt lo l)).out.length=0+1:=by rw[kQ];simp;rfl
 show 0<(oK pt (l.length - lo) (aT pt (pH pt lo l))).out.length
 omega
structure uH(x:Nat×List Room):Prop where
 le:x.1≤x.2.length
 few:x.2.length≤200
 left:∀i,x.1≤i→i<x.2.length→1≤(x.2.getD i default).2∧(x.2.getD i default).2≤1000000000000
def C3(s:PS)(n:Nat):Prop:=(∀e∈s.1,uH e.2.1)∧s.2.length≤n
theorem C3.more{s:PS}{n m:Nat}(h:C3 s n)(hm:n≤m):C3 s m:=⟨h.1,Nat.le_trans h.2 hm⟩
theorem MA:∀{E:List lO} {k:bG} {i j:Nat} {e:lO},fP E k i=some (j,e)→i≤j∧E[j - i]? =some e∧e.1=k
 |[],_,_,_,_,h=>by cases h
 |x::r,k,i,j,e,h=>by
  rw[fP]at h
  cases hk:(k==x.1)with
  |true=>
   rw[hk]at h
   obtain⟨rfl,rfl⟩:=Prod.mk.inj (Option.some.inj h)
   exact⟨Nat.le_refl _,sM,(eq_of_beq hk).symm⟩
  |false=>
   rw[hk]at h
   obtain⟨h1,h2,h3⟩:=MA (E:=r) h
   refine⟨oM,?_,h3⟩
   rw[show j - i=(j - (i+1))+1 by omega]
   simpa using h2
theorem WR{E:List lO}{k:bG}(h:∀e∈E,uH e.2.1):uH (AY E k):=by
 unfold AY
 split
 ·rename_i i e he
  exact h e (List.mem_of_getElem? (MA he).2.1)
 ·exact⟨Nat.le_refl _,Nat.zero_le _,fun i _ hi=>absurd hi (Nat.not_lt_zero _)⟩
theorem VI{E:List lO}{k:bG}{v:Nat×List Room}(h:∀e∈E,uH e.2.1)(hv:uH v):∀e∈YY E k v,uH e.2.1:=by
 intro e he
 unfold YY at he
 split at he
 ·rename_i i e' _
  obtain⟨j,hj⟩:=List.getElem?_of_mem he
  rw[List.getElem?_modify]at hj
  cases hE:E[j]? with
  |none=>rw[hE]at hj;cases hj
  |some y=>
   rw[hE]at hj
   have hj:(if i=j then(y.1,v,y.2.2)else y)=e:=by simpa using hj
   split at hj
   ·subst hj;exact hv
   ·subst hj;exact h y (List.mem_of_getElem? hE)
 ·rcases List.mem_append.1 he with he|he
  ·exact h e he
  ·rw[List.mem_singleton.1 he];exact hv
theorem W1{pt:Piece}{x:Nat×List Room}(h:uH x)(hv:0≤pt.jO∧pt.jO≤1000000000000000):uH ((cA pt x.1 x.2).lo,(cA pt x.1 x.2).cur):=by
 have hf:=h.few
 obtain⟨h1,h2,h3⟩:=E4 (pt:=pt) (n:=x.2.length) rfl h.le oM hv h.left
 exact⟨by show _≤(cA pt x.1 x.2).cur.length;omega,by show(cA pt x.1 x.2).cur.length≤_;omega,fun i h4 h5=>h3 i h4 (by have h5:i<(cA pt x.1 x.2).cur.length:=h5;omega)⟩
theorem I9{p:Proj}{m:Int}{i n:Nat}{s:PS}{x:Part}(h:C3 s n)(hv:0≤(bE p m i x).jO∧(bE p m i x).jO≤1000000000000000):C3 (nU p m i s x) (n+201):=by
 have hg:=WR (k:=x.aN.data.toList) h.1
 refine⟨VI h.1 (W1 hg hv),?_⟩
 have hf:=pX (bE p m i x) (AY s.1 x.aN.data.toList).1 (AY s.1 x.aN.data.toList).2
 have:=hg.few
 have:=h.2
 show(s.2++_).length≤_
 rw[List.length_append]
 omega
structure zG(x:Part):Prop where
 lt:x.bot<x.top
 lo: -20000≤x.bot
 hi:x.top≤20000
theorem XD{l:List uJ}{hi lo:Int}{n:Nat}{x:Part}(h:x∈mK l hi lo n):x.bot<x.top∧lo≤x.bot∧x.top≤hi:=by
 unfold mK at h
 obtain⟨i,_,hx⟩:=List.mem_filterMap.1 h
 unfold V4 at hx
 cases hq:decide (B2 l hi i>EN l lo i)with
 |false=>rw[hq]at hx;cases hx
 |true=>
  rw[hq]at hx
  obtain rfl:=Option.some.inj hx
  refine⟨of_decide_eq_true hq,?_,?_⟩
  ·show lo≤EN l lo i
   unfold EN
   cases decide (((i+1:Nat):Int)<l.length)with
   |true=>show lo≤mm true _ _;unfold mm;simp only;split <;> omega
   |false=>exact Int.le_refl _
  ·show B2 l hi i≤hi
   unfold B2
   cases decide ((i:Int)>0)with
   |true=>show mm false _ _≤hi;unfold mm;simp only;split <;> omega
   |false=>exact Int.le_refl _
theorem C5{g:Ground}{c:Pt}{hi lo:Int}{x:Part}(h:x∈tS g c hi lo):zG x:=by
 unfold tS at h
 cases he:(EU g c hi lo !=0)with
 |true=>rw[he]at h;cases h
 |false=>
  rw[he]at h
  have h:x∈mK (sG g c).bR hi lo (sG g c).bR.length:=h
  obtain⟨h1,h2,h3⟩:=XD h
  have he:EU g c hi lo=0:=by simpa using he
  unfold EU at he
  obtain⟨ha,_⟩:=dJ he
  unfold EP at ha
  obtain⟨_,ha⟩:=dJ ha
  obtain⟨ha,_⟩:=cW dC ha
  simp only [Bool.or_eq_false_iff,List.any_cons,List.any_nil,KW,within,Bool.not_eq_false',Bool.and_eq_true,decide_eq_true_eq]at ha
  exact⟨h1,oM,oM⟩
theorem aGA{g:Ground}{c:Pt}(h0:0<g.eQ.length):sG g c∈g.eQ:=dZ (LL g.eQ c g.eQ.length h0)
theorem H3{p:Proj}{c:Pt}{hi lo:Int}(h:PV p):(tS p.gr c hi lo).length≤12:=by
 unfold tS
 cases EU p.gr c hi lo !=0 with
 |true=>exact Nat.zero_le _
 |false=>
  have h1:=P4 (sG p.gr c).bR hi lo (sG p.gr c).bR.length
  have h2:=h.Z3 _ (aGA (c:=c) (DY h.gr).1)
  show(mK _ _ _ _).length≤12
  omega
theorem aBW{p:Proj}(h:PV p):10000≤c8 p∧c8 p≤1000000:=by
 have h1:=h.gv.side
 have h2:=h.side
 have h3:100*100≤p.aS.side*p.aS.side:=Int.mul_le_mul h1.1 h1.1 dC oM
 have h4:p.aS.side*p.aS.side≤1000*1000:=Int.mul_le_mul h2 h2 oM dC
 unfold c8
 rw[aG oM oM]
 omega
theorem AF{p:Proj}{m:Int}{i:Nat}{x:Part}(h:PV p)(hx:zG x):0<(bE p m i x).jO∧(bE p m i x).jO≤1000000000000000:=by
 obtain⟨a1,a2⟩:=aBW h
 have h1:=hx.lt
 have h2:=hx.lo
 have h3:=hx.hi
 show 0<aU (aU (x.top - x.bot)*c8 p)∧_
 rw[show aU (x.top - x.bot)=x.top - x.bot from aG oM oM]
 have h4:1*1≤(x.top - x.bot)*c8 p:=Int.mul_le_mul oM oM dC oM
 have h5:(x.top - x.bot)*c8 p≤40000*1000000:=Int.mul_le_mul oM a2 oM dC
 have e:(bE p m i x).jO=aU (aU (x.top - x.bot)*c8 p):=rfl
 rw[e,show aU (x.top - x.bot)=x.top - x.bot from aG oM oM,aG oM oM]
 omega
theorem aHS{a b:List Piece}{i j:Nat}(hi:i<a.length+b.length):kM a.length (dY a) (dY b) i j=dY (a++b) i j:=by
 unfold kM dY
 by_cases h:i<a.length
 ·rw[if_pos h]
  simp only [List.getD_eq_getElem?_getD,List.getElem?_append_left h]
 ·rw[if_neg h]
  simp only [List.getD_eq_getElem?_getD,List.getElem?_append_right (by omega:a.length≤i)]
end Go.Pj

