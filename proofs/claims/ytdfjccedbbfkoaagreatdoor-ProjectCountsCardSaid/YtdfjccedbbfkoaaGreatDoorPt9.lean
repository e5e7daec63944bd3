/- Part 9: lemmas that the proofs of this seat share; by itself it claims nothing. -/
import Derived.Test.YtdfjccedbbfkoaaGreatDoorPt8
set_option maxRecDepth 100000
set_option maxHeartbeats 1000000
namespace Go.Pj
open Go Go.Ax Go.Ch Go.Proofs Go.Proofs.Tryz
abbrev lim(n:Nat):Prop:=n≤9223372036854775807
theorem aGY:Rd prog 114 2 (fun p:Int×Int=>[.d (dI p.1),.d (dI p.2)]) (fun _=>True):=
 (fI underlying114 rfl kR (aS rfl rI (aS rfl rI jN))).to (fun a=>(a.1,a.2.1)) (fun _=>rfl) (fun _ _=>trivial)
theorem aKZ:Rd prog 116 5 (fun s:lI=>[.d (dS s.name),.d (dI s.run),.d (dI s.aF5),.d (dI s.num),.d (dI s.den)]) (fun s=>lim s.name.size):=
 (fI underlying116 rfl kR (aS rfl rS (aS rfl rI (aS rfl rI (aS rfl aGY jN))))).to (fun a=>⟨a.1,a.2.1,a.2.2.1,a.2.2.2.1.1,a.2.2.2.1.2⟩) (fun _=>rfl) (fun _ h=>h.1)
theorem aIB:Rd prog 29 1 (fun l:List lI=>[.d (kV l)]) (fun l=>lim l.length∧∀a∈l,lim a.name.size):=
 kF underlying29 kR aKZ dC aGU (fun _=>rfl) (fun a j hj=>by match j,hj with|0,_|1,_|2,_|3,_|4,_=>rfl)
theorem aIC:Rd prog 118 2 (fun s:sC=>[.d (dI s.top),.d (dS s.aN)]) (fun _=>True):=
 (fI underlying118 rfl kR (aS rfl rI (aS rfl rS jN))).to (fun a=>⟨a.1,a.2.1⟩) (fun _=>rfl) (fun _ _=>trivial)
theorem aEZ:Rd prog 59 1 (fun l:List sC=>[.d (mN l)]) (fun l=>lim l.length∧∀a∈l,True):=
 kF underlying59 kR aIC dC aLM (fun _=>rfl) (fun a j hj=>by match j,hj with|0,_|1,_=>rfl)
theorem aOO:Rd prog 61 4 (fun s:fS=>[.d (dS s.name),.d (dI s.x),.d (dI s.y),.d (mN s.bB)]) (fun s=>lim s.name.size∧lim s.bB.length):=
 (fI underlying61 rfl kR (aS rfl rS (aS rfl rI (aS rfl rI (aS rfl aEZ jN))))).to (fun a=>⟨a.1,a.2.1,a.2.2.1,a.2.2.2.1⟩) (fun _=>rfl) (fun _ h=>⟨h.1,h.2.2.2.1.1⟩)
theorem aK7:Rd prog 30 1 (fun l:List fS=>[.d (pN l)]) (fun l=>lim l.length∧∀a∈l,lim a.name.size∧lim a.bB.length):=
 kF underlying30 kR aOO dC aNS (fun _=>rfl) (fun a j hj=>by match j,hj with|0,_|1,_|2,_|3,_=>rfl)
theorem aOI:Rd prog 120 2 (fun s:pQ=>[.d (dS s.aN),.d (dI s.vY)]) (fun _=>True):=
 (fI underlying120 rfl kR (aS rfl rS (aS rfl rI jN))).to (fun a=>⟨a.1,a.2.1⟩) (fun _=>rfl) (fun _ _=>trivial)
theorem aK2:Rd prog 33 1 (fun l:List pQ=>[.d (CG l)]) (fun l=>lim l.length∧∀a∈l,True):=
 kF underlying33 kR aOI dC aII (fun _=>rfl) (fun a j hj=>by match j,hj with|0,_|1,_=>rfl)
theorem aOE:Rd prog 182 3 (fun s:zF=>[.d (dS s.name),.d (dI s.due),.d (dI s.pen)]) (fun _=>True):=
 (fI underlying182 rfl kR (aS rfl rS (aS rfl rI (aS rfl rI jN)))).to (fun a=>⟨a.1,a.2.1,a.2.2.1⟩) (fun _=>rfl) (fun _ _=>trivial)
theorem aK0:Rd prog 34 1 (fun l:List zF=>[.d (RL l)]) (fun l=>lim l.length∧∀a∈l,True):=
 kF underlying34 kR aOE dC aH1 (fun _=>rfl) (fun a j hj=>by match j,hj with|0,_|1,_|2,_=>rfl)
theorem aOJ:Rd prog 63 6 (fun s:uF=>[.d (dS s.name),.d (dI s.OE),.d (dI s.base),.d (dI s.top),.d (b5 s.aV),.d (dI s.GZ)]) (fun s=>lim s.name.size):=
 (fI underlying63 rfl kR (aS rfl rS (aS rfl rI (aS rfl rI (aS rfl rI (aS rfl Ch.PL (aS rfl rI jN))))))).to (fun a=>⟨a.1,a.2.1,a.2.2.1,a.2.2.2.1,a.2.2.2.2.1,a.2.2.2.2.2.1⟩) (fun _=>rfl) (fun _ h=>h.1)
theorem aK3:Rd prog 35 1 (fun l:List uF=>[.d (q7 l)]) (fun l=>lim l.length∧∀a∈l,lim a.name.size):=
 kF underlying35 kR aOJ dC X0 (fun _=>rfl) (fun a j hj=>by match j,hj with|0,_|1,_|2,_|3,_|4,_|5,_=>rfl)
theorem aOP:Rd prog 122 3 (fun s:nM=>[.d (dS s.aN),.d (dI s.num),.d (dI s.den)]) (fun s=>lim s.aN.size):=
 (fI underlying122 rfl kR (aS rfl rS (aS rfl aGY jN))).to (fun a=>⟨a.1,a.2.1.1,a.2.1.2⟩) (fun _=>rfl) (fun _ h=>h.1)
theorem aK8:Rd prog 36 1 (fun l:List nM=>[.d (oY l)]) (fun l=>lim l.length∧∀a∈l,lim a.aN.size):=
 kF underlying36 kR aOP dC aNU (fun _=>rfl) (fun a j hj=>by match j,hj with|0,_|1,_|2,_=>rfl)
theorem aOM:Rd prog 32 2 (fun g:Ground=>[.d (kV g.bK),.d (pN g.cC)]) Ground.fits:=
 (fI underlying32 rfl kR (aS rfl aIB (aS rfl aK7 jN))).to (fun a=>⟨a.1,a.2.1⟩) (fun _=>rfl) (fun _ h=>⟨h.1.1,h.2.1.1,h.1.2,fun x hx=>(h.2.1.2 x hx).1,fun x hx=>(h.2.1.2 x hx).2⟩)
theorem aOL:Rd prog 24 6 (fun g:eZ=>[.d (dI g.x),.d (dI g.y),.d (dI g.side),.d (dI g.dO),.d (dI g.rows),.d (b5 g.levels)]) (fun g=>lim g.levels.length):=
 (fI underlying24 rfl kR (aS rfl rI (aS rfl rI (aS rfl rI (aS rfl rI (aS rfl rI (aS rfl Ch.PL jN))))))).to (fun a=>⟨a.1,a.2.1,a.2.2.1,a.2.2.2.1,a.2.2.2.2.1,a.2.2.2.2.2.1⟩) (fun _=>rfl) (fun _ h=>h.2.2.2.2.2.1.1)
theorem aON:Rd prog 28 5 (fun c:kE=>[.d (dS c.name),.d (x3 c.aZ),.d (dI c.over),.d (dI c.buffer),.d (zM c.regions)]) kE.ok:=
 (fI underlying28 rfl kR (aS rfl rS (aS rfl aOQ (aS rfl rI (aS rfl rI (aS rfl aK1 jN)))))).to (fun a=>⟨a.1,a.2.1,a.2.2.1,a.2.2.2.1,a.2.2.2.2.1⟩) (fun _=>rfl)
  (fun _ h=>⟨h.1,h.2.1.1,h.2.1.2,h.2.2.1,h.2.2.2.1,h.2.2.2.2.1.1,h.2.2.2.2.1.2⟩)
theorem aQF:RdA prog 38 oR Proj.okk:=
 VN (k:=20) underlying38 ((fI underlying38 rfl kR (aS rfl rS (aS rfl aOL (aS rfl aON (aS rfl aOM (aS rfl rI (aS rfl rI (aS rfl aK2 (aS rfl aK0 (aS rfl aK3 (aS rfl aK8 jN))))))))))).to
  (fun a=>(⟨a.1,a.2.1,a.2.2.1,a.2.2.2.1,a.2.2.2.2.1,a.2.2.2.2.2.1,a.2.2.2.2.2.2.1,a.2.2.2.2.2.2.2.1,a.2.2.2.2.2.2.2.2.1,a.2.2.2.2.2.2.2.2.2.1⟩:Proj)) (fun _=>rfl)
  (fun _ h=>⟨h.1,h.2.1,h.2.2.1,h.2.2.2.1,h.2.2.2.2.2.2.1.1,h.2.2.2.2.2.2.2.1.1,h.2.2.2.2.2.2.2.2.1.2,h.2.2.2.2.2.2.2.2.2.1.2⟩))
theorem aK6:Rd prog 66 13 (fun f:Fact=>[.d (dI f.kind),.d (dI f.seq),.d (dI f.a8),.d (dI f.month),.d (dI f.number),.d (dI f.aT),.d (dI f.over),.d (dI f.cls),.d (dI f.target),.d (dS f.aN),.d (dS f.dN),.d (dS f.eS),.d (b5 f.levels)]) Fact.fits:=
 (fI underlying66 rfl kR (aS rfl rI (aS rfl rI (aS rfl rI (aS rfl rI (aS rfl rI (aS rfl rI (aS rfl rI (aS rfl rI (aS rfl rI (aS rfl rS (aS rfl rS (aS rfl rS (aS rfl Ch.PL jN)))))))))))))).to
  (fun a=>(⟨a.1,a.2.1,a.2.2.1,a.2.2.2.1,a.2.2.2.2.1,a.2.2.2.2.2.1,a.2.2.2.2.2.2.1,a.2.2.2.2.2.2.2.1,a.2.2.2.2.2.2.2.2.1,a.2.2.2.2.2.2.2.2.2.1,a.2.2.2.2.2.2.2.2.2.2.1,a.2.2.2.2.2.2.2.2.2.2.2.1,a.2.2.2.2.2.2.2.2.2.2.2.2.1⟩:Fact)) (fun _=>rfl)
  (fun _ h=>⟨h.2.2.2.2.2.2.2.2.2.2.2.2.1.1,h.2.2.2.2.2.2.2.2.2.1,h.2.2.2.2.2.2.2.2.2.2.1,h.2.2.2.2.2.2.2.2.2.2.2.1⟩)
theorem aQH:Rd prog 39 1 (fun l:List Fact=>[.d (RN l)]) (fun l=>lim l.length∧∀a∈l,a.fits):=
 kF underlying39 kR aK6 dC J0 (fun _=>rfl) (fun a j hj=>by match j,hj with|0,_|1,_|2,_|3,_|4,_|5,_|6,_|7,_|8,_|9,_|10,_|11,_|12,_=>rfl)
end Go.Pj
set_option maxRecDepth 100000
set_option maxHeartbeats 1000000
namespace Go.Pj
open Go Go.Ax Go.Ch Go.Proofs Go.Proofs.Tryz
def eqF(a b:Fact):Bool:=
 a.kind==b.kind&&a.seq==b.seq&&a.a8==b.a8&&a.month==b.month&&a.number==b.number&&a.aT==b.aT&&a.over==b.over&&a.cls==b.cls&&a.target==b.target&&a.aN.toList==b.aN.toList&&a.dN.toList==b.dN.toList&&a.eS.toList==b.eS.toList
def yaf(a b:Fact):Bool:=a.levels==b.levels&&eqF a b
theorem yau(a:Fact):yaf a a=true:=by unfold yaf eqF;simp
theorem aBA(a b:Fact)(ha:a.fits):aF prog 28 [pX a,pX b] (vB (yaf a b)):=by
 refine eP func28 rfl rfl call28 rfl rfl fun cx aA=>aB (PL a.levels b.levels ha.levels) (aI (fun h=>?_) (fun h=>?_))
 ·have h:(a.levels==b.levels)=false:=by have h:(!(a.levels==b.levels))=true:=h;simpa using h
  exact aC.lit (by unfold yaf;rw[h];rfl)
 have h:(a.levels==b.levels)=true:=by have h:(!(a.levels==b.levels))=false:=h;simpa using h
 repeat refine aR ?_
 exact aC.of_eq (by unfold yaf;rw[h];rfl)
end Go.Pj
namespace Go.Ax
open Go.RowKit
theorem aM.yaM{cx:Cx}{N:Nat}{E:List (Nat×AV)}{B:aP}{e m s n:Nat}{f:Nat→Nat→DV}(t x:Nat)(aA:cx.ref=[])(hE:(E.all fun p=>YH (cR B) p.2)=true)(hB:(B.all fun p=>aO8 (cR B) p.2)=true)
  (hx:(cR B).contains x=false) (hm:0<m) (hn:n≤m):
  aM cx N ⟨(t,.s (.j0 x s 0 n))::E,(x,some (.row e m s f))::B⟩ ⟨(t,.s (.own x))::E,(x,some (.row e n s f))::B⟩:=by
 intro M β a w i
 have hxk:x∉cR B:=by simpa using hx
 have r:=i.env t
 have r:(AV.s (.j0 x s 0 n)).bI M β (a.tmps.getD t undef):=by
  have e1:fL ((t,AV.s (.j0 x s 0 n))::E) t=.s (.j0 x s 0 n):=by rw[gP,if_pos rfl]
  rw[←e1];exact r
 obtain⟨b,c,o,rJ,hv,ho,hl,hc⟩:=r
 obtain⟨b',c',cur,YR,h1,h2,h3,h4,h5,h6⟩:=i.box x (.row e m s f) (by show aH ((x,_)::B) x=_;rw[aL,if_pos rfl])
 rw[rJ]at YR
 cases YR
 have ho:o=0:=by rw[ho oM,Nat.zero_mul]
 subst ho
 let β':Nm:=fun y=>if y=x then some (b,(c.1,n))else β y
 have bx:β' x=some (b,(c.1,n)):=by simp[β']
 have bo:∀y,y≠x→β' y=β y:=fun y h=>by simp[β',h]
 have keep:∀y,y∈cR B→∀p,β y=some p→β' y=some p:=fun y hy p h=>by rw[bo y (fun e=>hxk (e▸hy))];exact h
 have back:∀y b1 c1,β' y=some (b1,c1)→∃c2,β y=some (b1,c2):=fun y b1 c1 h=>by
  by_cases hy:y=x
  ·subst hy;rw[bx]at h;cases h;exact⟨_,rJ⟩
  rw[bo y hy]at h;exact⟨_,h⟩
 have live:∀y bc,aH ((x,some (.row e n s f))::B) y=some (some bc)→∃bc',aH ((x,some (.row e m s f))::B) y=some (some bc'):=by
  intro y bc h;rw[aL]at h ⊢;by_cases hy:x=y
  ·rw[if_pos hy];exact⟨_,rfl⟩
  rw[if_neg hy]at h ⊢;exact⟨_,h⟩
 refine⟨β',i.defers,i.tmps,i.heap,?_,i.mem,?_,?_,?_,?_,?_,?_⟩
 ·intro u;show(fL ((t,_)::E) u).bI M β' _;rw[gP];by_cases hu:t=u
  ·subst hu;rw[if_pos rfl];exact⟨b,(c.1,n),bx,by rw[hv];simp,by simp only;omega⟩
  rw[if_neg hu];have hi:=i.env u;have hi:(fL E u).bI M β (a.tmps.getD u undef):=by
   have e1:fL ((t,AV.s (.j0 x s 0 n))::E) u=fL E u:=by rw[gP,if_neg hu]
   rw[←e1];exact hi
  rcases Q4 (E:=E) (u:=u)with h|⟨p,hp,h⟩
  ·rw[h];trivial
  rw[h]at hi ⊢;exact YH.mono keep (List.all_eq_true.1 hE p hp) hi
 ·intro y p h;show ∃y',aH ((x,_)::B) y=some y';rw[aL];by_cases hy:x=y
  ·rw[if_pos hy];exact⟨_,rfl⟩
  rw[if_neg hy];rw[bo y (fun e=>hy e.symm)]at h;obtain⟨z,hz⟩:=i.keys y p h;have hz:aH ((x,some (.row e m s f))::B) y=some z:=hz;rw[aL,if_neg hy]at hz;exact⟨z,hz⟩
 ·intro y bc h;have h:aH ((x,some (.row e n s f))::B) y=some (some bc):=h;rw[aL]at h;by_cases hy:x=y
  ·subst hy;rw[if_pos rfl]at h
   cases h
   exact⟨b,(c.1,n),cur,bx,h1,rfl,h3,by simp only;omega,h5,fun k j hk hj=>h6 k j oM hj⟩
  rw[if_neg hy]at h;have hr:=i.box y bc (by show aH ((x,_)::B) y=_;rw[aL,if_neg hy];exact h);have hm:=Q6 h;have:=List.all_eq_true.1 hB _ hm;exact SF.mono keep (aDO hm) this hr
 ·intro y y' D2 bx2 b1 c1 c2 e1 e2 g1 g2;obtain⟨_,e1⟩:=live _ _ e1;obtain⟨_,e2⟩:=live _ _ e2;obtain⟨_,g1⟩:=back _ _ _ g1;obtain⟨_,g2⟩:=back _ _ _ g2;exact i.inj y y' _ _ b1 _ _ e1 e2 g1 g2
 ·intro y D2 b1 c1 e1 g1;obtain⟨_,e1⟩:=live _ _ e1;obtain⟨_,g1⟩:=back _ _ _ g1;exact i.apart y _ b1 _ e1 g1
 ·intro y D2 b1 c1 e1 g1;obtain⟨_,e1⟩:=live _ _ e1;obtain⟨_,g1⟩:=back _ _ _ g1;exact i.low y _ b1 _ e1 g1
 ·intro y hy;rw[aA]at hy;cases hy
end Go.Ax
namespace Go.Pj
open Go Go.Ax Go.Ch Go.Proofs Go.Proofs.Tryz
theorem yaq(p:Proj)(l:List Fact)(hp:p.fits)(hf:∀f∈l,f.fits)(hl:l.length≤9223372036854775807)(he:iI p l=0):aF prog 7 [oR p,cJ l] (.t [.s (.d (RN (cntF l))),.s (.d (dI 0))]):=by
 have hk:=YW he;refine eP func7 rfl rfl call7 rfl rfl fun cx aA=>aB (IS p l hp hf hl) (aI (fun h=>?_) (fun _=>?_))
 ·have h:(iI p l !=0)=true:=h;rw[he]at h;cases h
 exact aB (aF8 l hf hk.fmt hk.len) (aC.refl _)
theorem yam(p:Proj)(l:List Fact)(hp:p.fits)(hf:∀f∈l,f.fits)(hl:l.length≤9223372036854775807)(he:iI p l≠0):aF prog 7 [oR p,cJ l] (.t [.s (.d (.val (.slice none 0 0))),.s (.d (dI (iI p l)))]):=by
 have h1:(iI p l !=0)=true:=by simpa using he
 exact eP func7 rfl rfl call7 rfl rfl fun cx aA=>aB (IS p l hp hf hl) (aI (fun _=>aC.refl _) (fun h=>Bool.noConfusion (h1.symm.trans h)))
theorem yaN(l:List Fact)(hf:∀f∈l,f.fits)(hl:l.length≤1000000):aF prog 10 [cJ l,cJ l] (vB true):=by
 refine eP func10 rfl rfl call10 rfl rfl fun cx aA=>aI (fun h=>?_) (fun _=>?_)
 ·have h:((l.length:Int) !=l.length)=true:=h;simp at h
 refine AW.cG (fun i:Nat=>⟨[(0,cJ l),(1,cJ l),(5,vI i)],[]⟩) (fun i=>i≤l.length) (fun i=>l.length - i) 0 (Nat.zero_le _) (aM.bD aA [] rfl trivial ⟨qZ,qZ,qZ,oO⟩) ?_;intro i hi;refine eX aA (aI (fun h=>?_) (fun h=>?_))
 ·have h:(i:Int)<l.length:=bG h;have bC:i<l.length:=oM;refine oi ⟨oM,oM⟩ ?_;repeat refine aR ?_
  refine oi ⟨oM,oM⟩ ?_;repeat refine aR ?_
  refine aB (aBA (l.getD i default) (l.getD i default) (hf _ (bP bC))) (aD ?_);refine aI (fun h2=>?_) (fun _=>?_)
  ·have h2:(!yaf (l.getD i default) (l.getD i default))=true:=h2;rw[yau]at h2;cases h2
  exact⟨i+1,oM,oM,aM.bD aA [] rfl trivial ⟨qZ,qZ,⟨rfl,aU.int (aG oM oM)⟩,oO⟩⟩
 have h:¬(i:Int)<l.length:=bF h;obtain rfl:i=l.length:=oM;exact aC.refl _
theorem yaJ(l:List bJ)(hl:l.length≤1000000):aF prog 12 [.s (.d (J4 l)),.s (.d (J4 l))] (vB true):=by
 refine eP func12 rfl rfl call12 rfl rfl fun cx aA=>aI (fun h=>?_) (fun _=>?_)
 ·have h:((l.length:Int) !=l.length)=true:=h;simp at h
 refine AW.cG (fun i:Nat=>⟨[(0,.s (.d (J4 l))),(1,.s (.d (J4 l))),(5,vI i)],[]⟩) (fun i=>i≤l.length) (fun i=>l.length - i) 0 (Nat.zero_le _) (aM.bD aA [] rfl trivial ⟨qZ,qZ,qZ,oO⟩) ?_;intro i hi;refine eX aA (aI (fun h=>?_) (fun h=>?_))
 ·have h:(i:Int)<l.length:=bG h;have bC:i<l.length:=oM;refine oi ⟨oM,oM⟩ ?_;repeat refine aR ?_
  refine oi ⟨oM,oM⟩ ?_;repeat refine aR ?_
  refine aD (aI (fun h2=>?_) (fun _=>?_))
  ·have h2:(!((bs (l.getD i [])).toList==(bs (l.getD i [])).toList))=true:=h2;simp at h2
  exact⟨i+1,oM,oM,aM.bD aA [] rfl trivial ⟨qZ,qZ,⟨rfl,aU.int (aG oM oM)⟩,oO⟩⟩
 have h:¬(i:Int)<l.length:=bF h;obtain rfl:i=l.length:=oM;exact aC.refl _
theorem yan(L:List OL)(n:Nat)(h:DOK L n)(hl:L.length≤1000000)(h0:0<L.length):bW prog 24 [.s (.mp 1001)] [(1001,.dm L n)] (.s (.own 100)) [(100,.row 9 (QC L).length 1 (uJ (QC L))),(1001,.dm L n)]:=by
 refine gJ func24 rfl rfl call24 aJ rfl rfl rfl rfl (fun cx aA=>?_);refine sX aA (sX aA ?_);refine AW.seq (sX aA ?_);refine AW.block ?_;refine AW.cG (fun vs:List OL=>⟨[(3,.s (.mo (vs.reverse.map kT).isEmpty 100)),(6,.s (.ptr 6 0))],[(1001,some (.dm L n)),(6,some (.iter 1001 n (vs.map (·.2.1)))),(100,some (.b8 9 (vs.reverse.map kT).length 1 (uJ (vs.reverse.map kT))))]⟩)
  (fun vs=>(vs.map (·.2.1)).Nodup∧∀v∈vs,v∈L) (fun vs=>L.length - vs.length) [] ⟨List.nodup_nil,fun _ h=>by cases h⟩ ?_ ?_
 ·exact aM.of [(100,1000)] (by rw[aA];rfl) rfl ⟨bQ,bQ,⟨rfl,rfl⟩,oO⟩ ⟨⟨rfl,aU.nil rfl⟩,qZ,oO⟩
 rintro vs ⟨hv,hs⟩;refine sX aA ⟨rfl,h.lt,fun lC=>?_,fun q hq hns=>?_⟩
 ·have hp:=all_seen h.nd hv hs lC;have he:hV (vs.reverse.map kT)=QC L:=XJ (((List.reverse_perm vs).trans hp).map kT);have hlen:(vs.reverse.map kT).length=L.length:=by simp[hp.length_eq]
  refine sX aA ?_;generalize hks:vs.reverse.map kT=ks at he hlen;have hz:ks.isEmpty=false:=by cases ks with
   |nil=>simp at hlen;omega
   |cons _ _=>rfl
  refine AW.gR (aM.own (z:=ks.isEmpty) (e:=9) (n:=ks.length) (s:=1) (f:=uJ ks) 3 100 rfl hz rfl) ?_;refine AW.gR (σ':=⟨[(3,.s (.own 100))],[(1001,some (.dm L n)),(100,some (.row 9 ks.length 1 (uJ ks)))]⟩) (aM.of [] (by rw[aA];rfl) rfl ⟨bQ,bQ,oO⟩ ⟨qZ,oO⟩) ?_;refine AW.seq (ex.sound (rc:=[59]) aJ mix aA _ ?_);refine⟨[(1001,100)],_,_,_,_,aNX ks (uJ ks) (fun _ _ _ _=>fun _ _ r=>r) oM,rfl,⟨rfl,oO⟩,rfl,?_⟩;refine eX aA ⟨aU.rfl,?_,rfl,oO⟩;show some (some (jK.row 9 ks.length 1 (uJ (hV ks))))=_;rw[he,show ks.length=(QC L).length by rw[←he,qF]]
 have fZ:vs.length<L.length:=by
  have h1:(q::vs).Nodup:=G6 (L:=q::vs) (List.nodup_cons.2 ⟨hns,hv⟩);have:=List.Nodup.length_le_of_subset h1 (fun x hx=>by
   rcases List.mem_cons.1 hx with rfl|hx
   ·exact hq
   exact hs x hx:q::vs⊆L)
  simp at this;omega
 refine sX aA (AW.block (sX aA ?_));refine⟨rfl,h.nd,q,hq,rfl,?_⟩;refine eX aA (ob dC ?_);refine ob (by rw[dK];show((vs.reverse.map kT).length+1)*16≤_;simp;omega) ?_;refine ob (nJ (AS rfl)) ?_;refine⟨q::vs,⟨List.nodup_cons.2 ⟨hns,hv⟩,fun x hx=>?_⟩,by show L.length - (vs.length+1)<L.length - vs.length;omega,?_⟩
 ·rcases List.mem_cons.1 hx with rfl|hx
  ·exact hq
  exact hs x hx
 have e:(q::vs).reverse.map kT=vs.reverse.map kT++ [kT q]:=sM;refine aM.of [(100,14)] (by rw[aA];rfl) rfl ⟨bQ,bQ,⟨rfl,?_⟩,oO⟩ ⟨⟨rfl,aU.mo ?_⟩,qZ,oO⟩
 ·show aY _ (.b8 9 ((q::vs).reverse.map kT).length 1 (uJ ((q::vs).reverse.map kT)));rw[e];exact aY.snoc (el:=fun n _=>dT n) (x:=kT q) (AS rfl)
 rw[e];exact cA _ _
abbrev yag:SV:=.dZ 25 [.ptr 1002 0]
abbrev yaa(L:List OL)(n:Nat):eV:=[(1002,.cells [.mp 1003]),(1003,.dm L n)]
abbrev txR(l:List bJ):Nat×jK:=(1001,.row 9 l.length 1 (uJ l))
def yae(L:List OL)(n:Nat)(p:bJ→Bool)(t:bJ):Prop:=bW prog 25 [vT t,.s (.ptr 1002 0)] (yaa L n) (vB (p t)) (yaa L n)
def yas(k:List bJ)(i j:Nat):DV:=if i<k.length then uJ k i j else .bL
theorem aKH(l:List bJ)(L:List OL)(n:Nat)(hl:l.length≤1000000)(p:bJ→Bool)(hc:∀t∈l,yae L n p t):
  bW prog 58 [.s (.own 1001),.s yag] (txR l::yaa L n) (vI (uW p l)) (txR l::yaa L n):=by
 refine gH (rc:=[25]) (N:=19) func58 rfl rfl call58 aJ mix rfl rfl rfl rfl (fun cx aA=>?_)
 refine AW.cG (fun i:Nat=>⟨[(0,.s (.own 1001)),(1,.s yag),(7,vI l.length),(8,vI i)],(1001,some (.row 9 l.length 1 (uJ l))):: [(1002,some (.cells [.mp 1003])),(1003,some (.dm L n))]⟩)
  (fun i=>i≤l.length∧∀k,k<i→p (l.getD k [])=false) (fun i=>l.length - i) 0 ⟨Nat.zero_le _,fun k hk=>by omega⟩ ?_ ?_
 ·exact aM.of [] (by rw[aA];rfl) rfl ⟨bQ,bQ,bQ,oO⟩ ⟨qZ,qZ,qZ,qZ,oO⟩
 ·rintro i ⟨hi,hj⟩;refine ex.sound (rc:=[25]) aJ mix aA _ (aI (fun h=>?_) (fun h=>?_))
  ·have h:(i:Int)<l.length:=bG h;refine oi ⟨oM,oM⟩ (oi (show i<l.length by omega) ?_);have hc:=hc _ (bP (l:=l) (i:=i) oM);refine⟨[],_,_,_,_,hc,rfl,⟨rfl,rfl,oO⟩,rfl,?_⟩;refine aI (fun g=>?_) (fun g=>?_)
   ·have g:p (l.getD i [])=true:=g;refine⟨aC.of_eq ?_,rfl,rfl,rfl,oO⟩;rw[aB7 oM hj g];rfl
   have g:p (l.getD i [])=false:=g;have ew:aW ((i:Int)+1)=((i+1:Nat):Int):=aG oM oM;refine⟨i+1,⟨oM,fun k hk=>?_⟩,oM,?_⟩
   ·rcases Nat.lt_or_ge k i with h1|h1
    ·exact hj k h1
    obtain rfl:k=i:=oM;exact g
   exact aM.of [] (by rw[aA];rfl) rfl ⟨bQ,bQ,bQ,oO⟩ ⟨qZ,qZ,qZ,⟨rfl,aU.int ew⟩,oO⟩
  have h:¬(i:Int)<l.length:=bF h;obtain rfl:i=l.length:=oM;refine⟨aC.of_eq ?_,rfl,rfl,rfl,oO⟩;rw[aB6 hj];rfl
theorem yaE(l:List bJ)(L:List OL)(n:Nat)(hl:l.length≤1000000)(p:bJ→Bool)(hc:∀t∈l,yae L n p t):
  bW prog 23 [.s (.own 1001),.s yag] (txR l::yaa L n) (.s (.j0 1001 1 0 (dM p l).length)) ((1001,.row 9 l.length 1 (yas (dM p l)))::yaa L n):=by
 have aCK:=aKH l L n hl p hc
 cases ha:l.any p with
 |false=>
  have e1:uW p l= -1:=by unfold uW;rw[ha];rfl
  have e2:=TJ ha;rw[e1]at aCK;rw[e2];refine bW.le (b1:=txR l::yaa L n) ?_ aU.rfl ⟨rfl,aY.row rfl fun i j hi hj=>aK.of_eq (by unfold yas;rw[if_pos hi]),rfl,aY.rfl,rfl,aY.rfl,oO⟩;refine gJ func23 rfl rfl call23 aJ rfl rfl rfl rfl (fun cx aA=>?_);refine sX aA (AW.seq (ex.sound (rc:=[58]) aJ mix aA _ ?_));refine⟨[],_,_,_,_,aCK,rfl,⟨rfl,rfl,rfl,oO⟩,rfl,?_⟩;refine AW.seq (sX aA ?_);refine AW.cond (aI (fun _=>?_) (fun g=>absurd g dC));refine sX aA (AW.gR (aM.FR (e:=9) (n:=l.length) (s:=1) (f:=uJ l) 4 1001 rfl rfl) ?_);exact eX aA ⟨aU.rfl,rfl,rfl,rfl,oO⟩
 |true=>
  have e1:uW p l=(cL p l:Nat):=by unfold uW;rw[ha];rfl
  obtain⟨TY,QW⟩:=V5 ha;rw[e1]at aCK;refine bW.le (b1:=(1001,.row 9 l.length 1 (fun i j=>if i<(dM p l).length then uJ (mB p l l.length) i j else .bL))::yaa L n) ?_ aU.rfl ⟨rfl,aY.row rfl fun i j hi hj=>aK.of_eq ?_,rfl,aY.rfl,rfl,aY.rfl,oO⟩;rotate_left
  ·show(if i<(dM p l).length then dT ((mB p l l.length).getD i [])else .bL)=if i<(dM p l).length then dT ((dM p l).getD i [])else .bL;split
   ·rename_i h;rw[wW (by rw[List.take_length];exact h),List.take_length]
   rfl
  refine gJ func23 rfl rfl call23 aJ rfl rfl rfl rfl (fun cx aA=>?_);refine sX aA (AW.seq (ex.sound (rc:=[58]) aJ mix aA _ ?_));refine⟨[],_,_,_,_,aCK,rfl,⟨rfl,rfl,rfl,oO⟩,rfl,?_⟩;refine AW.seq (sX aA ?_);refine AW.cond (aI (fun g=>?_) (fun _=>?_))
  ·have g:(((cL p l:Nat):Int)== -1)=true:=g;simp at g
  refine eX aA (AW.seq (sX aA ?_));refine AW.block ?_;refine AW.cG (fun j:Nat=>⟨[(0,.s (.own 1001)),(1,.s yag),(5,vI ((dM p (l.take j)).length:Nat)),(6,vI j)],(1001,some (.row 9 l.length 1 (uJ (mB p l j)))):: [(1002,some (.cells [.mp 1003])),(1003,some (.dm L n))]⟩)
   (fun j=>j≤l.length∧(dM p (l.take j)).length<j) (fun j=>l.length - j) (cL p l+1) ⟨oM,by rw[QW,List.length_take];omega⟩ ?_ ?_
  ·refine aM.of [] (by rw[aA];rfl) rfl ⟨⟨rfl,aY.row rfl fun i j hi hj=>aK.of_eq ?_⟩,bQ,bQ,oO⟩ ⟨qZ,qZ,⟨rfl,aU.int ?_⟩,⟨rfl,aU.int ?_⟩,oO⟩
   ·show dT (l.getD i [])=dT ((mB p l (cL p l+1)).getD i []);by_cases h1:i<cL p l
    ·rw[wW (by rw[QW,List.length_take];omega),QW];simp only [List.getD_eq_getElem?_getD,List.getElem?_take_of_lt h1]
    rw[A2 (by rw[QW,List.length_take];omega)]
   ·rw[QW,List.length_take];congr 1;omega
   exact aG oM oM
  rintro j ⟨hj,fZ⟩;refine sX aA (aI (fun h=>?_) (fun h=>?_))
  ·have h:(j:Int)<l.length:=bG h;have qR:j<l.length:=oM;have fN:=TI (p:=p) qR;have hLj:(mB p l j).getD j []=l.getD j []:=A2 oM;have ew:aW ((j:Int)+1)=((j+1:Nat):Int):=aG oM oM;have hc:yae L n p (l.getD j []):=hc _ (bP (l:=l) qR);refine ex.sound (rc:=[25]) aJ mix aA _ (oi ⟨oM,oM⟩ ?_);refine oi (show j<l.length by omega) ?_;refine⟨[],_,_,_,_,hc,by rw[←hLj];rfl,⟨rfl,rfl,oO⟩,rfl,?_⟩;refine aI (fun g=>?_) (fun g=>?_)
   ·have g:(!p (l.getD j []))=true:=g;have g:p (l.getD j [])=false:=by simpa using g
    rw[g]at fN;have hlen:(dM p (l.take (j+1))).length=(dM p (l.take j)).length+1:=by rw[fN];simp
    refine oi (show(0:Int)≤((dM p (l.take j)).length:Nat)∧(((dM p (l.take j)).length:Nat):Int)<l.length by omega) (ob (show(((dM p (l.take j)).length:Nat):Int).toNat<l.length by omega) ?_);refine⟨j+1,⟨oM,oM⟩,oM,?_⟩;refine aM.of [] (by rw[aA];rfl) rfl ⟨⟨rfl,aY.row rfl fun k c hk pV=>aK.of_eq ?_⟩,bQ,bQ,oO⟩ ⟨qZ,qZ,⟨rfl,aU.int ?_⟩,⟨rfl,aU.int ew⟩,oO⟩
    ·obtain rfl:c=0:=by have:c<1:=pV;omega
     show eT (uJ (mB p l j)) (((dM p (l.take j)).length:Nat):Int).toNat 0 [.d (dT ((mB p l j).getD j []))] k 0=dT ((mB p l (j+1)).getD k []);rw[hLj,Int.toNat_natCast];by_cases ON:k=(dM p (l.take j)).length
     ·subst ON;rw[oP,wW oM,fN];congr 1;simp
     rw[tG ON];show dT ((mB p l j).getD k [])=_;congr 1;by_cases TX:k<(dM p (l.take j)).length
     ·rw[wW TX,wW oM,fN];simp only [cond_false,List.getD_eq_getElem?_getD,List.getElem?_append_left TX]
     rw[A2 oM,A2 oM]
    rw[hlen];exact aG oM oM
   have g:(!p (l.getD j []))=false:=g;have g:p (l.getD j [])=true:=by simpa using g
   rw[g]at fN;have fN:dM p (l.take (j+1))=dM p (l.take j):=by rw[fN];simp
   refine⟨j+1,⟨oM,by rw[fN];omega⟩,oM,?_⟩;have e9:mB p l (j+1)=mB p l j:=by unfold mB;rw[fN]
   rw[e9,fN];exact aM.of [] (by rw[aA];rfl) rfl ⟨bQ,bQ,bQ,oO⟩ ⟨qZ,qZ,qZ,⟨rfl,aU.int ew⟩,oO⟩
  have h:¬(j:Int)<l.length:=bF h;obtain rfl:j=l.length:=oM;rw[List.take_length]at fZ ⊢;have hk9:(dM p l).length≤l.length:=oM;refine AW.gR (σ':=⟨[(0,.s (.own 1001)),(5,vI ((dM p l).length:Nat))],[(1001,some (.row 9 l.length 1 (uJ (mB p l l.length)))),(1002,some (.cells [.mp 1003])),(1003,some (.dm L n))]⟩) ?_ ?_
  ·exact aM.of [] (by rw[aA];rfl) rfl ⟨bQ,bQ,bQ,oO⟩ ⟨qZ,qZ,oO⟩
  refine AW.seq (AW.DH (bS.region (bM.ops (T:=tab) (rc:=[]) (ks:=[1001,1002,1003]) aJ 3 ?_ (fun x bc h=>p7 h) (fun x h=>by rw[aA]at h;exact h) ?_)))
  ·intro x hx;simp only [List.mem_cons,List.not_mem_nil,or_false]at hx;rcases hx with rfl|rfl|rfl <;> exact⟨_,rfl,rfl⟩
  refine oi (show(0:Int)≤((dM p l).length:Nat)∧(((dM p l).length:Nat):Int)≤l.length∧(l.length:Int)≤l.length by omega) (bM.op rfl (n9.clear (e:=9) (s:=1) (b:=1001) (f:=uJ (mB p l l.length)) (n:=l.length) (lo:=(dM p l).length) rfl rfl ?_ hk9 rfl underlying46 zeroValue9 rfl (fun v hv=>List.all_eq_true.1 (show _=true by rfl) v hv) (bM.nil ?_)))
  ·show AV.s (.j0 1001 1 (((dM p l).length:Nat):Int).toNat ((l.length:Int).toNat - (((dM p l).length:Nat):Int).toNat))=_;rw[Int.toNat_natCast,Int.toNat_natCast]
  refine eX aA (oi (show(0:Int)≤0∧(0:Int)≤((dM p l).length:Nat)∧(((dM p l).length:Nat):Int)≤l.length by omega) ?_);refine⟨aU.of_eq ?_,rfl,rfl,rfl,oO⟩;show AV.s (.j0 1001 1 (0:Int).toNat ((((dM p l).length:Nat):Int).toNat - (0:Int).toNat))=_;rw[Int.toNat_natCast];rfl
def yar(E:List gL)(k:bJ):Nat:=match fE E k 0 with
 |some q=>q.2.2.1.length
 |none=>0
def yab(E:List gL)(k:bJ):Bool:=decide ((yar E k:Int)<2)
def yah(l:List Fact):List bJ:=dM (yab (pT l)) (pS l)
theorem yaO{l:List Fact}{n:Nat}{t:bJ}(h:t∈pS l):yae (GI l) n (yab (pT l)) t:=by
 obtain⟨j,e,uZ,he⟩:=KO h;have hfd:findD (GI l) (bs t)=some (aDB e.2.1):=by show findD (NO (pT l)) (bs t)=_;rw[LM _ _ 0,uZ];rfl
 have hc:yab (pT l) t=decide ((e.2.1.length:Int)<2):=by unfold yab yar;rw[uZ]
 unfold yae;rw[hc];refine gH (rc:=[]) (N:=9) func25 rfl rfl call25 aJ mix rfl rfl rfl rfl (fun cx aA=>?_);refine fun r hr=>?_
 have hr:findD (GI l) (bs t)=r:=hr;rw[hfd]at hr;subst hr;exact⟨aC.refl _,rfl,rfl,oO⟩
theorem yaF(L:List OL)(n:Nat):bW prog 58 [.s (.d (J4 [])),.s yag] (yaa L n) (vI (-1)) (yaa L n):=by
 refine gH (rc:=[]) (N:=19) func58 rfl rfl call58 aJ mix rfl rfl rfl rfl (fun cx aA=>?_);refine AW.cG (fun _:Unit=>⟨[(0,.s (.d (J4 []))),(1,.s yag),(7,vI 0),(8,vI 0)],[(1002,some (.cells [.mp 1003])),(1003,some (.dm L n))]⟩) (fun _=>True) (fun _=>0) () trivial ?_ ?_
 ·exact aM.of [] (by rw[aA];rfl) rfl ⟨bQ,bQ,oO⟩ ⟨qZ,qZ,qZ,qZ,oO⟩
 rintro _ _;exact eX aA (aI (fun h=>absurd h dC) (fun _=>⟨aC.refl _,rfl,rfl,oO⟩))
theorem yay(L:List OL)(n:Nat):bW prog 23 [.s (.d (J4 [])),.s yag] (yaa L n) (.s (.d (J4 []))) (yaa L n):=by refine lH func23 rfl rfl call23 aJ rfl rfl rfl rfl (fun cx aA=>?_);refine sX aA (AW.seq (ex.sound (rc:=[58]) aJ mix aA _ ?_));refine⟨[],_,_,_,_,yaF L n,rfl,⟨rfl,rfl,oO⟩,rfl,?_⟩;refine AW.seq (sX aA ?_);refine AW.cond (aI (fun _=>?_) (fun g=>absurd g dC));exact eX aA ⟨aC.refl _,rfl,rfl,oO⟩
theorem yaB(l:List Fact):(GI l).length≤l.length:=by show(NO (pT l)).length≤_;unfold NO;rw[List.length_map];have:=AK l l.length;have:=List.length_filterMap_le (zQ (kL l l.length)) (fM l l.length);show(NP _ _).length≤_;unfold NP;omega
theorem yaj(p:Proj)(l:List Fact)(hp:p.fits)(hf:∀f∈l,f.fits)(hl:l.length≤9223372036854775807)(he:iI p l=0):aF prog 8 [oR p,cJ l] (.t [.s (.d (J4 (yah l))),.s (.d (dI 0))]):=by
 have hk:=YW he;have TW:=yaB l;have hlen:=hk.len;have ND:=OZ l;refine eW func8 rfl rfl call8 rfl rfl (fun cx aA=>?_);refine sX aA (sX aA ?_);refine aB (IS p l hp hf hl) (aI (fun h=>?_) (fun _=>?_))
 ·have h:(iI p l !=0)=true:=h;rw[he]at h;cases h
 refine AW.seq (ex.sound (rc:=[22]) aJ mix aA _ ?_);refine⟨[(99,600)],_,_,_,_,aAM l hf hk.fmt hk.len,rfl,trivial,rfl,?_⟩;have hcf:∀t∈pS l,yae (GI l) (fM l l.length).length (yab (pT l)) t:=fun t ht=>yaO ht
 have hkq:=aEH l;unfold yah;rcases Nat.eq_zero_or_pos (GI l).length with h0|h0
 ·have hs:=SX (GI l) _ (aEG l) oM;have hz:pS l=[]:=by rw[←hkq];unfold QC;rw[List.length_eq_zero_iff.1 h0];simp[hV]
  rw[hkq,hz]at hs;refine AW.seq (ex.sound (rc:=[24,23]) aJ mix aA _ ?_);refine⟨[(1001,600)],_,_,_,_,hs,rfl,⟨rfl,oO⟩,rfl,?_⟩;refine⟨[(1002,7),(1003,600)],_,_,_,_,yay (GI l) _,rfl,⟨rfl,rfl,oO⟩,rfl,?_⟩;refine eX aA ?_;rw[hz];exact aC.t ⟨aK.refl _,aK.refl _,oO⟩
 have hs:=yan (GI l) _ (aEG l) oM h0;have hd:=yaE (pS l) (GI l) (fM l l.length).length oM (yab (pT l)) hcf;rw[hkq]at hs;refine AW.seq (ex.sound (rc:=[24,23]) aJ mix aA _ ?_);refine⟨[(1001,600),(100,601)],_,_,_,_,hs,rfl,⟨rfl,oO⟩,rfl,?_⟩;refine⟨[(1001,601),(1002,7),(1003,600)],_,_,_,_,hd,rfl,⟨rfl,rfl,rfl,oO⟩,rfl,?_⟩;have lB:(dM (yab (pT l)) (pS l)).length≤(pS l).length:=List.length_filter_le _ _;have y1:0<(pS l).length:=by unfold pS;rw[qF,List.length_map];unfold GI NO at h0;rw[List.length_map]at h0;exact h0
 refine AW.gR (σ':=⟨[(4,.s (.j0 601 1 0 (dM (yab (pT l)) (pS l)).length)),(5,vI 0)],[(601,some (.row 9 (pS l).length 1 (yas (dM (yab (pT l)) (pS l)))))]⟩) (aM.bD aA [] rfl ⟨bQ,oO⟩ ⟨qZ,qZ,oO⟩) (AW.gR (aM.yaM 4 601 aA rfl rfl rfl y1 lB) ?_);exact eX aA (aC.t ⟨aK.wE rfl fun i j hi hj=>aK.of_eq (if_pos hi),aK.refl _,oO⟩)
theorem yai(p:Proj)(l:List Fact)(hp:p.fits)(hf:∀f∈l,f.fits)(hl:l.length≤9223372036854775807)(he:iI p l≠0):aF prog 8 [oR p,cJ l] (.t [.s (.d (.val (.slice none 0 0))),.s (.d (dI (iI p l)))]):=by
 have h1:(iI p l !=0)=true:=by simpa using he
 exact eP func8 rfl rfl call8 rfl rfl fun cx aA=>aB (IS p l hp hf hl) (aI (fun _=>aC.refl _) (fun h=>Bool.noConfusion (h1.symm.trans h)))
def ya(r:List Fact)(k:Nat):Bool:=(r.take k).any fun f=>dR f !=dR (r.getD 0 default)
theorem yaz{r:List Fact}{k:Nat}(h:k<r.length):ya r (k+1)=(ya r k||dR (r.getD k default) !=dR (r.getD 0 default)):=by unfold ya;rw[List.take_add_one,List.getElem?_eq_getElem h,List.any_append,aX h];simp
theorem yaH(r:List Fact):ya r 1=false:=by
 cases r with
 |nil=>rfl
 |cons a r=>unfold ya;simp
def rcG(l:List Fact)(o:List bJ)(k:bJ):List bJ:=bif ya (kO l k l.length) (kO l k l.length).length then GX o k else o
def rcC(l:List Fact)(i:Nat):List bJ:=((fV l l.length).take i).foldl (rcG l) []
theorem yal{l:List Fact}{i:Nat}(h:i<(fV l l.length).length):rcC l (i+1)=rcG l (rcC l i) ((fV l l.length).getD i []):=by unfold rcC;rw[List.take_add_one,List.getElem?_eq_getElem h,aX h,List.foldl_append];rfl
theorem yap(l:List Fact):∀i,i≤(fV l l.length).length→(rcC l i).length≤i
 |0,_=>Nat.le_refl 0
 |i+1,hi=>by
  have ih:=yap l i oM;rw[yal oM];unfold rcG;have:=aBD (rcC l i) ((fV l l.length).getD i [])
  cases ya (kO l ((fV l l.length).getD i []) l.length) (kO l ((fV l l.length).getD i []) l.length).length with
  |true=>simp only [cond_true];omega
  |false=>simp only [cond_false];omega
theorem yaw(l:List bJ)(s:bJ):GX (GX l s) s=GX l s:=by
 cases h:decide (lL s l<l.length)&&l.getD (lL s l) []==s with
 |true=>
  have e:GX l s=l:=by unfold GX;rw[h];rfl
  rw[e,e]
 |false=>
  have e:GX l s=l.take (lL s l)++s::l.drop (lL s l):=by unfold GX;rw[h];rfl
  have hle:=VS s l;have ht:(l.take (lL s l)).length=lL s l:=by rw[List.length_take];omega
  have hp:lL s (GX l s)=lL s l:=by
   rw[e];refine VT (by simp;omega) (fun k hk=>?_) fun _=>?_
   ·rw[List.getD_eq_getElem?_getD,List.getElem?_append_left oM];have TX:k<(l.take (lL s l)).length:=oM;rw[List.getElem?_eq_getElem TX];exact VR (List.getElem_mem TX)
   rw[List.getD_eq_getElem?_getD,List.getElem?_append_right oM,ht,Nat.sub_self];exact List.lt_irrefl s
  have hg:(GX l s).getD (lL s l) []=s:=by rw[e,List.getD_eq_getElem?_getD,List.getElem?_append_right oM,ht,Nat.sub_self];rfl
  have hl:lL s l<(GX l s).length:=by rw[e];simp;omega
  have key:GX (GX l s) s=bif decide (lL s (GX l s)<(GX l s).length)&&(GX l s).getD (lL s (GX l s)) []==s then GX l s else(GX l s).take (lL s (GX l s))++s::(GX l s).drop (lL s (GX l s)):=rfl;rw[key,hp,hg,decide_eq_true hl,beq_self_eq_true];rfl
abbrev cfS(l:List Fact)(i:Nat)(o:List bJ)(e:List (Nat×AV)):St:=⟨[(0,cJ l),(3,.s (.d (J4 o))),(4,.s (.d (J4 (fV l l.length)))),(5,vI i)]++e,[]⟩
theorem yat(l:List Fact)(hf:∀f∈l,f.fits)(hv:∀f∈l,f.levels.length≤1000000)(hl:l.length≤1000):aF prog 13 [cJ l] (.s (.d (J4 (rcC l (fV l l.length).length)))):=by
 have ND:=DL l l.length (Nat.le_refl _);refine eW func13 rfl rfl call13 rfl rfl (fun cx aA=>?_);refine sX aA (sX aA ?_);refine sX aA (aB (aK5 l hf hl) ?_);refine AW.seq (sX aA ?_);refine AW.block (AW.cG (fun i:Nat=>cfS l i (rcC l i) []) (fun i=>i≤(fV l l.length).length) (fun i=>(fV l l.length).length - i) 0 (Nat.zero_le _) (aM.bD aA [] rfl trivial ⟨qZ,⟨rfl,aU.d aK.nil⟩,qZ,qZ,oO⟩) ?_);intro i hi;have hlen:=yap l i hi;refine sX aA (aI (fun h=>?_) (fun h=>?_))
 ·have h:(i:Int)<(fV l l.length).length:=bG h;have bC:i<(fV l l.length).length:=oM;have ew:aW ((i:Int)+1)=((i+1:Nat):Int):=aG oM oM;have hs:=yal bC;obtain⟨key,hkk⟩:∃key,(fV l l.length).getD i []=key:=⟨_,rfl⟩;have hR:=aEW l key hf hl;have YJ:=GO l key l.length (Nat.le_refl _);have hrm:=GN (key:=key) (Nat.le_refl l.length);rw[hkk]at hs;unfold rcG at hs;generalize rcC l i=o at hs hlen;generalize kO l key l.length=r at hR YJ hrm hs;refine AW.seq (AW.block (sX aA ?_));refine oi ⟨oM,oM⟩ ?_;subst hkk;refine aB (hR) (sX aA ?_);refine AW.block (AW.cG (fun k:Nat=>cfS l i (bif ya r k then GX o ((fV l l.length).getD i [])else o) [(6,cJ r),(7,vI k)]) (fun k=>1≤k∧(k≤r.length∨k=1)) (fun k=>r.length - k) 1 ⟨Nat.le_refl 1,.inr rfl⟩ ?_ ?_)
  ·rw[yaH];exact aM.bD aA [] rfl trivial ⟨qZ,qZ,qZ,qZ,qZ,qZ,oO⟩
  rintro k ⟨hk1,TX⟩;refine sX aA (aI (fun h=>?_) (fun h=>?_))
  ·have h:(k:Int)<r.length:=bG h;have y5:k<r.length:=oM;have ewk:aW ((k:Int)+1)=((k+1:Nat):Int):=aG oM oM;have hd:=yaz y5;refine AW.seq (AW.block (sX aA ?_));refine oi ⟨oM,oM⟩ (aB (ED (r.getD k default) (hf _ (hrm _ (bP y5)))) ?_);refine sX aA (oi ⟨oM,oM⟩ ?_);refine aB (ED (r.getD 0 default) (hf _ (hrm _ (bP oM)))) (sX aA ?_);have e1:((bs (dR (r.getD k default))).toList !=(bs (dR (r.getD 0 default))).toList)=(dR (r.getD k default) !=dR (r.getD 0 default)):=by rw[bsL,bsL]
   refine AW.cond (aI (fun g=>?_) (fun g=>AW.skip ?_))
   ·have g:=e1.symm.trans g;rw[g,Bool.or_true]at hd;have hp:GX (bif ya r k then GX o ((fV l l.length).getD i [])else o) ((fV l l.length).getD i [])=GX o ((fV l l.length).getD i []):=by
     cases ya r k with
     |true=>exact yaw _ _
     |false=>rfl
    have hpl:=aBD o ((fV l l.length).getD i []);have qT:(bif ya r k then GX o ((fV l l.length).getD i [])else o).length≤100000:=by
     cases ya r k with
     |true=>simp only [cond_true];omega
     |false=>simp only [cond_false];omega
    refine eX aA (oi ⟨oM,oM⟩ ?_);refine aB (aOG (bif ya r k then GX o ((fV l l.length).getD i [])else o) ((fV l l.length).getD i []) qT) ?_;rw[hp];refine eX aA ⟨k+1,⟨oM,.inl oM⟩,oM,?_⟩;rw[hd];exact aM.bD aA [] rfl trivial ⟨qZ,qZ,qZ,qZ,qZ,⟨rfl,aU.int ewk⟩,oO⟩
   have g:=e1.symm.trans g;rw[g,Bool.or_false]at hd;refine eX aA ⟨k+1,⟨oM,.inl oM⟩,oM,?_⟩;rw[hd];exact aM.bD aA [] rfl trivial ⟨qZ,qZ,qZ,qZ,qZ,⟨rfl,aU.int ewk⟩,oO⟩
  have h:¬(k:Int)<r.length:=bF h;have e:ya r k=ya r r.length:=by unfold ya;rw[List.take_of_length_le oM,List.take_length]
  refine eX aA ⟨i+1,oM,oM,?_⟩;rw[hs,e];exact aM.bD aA [] rfl trivial ⟨qZ,qZ,qZ,⟨rfl,aU.int ew⟩,oO⟩
 have h:¬(i:Int)<(fV l l.length).length:=bF h;obtain rfl:i=(fV l l.length).length:=oM;exact sX aA (eX aA (aC.refl _))
theorem yak{s:bJ}:∀{l:List bJ},(∀x∈l,x<s)→lL s l=l.length
 |[],_=>rfl
 |x::l,h=>by rw[lL,decide_eq_true (h x (List.mem_cons_self ..)),cond_true,yak fun y hy=>h y (List.mem_cons_of_mem _ hy)];rfl
theorem yaA{s:bJ}{l:List bJ}(h:∀x∈l,x<s):GX l s=l++ [s]:=by unfold GX;rw[yak h,decide_eq_false (Nat.lt_irrefl _)];simp
theorem yac{q:bJ→Bool}:∀{ks o:List bJ},ks.Pairwise (fun a b=>a<b)→(∀x∈o,∀k∈ks,x<k)→ks.foldl (fun o k=>bif q k then GX o k else o) o=o++ks.filter q
 |[],o,_,_=>by simp
 |k::ks,o,hp,ho=>by
  obtain⟨h1,h2⟩:=List.pairwise_cons.1 hp;rw[List.foldl_cons]
  cases hq:q k with
  |true=>
   rw[cond_true,yaA fun x hx=>ho x hx k (List.mem_cons_self ..),yac h2 fun x hx y hy=>?_,List.filter_cons_of_pos hq,List.append_assoc]
   ·rfl
   rcases List.mem_append.1 hx with hx|hx
   ·exact ho x hx y (List.mem_cons_of_mem _ hy)
   rw[List.mem_singleton.1 hx];exact h1 y hy
  |false=>rw[cond_false,yac h2 fun x hx y hy=>ho x hx y (List.mem_cons_of_mem _ hy),List.filter_cons_of_neg (by simp[hq])]
theorem yao{l:List bJ}:∀{n:Nat},n≤l.length→∀i,i<n→l.getD i []∈zA l n
 |0,_,i,h=>by omega
 |n+1,hn,i,h=>by
  have ih:=yao (l:=l) (n:=n) oM;rw[q6];by_cases hi:i<n
  ·exact List.mem_append_left _ (ih i hi)
  obtain rfl:i=n:=oM
  cases hq:qd l i with
  |true=>exact List.mem_append_right _ (List.mem_singleton.2 rfl)
  |false=>
   refine List.mem_append_left _ ?_;unfold qd at hq
   cases i with
   |zero=>simp at hq
   |succ i=>
    have e:l.getD (i+1) []=l.getD i []:=by simpa using hq
    rw[e];exact ih i oM
theorem yaL{ts:List bJ}(h:ts≠[]):decide (((rG (hV ts)).length:Int)<2)= !ts.any (fun t=>t !=ts.getD 0 []):=by
 have h0:ts.getD 0 []∈ts:=bP (List.length_pos_iff.2 h);have jA:∀t∈ts,t∈rG (hV ts):=fun t ht=>by obtain⟨i,hi⟩:=List.getElem?_of_mem (O3.2 ht);obtain⟨hl,e⟩:=List.getElem?_eq_some_iff.1 hi;have:=yao (l:=hV ts) (Nat.le_refl _) i hl;rw[aX hl,e]at this;exact this
 rw[Bool.eq_iff_iff,decide_eq_true_eq,Bool.not_eq_true',List.any_eq_false];constructor
 ·intro fZ t ht;have hm:=jA t ht;have hm0:=jA _ h0;generalize rG (hV ts)=d at hm hm0 fZ
  match d,fZ with
  |[],_=>cases hm
  |[a],_=>rw[List.mem_singleton.1 hm,List.mem_singleton.1 hm0];simp
  |a::b::r,fZ=>simp at fZ;omega
 intro lC;have lC:∀t∈hV ts,t=ts.getD 0 []:=fun t ht=>by simpa using lC t (O3.1 ht)
 have key:∀n,n≤(hV ts).length→(zA (hV ts) n).length≤1:=fun n=>by
  induction n with
  |zero=>intro _;exact Nat.zero_le _
  |succ n ih=>
   intro hn;rw[q6,List.length_append];have ih:=ih oM
   cases n with
   |zero=>cases qd (hV ts) 0 <;> simp[zA]
   |succ n=>
    have e:qd (hV ts) (n+1)=false:=by have a1:(hV ts).getD (n+1) []=ts.getD 0 []:=lC _ (bP oM);have a2:(hV ts).getD n []=ts.getD 0 []:=lC _ (bP oM);unfold qd;rw[a1,show n+1 - 1=n from rfl,a2];simp
    rw[e];simpa using ih
 have:=key _ (Nat.le_refl _);show((zA (hV ts) (hV ts).length).length:Int)<2;omega
theorem yax{l:List Fact}(hv:∀f∈l,fR f=0){k:bJ}(h:k∈pS l):kO l k l.length≠[]∧yar (pT l) k=(rG (hV ((kO l k l.length).map dR))).length:=by
 obtain⟨j,e,uZ,he⟩:=KO h;have hk:=(xU uZ).2.2;obtain⟨x,hx,h1,_,h3,h4⟩:=A4 he;have htx:=(NV hv l.length (Nat.le_refl _)).1 x hx;have hkr:=QG hv x.1;have hp:e.2.1=rG (hV ((kO l x.1 l.length).map dR)):=by rw[h3];unfold rV;rw[htx,hkr]
 have hx1:x.1=k:=by rw[←h1];exact hk
 rw[hx1]at hp;refine⟨fun h0=>?_,by unfold yar;rw[uZ];exact congrArg List.length hp⟩;rw[h0]at hp;exact h4 (by rw[hp];show zA (hV []) (hV ([]:List bJ)).length=[];rw[qF];rfl)
theorem yaG(r:List Fact):ya r r.length=(r.map dR).any fun t=>t !=(r.map dR).getD 0 []:=by
 unfold ya;rw[List.take_length,List.any_map]
 cases r with
 |nil=>rfl
 |cons a r=>rfl
theorem yaK{l:List Fact}(hv:∀f∈l,fR f=0):rcC l (fV l l.length).length=yah l:=by
 have e:rcC l (fV l l.length).length=(fV l l.length).filter fun k=>ya (kO l k l.length) (kO l k l.length).length:=by unfold rcC;rw[List.take_length];exact(yac (o:=[]) (K5 l l.length (Nat.le_refl _)).1 (fun _ h=>by cases h)).trans (List.nil_append _)
 rw[e];unfold yah dM;rw[XF hv,List.filter_filter];refine List.filter_congr fun k hk=>?_
 cases hr:ME l k with
 |false=>
  have h0:kO l k l.length=[]:=Classical.byContradiction fun h=>by rw[PF.2 h]at hr;cases hr
  rw[h0,Bool.and_false];rfl
 |true=>obtain⟨h1,h2⟩:=yax hv (k:=k) (by rw[XF hv];exact List.mem_filter.2 ⟨hk,hr⟩);rw[Bool.and_true];unfold yab;rw[h2,yaL (by simpa using h1),Bool.not_not,yaG]
theorem yaI{l:List Fact}{n:Int}(h:HD l n=false):l.length≤n∧∀f∈l,f.levels.length≤1000000:=by unfold HD at h;rw[Bool.or_eq_false_iff]at h;have h1:=of_decide_eq_false h.1;refine⟨oM,fun f hf=>?_⟩;have:=List.any_eq_false.1 h.2 f hf;simp only [KX,Bool.or_eq_true,decide_eq_true_eq,not_or]at this;omega
theorem yav{l:List Fact}(hv:∀f∈l,fR f=0)(hf:∀f∈l,f.fits):∀f∈cntF l,f.fits:=by
 intro f h;obtain⟨_,_,_,g,hg,rfl,_⟩:=N4 hv h;have hw:=hf g hg;have z:(bs []).size≤9223372036854775807:=dC;refine⟨?_,?_,?_,?_⟩
 ·show(bif g.kind==0 then g.levels else []).length≤_
  cases g.kind==0
  ·exact Nat.zero_le _
  exact hw.levels
 ·show(bif g.kind==1 then g.aN else bs []).size≤_
  cases g.kind==1
  ·exact z
  exact hw.aN
 ·show(bif g.kind==1 then g.dN else bs []).size≤_
  cases g.kind==1
  ·exact z
  exact hw.dN
 show(bif fW g==0||fW g==1 then bs []else g.eS).size≤_
 cases fW g==0||fW g==1
 ·exact hw.eS
 exact z
theorem ProjectCounts(p:Proj)(l:List Fact)(hp:p.okk)(hf:∀f∈l,f.fits)(hl:l.length≤9223372036854775807):aF prog 3 [oR p,cJ l] (vB true):=by
 refine eW func3 rfl rfl call3 rfl rfl (fun cx aA=>?_);refine sX aA (AW.seq (sX aA ?_));refine aB (aI9 p) ?_;repeat refine aR ?_
 refine bR (aMW l 25 dC) ?_;repeat refine aR ?_
 refine AW.cond (aI (fun h=>eX aA (aB (aDP) (aC.refl _))) (fun h=>AW.skip ?_));have h:(vC p||HD l 25)=false:=h;rw[Bool.or_eq_false_iff]at h;have oW:=hp.fits h.1;obtain⟨hlen,aPJ⟩:=yaI h.2;have hE:=PM p l oW hf hl;by_cases he:iI p l=0
 ·have hk:=YW he;have hA:=yaq p l oW hf hl he;have hB:=yaj p l oW hf hl he;have hC:=aBC l hf aPJ oM;have hD:=yat l hf aPJ oM;rw[aJO hk.fmt]at hC;rw[yaK hk.fmt]at hD;rw[he]at hE;have vA:(cntF l).length≤l.length:=by unfold cntF;rw[List.length_map];exact OZ l
  have pV:(yah l).length≤l.length:=Nat.le_trans (List.length_filter_le _ _) (OZ l);have hS:=yaN (cntF l) (yav hk.fmt hf) oM;have hT:=yaJ (yah l) oM;refine sX aA (aB (hA) ?_);refine sX aA (aB (hB) ?_);refine sX aA (aB (hE) ?_);refine aI (fun h2=>by cases h2) (fun _=>?_);refine eX aA ?_;repeat refine aR ?_
  refine bR (hC) ?_;repeat refine aR ?_
  refine bR (hS) ?_;repeat refine aR ?_
  refine bR (hD) ?_;repeat refine aR ?_
  refine bR (hT) ?_;repeat refine aR ?_
  refine bR (aDP) ?_;repeat refine aR ?_
  refine aC.of_eq (congrArg (fun b=>vB b) ?_);simp
 have hd:(iI p l !=0)=true:=by simpa using he
 refine sX aA (aB (yam p l oW hf hl he) ?_);refine sX aA (aB (yai p l oW hf hl he) ?_);refine sX aA (aB (hE) ?_);refine aI (fun _=>?_) (fun h2=>Bool.noConfusion (hd.symm.trans h2));repeat refine aR ?_
 refine bR (aDP) ?_;repeat refine aR ?_
 refine aC.of_eq (congrArg (fun b=>vB b) ?_);simp;rfl
end Go.Pj
