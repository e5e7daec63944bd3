/- Part 9: lemmas that the proofs of this seat share; by itself it claims nothing. -/
import Derived.Test.YtfedmlbojaccdaaGreatDoorPt8
set_option maxRecDepth 100000
set_option maxHeartbeats 1000000
namespace Go.Pj
open Go Go.Ax Go.Ch Go.Proofs Go.Proofs.Tryz
theorem aGB{l:List Fact}(hv:∀f∈l,fR f=0):aBS (cntF l):=by
 intro f hf h0 x hx;obtain⟨_,_,_,g,hg,rfl,_⟩:=N4 hv hf;have h0:g.kind=0:=h0;obtain⟨_,h2⟩:=kN (hv g hg);have hb:=(oB h2 (by rw[h0];rfl)).1;have e:(jE g).levels=g.levels:=by unfold jE;simp only [h0,beq_self_eq_true,cond_true]
 rw[e]at hx;have:=List.any_eq_false.1 hb x hx;rcases yT (show iQ x=false by simpa using this)with h|h
 ·exact .inl h
 exact .inr h.2
theorem aBR{l:List Fact}(h:HD l 25=false):l.length≤25∧∀f∈l,f.levels.length≤1000000:=by unfold HD at h;rw[Bool.or_eq_false_iff]at h;have h1:=of_decide_eq_false h.1;refine⟨oM,fun f hf=>?_⟩;have:=List.any_eq_false.1 h.2 f hf;simp only [KX,Bool.or_eq_true,decide_eq_true_eq,not_or]at this;omega
def aMR:eZ:=⟨0,0,0,0,0,[]⟩
theorem aGW:aF prog 11 [.g (iB ty24.zero),.g (iB ty24.zero)] (vB true):=
 (Ch.aBA aMR (Nat.zero_le _)).conv ⟨⟨aK.refl _,aK.refl _,aK.refl _,aK.refl _,aK.refl _,aK.nil,oO⟩,⟨aK.refl _,aK.refl _,aK.refl _,aK.refl _,aK.refl _,aK.nil,oO⟩,oO⟩
theorem aEB(p:Proj)(l:List Fact)(m:Int)(hp:p.okk)(hf:∀f∈l,f.fits)(hl:l.length≤9223372036854775807):aF prog 3 [oR p,cJ l,vI m] (vB true):=by
 refine eW func3 rfl rfl call3 rfl rfl (fun cx aA=>?_)
 refine sX aA ?_
 refine AW.seq (sX aA ?_)
 refine aB (aI9 p) ?_
 repeat refine aR ?_
 refine bR (aMW l 25 dC) ?_
 repeat refine aR ?_
 refine AW.cond ?_
 refine aI (fun h=>?_) (fun h=>AW.skip ?_)
 ·refine eX aA ?_
  refine aB (aDP) ?_
  exact aC.refl _
 have h:(vC p||HD l 25)=false:=h
 rw[Bool.or_eq_false_iff]at h
 have oW:=hp.fits h.1
 obtain⟨hlen,aPJ⟩:=aBR h.2
 by_cases he:j6 p l m 0=0
 ·obtain⟨hk,hw⟩:=tL he
  have hwm:=within_iff.1 hw
  obtain⟨k,rfl⟩:∃k:Nat,m=k:=⟨m.toNat,oM⟩
  have hS:=x4 hk
  have SJ:=aGB hk.fmt
  have hC:=aBC l hf aPJ oM
  rw[aJO hk.fmt]at hC
  have hR:=KF p l k oW hf hl he
  have hL:=ZV p l k oW hf hl he
  have hE:=WH p l k 0 oW hf hl
  rw[he]at hE
  have hRR:=w8 p (cntF l) k hS SJ
  have hRL:=aEY p (cntF l) k hS SJ oM
  have hn:=hS.n.2
  have s1:aF prog 11 [.g (C3 p.aT (.d (b5 (fK p (cntF l) k p.aT.levels.length)))),.g (C3 p.aT (.d (b5 (fK p (cntF l) k p.aT.levels.length))))] (vB true):=
   Ch.aBA {p.aT with levels:=fK p (cntF l) k p.aT.levels.length} (by show(fK ..).length≤_;rw[BQ];omega)
  have s2:aF prog 11 [.g (C3 p.aT (.d (b5 (lE p (cntF l) k)))),rK (sK p (cntF l) k)] (vB true):=
   Ch.aBA (sK p (cntF l) k) (by show(lE ..).length≤_;rw[P0];omega)
  have wH:=DY p (cntF l) k p.aT.levels.length
  have TW:=BQ p (cntF l) k p.aT.levels.length
  generalize cntF l=fs at hC hR hL hRR hRL s1 s2 wH TW
  refine sX aA ?_
  refine aB (hR) ?_
  refine sX aA ?_
  refine aB (hL) ?_
  refine AW.seq (sX aA ?_)
  refine aB (hE) ?_
  refine sX aA ?_
  refine AW.cond ?_
  refine aI (fun h2=>by cases h2) (fun _=>AW.skip ?_)
  refine AW.seq (ex.sound (rc:=[1000012]) aJ mix aA _ ?_)
  refine aB (hC) ?_
  refine⟨[(600,900)],_,_,_,_,hRR,rfl,rfl,rfl,?_⟩
  refine aD ?_
  refine AW.XE (σ':=⟨[(1,cJ l),(2,vI k),(3,.s (.ptr 3 0)),(7,.s (.ptr 7 0)),(8,.s (.d (b5 (gY p fs k p.aT.levels.length)))),(9,vI 0),(10,.s (.ptr 10 0)),(11,vI 0),(13,.s (.ptr 13 0)),(14,.s (.d (b5 (gY p fs k p.aT.levels.length))))],[(3,some (.cells (qH p))),(7,some (.cells (C3 p.aT (.d (b5 (fK p fs k p.aT.levels.length)))))),(10,some (.cells (C3 p.aT (.d (b5 (lE p fs k)))))),(13,some (.cells (C3 p.aT (.d (b5 (fK p fs k p.aT.levels.length))))))]⟩) (pI.of aA [] [900] rfl rfl rfl ⟨⟨rfl,hI.rfl⟩,⟨rfl,hI.rfl⟩,⟨rfl,hI.rfl⟩,⟨rfl,hI.cells ⟨b7.rfl,b7.rfl,b7.rfl,b7.rfl,b7.rfl,(b7.own (List.mem_singleton.2 rfl) rfl).then (aU.d (aK.of_eq (by unfold b5;rw[TW]))),oO⟩⟩,oO⟩ ⟨⟨rfl,b7.rfl⟩,⟨rfl,b7.rfl⟩,⟨rfl,b7.rfl⟩,⟨rfl,b7.rfl⟩,⟨rfl,b7.rfl⟩,⟨rfl,b7.rfl⟩,⟨rfl,b7.rfl⟩,⟨rfl,b7.rfl⟩,⟨rfl,b7.rfl⟩,⟨rfl,b7.rfl⟩,oO⟩) ?_
  refine eX aA ?_
  repeat refine aR ?_
  refine bR (s1) ?_
  repeat refine aR ?_
  refine bR (PL (gY p fs k p.aT.levels.length) (gY p fs k p.aT.levels.length) oM) ?_
  repeat refine aR ?_
  refine bR (hC) ?_
  repeat refine aR ?_
  refine bR (hRL) ?_
  repeat refine aR ?_
  refine bR (s2) ?_
  repeat refine aR ?_
  refine bR (aDP) ?_
  repeat refine aR ?_
  refine aD ?_
  exact zd3
 ·have hd:(j6 p l m 0 !=0)=true:=by simpa using he
  refine sX aA ?_
  refine aB (I5 p l m oW hf hl he) ?_
  refine sX aA ?_
  refine aB (U1 p l m oW hf hl he) ?_
  refine AW.seq (sX aA ?_)
  refine aB (WH p l m 0 oW hf hl) ?_
  refine sX aA ?_
  refine AW.cond ?_
  refine aI (fun _=>?_) (fun h2=>Bool.noConfusion (hd.symm.trans h2))
  refine eX aA ?_
  refine aB (aGW) ?_
  repeat refine aR ?_
  refine bR (aGW) ?_
  repeat refine aR ?_
  refine bR (aDP) ?_
  repeat refine aR ?_
  exact zd3
abbrev lim(n:Nat):Prop:=n≤9223372036854775807
theorem aGY:Rd prog 115 2 (fun p:Int×Int=>[.d (dI p.1),.d (dI p.2)]) (fun _=>True):=
 (fI underlying115 rfl kR (aS rfl rI (aS rfl rI jN))).to (fun a=>(a.1,a.2.1)) (fun _=>rfl) (fun _ _=>trivial)
theorem aKZ:Rd prog 117 5 (fun s:lI=>[.d (dS s.name),.d (dI s.run),.d (dI s.aF5),.d (dI s.num),.d (dI s.den)]) (fun s=>lim s.name.size):=
 (fI underlying117 rfl kR (aS rfl rS (aS rfl rI (aS rfl rI (aS rfl aGY jN))))).to (fun a=>⟨a.1,a.2.1,a.2.2.1,a.2.2.2.1.1,a.2.2.2.1.2⟩) (fun _=>rfl) (fun _ h=>h.1)
theorem aIB:Rd prog 29 1 (fun l:List lI=>[.d (kV l)]) (fun l=>lim l.length∧∀a∈l,lim a.name.size):=
 kF underlying29 kR aKZ dC aGU (fun _=>rfl) (fun a j hj=>by match j,hj with|0,_|1,_|2,_|3,_|4,_=>rfl)
theorem aIC:Rd prog 119 2 (fun s:sC=>[.d (dI s.top),.d (dS s.aN)]) (fun _=>True):=
 (fI underlying119 rfl kR (aS rfl rI (aS rfl rS jN))).to (fun a=>⟨a.1,a.2.1⟩) (fun _=>rfl) (fun _ _=>trivial)
theorem aEZ:Rd prog 68 1 (fun l:List sC=>[.d (mN l)]) (fun l=>lim l.length∧∀a∈l,True):=
 kF underlying68 kR aIC dC aLM (fun _=>rfl) (fun a j hj=>by match j,hj with|0,_|1,_=>rfl)
theorem aOO:Rd prog 70 4 (fun s:fS=>[.d (dS s.name),.d (dI s.x),.d (dI s.y),.d (mN s.bB)]) (fun s=>lim s.name.size∧lim s.bB.length):=
 (fI underlying70 rfl kR (aS rfl rS (aS rfl rI (aS rfl rI (aS rfl aEZ jN))))).to (fun a=>⟨a.1,a.2.1,a.2.2.1,a.2.2.2.1⟩) (fun _=>rfl) (fun _ h=>⟨h.1,h.2.2.2.1.1⟩)
theorem aK7:Rd prog 30 1 (fun l:List fS=>[.d (pN l)]) (fun l=>lim l.length∧∀a∈l,lim a.name.size∧lim a.bB.length):=
 kF underlying30 kR aOO dC aNS (fun _=>rfl) (fun a j hj=>by match j,hj with|0,_|1,_|2,_|3,_=>rfl)
theorem aOI:Rd prog 121 2 (fun s:pQ=>[.d (dS s.aN),.d (dI s.vY)]) (fun _=>True):=
 (fI underlying121 rfl kR (aS rfl rS (aS rfl rI jN))).to (fun a=>⟨a.1,a.2.1⟩) (fun _=>rfl) (fun _ _=>trivial)
theorem aK2:Rd prog 33 1 (fun l:List pQ=>[.d (CG l)]) (fun l=>lim l.length∧∀a∈l,True):=
 kF underlying33 kR aOI dC aII (fun _=>rfl) (fun a j hj=>by match j,hj with|0,_|1,_=>rfl)
theorem aOE:Rd prog 166 3 (fun s:zF=>[.d (dS s.name),.d (dI s.due),.d (dI s.pen)]) (fun _=>True):=
 (fI underlying166 rfl kR (aS rfl rS (aS rfl rI (aS rfl rI jN)))).to (fun a=>⟨a.1,a.2.1,a.2.2.1⟩) (fun _=>rfl) (fun _ _=>trivial)
theorem aK0:Rd prog 34 1 (fun l:List zF=>[.d (RL l)]) (fun l=>lim l.length∧∀a∈l,True):=
 kF underlying34 kR aOE dC aH1 (fun _=>rfl) (fun a j hj=>by match j,hj with|0,_|1,_|2,_=>rfl)
theorem aOJ:Rd prog 72 6 (fun s:uF=>[.d (dS s.name),.d (dI s.OE),.d (dI s.base),.d (dI s.top),.d (b5 s.aV),.d (dI s.GZ)]) (fun s=>lim s.name.size):=
 (fI underlying72 rfl kR (aS rfl rS (aS rfl rI (aS rfl rI (aS rfl rI (aS rfl Ch.PL (aS rfl rI jN))))))).to (fun a=>⟨a.1,a.2.1,a.2.2.1,a.2.2.2.1,a.2.2.2.2.1,a.2.2.2.2.2.1⟩) (fun _=>rfl) (fun _ h=>h.1)
theorem aK3:Rd prog 35 1 (fun l:List uF=>[.d (q7 l)]) (fun l=>lim l.length∧∀a∈l,lim a.name.size):=
 kF underlying35 kR aOJ dC X0 (fun _=>rfl) (fun a j hj=>by match j,hj with|0,_|1,_|2,_|3,_|4,_|5,_=>rfl)
theorem aOP:Rd prog 123 3 (fun s:nM=>[.d (dS s.aN),.d (dI s.num),.d (dI s.den)]) (fun s=>lim s.aN.size):=
 (fI underlying123 rfl kR (aS rfl rS (aS rfl aGY jN))).to (fun a=>⟨a.1,a.2.1.1,a.2.1.2⟩) (fun _=>rfl) (fun _ h=>h.1)
theorem aK8:Rd prog 36 1 (fun l:List nM=>[.d (oY l)]) (fun l=>lim l.length∧∀a∈l,lim a.aN.size):=
 kF underlying36 kR aOP dC aNU (fun _=>rfl) (fun a j hj=>by match j,hj with|0,_|1,_|2,_=>rfl)
theorem aOM:Rd prog 32 2 (fun g:Ground=>[.d (kV g.bK),.d (pN g.cC)]) Ground.fits:=
 (fI underlying32 rfl kR (aS rfl aIB (aS rfl aK7 jN))).to (fun a=>⟨a.1,a.2.1⟩) (fun _=>rfl) (fun _ h=>⟨h.1.1,h.2.1.1,h.1.2,fun x hx=>(h.2.1.2 x hx).1,fun x hx=>(h.2.1.2 x hx).2⟩)
theorem aOL:Rd prog 24 6 (fun g:eZ=>[.d (dI g.x),.d (dI g.y),.d (dI g.side),.d (dI g.dO),.d (dI g.rows),.d (b5 g.levels)]) (fun g=>lim g.levels.length):=
 (fI underlying24 rfl kR (aS rfl rI (aS rfl rI (aS rfl rI (aS rfl rI (aS rfl rI (aS rfl Ch.PL jN))))))).to (fun a=>⟨a.1,a.2.1,a.2.2.1,a.2.2.2.1,a.2.2.2.2.1,a.2.2.2.2.2.1⟩) (fun _=>rfl) (fun _ h=>h.2.2.2.2.2.1.1)
theorem aON:Rd prog 28 5 (fun c:kE=>[.d (dS c.name),.d (x3 c.aZ),.d (dI c.over),.d (dI c.buffer),.d (zM c.regions)]) kE.ok:=
 (fI underlying28 rfl kR (aS rfl rS (aS rfl aOQ (aS rfl rI (aS rfl rI (aS rfl aK1 jN)))))).to (fun a=>⟨a.1,a.2.1,a.2.2.1,a.2.2.2.1,a.2.2.2.2.1⟩) (fun _=>rfl)
  (fun _ h=>⟨h.1,h.2.1.1,h.2.1.2,h.2.2.1,h.2.2.2.1,h.2.2.2.2.1.1,h.2.2.2.2.1.2⟩)
theorem aQF:RdA prog 38 oR Proj.okk:=
 VN (k:=20) underlying38 ((fI underlying38 rfl kR (aS rfl rS (aS rfl aOL (aS rfl aON (aS rfl aOM (aS rfl rI (aS rfl rI (aS rfl aK2 (aS rfl aK0 (aS rfl aK3 (aS rfl aK8 jN))))))))))).to
  (fun a=>(⟨a.1,a.2.1,a.2.2.1,a.2.2.2.1,a.2.2.2.2.1,a.2.2.2.2.2.1,a.2.2.2.2.2.2.1,a.2.2.2.2.2.2.2.1,a.2.2.2.2.2.2.2.2.1,a.2.2.2.2.2.2.2.2.2.1⟩:Proj)) (fun _=>rfl)
  (fun _ h=>⟨h.1,h.2.1,h.2.2.1,h.2.2.2.1,h.2.2.2.2.2.2.1.1,h.2.2.2.2.2.2.2.1.1,h.2.2.2.2.2.2.2.2.1.2,h.2.2.2.2.2.2.2.2.2.1.2⟩))
theorem aK6:Rd prog 59 13 (fun f:Fact=>[.d (dI f.kind),.d (dI f.seq),.d (dI f.a8),.d (dI f.month),.d (dI f.number),.d (dI f.aT),.d (dI f.over),.d (dI f.cls),.d (dI f.target),.d (dS f.aN),.d (dS f.dN),.d (dS f.eS),.d (b5 f.levels)]) Fact.fits:=
 (fI underlying59 rfl kR (aS rfl rI (aS rfl rI (aS rfl rI (aS rfl rI (aS rfl rI (aS rfl rI (aS rfl rI (aS rfl rI (aS rfl rI (aS rfl rS (aS rfl rS (aS rfl rS (aS rfl Ch.PL jN)))))))))))))).to
  (fun a=>(⟨a.1,a.2.1,a.2.2.1,a.2.2.2.1,a.2.2.2.2.1,a.2.2.2.2.2.1,a.2.2.2.2.2.2.1,a.2.2.2.2.2.2.2.1,a.2.2.2.2.2.2.2.2.1,a.2.2.2.2.2.2.2.2.2.1,a.2.2.2.2.2.2.2.2.2.2.1,a.2.2.2.2.2.2.2.2.2.2.2.1,a.2.2.2.2.2.2.2.2.2.2.2.2.1⟩:Fact)) (fun _=>rfl)
  (fun _ h=>⟨h.2.2.2.2.2.2.2.2.2.2.2.2.1.1,h.2.2.2.2.2.2.2.2.2.1,h.2.2.2.2.2.2.2.2.2.2.1,h.2.2.2.2.2.2.2.2.2.2.2.1⟩)
theorem aQG:RdA prog 59 pX Fact.fits:=VN (k:=13) underlying59 aK6
theorem aQH:Rd prog 39 1 (fun l:List Fact=>[.d (RN l)]) (fun l=>lim l.length∧∀a∈l,a.fits):=
 kF underlying39 kR aK6 dC J0 (fun _=>rfl) (fun a j hj=>by match j,hj with|0,_|1,_|2,_|3,_|4,_|5,_|6,_|7,_|8,_|9,_|10,_|11,_|12,_=>rfl)
end Go.Pj
