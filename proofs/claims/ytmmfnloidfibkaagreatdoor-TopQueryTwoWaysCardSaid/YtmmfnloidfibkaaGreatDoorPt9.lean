/- Part 9: lemmas that the proofs of this seat share; by itself it claims nothing. -/
import Derived.WideKeyEntry
import Derived.Test.YtmmfnloidfibkaaGreatDoorPt8
set_option maxRecDepth 100000
set_option maxHeartbeats 20000000
set_option linter.defProp false
namespace Go.Pj
open Go Go.Ax Go.Ch Go.Proofs Go.Proofs.Tryz
def aGB{l:List Fact}(hv:∀f∈l,fR f=0):kn (cntF l):=by
 intro f hf h0 x hx;obtain⟨_,_,_,g,hg,rfl,_⟩:=N4 hv hf;have h0:g.kind=0:=h0;obtain⟨_,h2⟩:=kN (hv g hg);have hb:=(oB h2 (by rw[h0];rfl)).1;have e:(jE g).levels=g.levels:=by unfold jE;simp only[h0,Ui,cond_true]
 rw[e]at hx;have:=Tg.1 hb x hx;rcases yT (show iQ x=false by simpa using this)with h|h
 ·exact .inl h
 exact .inr h.2
abbrev lim(n:Nat):Prop:=n<=9223372036854775807
def aGY:Rd prog 105 2 (λp:Int×Int=>[.d (dI p.1),.d (dI p.2)]) (λ_=>True):=
 (fI underlying105 rfl kR (aS rfl rI (aS rfl rI jN))).to (λa=>(a.1,a.2.1)) (λ_=>rfl) (λ_ _=>trivial)
def aKZ:Rd prog 107 5 (λs:lI=>[.d (dS s.name),.d (dI s.run),.d (dI s.Gp),.d (dI s.num),.d (dI s.den)]) (λs=>lim s.name.size):=
 (fI underlying107 rfl kR (aS rfl rS (aS rfl rI (aS rfl rI (aS rfl aGY jN))))).to (λa=>⟨a.1,a.2.1,a.2.2.1,a.2.2.2.1.1,a.2.2.2.1.2⟩) (λ_=>rfl) (λ_ h=>h.1)
def aIB:Rd prog 29 1 (λl:List lI=>[.d (kV l)]) (λl=>lim l.length/\∀a∈l,lim a.name.size):=
 kF underlying29 kR aKZ dC aGU (λ_=>rfl) (λa j hj=>by match j,hj with|0,_|1,_|2,_|3,_|4,_=>rfl)
def aIC:Rd prog 109 2 (λs:sC=>[.d (dI s.cb),.d (dS s.aN)]) (λ_=>True):=
 (fI underlying109 rfl kR (aS rfl rI (aS rfl rS jN))).to (λa=>⟨a.1,a.2.1⟩) (λ_=>rfl) (λ_ _=>trivial)
def aEZ:Rd prog 110 1 (λl:List sC=>[.d (mN l)]) (λl=>lim l.length/\∀a∈l,True):=
 kF underlying110 kR aIC dC aLM (λ_=>rfl) (λa j hj=>by match j,hj with|0,_|1,_=>rfl)
def aOO:Rd prog 112 4 (λs:fS=>[.d (dS s.name),.d (dI s.x),.d (dI s.y),.d (mN s.bB)]) (λs=>lim s.name.size/\lim s.bB.length):=
 (fI underlying112 rfl kR (aS rfl rS (aS rfl rI (aS rfl rI (aS rfl aEZ jN))))).to (λa=>⟨a.1,a.2.1,a.2.2.1,a.2.2.2.1⟩) (λ_=>rfl) (λ_ h=>⟨h.1,h.2.2.2.1.1⟩)
def aK7:Rd prog 30 1 (λl:List fS=>[.d (pN l)]) (λl=>lim l.length/\∀a∈l,lim a.name.size/\lim a.bB.length):=
 kF underlying30 kR aOO dC aNS (λ_=>rfl) (λa j hj=>by match j,hj with|0,_|1,_|2,_|3,_=>rfl)
def aOI:Rd prog 114 2 (λs:pQ=>[.d (dS s.aN),.d (dI s.vY)]) (λ_=>True):=
 (fI underlying114 rfl kR (aS rfl rS (aS rfl rI jN))).to (λa=>⟨a.1,a.2.1⟩) (λ_=>rfl) (λ_ _=>trivial)
def aK2:Rd prog 33 1 (λl:List pQ=>[.d (CG l)]) (λl=>lim l.length/\∀a∈l,True):=
 kF underlying33 kR aOI dC Vt (λ_=>rfl) (λa j hj=>by match j,hj with|0,_|1,_=>rfl)
def aOE:Rd prog 143 3 (λs:zF=>[.d (dS s.name),.d (dI s.due),.d (dI s.Cf)]) (λ_=>True):=
 (fI underlying143 rfl kR (aS rfl rS (aS rfl rI (aS rfl rI jN)))).to (λa=>⟨a.1,a.2.1,a.2.2.1⟩) (λ_=>rfl) (λ_ _=>trivial)
def aK0:Rd prog 34 1 (λl:List zF=>[.d (RL l)]) (λl=>lim l.length/\∀a∈l,True):=
 kF underlying34 kR aOE dC Rs (λ_=>rfl) (λa j hj=>by match j,hj with|0,_|1,_|2,_=>rfl)
def aOJ:Rd prog 116 6 (λs:uF=>[.d (dS s.name),.d (dI s.OE),.d (dI s.base),.d (dI s.cb),.d (b5 s.aV),.d (dI s.GZ)]) (λs=>lim s.name.size):=
 (fI underlying116 rfl kR (aS rfl rS (aS rfl rI (aS rfl rI (aS rfl rI (aS rfl Ch.PL (aS rfl rI jN))))))).to (λa=>⟨a.1,a.2.1,a.2.2.1,a.2.2.2.1,a.2.2.2.2.1,a.2.2.2.2.2.1⟩) (λ_=>rfl) (λ_ h=>h.1)
def aK3:Rd prog 35 1 (λl:List uF=>[.d (q7 l)]) (λl=>lim l.length/\∀a∈l,lim a.name.size):=
 kF underlying35 kR aOJ dC X0 (λ_=>rfl) (λa j hj=>by match j,hj with|0,_|1,_|2,_|3,_|4,_|5,_=>rfl)
def aOP:Rd prog 118 3 (λs:nM=>[.d (dS s.aN),.d (dI s.num),.d (dI s.den)]) (λs=>lim s.aN.size):=
 (fI underlying118 rfl kR (aS rfl rS (aS rfl aGY jN))).to (λa=>⟨a.1,a.2.1.1,a.2.1.2⟩) (λ_=>rfl) (λ_ h=>h.1)
def aK8:Rd prog 36 1 (λl:List nM=>[.d (oY l)]) (λl=>lim l.length/\∀a∈l,lim a.aN.size):=
 kF underlying36 kR aOP dC aNU (λ_=>rfl) (λa j hj=>by match j,hj with|0,_|1,_|2,_=>rfl)
def aOM:Rd prog 32 2 (λg:Ground=>[.d (kV g.bK),.d (pN g.cC)]) Ground.fits:=
 (fI underlying32 rfl kR (aS rfl aIB (aS rfl aK7 jN))).to (λa=>⟨a.1,a.2.1⟩) (λ_=>rfl) (λ_ h=>⟨h.1.1,h.2.1.1,h.1.2,λx hx=>(h.2.1.2 x hx).1,λx hx=>(h.2.1.2 x hx).2⟩)
def aOL:Rd prog 24 6 (λg:eZ=>[.d (dI g.x),.d (dI g.y),.d (dI g.side),.d (dI g.dO),.d (dI g.rows),.d (b5 g.levels)]) (λg=>lim g.levels.length):=
 (fI underlying24 rfl kR (aS rfl rI (aS rfl rI (aS rfl rI (aS rfl rI (aS rfl rI (aS rfl Ch.PL jN))))))).to (λa=>⟨a.1,a.2.1,a.2.2.1,a.2.2.2.1,a.2.2.2.2.1,a.2.2.2.2.2.1⟩) (λ_=>rfl) (λ_ h=>h.2.2.2.2.2.1.1)
def aON:Rd prog 28 5 (λc:kE=>[.d (dS c.name),.d (x3 c.aZ),.d (dI c.over),.d (dI c.buffer),.d (zM c.Ya)]) kE.ok:=
 (fI underlying28 rfl kR (aS rfl rS (aS rfl aOQ (aS rfl rI (aS rfl rI (aS rfl aK1 jN)))))).to (λa=>⟨a.1,a.2.1,a.2.2.1,a.2.2.2.1,a.2.2.2.2.1⟩) (λ_=>rfl)
  (λ_ h=>⟨h.1,h.2.1.1,h.2.1.2,h.2.2.1,h.2.2.2.1,h.2.2.2.2.1.1,h.2.2.2.2.1.2⟩)
def aQF:Au prog 38 oR Proj.Um:=
 VN (k:=20) underlying38 ((fI underlying38 rfl kR (aS rfl rS (aS rfl aOL (aS rfl aON (aS rfl aOM (aS rfl rI (aS rfl rI (aS rfl aK2 (aS rfl aK0 (aS rfl aK3 (aS rfl aK8 jN))))))))))).to
  (λa=>(⟨a.1,a.2.1,a.2.2.1,a.2.2.2.1,a.2.2.2.2.1,a.2.2.2.2.2.1,a.2.2.2.2.2.2.1,a.2.2.2.2.2.2.2.1,a.2.2.2.2.2.2.2.2.1,a.2.2.2.2.2.2.2.2.2.1⟩:Proj)) (λ_=>rfl)
  (λ_ h=>⟨h.1,h.2.1,h.2.2.1,h.2.2.2.1,h.2.2.2.2.2.2.1.1,h.2.2.2.2.2.2.2.1.1,h.2.2.2.2.2.2.2.2.1.2,h.2.2.2.2.2.2.2.2.2.1.2⟩))
def aK6:Rd prog 67 13 (λf:Fact=>[.d (dI f.kind),.d (dI f.seq),.d (dI f.a8),.d (dI f.month),.d (dI f.number),.d (dI f.aT),.d (dI f.over),.d (dI f.Jb),.d (dI f.target),.d (dS f.aN),.d (dS f.dN),.d (dS f.eS),.d (b5 f.levels)]) Fact.fits:=
 (fI underlying67 rfl kR (aS rfl rI (aS rfl rI (aS rfl rI (aS rfl rI (aS rfl rI (aS rfl rI (aS rfl rI (aS rfl rI (aS rfl rI (aS rfl rS (aS rfl rS (aS rfl rS (aS rfl Ch.PL jN)))))))))))))).to
  (λa=>(⟨a.1,a.2.1,a.2.2.1,a.2.2.2.1,a.2.2.2.2.1,a.2.2.2.2.2.1,a.2.2.2.2.2.2.1,a.2.2.2.2.2.2.2.1,a.2.2.2.2.2.2.2.2.1,a.2.2.2.2.2.2.2.2.2.1,a.2.2.2.2.2.2.2.2.2.2.1,a.2.2.2.2.2.2.2.2.2.2.2.1,a.2.2.2.2.2.2.2.2.2.2.2.2.1⟩:Fact)) (λ_=>rfl)
  (λ_ h=>⟨h.2.2.2.2.2.2.2.2.2.2.2.2.1.1,h.2.2.2.2.2.2.2.2.2.1,h.2.2.2.2.2.2.2.2.2.2.1,h.2.2.2.2.2.2.2.2.2.2.2.1⟩)
def aQH:Rd prog 39 1 (λl:List Fact=>[.d (RN l)]) (λl=>lim l.length/\∀a∈l,a.fits):=
 kF underlying39 kR aK6 dC J0 (λ_=>rfl) (λa j hj=>by match j,hj with|0,_|1,_|2,_|3,_|4,_|5,_|6,_|7,_|8,_|9,_|10,_|11,_|12,_=>rfl)
end Go.Pj
namespace Go.Ax
open Go.RowKit
section mono
variable{M M':Mem}{V V':Nm}(hM:Mem.le M M')(hβ:Nm.le V V')
include hM hβ
end mono
section rules
variable{P:Ba}{R:Cx}{N:Nat}{I:St}{K:Exit->St->Prop}
def AW.sub{c:Code}{I':St}(h:Sub R I I')(k:AW P R N c I' K):AW P R N c I K:=by intro M V a w i;obtain⟨V',i'⟩:=i.sub h;exact k M V' a w i'
end rules
section
variable{R:Cx}{N:Nat}{M F:Mem}{V:Nm}{I:St}{a:Act}{w:Aa}(i:Inv R N M V I a w)(hM:Mem.le M F)
  (hF:∀x bc b c,aH I.box x=some (some bc)->V x=some (b,c)->∀o u,w.cell? ⟨b,o,none⟩=some u->F b o=some u)
include i hM hF
end
section
variable{P:Ba}{I:St}{g:Da Bool}{K:AV->Prop}{o:Oper}
def ydU(P:Ba)(I:St)(g:Da Bool)(vf:AV)(args:List AV)(K:AV->Prop):Prop:=
 match vf with
 |.s (.dZ f cs)=>mV P I g f (args++wM cs) K
 |.s (.d (.dZ f k c))=>mV P I g f (args++jF c k 0) K
 |.s (.d (.Xg f k c))=>mV P I g f (.g (gD c k 0)::args) K
 |_=>False
def call.spec{fo:Ca}{args:Array Ca}{wR:Array Ea}(ho:o.op=.call {callee:=.value fo,args:=args,argTypes:=wR})
  (h:fe g (ev I fo) λvf=>dY g I args.toList λars=>ydU P I g vf ars K):
  ∃r,K r/\(act g->∀R N M V a w,Inv R N M V I a w->∃f vs,(execOp a.eval o).run P w=.ok (.enter f vs) w/\
   Calls P f vs w λe w'=>∃v M',e=.returned v/\r.bI M' V v/\Inv R N M' V I a w'/\Grow R.B M M'/\cE R w w'):=by
 replace h:=Db h
 obtain⟨vf,h,hf⟩:=h
 replace h:=lk h
 obtain⟨ars,h,has⟩:=h
 have key:=@call.key P I g K o fo args wR ho ars has
 unfold ydU at h
 split at h
 case h_4=>cases h
 ·rename_i f cs;refine key h λha R N M V a w i=>?_
  obtain⟨vs,e,hv⟩:=hf ha R N M V a w i;exact⟨vs,e,pk hv⟩
 ·rename_i f k c;refine key h λha R N M V a w i=>?_
  obtain⟨vs,e,hl,hv⟩:=hf ha R N M V a w i;exact⟨vs,e,by rw[<-hl];exact jF.rep (λi u hu=>by rw[Ec];exact hv i u hu)⟩
 ·rename_i f k c;refine Ds (pre:=[.g (gD c k 0)]) (extra:=[]) ho has (by rw[mh];exact h) λha R N M V a w i=>?_
  obtain⟨vs,e,hl,hv⟩:=hf ha R N M V a w i;exact⟨[.agg vs.toArray],[],e,⟨⟨vs,rfl,by rw[<-hl];exact gD.rep (λi u hu=>by rw[Ec];exact hv i u hu)⟩,trivial⟩,trivial⟩
end
section
variable{P:Ba}{T:List (Nat×bV)}{I I':St}{g:Da Bool}{K:AV->Prop}
def gM.congr{x:Da Ca}{K:Da Int->Prop}(he:W5 x.toList I I')(h:gM g I x K):gM g I' x K:=by
 cases x with
 |none=>exact h
 |some x=>simp only[gM]at*;rw[he x sM];exact h
end
def aK.trans{a b c:DV}(h:aK a b)(k:aK b c):aK a c:=λM u r=>k M u (h M u r)
def aC.trans{a b c:AV}(h:aC a b)(k:aC b c):aC a c:=λM u r=>k M u (h M u r)
def aM.trans{R:Cx}{N:Nat}{a b c:St}(h:aM R N a b)(k:aM R N b c):aM R N a c:=λM V x w i=>let⟨V',i'⟩:=h M V x w i;k M V' x w i'
def Pm{P:Ba}{b:Frame}{a:Act}{k:List Item}{cs:List Frame}{w:Aa}{c:Code}:step P (lone (b.atR a (.code (.scope c)::k)) cs w)=.next (lone (b.atR a (.code c::.inScope c::k)) cs w):=
 step_lone_go (by simp[stepG,stepG.exec,Frame.atR])
def yb1{P:Ba}{b:Frame}{a:Act}{k:List Item}{cs:List Frame}{w:Aa}{c:Code}:step P (lone (b.atR a (.inScope c::k)) cs w)=.next (lone (b.atR a k) cs w):=
 step_lone_go (by simp[stepG,stepG.exec,Frame.atR])
def ybE{P:Ba}{F:Fence}{n:Nat}{Q:Exit->Act->Aa->Prop}{a:Act}{w:Aa}{c:Code}(h:c.wpIn F n P (Exit.noGoto Q) a w):(Code.scope c).wpIn F n P Q a w:=by
 intro b k cs hro hb hr;have h0:(lone (b.atR a (.code (.scope c)::k)) cs w).fenced P F:=Tl hb hr rfl;obtain⟨e,a₁,w₁,hq,nI⟩:=h b (.inScope c::k) cs hro hb hr
 cases e with
 |normal=>exact⟨.normal,a₁,w₁,hq,.head h0 Pm (StepsIn.trans nI (.one (Tl hb hr rfl) yb1))⟩
 |exit id=>refine⟨.exit id,a₁,w₁,hq,.of_steps (.one h0 Pm) ⟨λk' hk=>nI.1 k' (by simp[exitTo,hk]),λC1 hk=>nI.2 C1 (by simp[exitTo,hk])⟩⟩
 |goto l=>exact hq.elim
 |ret=>exact⟨_,a₁,w₁,hq,.of_steps (.one h0 Pm) nI⟩
 |panic ch=>exact⟨_,a₁,w₁,hq,.of_steps (.one h0 Pm) nI⟩
 |outgrown=>exact⟨_,a₁,w₁,hq,.of_steps (.one h0 Pm) nI⟩
def yef(K:Exit->St->Prop):Exit->St->Prop
 |.goto _,_=>False
 |e,s=>K e s
def AW.scope{P:Ba}{R:Cx}{N:Nat}{I:St}{K:Exit->St->Prop}{c:Code}(h:AW P R N c I (yef K)):AW P R N (.scope c) I K:=by
 intro M V a w i;refine ybE (Dg (h M V a w i) ?_);rintro e a' w' ⟨s,M',V',k,r⟩
 cases e with
 |goto l=>exact k.elim
 |_=>exact⟨s,M',V',k,r⟩
def AW.label{P:Ba}{R:Cx}{N:Nat}{I:St}{K:Exit->St->Prop}{l:Nat}(h:K .normal I):AW P R N (.label l) I K:=λM V _ _ i=>wpIn_label ⟨I,M,V,h,i,fb _ _,lc _ _⟩
def aU.le{x y:AV}(h:En x y):aU x y:=λ_ _ _ r=>h.rep r
def b7.of{box:aP}{fz:List Nat}{x y:AV}(h:aU x y):b7 box fz x y:=λM V v _ r=>h M V v r
def b7.g{box:aP}{fz:List Nat}{l m:List SV}(h:SC box fz l m):b7 box fz (.g l) (.g m):=λ_ _ _ hf ⟨vs,e,r⟩=>⟨vs,e,h.rep hf r⟩
def hI.of{box:aP}{fz:List Nat}{b b':jK}(h:aY b b'):hI box fz b b':=λM V w x _ r=>h M V w x r
section
variable{P:Ba}{T:List (Nat×bV)}
def yX.rep{M:Mem}{V:Nm}{ts:List TV}{vs:List wa}(h:rF M V ts vs):(yX ts).bI M V (if h:vs.toArray.size=1 then vs.toArray[0]else .tuple vs.toArray):=by
 cases ts with
 |nil=>
  cases vs with
  |nil=>exact⟨[],rfl,trivial⟩
  |cons _ _=>exact h.elim
 |cons t r'=>
  cases vs with
  |nil=>exact h.elim
  |cons v F9=>
   cases r' with
   |nil=>
    cases F9 with
    |cons _ _=>exact h.2.elim
    |nil=>
     have:=h.1;simp only[Ln,Rb,xe,Ec,Er,yX]
     cases t with
     |s x=>exact this
     |g cs=>exact this
   |cons t2 r2=>
    cases F9 with
    |nil=>exact h.2.elim
    |cons v2 vs3=>have fJ:¬(v::v2::vs3).toArray.size=1:=sM;rw[Gr fJ];exact⟨_,rfl,h⟩
end
section
variable{P:Ba}{R:Cx}{N:Nat}{I:St}{H:Hid}{K:Exit->St->Hid->Prop}
def HSub.refl:HSub R N I H I H:=λM V _ _ i hi=>⟨M,V,i,hi,fb _ _⟩
def HSub.trans{da aa fa:St}{H1 H2 H3:Hid}(h:HSub R N da H1 aa H2)(k:HSub R N aa H2 fa H3):HSub R N da H1 fa H3:=λM V a w i hi=>
 let⟨M1,na,i1,OO,g1⟩:=h M V a w i hi
 let⟨M2,la,i2,hi2,g2⟩:=k M1 na a w i1 OO
 ⟨M2,la,i2,hi2,g1.trans g2⟩
def Ww:=@HSub.trans
end
section
variable{P:Ba}{T:List (Nat×bV)}{N:Nat}{rc:List Nat}{all:List Oper}{md:Region.Mode}{ft:List fY}
variable{R:Cx}{ref:List Nat}
def wQ.sound(hT:cD P T)(YK:∀f,rc.contains (f+2000000)=true->R.ref=[]){rl:List Nat}(J:R.ref=ref){last:Nat}{ol:Oper}(HW:all[last]? =some ol)(hg:ol.guard=none)
  {ca:St} {K:St->Prop} (qP:VW P T N ref rl ol ca K) {Q:Exit->Act->Aa->Prop}:∀(Ma:Nat) {listed:Array Bool} {I:St} {M:Mem} {V:Nm} {a:Act} {w:Aa},
  wQ P T N rc all md ft ca last Ma listed I->Inv R N M V I a w->(∀a' w',KG R N M w K a' w'->Q .normal a' w')->wpAnyIn (FW R.rd) 0 P md all.toArray Q Ma listed a w:=by
 intro Ma
 induction Ma with
 |zero=>intro listed I M V a w h;exact h.elim
 |succ Ma ih=>
  intro listed I M V a w h i hQ;refine⟨λh0=>absurd h0 h.1,λk hk=>?_⟩;rcases h.2 k hk with⟨ND,hr,heq⟩|⟨ND,o,e,f,ho,hf,gF,LD⟩
  ·subst ND;have sO:all.toArray[k]? =some ol:=by simpa using HW
   unfold wpOpIn;rw[sO];simp only;rw[La (by simp[Region.wanted,hg])];exact MQ (VW.nd qP) (Hf (λa' w' hp=>wpAny_done Ma hr (hQ a' w' hp)) (Vr hT qP J (i.eqv heq.symm)))
  have jO:=Zl (R:=R) (Q:=Q) hT YK (gF.pt (λe'=>e'=e) rfl) i;have sO:all.toArray[k]? =some o:=by simpa using ho
  have next:∀a' w',CT R N M w o I (λe'=>e'=e) a' w'->wpAnyIn (FW R.rd) 0 P md all.toArray Q Ma (listed.setIfInBounds k true) a' w':=by rintro a' w' ⟨e',M',V',rfl,hi,hg,lB⟩;exact ih LD hi λa2 w2 hp=>hQ a2 w2 (hp.trans hg lB)
  unfold wpOpIn;rw[sO];simp only;split
  ·rename_i hw;rw[La hw]at jO;exact MQ jO.1 (Hf next jO.2)
  rename_i hw;rw[Ka hw]at jO;exact⟨λ_ _=>trivial,next _ _ jO⟩
end
open Go.ChangeMaps (setBlock)
structure Ae where
 bm:Nat
 l:List MapEntry
 clock:Nat
 it:Da (Nat×List Nat)
def Ae.S(h:Ae)(k:Nat):Prop:=k=h.bm\/∃sn,h.it=some (k,sn)
structure Ae.F(h:Ae)(M:Mem)(w:Aa):Prop where
 map:w.heap[h.bm]? =some (.map h.l.toArray h.clock)
 iter:∀b sn,h.it=some (b,sn)->w.heap[b]? =some (.mapIter (some h.bm) h.clock sn.reverse.toArray h.clock)
def Fb(h:Ae):Hid where
 S:=h.S
 F:=h.F
 lt:=λM w hF k hk=>by
  rcases hk with rfl|⟨sn,hs⟩
  ·exact TU hF.map
  exact TU (hF.iter k sn hs)
 loc:=λM M' w w' hF hM hk=>⟨(hk _ (.inl rfl)).trans hF.map,λb sn hs=>(hk b (.inr ⟨sn,hs⟩)).trans (hF.iter b sn hs)⟩
section
variable{P:Ba}{R:Cx}{N:Nat}{I:St}{M:Mem}{V:Nm}{a:Act}{w:Aa}
def n9.il{d t:Nat}{o:Oper}{K:St->Hid->Prop}{H:Hid}(ho:o.op=.makeMap t none)(hd:o.dst=some d)(hN:d<N)
  (hK:∀bm,K ⟨(d,.s (.d (.val (.map (some bm)))))::I.env,I.box⟩ (Fb ⟨bm,[],0,none⟩)):n9 P R N o I H K:=by
 refine⟨λc hc=>(by rw[ho]at hc;cases hc),λM V a w i hi Q=>?_⟩
 have a7:(execOp a.eval o).run P w=.ok (.value (.map (some w.heap.size))) (w.alloc (.map #[] 0)):=by simp[execOp,ho,run_makeMap]
 unfold Oper.wp
 rw[a7,Wd,hd]
 obtain⟨i1,kp⟩:=i.Dp (.map #[] 0)
 obtain⟨t1,t2⟩:=i.cb
 have only:∀k,Ae.S ⟨w.heap.size,[],0,none⟩ k->k=w.heap.size:=by
  rintro k (h|⟨sn,hs⟩)
  ·exact h
  cases hs
 refine⟨_,M,V,_,hK w.heap.size,i1.put hN rfl,⟨⟨Ke w _,λb sn hs=>(by cases hs)⟩,λk hk=>?_,λk hk o=>?_,λx bx b c e1 e2 hs=>?_⟩,fb _ _,kp⟩
 ·rw[only k hk];exact i.heap.le
 ·rw[only k hk];exact t1 o
 ·exact t2 x bx b c e1 e2 (only b hs)
def n9.yeO{d t kt et:Nat}{x:Ca}{o:Oper}{h:Ae}{K:St->Hid->Prop}(ho:o.op=.range t x)(hd:o.dst=some d)(hN:d<N)
  (hx:ev I x=.s (.d (.val (.map (some h.bm))))) (ht:P.underlying t=some (.map kt et))
  (hK:∀bi,K ⟨(d,.s (.d (.val (.pointer (some ⟨bi,0,none⟩)))))::I.env,I.box⟩ (Fb {h with it:=some (bi,[])})):n9 P R N o I (Fb h) K:=by
 refine⟨λc hc=>(by rw[ho]at hc;cases hc),λM V a w i hi Q=>?_⟩
 have ex:a.eval x=.map (some h.bm):=by have:=Yb i x;rw[hx]at this;exact this
 have hF:h.F M w:=hi.holds
 have a7:(execOp a.eval o).run P w=.ok (.value (.pointer (some ⟨w.heap.size,0,none⟩))) (w.alloc (.mapIter (some h.bm) h.clock #[] h.clock)):=by simp[execOp,ho,ex,Bw w t kt et h.bm _ _ ht hF.map]
 unfold Oper.wp
 rw[a7,Wd,hd]
 obtain⟨i1,kp⟩:=i.Dp (.mapIter (some h.bm) h.clock #[] h.clock)
 obtain⟨t1,t2⟩:=i.cb
 have OO:=hi.alloc (ob:=.mapIter (some h.bm) h.clock #[] h.clock)
 have hF1:h.F M (w.alloc (.mapIter (some h.bm) h.clock #[] h.clock)):=OO.holds
 have fQ:∀k,Ae.S {h with it:=some (w.heap.size,[])} k->h.S k\/k=w.heap.size:=by
  rintro k (h|⟨sn,hs⟩)
  ·exact .inl (.inl h)
  cases hs;exact .inr rfl
 refine⟨_,M,V,_,hK w.heap.size,i1.put hN rfl,⟨⟨hF1.map,λb sn hs=>?_⟩,λk hk=>?_,λk hk o=>?_,λx bx b c e1 e2 hs=>?_⟩,fb _ _,kp⟩
 ·cases hs;exact Ke w _
 ·rcases fQ k hk with h|rfl
  ·exact hi.low k h
  exact i.heap.le
 ·rcases fQ k hk with h|rfl
  ·exact hi.apart k h o
  exact t1 o
 ·rcases fQ b hs with h|rfl
  ·exact hi.names x bx b c e1 e2 h
  exact t2 x bx _ c e1 e2 rfl
def Dx{d bi:Nat}{sn:List Nat}{x:Ca}{o:Oper}{h:Ae}{K:St->Hid->Prop}(ho:o.op=.next x false)(hd:o.dst=some d)(hN:d<N)
  (hx:ev I x=.s (.d (.val (.pointer (some ⟨bi,0,none⟩))))) (hit:h.it=some (bi,sn)) (hb:∀q∈h.l,q.born<h.clock)
  (hK0:(∀q∈h.l,q.born∈sn)->K ⟨(d,.t [.s (.d (.lit false))])::I.env,I.box⟩ (Fb h))
  (hK1:∀q∈h.l,q.born∉sn->K ⟨(d,.t [.s (.d (.lit true)),.s (.d .bL),.s (.d .bL)])::I.env,I.box⟩ (Fb {h with it:=some (bi,q.born::sn)})):n9 P R N o I (Fb h) K:=by
 refine⟨λc hc=>(by rw[ho]at hc;cases hc),λM V a w i hi Q=>?_⟩
 have ex:a.eval x=.pointer (some ⟨bi,0,none⟩):=by have:=Yb i x;rw[hx]at this;exact this
 have hF:h.F M w:=hi.holds
 have hh:=hF.iter bi sn hit
 have hSb:h.S bi:=.inr ⟨sn,hit⟩
 have hold:∀x∈h.l.toArray.toList,x.born<h.clock:=λx hx=>hb x (by simpa using hx)
 have kK:∀e',e'∈(leftOf h.l.toArray sn.reverse.toArray).toList↔e'∈h.l/\e'.born∉sn:=by intro e';unfold leftOf;simp
 unfold Oper.wp
 rcases Cr (P:=P) w o.type bi h.bm h.clock h.clock sn.reverse.toArray h.l.toArray h.clock hh hF.map hold (mb _)with⟨hz,a7⟩|⟨q,he,w1,V7,a7⟩
 ·have hr:(execOp a.eval o).run P w=.ok (.value (.tuple #[.bool false])) w:=by simp[execOp,ho,ex,a7]
  rw[hr,Wd,hd];refine⟨_,M,V,_,hK0 (λq hq=>?_),i.put hN ⟨[.bool false],rfl,rfl,trivial⟩,⟨hi.holds,hi.low,hi.apart,hi.names⟩,fb _ _,lc _ _⟩;refine Classical.byContradiction λhs=>?_
  have:=(kK _).2 ⟨hq,hs⟩;have TT:(leftOf h.l.toArray sn.reverse.toArray).toList=[]:=fh (by rw[Oh];exact hz);rw[TT]at this
  cases this
 ·obtain⟨hq,hs⟩:=(kK q).1 he;obtain⟨q1,q2,q3,q4⟩:=vK V7;have qO:sn.reverse.toArray.push q.born=(q.born::sn).reverse.toArray:=sM;have hr:(execOp a.eval o).run P w=.ok (.value (.tuple #[.bool true,q.key,q.val])) (setBlock w1 bi (.mapIter (some h.bm) h.clock (q.born::sn).reverse.toArray h.clock)):=by rw[<-qO];simp[execOp,ho,ex,a7]
  rw[hr,Wd,hd];have SI:(setBlock w1 bi (.mapIter (some h.bm) h.clock (q.born::sn).reverse.toArray h.clock)).heap.size=w.heap.size:=by rw[gC,q1]
  have sO:∀k',k'≠bi->(setBlock w1 bi (.mapIter (some h.bm) h.clock (q.born::sn).reverse.toArray h.clock)).heap[k']? =w.heap[k']? :=λk' y5=>by rw[fD _ _ _ y5,q1]
  have hat:=iS (w:=w1) (ob':=.mapIter (some h.bm) h.clock (q.born::sn).reverse.toArray h.clock) (by rw[q1];exact hh);have e1:(setBlock w1 bi (.mapIter (some h.bm) h.clock (q.born::sn).reverse.toArray h.clock)).os=w.os:=q2;have e2:(setBlock w1 bi (.mapIter (some h.bm) h.clock (q.born::sn).reverse.toArray h.clock)).tape=w.tape:=q3;have e3:(setBlock w1 bi (.mapIter (some h.bm) h.clock (q.born::sn).reverse.toArray h.clock)).output=w.output:=q4;have e4:Dr w (setBlock w1 bi (.mapIter (some h.bm) h.clock (q.born::sn).reverse.toArray h.clock)):=trivial;generalize setBlock w1 bi (.mapIter (some h.bm) h.clock (q.born::sn).reverse.toArray h.clock)=w' at*;have hbb:h.bm≠bi:=λe=>by rw[<-e,hF.map]at hh;cases hh
  have fQ:∀k,Ae.S {h with it:=some (bi,q.born::sn)} k->h.S k:=by
   rintro k (h1|⟨sn',h1⟩)
   ·exact .inl h1
   cases h1;exact hSb
  refine⟨_,M,V,_,hK1 q hq hs,(i.A1 hi hSb SI sO).put hN ⟨_,rfl,rfl,trivial,trivial,trivial⟩,⟨⟨(sO _ hbb).trans hF.map,λb sn' h1=>?_⟩,λk hk=>hi.low k (fQ k hk),λk hk=>hi.apart k (fQ k hk),λx bx b c e1 e2 h3=>hi.names x bx b c e1 e2 (fQ _ h3)⟩,fb _ _,nk hi hSb SI sO e1 e2 e3 e4⟩
  cases h1;exact hat
def dx{d bi:Nat}{sn:List Nat}{x:Ca}{o:Oper}{h:Ae}{q:MapEntry}{tk:TV}{K:St->Hid->Prop}(ho:o.op=.entry x)(hd:o.dst=some d)(hN:d<N)
  (hx:ev I x=.s (.d (.val (.pointer (some ⟨bi,0,none⟩))))) (hq:q∈h.l) (hit:h.it=some (bi,q.born::sn)) (hb:(h.l.map (·.born)).Nodup) (hr:∀M V,tk.bI M V q.key)
  (hK:K ⟨(d,.t [tk,.s (.d .bL)])::I.env,I.box⟩ (Fb h)):n9 P R N o I (Fb h) K:=by
 refine⟨λc hc=>(by rw[ho]at hc;cases hc),λM V a w i hi Q=>?_⟩
 have ex:a.eval x=.pointer (some ⟨bi,0,none⟩):=by have:=Yb i x;rw[hx]at this;exact this
 have hF:h.F M w:=hi.holds
 have hh:=hF.iter bi _ hit
 have qO:(q.born::sn).reverse.toArray=sn.reverse.toArray.push q.born:=sM
 rw[qO]at hh
 have a7:=yr (P:=P) w bi h.bm h.clock sn.reverse.toArray h.l.toArray h.clock q hh hF.map (by simpa using hq) (by simpa using hb)
 have hrn:(execOp a.eval o).run P w=.ok (.value (.tuple #[q.key,q.val])) w:=by simp[execOp,ho,ex,a7]
 unfold Oper.wp
 rw[hrn,Wd,hd]
 exact⟨_,M,V,_,hK,i.put hN ⟨[_,_],rfl,hr M V,trivial,trivial⟩,⟨hi.holds,hi.low,hi.apart,hi.names⟩,fb _ _,lc _ _⟩
end
open Go.RowKit Go.WideMaps
open Go.ChangeMaps (setBlock)
section
variable{P:Ba}{R:Cx}{N:Nat}{I:St}{M:Mem}{V:Nm}{a:Act}{w:Aa}{k e:Ea}{t:Nat}
def ycY{bm:Nat}{l:List MapEntry}{clock:Nat}(hb:w.heap[bm]? =some (.map l.toArray clock))(hn:(l.map (·.born)).Nodup){j:Nat}{q:MapEntry}(hj:l[j]? =some q)(v:wa):
  (Instr.entryStore t (.map (some bm)) (goInt q.born) v).run P w=.ok () (setBlock w bm (.map (l.modify j λe=>{e with val:=v}).toArray clock)):=by
 have h:=WideElems.findIdx_born hn hj
 simp[Instr.entryStore,MapKept.run_getObj_map hb,asInt,asIntOf,goInt,h,MapKept.run_setObj_map _ hb,setBlock]
end
open Go.RowKit
section
variable{P:Ba}{T:List (Nat×bV)}{N:Nat}{all:List Oper}{md:Region.Mode}{ft:List fY}
variable{m:Nat}{om:Oper}{em:Ef}{fm:fY}{C:St->Prop}(hm:Mid all om em fm C)
include hm
def KH.real{i:Nat}{o:Oper}{I:St}{e:Ef}{f:fY}(h:KH P T N all m om em fm C i o I e f):VM e:=by
 rcases h with⟨_,_,h⟩|⟨_,_,rfl,_,_⟩
 ·exact h
 exact hm.real
omit hm
include hm
omit hm
include hm
end
section
variable{P:Ba}{T:List (Nat×bV)}{N:Nat}{all:List Oper}{md:Region.Mode}{ft:List fY}
structure Uj where
 o:Oper
 e:Ef
 f:fY
 C:St->Prop
def pd(P:Ba)(T:List (Nat×bV))(N:Nat)(all:List Oper)(hs:Nat->Da Uj)(i:Nat)(o:Oper)(I:St)(e:Ef)(f:fY):Prop:=match hs i with
 |none=>FD P T N [] all o I e f/\VM e
 |some h=>o=h.o/\e=h.e/\f=h.f/\h.C I
variable{m:Nat}{hs:Nat->Da Uj}(hm:∀i h,hs i=some h->Mid all h.o h.e h.f h.C)
include hm
def pd.wr{i:Nat}{o:Oper}{I:St}{e:Ef}{f:fY}(h:pd P T N all hs i o I e f):e.2.map (·.1)=f.2:=by
 unfold pd at h;split at h
 ·exact h.1.wr
 rename_i q hq;obtain⟨_,rfl,rfl,_⟩:=h;exact(hm i q hq).wr
def pd.congr{i:Nat}{o:Oper}{I I':St}{e:Ef}{f:fY}(h:pd P T N all hs i o I e f)(ht:U6 all o I I')(hr:wS f.1 I I')(hw:∀x,x∈f.2->aH I'.box x=aH I.box x):pd P T N all hs i o I' e f:=by
 unfold pd at h⊢
 cases hq:hs i with
 |none=>rw[hq]at h;exact⟨h.1.congr ht hr hw,h.2⟩
 |some q=>rw[hq]at h;obtain⟨rfl,rfl,rfl,h⟩:=h;exact⟨rfl,rfl,rfl,(hm i q hq).congr _ _ h ht hw⟩
def pd.eqv{i:Nat}{o:Oper}{I I':St}{e:Ef}{f:fY}(h:pd P T N all hs i o I e f)(k:FP I I'):pd P T N all hs i o I' e f:=
 h.congr hm (λt _=>k.env t) (λx _=>k.box x) (λx _=>k.box x)
def pd.past{j:Nat}{oi oj:Oper}{ei ej:Ef}{fi fj:fY}{I:St}(hwi:ei.2.map (·.1)=fi.2)(C2:oi.apart all.toArray oj=true)(xO:iP fi fj=true)(h:pd P T N all hs j oj (eU oi ei I) ej fj):pd P T N all hs j oj I ej fj:=by obtain⟨h1,h2,h3⟩:=tj C2;obtain⟨k1,k2,k3⟩:=Vh xO;have ht:U6 all oj I (eU oi ei I):=Ck h1;exact h.congr hm (λt ER=>(ht t ER).symm) (λx hx=>(o0 (λhw=>k1 x (hwi▸hw) hx)).symm) (λx hx=>(o0 (λhw=>k2 x (hwi▸hw) hx)).symm)
def pd.over{i:Nat}{oi oj:Oper}{ei ej:Ef}{fi fj:fY}{I:St}(hwj:ej.2.map (·.1)=fj.2)(C2:oi.apart all.toArray oj=true)(xO:iP fi fj=true)(h:pd P T N all hs i oi I ei fi):pd P T N all hs i oi (eU oj ej I) ei fi:=by obtain⟨h1,h2,h3⟩:=tj C2;obtain⟨k1,k2,k3⟩:=Vh xO;exact h.congr hm (Ck h3) (λx hx=>o0 (λhw=>k3 x (hwj▸hw) hx)) (λx hx=>o0 (λhw=>k2 x hx (hwj▸hw)))
omit hm
def Te(P:Ba)(T:List (Nat×bV))(N:Nat)(all:List Oper)(hs:Nat->Da Uj)(m:Nat)(md:Region.Mode)(ft:List fY)(ca:St)(last:Nat):Nat->Array Bool->St->Prop
 |0,_,_=>False
 |Ma+1,listed,I=>
  Region.ready md all.toArray listed≠[]/\
  ∀i∈Region.ready md all.toArray listed,(i=last/\Region.ready md all.toArray (listed.setIfInBounds i true)=[]/\listed.getD m true=true/\FP ca I)\/
   (i≠last/\∃o e f,all[i]? =some o/\ft[i]? =some f/\pd P T N all hs i o I e f/\Te P T N all hs m md ft ca last Ma (listed.setIfInBounds i true) (eU o e I))
include hm
def Te.eqv{ca:St}{last:Nat}:∀(Ma:Nat) {listed:Array Bool} {I I':St},FP I I'->Te P T N all hs m md ft ca last Ma listed I->Te P T N all hs m md ft ca last Ma listed I'
 |0,_,_,_,_,h=>h
 |Ma+1,_,_,_,k,h=>⟨h.1,λi hi=>by
  rcases h.2 i hi with⟨h1,h2,h3,h4⟩|⟨h0,o,e,f,h1,h2,h3,h4⟩
  ·exact .inl ⟨h1,h2,h3,h4.trans k⟩
  exact .inr ⟨h0,o,e,f,h1,h2,h3.eqv hm k,Te.eqv Ma (Co k) h4⟩⟩
def Te.first{ca:St}{last:Nat}{i:Nat}{oi:Oper}{ei:Ef}{fi:fY}(hi:all[i]? =some oi)(hfi:ft[i]? =some fi)(hil:i≠last){d:Nat}(aCN:dep md all.toArray i d last=true):
  ∀(Ma:Nat) (listed:Array Bool) (I:St),
   (∀j oj fj,all[j]? =some oj->ft[j]? =some fj->j≠i->listed.getD j true=false->(∀n,dep md all.toArray i n j=false)->oi.apart all.toArray oj=true/\iP fi fj=true)->sZ md all listed->
   i∈Region.ready md all.toArray listed->pd P T N all hs i oi I ei fi->
   Te P T N all hs m md ft ca last Ma (listed.setIfInBounds i true) (eU oi ei I)->Te P T N all hs m md ft ca last (Ma+1) listed I:=by
 intro Ma
 induction Ma with
 |zero=>intro listed I _ _ hr hy H;exact H.elim
 |succ Ma ih=>
  intro listed I EV vA hr hy H;refine⟨λh=>(by rw[h]at hr;cases hr),λj hj=>?_⟩;by_cases y7:j=i
  ·subst y7;exact .inr ⟨hil,oi,ei,fi,hi,hfi,hy,H⟩
  obtain⟨QX,oj',aCI,lC⟩:=ph.1 hj;have ET:all[j]? =some oj':=by simpa using aCI
  have NB:∀n,dep md all.toArray i n j=false:=λn=>NW vA (NL (ph.1 hr).1) n j oj' ET lC
  have tC:j≠last:=λe=>by rw[e]at NB;rw[NB d]at aCN;cases aCN
  rcases H.2 j (Ej hj y7)with⟨h1,_,_⟩|⟨_,oj,ej,fj,TS,hfj,hyj,Hj⟩
  ·exact absurd h1 tC
  obtain rfl:oj=oj':=sc (TS.symm.trans ET);obtain⟨C2,xO⟩:=EV j oj fj TS hfj y7 QX NB;have aB8:pd P T N all hs j oj I ej fj:=pd.past hm (hy.wr hm) C2 xO hyj;have aB9:pd P T N all hs i oi (eU oj ej I) ei fi:=pd.over hm (hyj.wr hm) C2 xO hy;have HY:∀k ok fk,all[k]? =some ok->ft[k]? =some fk->k≠i->(listed.setIfInBounds j true).getD k true=false->
    (∀n,dep md all.toArray i n k=false)->oi.apart all.toArray ok=true/\iP fi fk=true:=λk ok fk hk oL ON V9 YN=>by
   refine EV k ok fk hk oL ON ?_ YN
   by_cases SL:j=k
   ·subst SL;exact QX
   ·rw[Sl true SL]at V9;exact V9
  refine .inr ⟨tC,oj,ej,fj,TS,hfj,aB8,ih (listed.setIfInBounds j true) (eU oj ej I) HY (vA.set TS lC) (Ej hr (Ne.symm y7)) aB9 ?_⟩;rw[Pv _ _ y7];refine Te.eqv hm Ma ?_ Hj;obtain⟨h1,h2,h3⟩:=tj C2;obtain⟨k1,k2,k3⟩:=Vh xO;exact(Hr (λd hd=>h2 d hd) (λx hx=>by rw[hy.wr hm]at hx;rw[hyj.wr hm];exact k2 x hx)).symm
omit hm
def Cv(P:Ba)(T:List (Nat×bV))(N:Nat)(all:List Oper)(hs:Nat->Da Uj):Nat->List Oper->St->List Ef->List fY->Prop
 |_,[],_,[],[]=>True
 |k,o::l,I,e::es,f::Y=>pd P T N all hs k o I e f/\Cv P T N all hs (k+1) l (eU o e I) es Y
 |_,_,_,_,_=>False
def Dm(md:Region.Mode)(ops:Array Oper)(ft:List fY)(last m:Nat):Nat->Nat->Array Bool->Bool
 |0,_,listed=>(match Region.ready md ops listed with|[i]=>Nat.beq i last|_=>false)&&(Region.ready md ops (listed.setIfInBounds last true)).isEmpty&&listed.getD m true
 |Ma+1,k,listed=>(Region.ready md ops listed).contains k&&B3 md ops ft listed k&&(!Nat.beq k last&&dep md ops k 8 last)&&Dm md ops ft last m Ma (k+1) (listed.setIfInBounds k true)
include hm
def Yw{last:Nat}:∀(l:List Oper) (k:Nat) (listed:Array Bool) (I:St) (es:List Ef) (Y:List fY),(∀j o,l[j]? =some o->all[k+j]? =some o)->(∀j,Y[j]? =ft[k+j]?)->
  sZ md all listed->Dm md all.toArray ft last m l.length k listed=true->Cv P T N all hs k l I es Y->Te P T N all hs m md ft (rD l I es) last (l.length+1) listed I
 |[],_,listed,_,[],[],_,_,_,hB,_=>by
  simp only[xe,Dm,Bool.and_eq_true]at hB;obtain⟨⟨h1,h2⟩,h3⟩:=hB
  cases hr:Region.ready md all.toArray listed with
  |nil=>rw[hr]at h1;cases h1
  |cons i t=>
   rw[hr]at h1
   cases t with
   |cons _ _=>cases h1
   |nil=>
    have hi:=Mb h1;subst hi;show Te P T N all hs m md ft _ i 1 listed _;refine⟨by rw[hr];simp,λj hj=>?_⟩;rw[hr]at hj;obtain rfl:j=i:=by simpa using hj
    exact .inl ⟨rfl,by simpa using h2,h3,Ho _⟩
 |o::l,k,listed,I,e::es,f::Y,hl,hf,vA,hB,⟨h1,h2⟩=>by
  have h0:all[k]? =some o:=hl 0 o rfl;have SO:ft[k]? =some f:=by simpa using(hf 0).symm
  simp only[Rb,Dm,Bool.and_eq_true,Qh]at hB;obtain⟨⟨⟨hr,hfr⟩,fJ,hdp⟩,hB'⟩:=hB;have C1:k∈Region.ready md all.toArray listed:=by simpa using hr
  have ND:k≠last:=λe=>by subst e;simp at fJ
  have lC:∀e∈o.after,Region.binds md e=true->listed.getD e.on false=true:=by
   obtain⟨_,o',sO,h⟩:=ph.1 C1;have:all[k]? =some o':=by simpa using sO
   rw[h0]at this;cases this
   exact h
  exact Te.first hm h0 SO ND hdp (l.length+1) listed I (io h0 SO hfr) vA C1 h1
   (Yw l (k+1) _ _ es Y (λj o' h=>by have:=hl (j+1) o' h;simpa[De,Wi 1 j]using this) (λj=>by have:=hf (j+1);simpa[De,Wi 1 j]using this) (vA.set h0 lC) hB' h2)
 |[],_,_,_,_::_,_,_,_,_,_,h=>by cases ‹List fY› <;> exact h.elim
 |[],_,_,_,[],_::_,_,_,_,_,h=>h.elim
 |_::_,_,_,_,[],_,_,_,_,_,h=>h.elim
 |_::_,_,_,_,_::_,[],_,_,_,_,h=>h.elim
omit hm
variable{R:Cx}{H0 H1:Hid}
def Te.sound(hm:∀i h,hs i=some h->Mid all h.o h.e h.f h.C)(hT:cD P T)(J:R.ref=[]){last:Nat}{ol:Oper}(HW:all[last]? =some ol)(hg:ol.guard=none)(hgm:∀i h,hs i=some h->h.o.guard=none)
  (aCC:∀i h,hs i=some h->∀I (b:Bool),(i=m->b=false)->h.C I->n9 P R N h.o I (bif b then H1 else H0) λs H'=>s=eU h.o h.e I/\H'=bif b||Nat.beq i m then H1 else H0) (hme:∃h,hs m=some h)
  {ca:St} {K:St->Hid->Prop} (qP:n9 P R N ol ca H1 K) {M0:Mem} {w0:Aa} {Q:Exit->Act->Aa->Prop} (hQ:∀a' w',yB R N M0 w0 K a' w'->Q .normal a' w'):
  ∀(Ma:Nat) {listed:Array Bool} {I:St} {M:Mem} {V:Nm} {a:Act} {w:Aa},
   Te P T N all hs m md ft ca last Ma listed I->Inv R N M V I a w->mH R M V I w (bif listed.getD m true then H1 else H0)->KV I->Grow R.B M0 M->cE R w0 w->
   wpAnyIn (FW R.rd) 0 P md all.toArray Q Ma listed a w:=by
 intro Ma
 induction Ma with
 |zero=>intro listed I M V a w h;exact h.elim
 |succ Ma ih=>
  intro listed I M V a w h i hi kJ g0 k0;refine⟨λh0=>absurd h0 h.1,λk hk=>?_⟩;rcases h.2 k hk with⟨ND,hr,hlm,heq⟩|⟨ND,o,e,f,ho,hf,gF,LD⟩
  ·subst ND;have sO:all.toArray[k]? =some ol:=by simpa using HW
   unfold wpOpIn;rw[sO];simp only;rw[La (by simp[Region.wanted,hg])];rw[hlm]at hi;have bC:mH R M V I w H1:=hi;have hi2:mH R M V ca w H1:=⟨bC.holds,bC.low,bC.apart,λx bc b c e1=>bC.names x bc b c (by rw[<-e1];exact heq.box x)⟩;exact MQ qP.1 (Hf (λa' w' hp=>wpAny_done Ma hr (hQ a' w' (hp.trans g0 k0))) (qP.2 M V a w (i.eqv heq.symm) hi2 Q))
  have sO:all.toArray[k]? =some o:=by simpa using ho
  have V9:=(ph.1 hk).1;unfold pd at gF
  cases hq:hs k with
  |none=>
   rw[hq]at gF;obtain⟨gF,WB⟩:=gF;have hkm:k≠m:=λe=>by obtain⟨h,hh⟩:=hme;rw[e,hh]at hq;cases hq
   have aPI:(listed.setIfInBounds k true).getD m true=listed.getD m true:=Sl true hkm;let ks:List Nat:=(I.box.map (·.1)).filter λx=>match aH I.box x with|some (some _)=>true|_=>false
   have l7:∀x,x∈ks->∃bc,aH I.box x=some (some bc):=by
    intro x hx;have h2:=(rf.1 hx).2
    cases hb:aH I.box x with
    |none=>rw[hb]at h2;cases h2
    |some y=>cases y with
     |none=>rw[hb]at h2;cases h2
     |some bc=>exact⟨bc,rfl⟩
   have lC:∀x bc,aH I.box x=some (some bc)->x∈ks:=λx bc hx=>rf.2 ⟨EY hx,by rw[hx]⟩
   have fJ:∀x,x∈ks->∃p,V x=some p:=λx hx=>by obtain⟨bc,h1⟩:=l7 x hx;obtain⟨b,c,e⟩:=(i.box x bc h1).Qj (kJ x bc h1);exact⟨_,e⟩
   have hrf:∀x,x∈R.ref->x∈ks:=λx hx=>by rw[J]at hx;cases hx
   have ii:=i.Mk (rd:=R.rd) l7 lC fJ i.defers;have jO:=Zl (R:=Jf w ks V R.rd R.df) (Q:=Q) hT (λf hf=>by cases hf) (gF.pt (λe'=>e'=e) rfl) ii;have next:∀a' w',CT (Jf w ks V R.rd R.df) N M w o I (λe'=>e'=e) a' w'->wpAnyIn (FW R.rd) 0 P md all.toArray Q Ma (listed.setIfInBounds k true) a' w':=by rintro a' w' ⟨e',M',V',rfl,i',g,kp⟩;refine ih LD (ck i l7 hrf i' (Gg i l7 kp) i'.defers i'.tmps i'.env) ?_ (kJ.app WB) (g0.trans (Fk i g)) (k0.trans (Gg i l7 kp));rw[aPI];exact hi.after l7 i' g kp
   unfold wpOpIn;rw[sO];simp only;split
   ·rename_i hw;rw[La hw]at jO;exact MQ jO.1 (Hf next jO.2)
   rename_i hw;rw[Ka hw]at jO;exact⟨λ_ _=>trivial,next _ _ jO⟩
  |some q=>
   rw[hq]at gF;obtain⟨rfl,rfl,rfl,hc⟩:=gF;have hl0:listed.getD k true=false:=V9;have fZ:k<listed.size:=by
    by_cases mL:k<listed.size
    ·exact mL
    simp[mL]at hl0
   have hl1:(listed.setIfInBounds k true).getD m true=(listed.getD m true||Nat.beq k m):=by
    by_cases hkm:k=m
    ·subst hkm;simp[fZ]
    rw[Sl true hkm,UU hkm,Zj]
   unfold wpOpIn;rw[sO];simp only;rw[La (by simp[Region.wanted,hgm k q hq])];have SH:=aCC k q hq I (listed.getD m true) (λe=>e▸hl0) hc;refine MQ SH.1 (Hf ?_ (SH.2 M V a w i hi Q));rintro a' w' ⟨I',M',V',H',⟨rfl,rfl⟩,i',hh,g,kp⟩;refine ih LD i' ?_ (kJ.app (hm k q hq).real) (g0.trans g) (k0.trans kp);rw[hl1];exact hh
def ci(P:Ba)(T:List (Nat×bV))(N:Nat)(all:List Oper)(hs:Nat->Da Uj):Nat->List Oper->St->List fY->(St->List fY->Prop)->Prop
 |_,[],I,Y,K=>K I Y.reverse
 |k,o::rest,I,Y,K=>match hs k with
  |some h=>o=h.o/\h.C I/\ci P T N all hs (k+1) rest (eU o h.e I) (h.f::Y) K
  |none=>a6 P T N [] all o I λe=>PH e=true/\ci P T N all hs (k+1) rest (eU o e I) (NN I o e::Y) K
def ci.chain:∀{l:List Oper} {k:Nat} {I:St} {Y:List fY} {K:St->List fY->Prop},ci P T N all hs k l I Y K->∃es gs,Cv P T N all hs k l I es gs/\es.length=l.length/\K (rD l I es) (Y.reverse++gs)
 |[],k,I,Y,K,h=>⟨[],[],trivial,rfl,by have h':K I Y.reverse:=h;simpa[rD]using h'⟩
 |o::rest,k,I,Y,K,h=>by
  unfold ci at h
  cases hq:hs k with
  |some q=>rw[hq]at h;obtain⟨ho,hc,h⟩:=h;obtain⟨es,gs,hch,hl,hK⟩:=ci.chain h;refine⟨q.e::es,q.f::gs,⟨by unfold pd;rw[hq];exact⟨ho,rfl,rfl,hc⟩,hch⟩,by simp[hl],?_⟩;simpa[rD]using hK
  |none=>rw[hq]at h;obtain⟨e,⟨WB,hk⟩,hp⟩:=a6.pt h;obtain⟨es,gs,hch,hl,hK⟩:=ci.chain hk;refine⟨e::es,NN I o e::gs,⟨by unfold pd;rw[hq];exact⟨⟨hp,rfl,rfl⟩,Ur WB⟩,hch⟩,by simp[hl],?_⟩;simpa[rD]using hK
def Wr:=@ci.chain
def bS.ydw{K:Exit->St->Hid->Prop}{id:Nat}{ops:Array Oper}{I:St}(hm:∀i h,hs i=some h->Mid ops.toList h.o h.e h.f h.C)(hT:cD P T)(J:R.ref=[])(hmx:P.follows .mixedOrders=true)(kJ:KV I)(last:Nat){ol:Oper}
  (HW:ops.toList[last]? =some ol) (mL:Nat.beq ops.toList.length (last+1)=true) (hml:m<last) (hg:ol.guard=none) (hgm:∀i h,hs i=some h->h.o.guard=none)
  (aCC:∀i h,hs i=some h->∀I (b:Bool),(i=m->b=false)->h.C I->n9 P R N h.o I (bif b then H1 else H0) λs H'=>s=eU h.o h.e I/\H'=bif b||Nat.beq i m then H1 else H0) (hme:∃h,hs m=some h)
  (h:ci P T N ops.toList hs 0 (ops.toList.take last) I [] λI' Y=>Dm .any ops.toList.toArray Y last m (ops.toList.take last).length 0 (Array.replicate ops.toList.length false)=true/\n9 P R N ol I' H1 (K .normal)):
  bS P R N (.region id ops true) I H0 K:=by
 obtain⟨es,gs,hc,_,hl,hK⟩:=Wr h
 intro M V a w i hi
 apply yw hmx
 have T5:=Yw (md:=.any) (ft:=gs) hm (ops.toList.take last) 0 (Array.replicate ops.toList.length false) I es gs (λj o h=>by rw[Ec];exact(Ue.1 h).elim λh1 h2=>by rw[By]at h2;rw[pf]at h1;rw[List.getElem?_eq_getElem O];exact Na some h2) sM (λm om _ h=>by simp[Qv]at h;split at h <;> simp_all) hl hc
 have OO:Inv R N M V I a {w with drawn:=w.drawn+1}:=
  ⟨i.defers,i.tmps,⟨i.heap.le,i.heap.tab⟩,i.env,i.mem,i.keys,i.box,i.inj,i.apart,i.low,i.ref⟩
 have hh1:mH R M V I {w with drawn:=w.drawn+1} H0:=⟨H0.loc M M w _ hi.holds (Xe M) λ_ _=>rfl,hi.low,hi.apart,hi.names⟩
 have kd:cE R w {w with drawn:=w.drawn+1}:=⟨rfl,rfl,rfl,mb _,λ_ _ _=>rfl,trivial⟩
 have hlen:ops.toList.length=last+1:=Mb mL
 have hm0:(Array.replicate ops.toList.length false).getD m true=false:=by have:m<ops.toList.length:=O;simp only[Array.getD,Array.size_replicate,this,Er];simp
 have:=Te.sound (R:=R) (Q:=λe a' w'=>yB R N M w (K e) a' w') (M0:=M) (w0:={w with drawn:=w.drawn+1}) hm hT J HW hg hgm aCC hme hK
  (λa2 w2 hp=>hp.trans (fb _ _) kd) _ T5 OO (by rw[hm0];exact hh1) kJ (fb _ _) (lc _ _)
 have aL6:(ops.toList.take last).length+1=ops.toList.length:=by rw[pf];omega
 rw[aL6]at this
 simpa using this
end
open Go.ChangeMaps (setBlock)
section
variable{P:Ba}{R:Cx}{N:Nat}{I:St}{M:Mem}{V:Nm}{a:Act}{w:Aa}{h:Ae}{K:St->Hid->Prop}{o:Oper}{x y z:Ca}{d t:Nat}
def Fs(i:Inv R N M V I a w)(hi:mH R M V I w (Fb h))(l:List MapEntry)(c:Nat)(hit:h.it=none):
  Inv R N M V I a (setBlock w h.bm (.map l.toArray c))/\mH R M V I (setBlock w h.bm (.map l.toArray c)) (Fb {h with l:=l,clock:=c})/\cE R w (setBlock w h.bm (.map l.toArray c)):=by
 have hF:h.F M w:=hi.holds
 have hS0:(Fb h).S h.bm:=.inl rfl
 obtain⟨w',hw⟩:∃w',setBlock w h.bm (.map l.toArray c)=w':=⟨_,rfl⟩
 have SI:w'.heap.size=w.heap.size:=by rw[<-hw,gC]
 have sO:∀k,k≠h.bm->w'.heap[k]? =w.heap[k]? :=λk hk=>by rw[<-hw,fD _ _ _ hk]
 have hat:w'.heap[h.bm]? =some (.map l.toArray c):=by rw[<-hw];exact iS hF.map
 have fQ:∀k,Ae.S {h with l:=l,clock:=c} k->h.S k:=λk hk=>hk
 have kp:=nk hi hS0 SI sO (by rw[<-hw];rfl) (by rw[<-hw];rfl) (by rw[<-hw];rfl) (by rw[<-hw];exact trivial)
 rw[hw]
 exact⟨i.A1 hi hS0 SI sO,⟨⟨hat,λb sn e=>(by have e:h.it=some (b,sn):=e;rw[hit]at e;cases e)⟩,λk hk=>hi.low k (fQ k hk),λk hk=>hi.apart k (fQ k hk),λy bx b c e1 e2 e3=>hi.names y bx b c e1 e2 (fQ b e3)⟩,kp⟩
def n9.xE{k v:wa}{av:SV}(ho:o.op=.lookup t x y false)(hd:o.dst=some d)(hN:d<N)(hx:ev I x=.s (.d (.val (.map (some h.bm)))))(hy:∀M V u,(ev I y).bI M V u->u=k)
  (hr:∀w:Aa,w.heap[h.bm]? =some (.map h.l.toArray h.clock)->(Instr.lookup t (.map (some h.bm)) k false).run P w=.ok v w) (hv:∀M V,(AV.s av).bI M V v) (hK:K ⟨(d,.s av)::I.env,I.box⟩ (Fb h)):n9 P R N o I (Fb h) K:=by
 refine⟨λc hc=>(by rw[ho]at hc;cases hc),λM V a w i hi Q=>?_⟩
 have ex:a.eval x=.map (some h.bm):=by have:=Yb i x;rw[hx]at this;exact this
 have ey:a.eval y=k:=hy _ _ _ (Yb i y)
 have hF:h.F M w:=hi.holds
 have a7:(execOp a.eval o).run P w=.ok (.value v) w:=by simp[execOp,ho,ex,ey,hr w hF.map]
 unfold Oper.wp
 rw[a7,Wd,hd]
 exact⟨_,M,V,_,hK,i.put hN (hv M V),⟨hi.holds,hi.low,hi.apart,hi.names⟩,fb _ _,lc _ _⟩
def n9.ydd{k v:wa}{c:Nat}{l:List MapEntry}(ho:o.op=.mapEntry t x y)(hd:o.dst=some d)(hN:d<N)(hx:ev I x=.s (.d (.val (.map (some h.bm)))))(hy:∀M V u,(ev I y).bI M V u->u=k)(hit:h.it=none)
  {n:Nat} (hr:∀w:Aa,w.heap[h.bm]? =some (.map h.l.toArray h.clock)->(Instr.mapEntry t (.map (some h.bm)) k).run P w=.ok (.tuple #[v,goInt n]) (setBlock w h.bm (.map l.toArray c)))
  (hK:K ⟨(d,.t [.s (.d .bL),.s (.d (.val (goInt n)))])::I.env,I.box⟩ (Fb {h with l:=l,clock:=c})):n9 P R N o I (Fb h) K:=by
 refine⟨λc hc=>(by rw[ho]at hc;cases hc),λM V a w i hi Q=>?_⟩
 have ex:a.eval x=.map (some h.bm):=by have:=Yb i x;rw[hx]at this;exact this
 have ey:a.eval y=k:=hy _ _ _ (Yb i y)
 have hF:h.F M w:=hi.holds
 have a7:(execOp a.eval o).run P w=.ok (.value (.tuple #[v,goInt n])) (setBlock w h.bm (.map l.toArray c)):=by simp[execOp,ho,ex,ey,hr w hF.map]
 obtain⟨i1,i2,kp⟩:=Fs i hi l c hit
 unfold Oper.wp
 rw[a7,Wd,hd]
 exact⟨_,M,V,_,hK,i1.put hN ⟨[_,_],rfl,trivial,rfl,trivial⟩,⟨i2.holds,i2.low,i2.apart,i2.names⟩,fb _ _,kp⟩
def n9.yco{v:wa}{n:Nat}{l:List MapEntry}(ho:o.op=.entryStore t x y z)(hd:o.dst=none)(hx:ev I x=.s (.d (.val (.map (some h.bm)))))(hy:ev I y=.s (.d (.val (goInt n))))(hz:∀M V u,(ev I z).bI M V u->u=v)(hit:h.it=none)
  (hr:∀w:Aa,w.heap[h.bm]? =some (.map h.l.toArray h.clock)->(Instr.entryStore t (.map (some h.bm)) (goInt n) v).run P w=.ok () (setBlock w h.bm (.map l.toArray h.clock)))
  (hK:K I (Fb {h with l:=l})):n9 P R N o I (Fb h) K:=by
 refine⟨λc hc=>(by rw[ho]at hc;cases hc),λM V a w i hi Q=>?_⟩
 have ex:a.eval x=.map (some h.bm):=by have:=Yb i x;rw[hx]at this;exact this
 have ey:a.eval y=goInt n:=by have:=Yb i y;rw[hy]at this;exact this
 have ez:a.eval z=v:=hz _ _ _ (Yb i z)
 have hF:h.F M w:=hi.holds
 have a7:(execOp a.eval o).run P w=.ok .skip (setBlock w h.bm (.map l.toArray h.clock)):=by simp[execOp,ho,ex,ey,ez,hr w hF.map]
 obtain⟨i1,i2,kp⟩:=Fs i hi l h.clock hit
 unfold Oper.wp
 rw[a7,yj,hd]
 exact⟨I,M,V,_,hK,i1,i2,fb _ _,kp⟩
def n9.yfo{k v:wa}{c:Nat}{l:List MapEntry}(ho:o.op=.mapUpdate t x y z)(hd:o.dst=none)(hx:ev I x=.s (.d (.val (.map (some h.bm)))))(hy:∀M V u,(ev I y).bI M V u->u=k)(hz:∀M V u,(ev I z).bI M V u->u=v)(hit:h.it=none)
  (hr:∀w:Aa,w.heap[h.bm]? =some (.map h.l.toArray h.clock)->(Instr.mapUpdate t (.map (some h.bm)) k v).run P w=.ok () (setBlock w h.bm (.map l.toArray c)))
  (hK:K I (Fb {h with l:=l,clock:=c})):n9 P R N o I (Fb h) K:=by
 refine⟨λc hc=>(by rw[ho]at hc;cases hc),λM V a w i hi Q=>?_⟩
 have ex:a.eval x=.map (some h.bm):=by have:=Yb i x;rw[hx]at this;exact this
 have ey:a.eval y=k:=hy _ _ _ (Yb i y)
 have ez:a.eval z=v:=hz _ _ _ (Yb i z)
 have hF:h.F M w:=hi.holds
 have a7:(execOp a.eval o).run P w=.ok .skip (setBlock w h.bm (.map l.toArray c)):=by simp[execOp,ho,ex,ey,ez,hr w hF.map]
 obtain⟨i1,i2,kp⟩:=Fs i hi l c hit
 unfold Oper.wp
 rw[a7,yj,hd]
 exact⟨I,M,V,_,hK,i1,i2,fb _ _,kp⟩
def n9.plain{T:List (Nat×bV)}{H:Hid}{ks rl:List Nat}(hT:cD P T)(jA:∀x,x∈ks->∃bc,aH I.box x=some (some bc)/\bc.real=true)(lC:∀x bc,aH I.box x=some (some bc)->x∈ks)(J:∀x,x∈R.ref->x∈ks)
  (h:VW P T N ks rl o I λI'=>K I' H):n9 P R N o I H K:=by
 refine⟨VW.nd h,λM V a w i hi Q=>?_⟩
 have l7:∀x,x∈ks->∃bc,aH I.box x=some (some bc):=λx hx=>let⟨bc,h1,_⟩:=jA x hx;⟨bc,h1⟩
 have fJ:∀x,x∈ks->∃p,V x=some p:=λx hx=>by obtain⟨bc,h1,h2⟩:=jA x hx;obtain⟨b,c,e⟩:=(i.box x bc h1).Qj h2;exact⟨_,e⟩
 have ii:=i.Mk (rd:=R.rd) l7 lC fJ i.defers
 refine Hf ?_ (Vr (R:=Jf w ks V R.rd R.df) (Q:=Q) hT h rfl ii)
 rintro a' w' ⟨I',M',V',hk,i',g,kp⟩
 exact⟨I',M',V',H,hk,ck i l7 J i' (Gg i l7 kp) i'.defers i'.tmps i'.env,hi.after l7 i' g kp,Fk i g,Gg i l7 kp⟩
def yee(K:Exit->St->Hid->Prop):Exit->St->Hid->Prop
 |.goto _,_,_=>False
 |e,s,H=>K e s H
def bS.scope{H:Hid}{K:Exit->St->Hid->Prop}{c:Code}(h:bS P R N c I H (yee K)):bS P R N (.scope c) I H K:=by
 intro M V a w i hi;refine ybE (Dg (h M V a w i hi) ?_);rintro e a' w' ⟨s,M',V',H',k,r⟩
 cases e with
 |goto l=>exact k.elim
 |_=>exact⟨s,M',V',H',k,r⟩
def bS.label{H:Hid}{K:Exit->St->Hid->Prop}{l:Nat}(h:K .normal I H):bS P R N (.label l) I H K:=λM V _ _ i hi=>wpIn_label ⟨I,M,V,H,h,i,hi,fb _ _,lc _ _⟩
end
def sh{b:Bool}{q:Prop}(h:q):Q3 (b=true) (some (rL true b))/\q:=⟨λh=>by simpa[rL]using h,h⟩
def yey{P:Ba}{f:FuncId}{args:List AV}{r:AV}{K:AV->Prop}{b:Bool}{X:Prop}(h:b=true->aF P f args r)(k:K r):(∃r,(b=true->aF P f args r)/\K r)\/X:=.inl ⟨r,h,k⟩
def CZ.of{P:Ba}{I:St}{f:FuncId}{ars:List AV}{r:AV}(ren:List (Nat×Nat)){args:List AV}{bx:eV}(h:bW P f args bx r bx)(he:ars=zG ren args)(hm:nO ren I.box bx)(hk:Eu ren args bx=true)(hf:B4 r=true)(hx:((names bx).all λx=>(dV (b9 I) ars).contains (look ren x))=true):CZ P I f ars r:=⟨ren,args,bx,h,he,hm,hk,hf,hx⟩
section
variable{α:Type} [Inhabited α] {s n e:Nat}{f g:Nat->Nat->DV}{el:α->Nat->DV}{l:List α}{x:α}
def iJ.b8(h:iJ s n f el l):aY (.row e n s f) (.b8 e l.length s (λi=>el (l.getD i default))):=
 aY.b8 h.1 λi j hi hj=>Wa (h.2 i j hi hj)
end
end Go.Ax
namespace Go.Ch
open Go Go.Ax Go.Proofs Go.Proofs.Tryz
def ycZ{a b:Pt}(ha:fB a=true)(hb:fB b=true):0<=span a b/\span a b<=3000000:=by have h:=KQ ha hb;obtain⟨h1,h2,h3⟩:=AL ha hb hb;exact⟨h.1,h.le O O⟩
def Cl(l:List F8)(r:Int×Bool):Prop:=(r=(0,false)/\∀x∈l,(TG x).2=false)\/(r.2=true/\(∃x∈l,TG x=r)/\∀x∈l,(TG x).2=true->r.1<=(TG x).1)
def Cl.step{l:List F8}{r:Int×Bool}(h:Cl l r)(x:F8):Cl (l++ [x]) (OX r x):=by
 unfold OX;rcases h with⟨rfl,h⟩|⟨h1,⟨y,hy,hyr⟩,h3⟩
 ·cases hx:(TG x).2 with
  |false=>
   refine .inl ⟨rfl,λz hz=>?_⟩;rcases ic.1 hz with hz|hz
   ·exact h z hz
   simp at hz;subst hz;exact hx
  |true=>
   refine .inr ⟨rfl,⟨x,sM,by simp[Prod.ext_iff,hx]⟩,λz hz hz2=>?_⟩;rcases ic.1 hz with hz|hz
   ·rw[h z hz]at hz2;cases hz2
   simp at hz;subst hz;exact Me _
 rw[h1]
 cases hx:(TG x).2 with
 |false=>
  refine .inr ⟨h1,⟨y,Ag _ hy,hyr⟩,λz hz hz2=>?_⟩;rcases ic.1 hz with hz|hz
  ·exact h3 z hz hz2
  simp at hz;subst hz;rw[hx]at hz2;cases hz2
 |true=>
  by_cases fZ:(TG x).1<r.1
  ·rw[pc fZ];refine .inr ⟨rfl,⟨x,sM,by simp[Prod.ext_iff,hx]⟩,λz hz hz2=>?_⟩;simp only[Bool.not_true,Ml,Bool.and_self,cond_true];rcases ic.1 hz with hz|hz
   ·have:=h3 z hz hz2;omega
   simp at hz;subst hz;exact Me _
  rw[Kc fZ];refine .inr ⟨h1,⟨y,Ag _ hy,hyr⟩,λz hz hz2=>?_⟩;rcases ic.1 hz with hz|hz
  ·exact h3 z hz hz2
  simp at hz;subst hz;show r.1<=_;omega
def yd7(l:List F8):Cl l (FL l):=by
 have:∀(m:List F8),Cl m (FL m):=by
  intro m;suffices h:∀n,Cl (m.take n) (FL (m.take n)) by simpa using h m.length
  intro n;induction n with
  |zero=>exact .inl ⟨rfl,sM⟩
  |succ n ih=>
   by_cases hn:n<m.length
   ·rw[Gn hn,Y5];exact ih.step _
   rw[Hn O]at ih⊢;exact ih
 exact this l
abbrev rIE(n e:Int):AV:=.t [.s (.d (dI n)),.s (.d (dI e))]
attribute [local irreducible] mI in
def ycD{u v s d L U:Int}(hs:0<s)(hd:0<=d)(hd2:d<=s)(h1:L<=u)(h2:L<=v)(h3:u<=U)(h4:v<=U):L<=kj u v s d/\kj u v s d<=U:=by
 have a1:L*(s-d)<=u*(s-d):=Mi h1 O;have a2:L*d<=v*d:=Mi h2 hd;have a3:u*(s-d)<=U*(s-d):=Mi h3 O;have a4:v*d<=U*d:=Mi h4 hd;have e1:L*(s-d)+L*d=L*s:=by rw[Hw];omega
 have e2:U*(s-d)+U*d=U*s:=by rw[Hw];omega
 unfold kj;constructor
 ·exact Int.le_ediv_of_mul_le hs O
 exact Int.ediv_le_of_le_mul hs O
structure Kx(c:kE)(x:F8):Prop where
 off:0<=x.offset/\x.offset<=8000000000000
 half:1<=x.half/\x.half<=100000
 rA:c.over-20000<=x.rA/\x.rA<=20000
 run:0<=x.run/\x.run<=1000
def ydb{a b:Ap}{p:Pt}{x:F8}(h:Nj a b p=some x):0<=nT a.pt b.pt p/\nT a.pt b.pt p<=nT a.pt b.pt b.pt/\x=aLB a b p:=by
 unfold Nj at h
 cases hb:(decide (nT a.pt b.pt p<0)||decide (nT a.pt b.pt p>nT a.pt b.pt b.pt))with
 |true=>rw[hb]at h;cases h
 |false=>rw[hb]at h;simp only[Ed,Qd]at hb;simp only[Ua,Je]at h;exact⟨O,O,h.symm⟩
def ycS{a q b:Ap}{p:Pt}{x:F8}(h:R5 a q b p=some x):x=⟨span q.pt p,q.half,q.level,q.run⟩:=by
 unfold R5 at h
 cases hb:(decide (nT a.pt q.pt p<=nT a.pt q.pt q.pt)||decide (nT q.pt b.pt p>=0))with
 |true=>rw[hb]at h;cases h
 |false=>rw[hb]at h;simp only[Ua,Je]at h;exact h.symm
def ydH{c:kE}{p:Pt}(hv:ni c)(hp:fB p=true){x:F8}(hx:x∈G4 c p):Kx c x:=by
 have h2:=hv.n2;unfold G4 lF l8 at hx;simp only[ic,lh,Gf]at hx;rcases hx with⟨k,hk,h⟩|⟨j,hj,h⟩
 ·obtain⟨d0,d1,rfl⟩:=ydb h;have ha:=hv.w9 k O;have hb:=hv.w9 (k+1) O;have JW:=hv.apart k O;have hs:=Vs JW;have l1:=hv.level k O;have l2:=hv.level (k+1) O;have f1:=hv.half k O;have f2:=hv.half (k+1) O;exact⟨aFC ha hb hp JW,ycD hs d0 d1 f1.1 f2.1 f1.2 f2.2,ycD hs d0 d1 l1.1 l2.1 l1.2 l2.2,hv.run k O⟩
 have:=ycS h;subst this;have hq:=hv.w9 (j+1) O;have hsp:=ycZ hq hp;exact⟨⟨hsp.1,Tn hsp.2 O⟩,hv.half (j+1) O,hv.level (j+1) O,hv.run (j+1) O⟩
def yeL{c:kE}{x:F8}(hx:Kx c x)(hv:ni c)(h:(TG x).2=true):c.over-20000<=(TG x).1/\(TG x).1<=20000:=by
 obtain⟨h1,h2,h3,h4⟩:=hx;have ho:=hv.over;unfold TG lvl at h⊢
 cases c1:decide (x.offset<=x.half)with
 |true=>rw[c1]at h;exact h3
 |false=>
  rw[c1]at h;have c1:=bF c1
  cases c2:(x.run==0)with
  |true=>rw[c2]at h;cases h
  |false=>
   rw[c2]at h;have c2:x.run≠0:=by simpa using c2
   have hq:0<=(x.offset-x.half).tdiv x.run/\(x.offset-x.half).tdiv x.run<=8000000000000:=by rw[Il O];exact⟨nr O O,Tn (ww _ O) O⟩
   have e:aW (x.rA+aW ((aW (x.offset-x.half)).tdiv x.run))=x.rA+(x.offset-x.half).tdiv x.run:=by rw[aG (n:=x.offset-x.half) O O,aG (n:=(x.offset-x.half).tdiv x.run) O O,aG O O]
   simp only[Ua]at h⊢;have h:=bG h;rw[e]at h⊢;omega
def yd6{c:kE}{p:Pt}(hv:ni c)(hp:fB p=true)(h:(UI c p).2=true):c.over-20000<=(UI c p).1/\(UI c p).1<=20000:=by
 rcases yd7 (G4 c p)with⟨h1,_⟩|⟨_,⟨x,hx,e⟩,_⟩
 ·unfold UI at h;rw[h1]at h;cases h
 unfold UI at h⊢;rw[<-e]at h⊢;exact yeL (ydH hv hp hx) hv h
def ycW(c:kE)(g:eZ)(less:Int){i:Nat}(h:i<g.levels.length):(mM c g less).levels.getD i 0=L0 c g less i:=by simp[mM,h]
def yeH{l:List Int}:iJ 1 (bif l.isEmpty then 0 else l.length) (cP l) (λx _=>dI x) l:=⟨dK l,λ_ _ _ _=>rfl⟩
def yeZ(x:F8):Bool:=decide (x.offset<=x.half)
def FM(c:kE)(p:Pt):Bool:=(G4 c p).any yeZ
def lv(g:eZ)(k:Int):Int:=g.levels.getD k.toNat 0
def wZ(g:eZ)(r:Int×Bool)(i:Nat):Int×Bool:=(bif decide (r.1<0)||decide (lv g i>lv g r.1)then(i:Int)else r.1,r.2||lv g i==30000)
end Go.Ch
namespace Go.Pj
open Go Go.Ax Go.Ch
structure bd where
 aN:ta
 iZ:Int
 deriving Inhabited
def yeS(p:bd):Nat->DV
 |0=>dS p.aN
 |1=>dI p.iZ
 |_=>.bL
def Zm(l:List bd):Nat->Nat->DV:=λi=>yeS (l.getD i default)
def Hk(l:List bd):DV:=.fU l.length 2 (Zm l)
open Go Go.Ax Go.Ch Go.Proofs Go.Proofs.Tryz
def yb7(l:List Fact)(hl:l.length<=9223372036854775807)(f k:Nat)(c:Nat->DV)(p:Fact->Bool)(hp:∀x∈l,aF prog f (pX x::jF c k 0) (vB (p x))):
  aF prog 44 [cJ l,.s (.d (.dZ f k c))] (vB (l.any p)):=by
 refine eP func44 rfl rfl call44 rfl rfl λR J=>?_
 refine aB (YF l hl f k c p hp) ?_
 exact Ia (Na vB (kI p l 0))
open Go Go.Ax Go.Ch Go.Proofs Go.Proofs.Tryz
def sJ.size{s:RS}(h:sJ s):(bs (dL s).1).size<=9223372036854775807:=by have:=h.head;rw[cF];show(s.1.headD []).length<=_;omega
structure Cc where
 field:Int
 op:ta
 num:Int
 name:ta
 deriving Inhabited
structure Hc where
 Vb:Int
 conds:List Cc
 Xa:Int
def Ct:List bJ:=[[118,111,108,117,109,101],[112,97,105,100],[112,105,101,99,101,115]]
def bn:List bJ:=[[],[109,111,110,116,104],[99,101,108,108],[115,111,105,108],[108,111,97,100],[112,105,116]]
def nf:List bJ:=[[61],[33,61],[60],[60,61],[62],[62,61]]
def Qk:bJ:=[119,104,101,114,101]
def Bi:bJ:=[97,110,100]
def wBy:bJ:=[98,121]
def Qc(f:Int):Bool:=f==3||f==5
def Ig(c:Cc):Bool:=bif Qc c.field then(nf.take 2).contains (tx c.op)else nf.contains (tx c.op)
def Ac(c:Cc):Int:=bif !(within c.field 1 5)then 2 else bif !(Ig c)then 3 else bif !(Qc c.field)&& !(within c.num 0 1000000)then 2 else bif Qc c.field&& !(isName c.name)then 4 else 0
def Ng:List Cc->Int
 |[]=>0
 |c::l=>bif Ac c==0 then Ng l else Ac c
def Ge(q:Hc):Int:=bif !(within q.Vb 0 2)|| !(within q.Xa 0 5)then 2 else bif decide ((q.conds.length:Int)>10)then 8 else Ng q.conds
def Lk(c:Cc):List bJ:=[bn.getD c.field.toNat [],tx c.op,bif Qc c.field then tx c.name else Lib.itoa c.num]
def Kg(w:bJ):List Cc->List bJ
 |[]=>[]
 |c::l=>w::Lk c++Kg Bi l
def Li(g:Int):List bJ:=bif g==0 then []else [wBy,bn.getD g.toNat []]
def mg(q:Hc):List bJ:=Ct.getD q.Vb.toNat []::(Kg Qk q.conds++Li q.Xa)
def di(q:Hc):bJ:=bif Ge q==0 then iO (mg q)else []
def yei{c:Cc}(h:Ig c=true):tx c.op∈nf:=by
 unfold Ig at h
 cases hn:Qc c.field with
 |true=>rw[hn]at h;have h:(nf.take 2).contains (tx c.op)=true:=h;rw[Yx]at h;exact Zx h
 |false=>
  rw[hn]at h
  have h:nf.contains (tx c.op)=true:=h
  rwa [Yx]at h
def ybN{c:Cc}(h:Ac c=0):(1<=c.field/\c.field<=5)/\tx c.op∈nf/\(Qc c.field=false->0<=c.num/\c.num<=1000000)/\(Qc c.field=true->isName c.name=true):=by
 unfold Ac at h
 cases h1:within c.field 1 5 with
 |false=>rw[h1]at h;exact absurd h (show ¬((2:Int)=0) by decide)
 |true=>
  cases h2:Ig c with
  |false=>rw[h1,h2]at h;exact absurd h (show ¬((3:Int)=0) by decide)
  |true=>
   rw[h1,h2]at h;refine⟨within_iff.1 h1,yei h2,λhn=>?_,λhn=>?_⟩
   ·cases h3:within c.num 0 1000000 with
    |true=>exact within_iff.1 h3
    |false=>rw[hn,h3]at h;exact absurd h (show ¬((2:Int)=0) by decide)
   cases h3:isName c.name with
   |true=>rfl
   |false=>rw[hn,h3]at h;exact absurd h (show ¬((4:Int)=0) by decide)
def ybv:∀{l:List Cc},Ng l=0->∀c∈l,Ac c=0
 |[],_,c,hc=>by cases hc
 |a::l,h,c,hc=>by
  rw[Ng]at h
  cases h1:Ac a==0 with
  |false=>rw[h1]at h;have:Ac a=0:=h;rw[this]at h1;cases h1
  |true=>
   rw[h1]at h
   cases hc with
   |head=>simpa using h1
   |tail _ hc=>exact ybv h c hc
def Wt{q:Hc}(h:Ge q=0):(0<=q.Vb/\q.Vb<=2)/\(0<=q.Xa/\q.Xa<=5)/\q.conds.length<=10/\∀c∈q.conds,Ac c=0:=by
 unfold Ge at h
 cases h1:within q.Vb 0 2 with
 |false=>rw[h1]at h;exact absurd h (show ¬((2:Int)=0) by decide)
 |true=>
  cases h2:within q.Xa 0 5 with
  |false=>rw[h1,h2]at h;exact absurd h (show ¬((2:Int)=0) by decide)
  |true=>
   rw[h1,h2]at h
   cases h3:decide ((q.conds.length:Int)>10)with
   |true=>rw[h3]at h;exact absurd h (show ¬((8:Int)=0) by decide)
   |false=>rw[h3]at h;have h4:=Wj h3;exact⟨within_iff.1 h1,within_iff.1 h2,O,ybv h⟩
def yfk{n:Int}(h:1<=n/\n<=5):n=1\/n=2\/n=3\/n=4\/n=5:=O
def yd5{c:Cc}(h:Ac c=0):∀w∈Lk c,w.length<=14/\∀b∈w,b≠32:=by
 obtain⟨h1,h2,h3,h4⟩:=ybN h;intro w hw;simp only[Lk,wb,Sd,Kd]at hw;rcases hw with rfl|rfl|rfl
 ·rcases yfk h1 with e|e|e|e|e <;> rw[e] <;> exact⟨dC,dC⟩
 ·generalize tx c.op=o at h2⊢;simp only[nf,wb,Sd,Kd]at h2;rcases h2 with rfl|rfl|rfl|rfl|rfl|rfl <;> exact⟨dC,dC⟩
 cases hn:Qc c.field with
 |true=>exact⟨by have:=iW (h4 hn);show(tx c.name).length<=14;rw[wV];omega,xK (h4 hn)⟩
 |false=>have:=h3 hn;exact⟨lG O,iA _⟩
def yb6:∀{l:List Cc} {v:bJ},(v.length<=14/\∀b∈v,b≠32)->(∀c∈l,Ac c=0)->∀w∈Kg v l,w.length<=14/\∀b∈w,b≠32
 |[],_,_,_,w,hw=>by cases hw
 |c::l,v,hv,h,w,hw=>by
  rw[Kg]at hw;rcases ic.1 hw with hw|hw
  ·cases hw with
   |head=>exact hv
   |tail _ hw=>exact yd5 (h c (Zd ..)) w hw
  exact yb6 (v:=Bi) ⟨dC,dC⟩ (λx hx=>h x (oc _ hx)) w hw
def yeb{g:Int}(h:0<=g/\g<=5):∀w∈Li g,w.length<=14/\∀b∈w,b≠32:=by rcases(by omega:g=0\/g=1\/g=2\/g=3\/g=4\/g=5)with e|e|e|e|e|e <;> rw[e] <;> decide
def yej{q:Hc}(h:Ge q=0):∀w∈mg q,w.length<=14/\∀b∈w,b≠32:=by
 obtain⟨h1,h2,_,h4⟩:=Wt h;intro w hw;rw[mg]at hw
 cases hw with
 |head=>rcases(by omega:q.Vb=0\/q.Vb=1\/q.Vb=2)with e|e|e <;> rw[e] <;> decide
 |tail _ hw=>
  rcases ic.1 hw with hw|hw
  ·exact yb6 ⟨dC,dC⟩ h4 w hw
  exact yeb h2 w hw
def Mq:∀(l:List Cc) (v:bJ),(Kg v l).length=4*l.length
 |[],_=>rfl
 |c::l,v=>by rw[Kg,ed,Mq l Bi];simp only[Lk,Rb,xe];omega
def yc(g:Int):(Li g).length<=2:=by
 unfold Li
 cases g==0 <;> simp
def ydL(q:Hc):(di q).length<=645:=by
 unfold di
 cases h:Ge q==0 with
 |false=>exact Nat.zero_le _
 |true=>
  have he:Ge q=0:=by simpa using h
  have h1:=tP (c:=14) λx hx=>(yej he x hx).1
  have h2:(mg q).length<=43:=by have:=(Wt he).2.2.1;have:=yc q.Xa;rw[mg,Rb,ed,Mq];omega
  show(iO (mg q)).length<=645;omega
open Go Go.Ax Go.Ch Go.Proofs Go.Proofs.Tryz
structure Cc.fits(c:Cc):Prop where
 lo: -9223372036854775808<=c.num
 hi:c.num<=9223372036854775807
 op:c.op.size<=9223372036854775807
 name:c.name.size<=9223372036854775807
structure Hc.fits(q:Hc):Prop where
 len:q.conds.length<=9223372036854775807
 conds:∀c∈q.conds,c.fits
abbrev yeB(c:Cc):List SV:=[.d (dI c.field),.d (dS c.op),.d (dI c.num),.d (dS c.name)]
def yff(c:Cc):Nat->DV
 |0=>dI c.field
 |1=>dS c.op
 |2=>dI c.num
 |3=>dS c.name
 |_=>.bL
def yeV(l:List Cc):Nat->Nat->DV:=λi=>yff (l.getD i default)
def pn(l:List Cc):DV:=.fU l.length 4 (yeV l)
abbrev Fc(q:Hc):List SV:=[.d (dI q.Vb),.d (pn q.conds),.d (dI q.Xa)]
abbrev fp(q:Hc):AV:=.g (Fc q)
def yfh{a b:bJ}{f:Nat->Nat->DV}(h0:f 0 0=dT a)(h1:f 1 0=dT b):aK (.fU 2 1 f) (J4 [a,b]):=
 Qe rfl λi j hi hj=>by
  obtain rfl:j=0:=O
  match i,hi with
  |0,_=>exact Wa h0
  |1,_=>exact Wa h1
def yfi{a b c:bJ}{f:Nat->Nat->DV}(h0:f 0 0=dT a)(h1:f 1 0=dT b)(h2:f 2 0=dT c):aK (.fU 3 1 f) (J4 [a,b,c]):=
 Qe rfl λi j hi hj=>by
  obtain rfl:j=0:=O
  match i,hi with
  |0,_=>exact Wa h0
  |1,_=>exact Wa h1
  |2,_=>exact Wa h2
def yeC{a b c d e g:bJ}{f:Nat->Nat->DV}(h0:f 0 0=dT a)(h1:f 1 0=dT b)(h2:f 2 0=dT c)(h3:f 3 0=dT d)(h4:f 4 0=dT e)(h5:f 5 0=dT g):aK (.fU 6 1 f) (J4 [a,b,c,d,e,g]):=
 Qe rfl λi j hi hj=>by
  obtain rfl:j=0:=O
  match i,hi with
  |0,_=>exact Wa h0
  |1,_=>exact Wa h1
  |2,_=>exact Wa h2
  |3,_=>exact Wa h3
  |4,_=>exact Wa h4
  |5,_=>exact Wa h5
def ydF:aF prog 47 [] (.s (.d (J4 Ct))):=by exact eP func47 rfl rfl call47 rfl rfl λR J=>Fg (yfi rfl rfl rfl)
def fields:aF prog 49 [] (.s (.d (J4 bn))):=by exact eP func49 rfl rfl call49 rfl rfl λR J=>Fg (yeC rfl rfl rfl rfl rfl rfl)
def Hh(n:Int):aF prog 27 [vI n] (vB (Qc n)):=by
 refine eP func27 rfl rfl call27 rfl rfl λR J=>?_
 repeat refine aR ?_
 exact wc rfl
def ybL(l:List bJ)(x:bJ)(hl:l.length<=9223372036854775807):aF prog 84 [.s (.d (J4 l)),vT x] (vB (l.contains x)):=by
 refine eP func84 rfl rfl call84 rfl rfl λR J=>aB (aKH l x hl) (wc ?_)
 have h:=Lib.idxOfS_nonneg_iff (l.map bs) (bs x);have h2:bs x∈l.map bs↔x∈l:=by rw[Lc];exact⟨λ⟨y,hy,e⟩=>by rw[<-nF x,<-e,nF];exact hy,λh=>⟨x,h,rfl⟩⟩
 rw[h2,<-List.contains_iff_mem]at h;show decide (Lib.idxOfS (l.map bs) (bs x)>=0)=l.contains x;rw[Ff,ae];exact h
def yc7(c:Cc)(hc:c.fits):aF prog 48 [.g (yeB c)] (vI (Ac c)):=by
 have hx:dS c.op=dT (tx c.op):=Kh _;refine eP func48 rfl rfl call48 rfl rfl λR J=>aB (Hh c.field) (aI (λh=>?_) (λh=>?_))
 ·have h:Qc c.field=true:=h;have hp:Ig c=(nf.take 2).contains (tx c.op):=by unfold Ig;rw[h];rfl
  refine oi ⟨dC,dC,dC⟩ (aB (lV 1 5 c.field rfl) ?_);apply aI<;>intro h2
  ·have h2:(!within c.field 1 5)=true:=h2;exact Ia (by unfold Ac;rw[h2];rfl)
  have h2:(!within c.field 1 5)=false:=h2;refine aB ((ybL (nf.take 2) (tx c.op) dC).conv (args':=_) ⟨yfh rfl rfl,Wa hx,oO⟩) (aI (λh3=>?_) (λh3=>?_))
  ·have h3:(!(nf.take 2).contains (tx c.op))=true:=h3;exact Ia (by unfold Ac;rw[h2,hp,h3];rfl)
  have h3:(!(nf.take 2).contains (tx c.op))=false:=h3;refine aB (Hh c.field) ?_;repeat refine aR ?_
  refine aI (λh4=>absurd (show(!Qc c.field)=true from h4) (by rw[h];decide)) (λh4=>?_);repeat refine aR ?_
  refine aB (Hh c.field) ?_;repeat refine aR ?_
  refine bR (BJ c.name hc.name) ?_;repeat refine aR ?_
  apply aI<;>intro h6
  ·have h6:(Qc c.field&& !isName c.name)=true:=h6;exact Ia (by unfold Ac;rw[h2,hp,h3,h];rw[h]at h6;rw[show(!isName c.name)=true from h6];rfl)
  have h6:(Qc c.field&& !isName c.name)=false:=h6;exact Ia (by unfold Ac;rw[h2,hp,h3,h];rw[h]at h6;rw[show(!isName c.name)=false from h6];rfl)
 have h:Qc c.field=false:=h;have hp:Ig c=nf.contains (tx c.op):=by unfold Ig;rw[h];rfl
 refine aB (lV 1 5 c.field rfl) (aI (λh2=>?_) (λh2=>?_))
 ·have h2:(!within c.field 1 5)=true:=h2;exact Ia (by unfold Ac;rw[h2];rfl)
 have h2:(!within c.field 1 5)=false:=h2;refine aB ((ybL nf (tx c.op) dC).conv (args':=_) ⟨yeC rfl rfl rfl rfl rfl rfl,Wa hx,oO⟩) (aI (λh3=>?_) (λh3=>?_))
 ·have h3:(!nf.contains (tx c.op))=true:=h3;exact Ia (by unfold Ac;rw[h2,hp,h3];rfl)
 have h3:(!nf.contains (tx c.op))=false:=h3;refine aB (Hh c.field) ?_;repeat refine aR ?_
 refine aI (λh4=>?_) (λh4=>absurd (show(!Qc c.field)=false from h4) (by rw[h];decide));refine ob (show(!Qc c.field)=true by rw[h];rfl) ?_;refine aB (lV 0 1000000 c.num rfl) ?_;repeat refine aR ?_
 apply aI<;>intro h6
 ·have h6:(!within c.num 0 1000000)=true:=h6;exact Ia (by unfold Ac;rw[h2,hp,h3,h,h6];rfl)
 have h6:(!within c.num 0 1000000)=false:=h6;refine aB (Hh c.field) ?_;repeat refine aR ?_
 refine bR (BJ c.name hc.name) ?_;repeat refine aR ?_
 apply aI<;>intro h7
 ·have h7:(Qc c.field&& !isName c.name)=true:=h7;rw[h]at h7;cases h7
 exact Ia (by unfold Ac;rw[h2,hp,h3,h,h6];rfl)
def He(q:Hc)(i:Nat):List bJ:=Ct.getD q.Vb.toNat []::Kg Qk (q.conds.take i)
def ybw:∀(l:List Cc) (v:bJ) (c:Cc),Kg v (l++ [c])=Kg v l++((bif l.isEmpty then v else Bi)::Lk c)
 |[],v,c=>by simp[Kg]
 |a::l,v,c=>by
  rw[We,Kg,ybw l Bi c,Kg]
  cases l <;> simp
def ycV(q:Hc){i:Nat}(h:i<q.conds.length):He q (i+1)=He q i++((bif i==0 then Qk else Bi)::Lk (q.conds.getD i default)):=by
 unfold He;have e:q.conds.take (i+1)=q.conds.take i++ [q.conds.getD i default]:=by rw[Bg,List.getElem?_eq_getElem h,fc,List.getElem?_eq_getElem h];rfl
 have e2:(q.conds.take i).isEmpty=(i==0):=by
  cases i with
  |zero=>rfl
  |succ i=>
   cases hq:q.conds with
   |nil=>rw[hq]at h;cases h
   |cons a l=>rfl
 rw[e,ybw,e2,We]
def ybO(q:Hc){i:Nat}(h:i<=q.conds.length):(He q i).length=4*i+1:=by unfold He;rw[Rb,Mq,pf];omega
def ydt(l:List Cc){i:Nat}(h:i<l.length):Ng (l.drop i)=bif Ac (l.getD i default)==0 then Ng (l.drop (i+1))else Ac (l.getD i default):=by
 have e:l.drop i=l.getD i default::l.drop (i+1):=by rw[fc,List.getElem?_eq_getElem h];exact Ve h
 rw[e,Ng]
def yct{n k:Nat}{f g:Nat->Nat->DV}{l r:List bJ}(hf:iJ 1 n f (λt _=>dT t) l)(hg:∀i,i<k->g i 0=dT (r.getD i [])){i:Nat}(hi:i<n+k):jM n f g i 0=dT ((l++r).getD i []):=by
 obtain⟨h1,h2⟩:=hf;by_cases jA:i<n
 ·refine(show jM n f g i 0=f i 0 from La jA).trans ?_;rw[h2 i 0 jA dC];show dT (l.getD i default)=dT ((l++r).getD i []);simp only[fc,Jc (h1▸jA)];rfl
 refine(show jM n f g i 0=g (i-n) 0 from Ka jA).trans ?_;rw[hg (i-n) O];show dT (r.getD (i-n) [])=dT ((l++r).getD i []);simp only[fc,Gd (show l.length<=i by omega)];rw[h1]
def ye8{n k:Nat}{f g:Nat->Nat->DV}{l r:List bJ}{e:Ea}(hf:iJ 1 n f (λt _=>dT t) l)(hk:k=r.length)(hg:∀i,i<k->g i 0=dT (r.getD i [])):aY (.row e (n+k) 1 (jM n f g)) (.row e (l++r).length 1 (uJ (l++r))):=
 Bc (by rw[ed,hk,hf.1]) λi j hi hj=>by obtain rfl:j=0:=O;exact Wa (yct hf hg hi)
def yeD{n k:Nat}{f g:Nat->Nat->DV}{l r:List bJ}(hf:iJ 1 n f (λt _=>dT t) l)(hk:k=r.length)(hg:∀i,i<k->g i 0=dT (r.getD i [])):aK (.fU (n+k) 1 (jM n f g)) (J4 (l++r)):=
 Qe (by rw[ed,hk,hf.1]) λi j hi hj=>by obtain rfl:j=0:=O;exact Wa (yct hf hg hi)
def ydV{q:Hc}(he:Ge q=0):aF prog 50 [.s (.d (J4 (mg q))),vT [32]] (vT (di q)):=by
 have hw:(mg q).length<=43:=by have:=(Wt he).2.2.1;have:=yc q.Xa;rw[mg,Rb,ed,Mq];omega
 have hl:=ydL q;have hk:di q=Lib.join (mg q) [32]:=by unfold di;rw[he];rfl
 rw[hk]at hl⊢;exact Xp (mg q) [32] O O
def ycQ(q:Hc)(hq:q.fits):aF prog 20 [fp q] (.t [.s (.d (dT (di q))),.s (.d (dI (Ge q)))]):=by
 have bad:∀{n:Int},n≠0->Ge q=n->aC (.t [.s (.d (dT [])),.s (.d (dI n))]) (.t [.s (.d (dT (di q))),.s (.d (dI (Ge q)))]):=by intro n hn he;apply Ia;unfold di;rw[he,show(n==0)=false by simpa using hn];rfl
 refine gI (rc:=[2000050]) (N:=83) func20 rfl rfl call20 aJ mix rfl rfl (λR J=>?_);refine aB (lV 0 2 q.Vb rfl) ?_;repeat refine aR ?_
 apply aI<;>intro a1
 ·have a1:(!within q.Vb 0 2)=false:=a1;refine ob (show(!(!within q.Vb 0 2))=true by rw[a1];rfl) ?_;refine aB (lV 0 5 q.Xa rfl) ?_;repeat refine aR ?_
  apply aI<;>intro a2
  ·have a2:(!within q.Xa 0 5)=true:=a2;exact bad (n:=2) dC (by unfold Ge;rw[a1,a2];rfl)
  have a2:(!within q.Xa 0 5)=false:=a2;apply aI<;>intro a3
  ·have a3:decide ((q.conds.length:Int)>10)=true:=a3;exact bad (n:=8) dC (by unfold Ge;rw[a1,a2,a3];rfl)
  have a3:decide ((q.conds.length:Int)>10)=false:=a3;have hE:Ge q=Ng q.conds:=by unfold Ge;rw[a1,a2,a3];rfl
  have m1:=within_iff.1 (show within q.Vb 0 2=true by simpa using a1);have m2:=within_iff.1 (show within q.Xa 0 5=true by simpa using a2);have m3:q.conds.length<=10:=by have:=Wj a3;omega
  refine aB ydF (ob (show 0<=q.Vb/\q.Vb<3 from⟨m1.1,O⟩) ?_);refine aD ?_;refine Gb (λi:Nat=>⟨[(1,.s (.ptr 1 0)),(4,.s (.own 100)),(35,.s (.d (pn q.conds))),(36,vI q.conds.length),(37,vI i)],[(1,some (.cells (Fc q))),(100,some (.row 9 (He q i).length 1 (uJ (He q i))))]⟩)
   (λi=>i<=q.conds.length/\Ng q.conds=Ng (q.conds.drop i)) (λi=>q.conds.length-i) 0 ⟨Nat.zero_le _,rfl⟩ ?_ ?_
  ·refine Qa J [(100,33)] rfl ⟨bQ,⟨rfl,?_⟩,oO⟩ Fa;exact Bc rfl λi j hi hj=>by
    obtain rfl:i=0:=by have:i<1:=hi;omega
    obtain rfl:j=0:=by have:j<1:=hj;omega
    exact Ja _
  rintro i ⟨hi,he⟩;refine Sb (rc:=[2000050]) aJ mix J _ (aI (λh=>?_) (λh=>?_))
  ·have h:(i:Int)<(q.conds.length:Int):=bG h;have bC:i<q.conds.length:=O;have hx:=ydt q.conds bC;have hm:q.conds.getD i default∈q.conds:=by rw[fc,List.getElem?_eq_getElem bC];exact Ce _
   have hs:=ycV q bC;have hlen:=ybO q hi;have hc:=hq.conds _ hm;refine oi Ha (aB (yc7 (q.conds.getD i default) hc) ?_);apply aI<;>intro h4
   ·have h4:(Ac (q.conds.getD i default) !=0)=true:=h4;have h5:(Ac (q.conds.getD i default)==0)=false:=by simpa[bne]using h4
    exact bad (n:=Ac (q.conds.getD i default)) (by simpa using h4) (by rw[hE,he,hx,h5];rfl)
   have h4:(Ac (q.conds.getD i default) !=0)=false:=h4;have h5:(Ac (q.conds.getD i default)==0)=true:=by simpa[bne]using h4
   have hx:Ng (q.conds.drop i)=Ng (q.conds.drop (i+1)):=by rw[hx,h5];rfl
   obtain⟨f1,f2,f3,f4⟩:=ybN (show Ac (q.conds.getD i default)=0 by simpa using h4);refine aB (D6 (q.conds.getD i default).num hc.lo hc.hi) ?_;have fin:∀{g:Nat->Nat->DV} {a b:bJ},g 0 0=dT a->g 1 0=dT (bn.getD (q.conds.getD i default).field.toNat [])->g 2 0=dT (tx (q.conds.getD i default).op)->g 3 0=dT b->a=(bif i==0 then Qk else Bi)->b=(bif Qc (q.conds.getD i default).field then tx (q.conds.getD i default).name else Lib.itoa (q.conds.getD i default).num)->aY (.row 9 ((He q i).length+4) 1 (jM (He q i).length (uJ (He q i)) g)) (.row 9 (He q (i+1)).length 1 (uJ (He q (i+1)))):=by
    intro g a b g0 g1 g2 g3 ea eb;rw[hs];refine ye8 (L5 _) rfl λk hk=>?_
    match k,hk with
    |0,_=>rw[g0,ea];rfl
    |1,_=>rw[g1];rfl
    |2,_=>rw[g2];rfl
    |3,_=>rw[g3,eb];rfl
   have n0:((i:Int)==0)=(i==0):=by rw[Ff,Tf,Tf];omega
   apply aI<;>intro h6
   ·have h6:((i:Int)==0)=true:=h6;rw[n0]at h6;refine aB (Hh (q.conds.getD i default).field) (aI (λh7=>?_) (λh7=>?_))
    ·have h7:Qc (q.conds.getD i default).field=true:=h7;refine aB fields (ob (show 0<=(q.conds.getD i default).field/\(q.conds.getD i default).field<6 from Ha) ?_);refine ob (show((He q i).length+4)*16<=_ by omega) ?_;refine ob (λk j hk hj=>by
      obtain rfl:j=0:=by have:j<1:=hj;omega
      match k,hk with
      |0,_=>rfl
      |1,_=>rfl
      |2,_=>rfl
      |3,_=>rfl) ?_
     refine aD ⟨i+1,⟨O,he.trans hx⟩,O,?_⟩;exact Qa J [(100,68)] rfl ⟨bQ,⟨rfl,fin (a:=Qk) (b:=tx (q.conds.getD i default).name) rfl rfl (Kh _) (Kh _) (by rw[h6];rfl) (by rw[h7];rfl)⟩,oO⟩ Fa
    have h7:Qc (q.conds.getD i default).field=false:=h7;refine aB fields (ob (show 0<=(q.conds.getD i default).field/\(q.conds.getD i default).field<6 from Ha) ?_);refine ob (show((He q i).length+4)*16<=_ by omega) ?_;refine ob (λk j hk hj=>by
     obtain rfl:j=0:=by have:j<1:=hj;omega
     match k,hk with
     |0,_=>rfl
     |1,_=>rfl
     |2,_=>rfl
     |3,_=>rfl) ?_
    refine aD ⟨i+1,⟨O,he.trans hx⟩,O,?_⟩;exact Qa J [(100,68)] rfl ⟨bQ,⟨rfl,fin (a:=Qk) (b:=Lib.itoa (q.conds.getD i default).num) rfl rfl (Kh _) rfl (by rw[h6];rfl) (by rw[h7];rfl)⟩,oO⟩ Fa
   have h6:((i:Int)==0)=false:=h6;rw[n0]at h6;refine aB (Hh (q.conds.getD i default).field) (aI (λh7=>?_) (λh7=>?_))
   ·have h7:Qc (q.conds.getD i default).field=true:=h7;refine aB fields (ob (show 0<=(q.conds.getD i default).field/\(q.conds.getD i default).field<6 from Ha) ?_);refine ob (show((He q i).length+4)*16<=_ by omega) ?_;refine ob (λk j hk hj=>by
     obtain rfl:j=0:=by have:j<1:=hj;omega
     match k,hk with
     |0,_=>rfl
     |1,_=>rfl
     |2,_=>rfl
     |3,_=>rfl) ?_
    refine aD ⟨i+1,⟨O,he.trans hx⟩,O,?_⟩;exact Qa J [(100,68)] rfl ⟨bQ,⟨rfl,fin (a:=Bi) (b:=tx (q.conds.getD i default).name) rfl rfl (Kh _) (Kh _) (by rw[h6];rfl) (by rw[h7];rfl)⟩,oO⟩ Fa
   have h7:Qc (q.conds.getD i default).field=false:=h7;refine aB fields (ob (show 0<=(q.conds.getD i default).field/\(q.conds.getD i default).field<6 from Ha) ?_);refine ob (show((He q i).length+4)*16<=_ by omega) ?_;refine ob (λk j hk hj=>by
    obtain rfl:j=0:=by have:j<1:=hj;omega
    match k,hk with
    |0,_=>rfl
    |1,_=>rfl
    |2,_=>rfl
    |3,_=>rfl) ?_
   refine aD ⟨i+1,⟨O,he.trans hx⟩,O,?_⟩;exact Qa J [(100,68)] rfl ⟨bQ,⟨rfl,fin (a:=Bi) (b:=Lib.itoa (q.conds.getD i default).num) rfl rfl (Kh _) rfl (by rw[h6];rfl) (by rw[h7];rfl)⟩,oO⟩ Fa
  have h:¬(i:Int)<(q.conds.length:Int):=bF h;have e:i=q.conds.length:=O;have h0:Ge q=0:=by rw[hE,he,e,Sg];rfl
  have hP:He q i++Li q.Xa=mg q:=by unfold He mg;rw[e,Vd,We]
  have hlen:=ybO q hi;rw[h0];apply aI<;>intro h8
  ·have h8:(q.Xa !=0)=true:=h8;have hg:Li q.Xa=[wBy,bn.getD q.Xa.toNat []]:=by unfold Li;rw[show(q.Xa==0)=false by simpa[bne]using h8];rfl
   refine aB fields (ob (show 0<=q.Xa/\q.Xa<6 from Ha) ?_);refine ob (show((He q i).length+2)*16<=_ by omega) ?_;refine ob (λk j hk hj=>by
    obtain rfl:j=0:=by have:j<1:=hj;omega
    match k,hk with
    |0,_=>rfl
    |1,_=>rfl) ?_
   refine aD ⟨[80],_,(ydV h0).conv (args':=_) ⟨?_,Ja _,oO⟩,db _⟩;rw[<-hP,hg];refine yeD (L5 _) rfl λk hk=>?_
   match k,hk with
   |0,_=>rfl
   |1,_=>rfl
  have h8:(q.Xa !=0)=false:=h8;have hg:Li q.Xa=[]:=by unfold Li;rw[show(q.Xa==0)=true by simpa[bne]using h8];rfl
  refine⟨[100],_,(ydV h0).conv (args':=_) ⟨Wa (by rw[<-hP,hg,mh];rfl),Ja _,oO⟩,?_⟩;exact db _
 have a1:(!within q.Vb 0 2)=true:=a1;repeat refine aR ?_
 exact bad (n:=2) dC (by unfold Ge;rw[a1];rfl)
def Pc(x:Oa)(m:Int):Int:=bif m==0 then x.iZ else bif m==1 then x.gV else 1
def ydE(x:Oa)(m:Int):aF prog 23 [Fl x,vI m] (vI (Pc x m)):=by
 refine eP func23 rfl rfl call23 rfl rfl λR J=>?_
 repeat refine aR ?_
 apply aI<;>intro h
 ·exact Ia (by unfold Pc;rw[show(m==0)=true from h];rfl)
 repeat refine aR ?_
 apply aI<;>intro h2
 ·exact Ia (by unfold Pc;rw[show(m==0)=false from h,show(m==1)=true from h2];rfl)
 exact Ia (by unfold Pc;rw[show(m==0)=false from h,show(m==1)=false from h2];rfl)
def Gv(s:ta):ta:=bif bE s (bs [])then bs [45]else s
def Tc(x:Oa)(f:Int):Int×ta:=bif f==1 then(x.month,bs [])else bif f==2 then(x.cell,bs [])else bif f==3 then(0,x.aN)else bif f==4 then(x.load,bs [])else bif f==5 then(0,Gv x.dN)else(0,bs [])
def ln(x:Oa)(f:Int):Int×ta:=bif f==1 then(x.month,bs [])else bif f==2 then(x.cell,bs [])else bif f==3 then(0,x.aN)else bif f==4 then(x.load,bs [])else bif f==5 then(0,x.dN)else(0,bs [])
abbrev mj(v:Int×ta):AV:=.g [.d (dI v.1),.d (dS v.2)]
def valueOf(x:Oa)(f:Int):aF prog 22 [Fl x,vI f] (mj (Tc x f)):=by
 refine eP func22 rfl rfl call22 rfl rfl λR J=>?_
 repeat refine aR ?_
 apply aI<;>intro h1
 ·exact Ia (by unfold Tc;rw[show(f==1)=true from h1];rfl)
 have h1:(f==1)=false:=h1;repeat refine aR ?_
 apply aI<;>intro h2
 ·exact Ia (by unfold Tc;rw[h1,show(f==2)=true from h2];rfl)
 have h2:(f==2)=false:=h2;repeat refine aR ?_
 apply aI<;>intro h3
 ·exact Ia (by unfold Tc;rw[h1,h2,show(f==3)=true from h3];rfl)
 have h3:(f==3)=false:=h3;repeat refine aR ?_
 apply aI<;>intro h4
 ·exact Ia (by unfold Tc;rw[h1,h2,h3,show(f==4)=true from h4];rfl)
 have h4:(f==4)=false:=h4;repeat refine aR ?_
 apply aI<;>intro h5
 ·have h5:(f==5)=true:=h5;repeat refine aR ?_
  apply aI<;>intro h6
  ·exact Ia (by unfold Tc Gv;rw[h1,h2,h3,h4,h5,show bE x.dN (bs [])=true from h6];rfl)
  exact Ia (by unfold Tc Gv;rw[h1,h2,h3,h4,h5,show bE x.dN (bs [])=false from h6];rfl)
 have h5:(f==5)=false:=h5;exact Ia (by unfold Tc;rw[h1,h2,h3,h4,h5];rfl)
def Ft(a b:ta):Int:=Lib.compareBytes a.data.toList b.data.toList
def ydG(a b:ta):aF prog 26 [vS a,vS b] (vI (Ft a b)):=by
 refine⟨call26,λM w vs hg hr hM=>?_⟩
 match vs,hr with
 |[u,v],⟨h,h2,_⟩=>obtain rfl:u=.string a:=h;obtain rfl:v=.string b:=h2;refine(Tryz.strings_Compare a b w).mono ?_;rintro e w' ⟨rfl,rfl⟩;exact⟨_,M,rfl,rfl,fb _ _,hM,⟨⟨rfl,rfl,rfl,mb _,λ_ _=>rfl⟩,oO⟩⟩
def Xf(o:ta)(d:Int):Bool:=bif bE o (bs [61])then d==0 else bif bE o (bs [33,61])then d !=0 else bif bE o (bs [60])then decide (d<0)else bif bE o (bs [60,61])then decide (d<=0)else bif bE o (bs [62])then decide (d>0)else decide (d>=0)
def Sj(x:Oa)(c:Cc):Int:=bif Qc c.field then Ft (Tc x c.field).2 c.name else aW ((Tc x c.field).1-c.num)
def Ab(x:Oa)(c:Cc):Bool:=Xf c.op (Sj x c)
def ydh(x:Oa)(c:Cc):aF prog 21 [Fl x,.g (yeB c)] (vB (Ab x c)):=by
 refine eP func21 rfl rfl call21 rfl rfl λR J=>aB (valueOf x c.field) ?_
 repeat refine aR ?_
 refine aB (Hh c.field) (aI (λh=>?_) (λh=>?_))
 ·have h:Qc c.field=true:=h;have hd:Sj x c=Ft (Tc x c.field).2 c.name:=by unfold Sj;rw[h];rfl
  refine aB (ydG (Tc x c.field).2 c.name) ?_;repeat refine aR ?_
  apply aI<;>intro g0
  ·exact Ia (by unfold Ab Xf;rw[hd,show bE c.op (bs [61])=true from g0];rfl)
  have g0:bE c.op (bs [61])=false:=g0;repeat refine aR ?_
  apply aI<;>intro g1
  ·exact Ia (by unfold Ab Xf;rw[hd,g0,show bE c.op (bs [33,61])=true from g1];rfl)
  have g1:bE c.op (bs [33,61])=false:=g1;repeat refine aR ?_
  apply aI<;>intro g2
  ·exact Ia (by unfold Ab Xf;rw[hd,g0,g1,show bE c.op (bs [60])=true from g2];rfl)
  have g2:bE c.op (bs [60])=false:=g2;repeat refine aR ?_
  apply aI<;>intro g3
  ·exact Ia (by unfold Ab Xf;rw[hd,g0,g1,g2,show bE c.op (bs [60,61])=true from g3];rfl)
  have g3:bE c.op (bs [60,61])=false:=g3;repeat refine aR ?_
  apply aI<;>intro g4
  ·exact Ia (by unfold Ab Xf;rw[hd,g0,g1,g2,g3,show bE c.op (bs [62])=true from g4];rfl)
  have g4:bE c.op (bs [62])=false:=g4;exact Ia (by unfold Ab Xf;rw[hd,g0,g1,g2,g3,g4];rfl)
 have h:Qc c.field=false:=h;have hd:Sj x c=aW ((Tc x c.field).1-c.num):=by unfold Sj;rw[h];rfl
 repeat refine aR ?_
 apply aI<;>intro g0
 ·exact Ia (by unfold Ab Xf;rw[hd,show bE c.op (bs [61])=true from g0];rfl)
 have g0:bE c.op (bs [61])=false:=g0;repeat refine aR ?_
 apply aI<;>intro g1
 ·exact Ia (by unfold Ab Xf;rw[hd,g0,show bE c.op (bs [33,61])=true from g1];rfl)
 have g1:bE c.op (bs [33,61])=false:=g1;repeat refine aR ?_
 apply aI<;>intro g2
 ·exact Ia (by unfold Ab Xf;rw[hd,g0,g1,show bE c.op (bs [60])=true from g2];rfl)
 have g2:bE c.op (bs [60])=false:=g2;repeat refine aR ?_
 apply aI<;>intro g3
 ·exact Ia (by unfold Ab Xf;rw[hd,g0,g1,g2,show bE c.op (bs [60,61])=true from g3];rfl)
 have g3:bE c.op (bs [60,61])=false:=g3;repeat refine aR ?_
 apply aI<;>intro g4
 ·exact Ia (by unfold Ab Xf;rw[hd,g0,g1,g2,g3,show bE c.op (bs [62])=true from g4];rfl)
 have g4:bE c.op (bs [62])=false:=g4;exact Ia (by unfold Ab Xf;rw[hd,g0,g1,g2,g3,g4];rfl)
end Go.Pj
namespace Go.Ax
open Go.RowKit
def cV.set{M:Mem}{V:Nm}:∀{cs:List SV} {vs:List wa} {j:Nat} {c c':SV},cV M V cs vs->cs[j]? =some c->(∀v,c.bI M V v->c'.bI M V v)->cV M V (cs.set j c') vs
 |[],_,_,_,_,_,h,_=>by simp at h
 |x::cs,[],_,_,_,h,_,_=>h.elim
 |x::cs,v::vs,0,c,c',h,hj,k=>by simp at hj;subst hj;exact⟨k v h.1,h.2⟩
 |x::cs,v::vs,j+1,c,c',h,hj,k=>⟨h.1,cV.set h.2 (by simpa using hj) k⟩
end Go.Ax
namespace Go.Ch
open Go Go.Ax Go.Proofs Go.Proofs.Tryz
attribute [local irreducible] kC mU in
def ycp(c:kE)(g:eZ)(hc:c.ok)(hg:g.ok):aF prog 80 [chan c,rK g] (Lp (zK c g 0).1 (zK c g 0).2):=by exact eP func80 rfl rfl call80 rfl rfl λR J=>aB (aM0 c g 0 hc hg) (db _)
def yd(a b p:Pt):Bool:=(decide (a.y<=p.y)&&decide (p.y<b.y))&&decide (nU a b p>0)
def hG(a b p:Pt):Bool:=bif decide (a.y>b.y)then yd b a p else yd a b p
def Nk(a p:Pt):Bool:= !decide (a.x<=p.x)&& !decide (a.y<=p.y)
def ycT{a b p:Pt}(hc:nU a b p=0)(hx:(a.x<=p.x/\p.x<=b.x)\/(b.x<=p.x/\p.x<=a.x))(hy:(a.y<=p.y/\p.y<=b.y)\/(b.y<=p.y/\p.y<=a.y)):jP a b p=true:=by
 have key:∀u v w:Int,(u<=w/\w<=v)\/(v<=w/\w<=u)->within w (mm false u v) (mm true u v)=true:=by
  intro u v w h;have h1:mm false u v<=w:=by unfold mm;simp only;split <;> omega
  have h2:w<=mm true u v:=by unfold mm;simp only;split <;> omega
  unfold within;rw[pc h1,pc h2];rfl
 unfold jP;rw[hc,key _ _ _ hx,key _ _ _ hy];rfl
def Gu(a b p:Pt):N0 a b p=(a.x-p.x)*(b.y-p.y)-(b.x-p.x)*(a.y-p.y):=by unfold N0;simp only[Gw,Hw];have h1:=Sn b.y p.x;have h2:=Sn b.y a.x;have h3:=Sn a.y p.x;have h4:=Sn a.y a.x;omega
def ycn(a b p:Pt):N0 b a p= -N0 a b p:=by rw[Gu,Gu];omega
def yek{n:Int}:decide (SY n<0)=decide (n<0):=by
 unfold SY;by_cases h:n<0
 ·simp[h]
 rw[Ka h];by_cases h2:n>0
 ·rw[La h2];simp;omega
 rw[Ka h2];simp;omega
def ydx{a b p:Pt}(ha:fB a=true)(hb:fB b=true)(hp:fB p=true)(hn:jP a b p=false):(hG a b p !=hR a b p)=(Nk a p !=Nk b p):=by
 obtain⟨c1,_,_⟩:=RQ ha hb hp;obtain⟨c2,_,_⟩:=RQ hb ha hp;have hs:=ycn a b p;have hsh:=Gu a b p;have YN:¬(N0 a b p=0/\((a.x<=p.x/\p.x<=b.x)\/(b.x<=p.x/\p.x<=a.x))/\((a.y<=p.y/\p.y<=b.y)\/(b.y<=p.y/\p.y<=a.y))):=λ⟨h0,h1,h2⟩=>by rw[ycT (by rw[c1];exact h0) h1 h2]at hn;cases hn
 have sg:∀u v:Int,(u>0->v>0->u*v>0)/\(u>0->v<=0->u*v<=0)/\(u<=0->v>0->u*v<=0)/\(u<=0->v<=0->u*v>=0):=λu v=>
  ⟨λh k=>Int.mul_pos h k,λh k=>Int.mul_nonpos_of_nonneg_of_nonpos O k,λh k=>Int.mul_nonpos_of_nonpos_of_nonneg h O,λh k=>rz h k⟩
 obtain⟨x1,x2,x3,x4⟩:=sg (a.x-p.x) (b.y-p.y);obtain⟨y1,y2,y3,y4⟩:=sg (b.x-p.x) (a.y-p.y);have hzero:(a.x-p.x)*(b.y-p.y)=0->a.x-p.x≠0->b.y-p.y=0:=λh0 h1=>(Int.mul_eq_zero.1 h0).resolve_left h1
 have eG:hG a b p=((decide (a.y<=p.y)&& !decide (b.y<=p.y))&&decide (N0 a b p>0)||(decide (b.y<=p.y)&& !decide (a.y<=p.y))&&decide (N0 a b p<0)):=by
  unfold hG yd;rw[c1,c2,hs,Ff];by_cases h:a.y>b.y
  ·rw[pc h];simp;omega
  rw[Kc h];simp;omega
 have eR:hR a b p=((!(decide (a.x<=p.x)==decide (b.x<=p.x)))&&(decide (N0 a b p<0)==decide (a.x<b.x))):=by unfold hR;rw[yek,c1]
 rw[eG,eR];unfold Nk;clear c1 c2 hs eG eR sg ha hb hp hn;generalize (a.x-p.x)*(b.y-p.y)=X at*;generalize (b.x-p.x)*(a.y-p.y)=sa at*;generalize N0 a b p=C at*;by_cases xa:a.x<=p.x <;> by_cases xb:b.x<=p.x <;> by_cases ya:a.y<=p.y <;> by_cases yb:b.y<=p.y <;> simp only[xa,xb,ya,yb,Ul,Dw,Bool.not_true,Sy,Cw,Uh,Bool.false_and,Ty,Zj,Ml,Ui,bne_self_eq_false];all_goals by_cases hx:a.x<b.x <;> rcases Int.lt_trichotomy C 0 with h|h|h
 all_goals first
  |(exfalso;omega)
  |(have h1:decide (C>0)=false:=Kc O
    have h2:decide (C<0)=true:=pc O
    simp[h1,h2,hx];done)
  |(have h1:decide (C>0)=true:=pc O
    have h2:decide (C<0)=false:=Kc O
    simp[h1,h2,hx];done)
  |(have h2:decide (C<0)=false:=Kc O
    simp[h2,hx];done)
def ybW(q:Nat->Bool):∀n,Pd (λi=>q i !=q (i+1)) n=(q 0 !=q n)
 |0=>by rw[Pd];cases q 0 <;> rfl
 |n+1=>by
  rw[Pd,ybW q n]
  cases q 0 <;> cases q n <;> cases q (n+1) <;> rfl
def ycF{f g h:Nat->Bool}:∀n,(∀i,i<n->(f i !=g i)=h i)->(Pd f n !=Pd g n)=Pd h n
 |0,_=>rfl
 |n+1,e=>by
  have ih:=ycF n λi hi=>e i O
  have:=e n O;rw[Pd,Pd,Pd,<-ih,<-this]
  cases Pd f n <;> cases Pd g n <;> cases f n <;> cases g n <;> rfl
def Bf(l:List Pt)(p:Pt)(i:Nat):Bool:=hG (sI l i) (qB l (i+1)) p
def yeM{l:List Pt}{p:Pt}(h3:3<=l.length)(hl:∀i,i<l.length->fB (l.getD i default)=true)(hp:fB p=true)(hn:∀i,i<l.length->Oj l p i=false):Pd (Bf l p) l.length=Pd (yq l p) l.length:=by
 have hc:∀j,fB (qB l j)=true:=λj=>hl _ (Cg _ O)
 have hpc:∀i,i<l.length->sI l i=qB l i:=λi hi=>by show l.getD i default=l.getD (i%l.length) default;rw[Rh hi]
 have h:=ycF (f:=Bf l p) (g:=yq l p) (h:=λi=>Nk (qB l i) p !=Nk (qB l (i+1)) p) l.length λi hi=>by have:=hn i hi;unfold Oj at this;unfold Bf yq;rw[hpc i hi]at this⊢;exact ydx (hc i) (hc (i+1)) hp this
 rw[ybW (λi=>Nk (qB l i) p)]at h;have e:qB l l.length=qB l 0:=by show l.getD (l.length%l.length) default=l.getD (0%l.length) default;rw[Nat.mod_self,Nat.zero_mod]
 simp only[e,bne_self_eq_false]at h;simpa using h
def gn(b:Bool):Int:=bif b then 1 else -1
def ybg{l:List Pt}(h:lP l=0):3<=l.length/\l.length<=40/\∀i,i<l.length->fB (l.getD i default)=true:=by
 unfold lP at h
 cases h1:decide ((l.length:Int)<3)with
 |true=>rw[h1]at h;cases h
 |false=>
  cases h2:decide ((l.length:Int)>40)with
  |true=>rw[h1,h2]at h;cases h
  |false=>
   cases h3:(l.any λp=> !fB p)with
   |true=>rw[h1,h2,h3]at h;cases h
   |false=>have h1:=bF h1;have h2:=bF h2;refine⟨O,O,λi hi=>?_⟩;rw[Tg]at h3;have:=h3 _ (Ce hi);rw[aX hi];simpa using this
def yea(l:List Pt)(p:Pt)(h3:3<=l.length)(h40:l.length<=40)(hg:∀i,i<l.length->fB (l.getD i default)=true)(hp:fB p=true):aF prog 215 [w9 l,pt p] (vI (al l p)):=by
 have fJ:l≠[]:=by rintro rfl;cases h3
 refine eP func215 rfl rfl call215 rfl rfl λR J=>Gb (λi:Nat=>⟨[(0,w9 l),(3,.s (.ptr 3 0)),(5,vI (gn (Pd (Bf l p) i))),(9,w9 l),(10,vI l.length),(11,vI i)],[(3,some (rj p))]⟩) (λi=>i<=l.length/\∀j,j<i->Oj l p j=false) (λi=>l.length-i) 0 ⟨Nat.zero_le _,λj hj=>absurd hj (cd j)⟩ (Qa J [] rfl Fa Fa) ?_
 rintro i ⟨hi,hj⟩;apply eX J;apply aI<;>intro h
 ·have h:(i:Int)<l.length:=bG h;have bC:i<l.length:=O;have e1:aW ((i:Int)+1)=((i+1:Nat):Int):=aG O O;have c2:aF prog 306 [w9 l,vI (aW ((i:Int)+1))] (pt (qB l (i+1))):=by rw[e1];exact NM l (i+1) fJ
  refine oi Ha (aB c2 ?_);refine aB (on (sI l i) (qB l (i+1)) p) (aI (λh2=>?_) (λh2=>?_))
  ·have h2:Oj l p i=true:=h2;have e:al l p=0:=by unfold al;rw[eI bC h2];rfl
   rw[e];exactλ_ _ r=>r
  have h2:Oj l p i=false:=h2;have qR:∀j,j<i+1->Oj l p j=false:=λj qR=>by
   by_cases y7:j=i
   ·rw[y7];exact h2
   exact hj j O
  have yes:Bf l p i=true->aW (0-gn (Pd (Bf l p) i))=gn (Pd (Bf l p) (i+1)):=λh3=>by rw[Pd,h3];cases Pd (Bf l p) i <;> rfl
  have no:Bf l p i=false->gn (Pd (Bf l p) i)=gn (Pd (Bf l p) (i+1)):=λh3=>by rw[Pd,h3];cases Pd (Bf l p) i <;> rfl
  apply aI<;>intro hs
  ·have hs:decide ((sI l i).y>(qB l (i+1)).y)=true:=hs;have eh:Bf l p i=yd (qB l (i+1)) (sI l i) p:=by unfold Bf hG;rw[hs];rfl
   repeat refine aR ?_
   refine bR (T8 (qB l (i+1)) (sI l i) p) ?_;repeat refine aR ?_
   apply aI<;>intro h3
   ·have h3:=eh.trans h3;exact⟨i+1,⟨O,qR⟩,O,Qa J [] rfl Fa ⟨Z,Z,⟨rfl,Ra (yes h3)⟩,Z,Z,⟨rfl,Ra e1⟩,oO⟩⟩
   have h3:=eh.trans h3;exact⟨i+1,⟨O,qR⟩,O,Qa J [] rfl Fa ⟨Z,Z,⟨rfl,Ra (no h3)⟩,Z,Z,⟨rfl,Ra e1⟩,oO⟩⟩
  have hs:decide ((sI l i).y>(qB l (i+1)).y)=false:=hs;have eh:Bf l p i=yd (sI l i) (qB l (i+1)) p:=by unfold Bf hG;rw[hs];rfl
  repeat refine aR ?_
  refine bR (T8 (sI l i) (qB l (i+1)) p) ?_;repeat refine aR ?_
  apply aI<;>intro h3
  ·have h3:=eh.trans h3;exact⟨i+1,⟨O,qR⟩,O,Qa J [] rfl Fa ⟨Z,Z,⟨rfl,Ra (yes h3)⟩,Z,Z,⟨rfl,Ra e1⟩,oO⟩⟩
  have h3:=eh.trans h3;exact⟨i+1,⟨O,qR⟩,O,Qa J [] rfl Fa ⟨Z,Z,⟨rfl,Ra (no h3)⟩,Z,Z,⟨rfl,Ra e1⟩,oO⟩⟩
 have h:¬(i:Int)<l.length:=bF h;obtain rfl:i=l.length:=O;refine Ia (Na vI ?_);unfold al;rw[oK hj,<-yeM h3 hg hp hj];rfl
attribute [local irreducible] lP in
def yd9(l:List Pt)(p:Pt)(he:lP l=0)(hp:fB p=true):aF prog 152 [w9 l,pt p] (rIE (al l p) 0):=by
 obtain⟨h3,h40,hg⟩:=ybg he;refine eP func152 rfl rfl call152 rfl rfl λR J=>aB (JY l O) (aI (λh=>?_) (λ_=>?_))
 ·have h:(lP l !=0)=true:=h;rw[he]at h;cases h
 refine aB ((B0 [p] sM).conv (args':=_) ⟨Yc λi j hi hj=>Wa ?_,oO⟩) ?_
 ·have hi:i<1:=hi;have hj:j<2:=hj
  match i,j,hi,hj with
  |0,0,_,_=>rfl
  |0,1,_,_=>rfl
 refine aI (λh=>?_) (λ_=>?_)
 ·simp[hp]at h
 exact aB (yea l p h3 h40 hg hp) (Re ⟨Ja _,λ_ _ r=>r,oO⟩)
def yb0(g:eZ)(l:List Pt)(i:Nat):Be g l (i+1)=bif Lj g l i then Be g l i++ [(i:Int)]else Be g l i:=by
 unfold Be;rw[c8]
 cases Lj g l i <;> simp
def ycm(g:eZ)(l:List Pt)(i:Nat):(Be g l i).length<=i:=by have:=Qg (λk=>bif Lj g l k then some (k:Int)else none) (List.range i);rw[Ay]at this;exact this
def Im(g:eZ)(l:List Pt):List Int×Int:=bif kC g !=0 then([],kC g)else bif lP l !=0 then([],lP l)else(Be g l g.levels.length,0)
def ye(g:eZ)(l:List Pt)(hg:g.ok)(hl:l.length<=1000000):aF prog 81 [rK g,w9 l] (.t [.s (.d (b5 (Im g l).1)),.s (.d (dI (Im g l).2))]):=by
 refine eP func81 rfl rfl call81 rfl rfl λR J=>aB (UW g hg.levels) ?_
 unfold Im;apply aI<;>intro h
 ·have h:(kC g !=0)=true:=h;rw[h,cond_true];exact Re ⟨Nd,Ja _,oO⟩
 have h:(kC g !=0)=false:=h;rw[h,Ua];have gv:=FO.of (show kC g=0 by simpa using h);have hn:=gv.n;refine aB (JY l O) (aI (λh2=>?_) (λh2=>?_))
 ·have h2:(lP l !=0)=true:=h2;rw[h2,cond_true];exact Re ⟨Nd,Ja _,oO⟩
 have h2:(lP l !=0)=false:=h2;rw[h2,Ua];have he:lP l=0:=by simpa using h2
 refine Gb (λi:Nat=>⟨[(1,w9 l),(2,.s (.ptr 2 0)),(8,.s (.mo (Be g l i).isEmpty 100)),(24,vI g.levels.length),(25,vI i)],
   [(2,some (aMS g)),(100,some (.b8 3 (Be g l i).length 1 (cP (Be g l i))))]⟩)
  (λi=>i<=g.levels.length) (λi=>g.levels.length-i) 0 (Nat.zero_le _) ?_ ?_
 ·exact Qa J [(100,1000)] rfl ⟨bQ,⟨rfl,rfl⟩,oO⟩ ⟨Z,Z,⟨rfl,fg rfl⟩,Fa⟩
 intro i hi;have hlen:=ycm g l i;apply eX J;apply aI<;>intro h
 ·have h:(i:Int)<g.levels.length:=bG h;have bC:i<g.levels.length:=O;refine aB (aGI g i (by have:=gv.dO;omega)) ?_;refine aB (yd9 l (dP g i) he (RY gv bC).1) (aI (λh2=>?_) (λh2=>?_))
  ·have h2:Lj g l i=true:=h2;have e:Be g l (i+1)=Be g l i++ [(i:Int)]:=by rw[yb0,h2];rfl
   apply ob dC;refine ob (by rw[dK];show _*8<=_;omega) ?_;refine ob (nJ (AS rfl)) ⟨i+1,O,O,?_⟩;refine Qa J [(100,41)] rfl ⟨bQ,⟨rfl,?_⟩,oO⟩ ⟨Z,Z,⟨rfl,Ye ?_⟩,Fa⟩
   ·show aY _ (.b8 3 (Be g l (i+1)).length 1 (cP (Be g l (i+1))));rw[e];exact iJ.b8 (el:=λx _=>dI x) (wk yeH (AS rfl))
   rw[e];exact cA _ _
  have h2:Lj g l i=false:=h2;have e:Be g l (i+1)=Be g l i:=by rw[yb0,h2];rfl
  refine⟨i+1,O,O,?_⟩;exact Qa J [] rfl ⟨bQ,⟨rfl,cc (by rw[e];rfl)⟩,oO⟩ ⟨Z,Z,⟨rfl,Wb (by rw[e];rfl)⟩,Fa⟩
 have h:¬(i:Int)<g.levels.length:=bF h;obtain rfl:i=g.levels.length:=O;exact Re ⟨Qe (dK _) λ_ _ _ _=>Ja _,Ja _,oO⟩
end Go.Ch
namespace Go.Pj
open Go Go.Ax Go.Ch Go.Proofs Go.Proofs.Tryz
def PV.val{p:Proj}(h:PV p):ni p.chan:=aHP p.chan h.chan
def ybk{l:List zP}:∀{n i:Nat},rT l n i=0->∀j,i<=j->j<i+n->pC (l.getD j default) (l.take j)=0
 |0,i,_,j,h1,h2=>by omega
 |n+1,i,h,j,h1,h2=>by
  rw[rT]at h;obtain⟨ha,hb⟩:=dU h;by_cases hj:j=i
  ·subst hj;exact ha
  exact ybk hb j O O
def PV.yfl{p:Proj}(h:PV p){i:Nat}(hi:i<p.chan.Ya.length):lP (p.chan.Ya.getD i default).lS=0:=by have hc:=h.chan;unfold mU at hc;obtain⟨_,hc⟩:=dF dC hc;obtain⟨_,hc⟩:=dF dC hc;obtain⟨_,hc⟩:=dU hc;obtain⟨_,hc⟩:=dF dC hc;have hr:=ybk hc i (Nat.zero_le _) O;unfold pC at hr;obtain⟨_,hr⟩:=dF dC hr;obtain⟨_,hr⟩:=dF dC hr;obtain⟨_,hr⟩:=dF dC hr;exact hr
def PV.eS{p:Proj}(h:PV p){i:Nat}(hi:i<p.cU.length):0<=PG p.chan.Ya (p.cU.getD i default).name/\(p.cU.getD i default).due<=24:=by have hs:=h.cU;unfold rR at hs;obtain⟨_,hs⟩:=dF dC hs;have hr:=lQ hs i (Nat.zero_le _) O;unfold qG at hr;obtain⟨h1,hr⟩:=dF dC hr;obtain⟨_,hr⟩:=dF dC hr;obtain⟨h3,hr⟩:=dF dC hr;simp only[Qd]at h1;simp only[Ed,Ph,within,Bool.and_eq_true,ae]at h3;omega
def yfg(des low:eZ)(i:Nat)(c d:Nat->DV)(hc:∀j,j<6->c j=pj des j)(hd:∀j,j<6->d j=pj low j)(h1:i<des.levels.length)(h2:i<low.levels.length):
  aF prog 83 [vI i,.s (.d (.rp 6 c)),.s (.d (.rp 6 d))] (vB (Su des.levels low.levels i)):=by
 refine Ze (args:=[vI i,.s (.d (.rp 6 (pj des))),.s (.d (.rp 6 (pj low)))]) ?_ ⟨Ja _,Zc λj hj=>Wa (hc j hj),Zc λj hj=>Wa (hd j hj),oO⟩
 refine eP func83 rfl rfl call83 rfl rfl λR J=>?_
 apply oi Ha
 repeat refine aR ?_
 refine og (λ_=>Ha) ?_
 repeat refine aR ?_
 refine og (λ_=>Ha) ?_
 repeat refine aR ?_
 refine aD ?_
 exact db _
def ydT{g:eZ}{l:List Pt}{n:Nat}{x:Int}(h:x∈Be g l n):0<=x/\x.toNat<n:=by
 unfold Be at h;obtain⟨k,hk,hx⟩:=lh.1 h;have hk:=Gf.1 hk
 cases hw:Lj g l k with
 |true=>rw[hw]at hx;cases hx;omega
 |false=>rw[hw]at hx;cases hx
def complete(p:Proj)(Y:List Fact)(x:zF)(low:eZ)(hp:p.fits)(hv:PV p)(h0:0<=PG p.chan.Ya x.name)(hl:low.levels.length=p.aT.levels.length):
  aF prog 46 [SR p Y,.g [.d (dS x.name),.d (dI x.due),.d (dI x.Cf)],rK low] (vB (aP5 p x.name low)):=by
 have gv:=hv.gv
 have hn:=gv.n
 have hgok:=wx gv
 have aCK:(PG p.chan.Ya x.name).toNat<p.chan.Ya.length:=(yN (λr:zP=>bE r.name x.name&&r.kind==0) p.chan.Ya 0 h0).2.1
 have hpoly:=hv.yfl aCK
 obtain⟨_,h40,_⟩:=ybg hpoly
 have hD:=ycp p.chan p.aT hp.chan hgok
 rw[hv.rK 0]at hD
 have hW:=ye p.aT (cj p x.name) hgok (by unfold cj;omega)
 have hW':Im p.aT (cj p x.name)=(Be p.aT (cj p x.name) p.aT.levels.length,0):=by unfold Im;rw[hv.aT,show lP (cj p x.name)=0 from hpoly];rfl
 rw[hW']at hW
 have hwl:=ycm p.aT (cj p x.name) p.aT.levels.length
 refine eW func46 rfl rfl call46 rfl rfl (λR J=>?_)
 apply sX J
 apply sX J
 apply aB hD
 apply sX J
 refine aB (aA5 p.chan x.name hp.Ya) ?_
 refine oi ⟨h0,O⟩ ?_
 apply aB hW
 refine aD ?_
 apply sX J
 refine aB (tZ (Be p.aT (cj p x.name) p.aT.levels.length) O 83 2 _ (λn=>Su (Rp p).levels low.levels n.toNat) (λn hm=>?_)) ?_
 ·obtain⟨m0,m1⟩:=ydT hm;have e:n=((n.toNat:Nat):Int):=O;have:=yfg (Rp p) low n.toNat (λj=>pj (Rp p) j) (λj=>pj low j) (λ_ _=>rfl) (λ_ _=>rfl) (by rw[E6];exact m1) O;rw[<-e]at this;refine Ze this ⟨Ja _,Zc λj hj=>Wa ?_,Zc λj hj=>Wa ?_,oO⟩
  ·match j,hj with|0,_|1,_|2,_|3,_|4,_|5,_=>rfl
  match j,hj with|0,_|1,_|2,_|3,_|4,_|5,_=>rfl
 apply eX J
 exact db _
def yfp(f:Fact)(s:ta)(m:Int)(c d:Nat->DV)(hc:c 0=dS s)(hd:d 0=dI m):aF prog 45 [pX f,.s (.d (.rp 3 c)),.s (.d (.rp 1 d))] (vB (ot s m f)):=by
 refine Ze (args:=[pX f,.s (.d (.rp 3 (UO s))),.s (.d (.rp 1 λ_=>dI m))]) ?_ ⟨⟨Ja _,Ja _,Ja _,Ja _,Ja _,Ja _,Ja _,Ja _,Ja _,Ja _,Ja _,Ja _,Ja _,oO⟩,Zc λj hj=>?_,Zc λj hj=>Wa (by rw[show j=0 by omega];exact hd),oO⟩
 ·refine eP func45 rfl rfl call45 rfl rfl λR J=>?_
  repeat refine aR ?_
  exact db _
 match j with
 |0=>exact Wa hc
 |_+1=>exactλ_ _ _=>trivial
def yda(p:Proj)(Y:List Fact)(m:Int)(low:eZ)(n:Nat):M6 p Y m low (n+1)=M6 p Y m low n++(Mm p Y m low n).toList:=by unfold M6;rw[c8]
def late(p:Proj)(Y:List Fact)(m:Int)(low:eZ)(hp:p.fits)(hv:PV p)(hf:Y.length<=9223372036854775807)(hl:low.levels.length=p.aT.levels.length):
  aF prog 18 [SR p Y,vI m,rK low] (U8 (M6 p Y m low p.cU.length)):=by
 have hsl:p.cU.length<=20:=by have h:=hv.cU;unfold rR at h;obtain⟨h,_⟩:=dF dC h;simp only[Qd]at h;omega
 refine eW func18 rfl rfl call18 rfl rfl (λR J=>?_)
 apply sX J
 apply sX J
 refine Sa (sX J ?_)
 apply Eb
 refine Gb (λi:Nat=>⟨[(3,.s (.ptr 3 0)),(4,.s (.ptr 4 0)),(5,.s (.ptr 5 0)),(7,.s (.mo (M6 p Y m low i).isEmpty 100)),(13,U7 p.cU),(14,vI p.cU.length),(15,vI i)],[(3,some (.cells (l0 p Y))),(4,some (.cells [.d (dI m)])),(5,some (.cells [.d (dI low.x),.d (dI low.y),.d (dI low.side),.d (dI low.dO),.d (dI low.rows),.d (b5 low.levels)])),(100,some (.b8 85 (M6 p Y m low i).length 2 (Qm (M6 p Y m low i))))]⟩) (λi=>i<=p.cU.length) (λi=>p.cU.length-i) 0 (Nat.zero_le _) ?_ ?_
 ·exact Qa J [(100,1000)] rfl ⟨bQ,bQ,bQ,⟨rfl,rfl⟩,oO⟩ ⟨Z,Z,Z,⟨rfl,fg rfl⟩,Fa⟩
 ·intro i hi;have hlen:=aB0 p Y m low i;have fN:=yda p Y m low i;refine sX J (Sa (Cb ?_));refine aI (λh=>Qb ?_) (λh=>Ld ?_)
  ·have h:(i:Int)<p.cU.length:=bG h;have hreg:=(hv.eS (show i<p.cU.length by omega)).1;refine Sa (Eb ?_);refine sX J (oi Ha ?_);generalize hS:p.cU.getD i default=s at hreg;refine Tb (I':=⟨[(3,.s (.ptr 3 0)),(4,.s (.ptr 4 0)),(5,.s (.ptr 5 0)),(7,.s (.mo (M6 p Y m low i).isEmpty 100)),(9,.s (.ptr 9 0)),(13,U7 p.cU),(14,vI p.cU.length),(15,vI i)],[(3,some (.cells (l0 p Y))),(4,some (.cells [.d (dI m)])),(5,some (.cells [.d (dI low.x),.d (dI low.y),.d (dI low.side),.d (dI low.dO),.d (dI low.rows),.d (b5 low.levels)])),(9,some (.cells [.d (dS s.name),.d (dI s.due),.d (dI s.Cf)])),(100,some (.b8 85 (M6 p Y m low i).length 2 (Qm (M6 p Y m low i))))]⟩) (Qa J [] rfl ⟨bQ,bQ,bQ,⟨rfl,cc (by rw[<-hS];rfl)⟩,Fa⟩ Fa) ?_;refine sX J (aB (yb7 Y hf 45 2 _ (ot s.name m) (λq _=>yfp q s.name m _ _ rfl rfl)) ?_);refine Tb (I':=⟨[(3,.s (.ptr 3 0)),(4,.s (.ptr 4 0)),(5,.s (.ptr 5 0)),(7,.s (.mo (M6 p Y m low i).isEmpty 100)),(9,.s (.ptr 9 0)),(10,vB (aHO Y s.name m)),(13,U7 p.cU),(14,vI p.cU.length),(15,vI i)],[(3,some (.cells (l0 p Y))),(4,some (.cells [.d (dI m)])),(5,some (.cells [.d (dI low.x),.d (dI low.y),.d (dI low.side),.d (dI low.dO),.d (dI low.rows),.d (b5 low.levels)])),(9,some (.cells [.d (dS s.name),.d (dI s.due),.d (dI s.Cf)])),(100,some (.b8 85 (M6 p Y m low i).length 2 (Qm (M6 p Y m low i))))]⟩) (Qa J [] rfl Fa Fa) (sX J ?_);repeat refine aR ?_
   refine bR (complete p Y s low hp hv hreg hl) ?_;repeat refine aR ?_
   refine Cb (aI (λh2=>?_) (λh2=>Qb ?_))
   ·have h2:Lv p Y m low s=true:=h2;have e:M6 p Y m low (i+1)=M6 p Y m low i++ [⟨s.name,s.Cf⟩]:=by rw[fN];unfold Mm;rw[hS,h2];rfl
    refine eX J (ob dC ?_);refine ob (by rw[dK];show((M6 p Y m low i).length+1)*24<=_;omega) ?_;refine ob (nJ (Fm rfl rfl)) (eX J ?_);refine⟨i+1,O,O,?_⟩;refine Qa J [(100,45)] rfl ⟨bQ,bQ,bQ,⟨rfl,?_⟩,oO⟩ ⟨Z,Z,Z,⟨rfl,Ye (by rw[e];exact cA _ _)⟩,Fa⟩;show aY _ (.b8 85 (M6 p Y m low (i+1)).length 2 (Qm (M6 p Y m low (i+1))));rw[e];refine Nf (el:=aO2) (x:=⟨s.name,s.Cf⟩) (λc hc=>?_);have hc:c<2:=hc
    match c,hc with|0,_|1,_=>rfl
   have h2:Lv p Y m low s=false:=h2;have e:M6 p Y m low (i+1)=M6 p Y m low i:=by rw[fN];unfold Mm;rw[hS,h2];exact mh _
   refine eX J ⟨i+1,O,O,?_⟩;exact Qa J [] rfl ⟨bQ,bQ,bQ,⟨rfl,cc (by rw[e];rfl)⟩,oO⟩ ⟨Z,Z,Z,⟨rfl,Wb (by rw[e];rfl)⟩,Fa⟩
  have h:¬(i:Int)<p.cU.length:=bF h;obtain rfl:i=p.cU.length:=O;exact eX J aC.mo
open Go Go.Ax Go.Ch Go.Proofs Go.Proofs.Tryz Go.Sort Go.Shelf
def ydA(a:Int)(w:Aa):Calls prog 201 #[.int .i64 a] w λe w'=>e=.returned (.bool false)/\w'=w:=by go_enter func201,Tryz.ntmps201;go_wp2;go_ret;exact⟨rfl,rfl⟩
def yeA(a b:Int)(w:Aa):Calls prog 138 #[.int .i64 a,.int .i64 b] w λe w'=>e=.returned (.int .i64 (Qf a b))/\w'=w:=by
 have hc:=λa w'=>ydA a w'
 go_enter func138,Tryz.ntmps138;go_wp2_with (first|(go_at_fn 201;refine(hc _ _).mono ?_;rintro e w' ⟨rfl,rfl⟩));refine(hc _ _).mono ?_;rintro e w' ⟨rfl,rfl⟩;go_wp2_with (first|(go_at_fn 201;refine(hc _ _).mono ?_;rintro e w' ⟨rfl,rfl⟩));refine(hc _ _).mono ?_;rintro e w' ⟨rfl,rfl⟩;go_wp2;all_goals go_ret
 all_goals (refine⟨?_,rfl⟩;unfold Qf)
 all_goals first
  |(rw[La (by assumption)];rfl)
  |(rw[Ka O,La (by assumption)];rfl)
  |(rw[Ka O,Ka O];rfl)
def ye0(a b:Int)(g cap:Nat)(w:Aa)(h0:w.cell? ⟨g,0,none⟩=some (.int .i64 a))(h1:w.cell? ⟨g,1,none⟩=some (.int .i64 b)):
  Calls prog 137 #[.slice (some ⟨g,0,none⟩) 2 cap] w λe w'=>e=.returned (.int .i64 (Bl a b))/\w'=w:=by
 go_enter func137,Tryz.ntmps137
 go_wp2_with fail
 go_rounds 3
 all_goals go_ret
 all_goals (refine⟨?_,rfl⟩;unfold Bl)
 ·rename_i hz;rw[hz];rfl
 ·rename_i hz;rw[show(a !=0)=false by assumption,hz];rfl
 ·rw[show(a !=0)=false by assumption,show(b !=0)=false by assumption];rfl
def ye1(a b:Int)(w:Aa)(o1 o2:Obj):
  Calls prog 137 #[.slice (some ⟨w.heap.size+1+1,0,none⟩) 2 2] (((w.alloc o1).alloc o2).alloc (.cells #[.int .i64 a,.int .i64 b] 3)).drew λe w'=>e=.returned (.int .i64 (Bl a b))/\w'=(((w.alloc o1).alloc o2).alloc (.cells #[.int .i64 a,.int .i64 b] 3)).drew:=
 by
 have hs:((w.alloc o1).alloc o2).heap.size=w.heap.size+1+1:=by show(Array.push (Array.push w.heap o1) o2).size=_;rw[Array.size_push,Array.size_push]
 have hh:((((w.alloc o1).alloc o2).alloc (.cells #[.int .i64 a,.int .i64 b] 3)).drew).heap[w.heap.size+1+1]? =some (.cells #[.int .i64 a,.int .i64 b] 3):=by rw[<-hs];exact Ke ((w.alloc o1).alloc o2) _
 exact ye0 a b _ _ _ (by simp only[World.cell?,hh];rfl) (by simp only[World.cell?,hh];rfl)
open Go Go.Ax Go.Ch Go.Proofs Go.Proofs.Tryz Go.Sort Go.Shelf
def yez(m1 n1 m2 n2:Int)(w:Aa)(v0 v1 v2 v5 v6 v7 v8 v9 v10 v11 v12 u0 u1 u2 u5 u6 u7 u8 u9 u10 u11 u12:wa):
  Calls prog 136 #[.agg #[v0,v1,v2,.int .i64 m1,.int .i64 n1,v5,v6,v7,v8,v9,v10,v11,v12],.agg #[u0,u1,u2,.int .i64 m2,.int .i64 n2,u5,u6,u7,u8,u9,u10,u11,u12]] w λe w'=>
   e=.returned (.int .i64 (Bl (Qf m1 m2) (Qf n1 n2)))/\∃q os',w'=grow (w.drewN q) os':=by
 have hc:=λa b w'=>yeA a b w'
 have ho:=ye1 (Qf m1 m2) (Qf n1 n2) w (.cells #[v0,v1,v2,.int .i64 m1,.int .i64 n1,v5,v6,v7,v8,v9,v10,v11,v12] 67) (.cells #[u0,u1,u2,.int .i64 m2,.int .i64 n2,u5,u6,u7,u8,u9,u10,u11,u12] 67)
 go_enter func136,Tryz.ntmps136
 go_wp2_with fail
 go_region_with (first|(go_at_call 138;refine(hc _ _ _).mono ?_;rintro e w' ⟨rfl,rfl⟩)|(go_at_call 137;apply Calls.mono ho;intro e w1 V7;obtain⟨he,V7⟩:=V7;subst he))
 all_goals go_wp2
 all_goals (try go_ret)
 all_goals first
  |exact⟨rfl,1, #[.cells #[v0,v1,v2,.int .i64 m1,.int .i64 n1,v5,v6,v7,v8,v9,v10,v11,v12] 67,.cells #[u0,u1,u2,.int .i64 m2,.int .i64 n2,u5,u6,u7,u8,u9,u10,u11,u12] 67,.cells #[.int .i64 (Qf m1 m2),.int .i64 (Qf n1 n2)] 3],rfl⟩
  |exact⟨by simp[Act.put],1, #[.cells #[v0,v1,v2,.int .i64 m1,.int .i64 n1,v5,v6,v7,v8,v9,v10,v11,v12] 67,.cells #[u0,u1,u2,.int .i64 m2,.int .i64 n2,u5,u6,u7,u8,u9,u10,u11,u12] 67,.cells #[.int .i64 (Qf m1 m2),.int .i64 (Qf n1 n2)] 3],rfl⟩
  |exact⟨rfl,1, #[.cells #[v0,v1,v2,.int .i64 m1,.int .i64 n1,v5,v6,v7,v8,v9,v10,v11,v12] 67,.cells #[u0,u1,u2,.int .i64 m2,.int .i64 n2,u5,u6,u7,u8,u9,u10,u11,u12] 67,.cells #[.int .i64 (Qf m1 m2),.int .i64 (Qf n1 n2)] 3],V7.trans rfl⟩
def Al(x y:Fact):ltOf Ai x y=decide (x.month<y.month\/(x.month=y.month/\x.number<y.number)):=by
 unfold ltOf Ai Bl Qf;apply Mn.2;by_cases h1:x.month<y.month
 ·simp[h1]
 by_cases h2:y.month<x.month
 ·have:x.month≠y.month:=O;simp[h1,h2,this]
 have e:x.month=y.month:=O;by_cases h3:x.number<y.number
 ·simp[e,h3]
 by_cases h4:y.number<x.number
 ·simp[e,h3,h4]
 simp[e,h3,h4]
def yfn:SWO (ltOf Ai) where
 irrefl:=λx=>by rw[Al];simp
 trans:=λx y z h1 h2=>by rw[Al,ae]at*;omega
 ntrans:=λx y z h1 h2=>by rw[Al,Qd]at*;omega
instance:Inhabited (GV J0 13):=⟨⟨(default,[.int .i64 (default:Fact).kind,.int .i64 (default:Fact).seq,.int .i64 (default:Fact).a8,.int .i64 (default:Fact).month,.int .i64 (default:Fact).number,.int .i64 (default:Fact).aT,.int .i64 (default:Fact).over,.int .i64 (default:Fact).Jb,.int .i64 (default:Fact).target,.string (default:Fact).aN,.string (default:Fact).dN,.string (default:Fact).eS,.slice none 0 0]),by
 refine⟨rfl,λv hv=>?_,λj u hj hu=>?_⟩
 ·simp only[wb,Sd,Kd]at hv;rcases hv with rfl|rfl|rfl|rfl|rfl|rfl|rfl|rfl|rfl|rfl|rfl|rfl|rfl <;> rfl
 match j,hj,hu with
 |0,_,hu|1,_,hu|2,_,hu|3,_,hu|4,_,hu|5,_,hu|6,_,hu|7,_,hu|8,_,hu|9,_,hu|10,_,hu|11,_,hu=>cases hu;rfl
 |12,_,hu=>cases hu⟩⟩
def ydc(blk off n:Nat)(w:Aa):CmpLays prog 136 #[] (λp:GV J0 13=>p.1.2) 13 (λp q=>Ai p.1.1 q.1.1) blk off n w:=by
 intro m os dk _ x y;generalize sortWorldK _ 13 w blk off m dk os=W;obtain⟨⟨s,vs⟩,hx⟩:=x;obtain⟨⟨t,us⟩,hy⟩:=y;have e1:=hx.len;have e2:=hy.len;have s3:=hx.val 3 (.int .i64 s.month) O rfl;have s4:=hx.val 4 (.int .i64 s.number) O rfl;have t3:=hy.val 3 (.int .i64 t.month) O rfl;have t4:=hy.val 4 (.int .i64 t.number) O rfl
 match vs,e1,us,e2,s3,s4,t3,t4 with
 |[v0,v1,v2,v3,v4,v5,v6,v7,v8,v9,v10,v11,v12],_,[u0,u1,u2,u3,u4,u5,u6,u7,u8,u9,u10,u11,u12],_,s3,s4,t3,t4=>obtain rfl:v3=.int .i64 s.month:=sc s3;obtain rfl:v4=.int .i64 s.number:=sc s4;obtain rfl:u3=.int .i64 t.month:=sc t3;obtain rfl:u4=.int .i64 t.number:=sc t4;exact yez s.month s.number t.month t.number W v0 v1 v2 v5 v6 v7 v8 v9 v10 v11 v12 u0 u1 u2 u5 u6 u7 u8 u9 u10 u11 u12
def ycq(l:List Fact)(hn:∀a∈l,∀b∈l,a.number=b.number->a=b)(l':List Fact)(hp:l'.Perm l)(hs:l'.Pairwise (λx y=>ltOf Ai y x=false)):l'=JH l:=by
 refine Rx (le:=λx y=>ltOf Ai y x=false) ?_ hs ?_ (hp.trans (Oi _ _).symm)
 ·intro a b ha hb h1 h2;have ha:a∈l:=hp.mem_iff.1 ha;have hb:b∈l:=(Oi _ _).mem_iff.1 hb;rw[Al,Qd]at h1 h2;exact hn a ha b hb O
 have:=Rv (le:=λx y:Fact=> !(ltOf Ai y x)) (λa b c h1 h2=>by
  simp only[Al,Qh,Qd]at*;omega) (λa b=>by
  simp only[Al,Sh,Qh,Qd];omega) l
 exact this.imp λ{x y} h=>by simpa using h
def yc3(l:List Fact)(hn:∀a∈l,∀b∈l,a.number=b.number->a=b)(f0:Nat->Nat->DV)(SO:∀i j,i<l.length->j<13->aK (f0 i j) (nE l i j))(hl:l.length<=1000000):
  bW prog 135 [.s (.own 1001),.s (.dZ 136 [])] [(1001,.row 67 l.length 13 f0)] (.t []) [(1001,.row 67 l.length 13 (nE (JH l)))]:=
 aKD (α:=Fact) (k:=13) Tryz.aBY rfl call135 dC Tryz.isAgg67 Tryz.sizeOf67 J0 (λt j h=>aCW t j h) Ai yfn
  (enters_of func136 kR rfl) ydc l (JH l) (ycq l hn) f0 SO hl
open Go Go.Ax Go.Ch Go.Proofs Go.Proofs.Tryz
def ZR.of{Y:List Fact}{m:Int}(hl:Y.length<=200)(hn:∀a∈tO Y m,∀b∈tO Y m,a.number=b.number->a=b):ZR Y m:=λ_=>
 yc3 _ hn _ (λ_ _ _ _=>λ_ _ r=>r) (by have:(tO Y m).length<=Y.length:=Mh _ _;omega)
def ybV{g:Fact}(h:g.kind=1)(hv:nZ g=0):bT g=iO [AX,Lib.itoa g.number]:=by unfold bT nH cS;rw[hv,h];rfl
def yc8{l:List Fact}(hv:∀f∈l,fR f=0)(m:Int):∀a∈tO (cntF l) m,∀b∈tO (cntF l) m,a.number=b.number->a=b:=by
 intro a ha b hb hn;unfold tO at ha hb;obtain⟨ha,a1⟩:=rf.1 ha;obtain⟨hb,b1⟩:=rf.1 hb;simp only[Bool.and_eq_true,Tf]at a1 b1;obtain⟨k1,_,e1,g1,hg1,c1,q1⟩:=N4 hv ha;obtain⟨k2,_,e2,g2,hg2,c2,q2⟩:=N4 hv hb;have t1:g1.kind=1:=by have:=a1.1;rw[c1]at this;exact this
 have t2:g2.kind=1:=by have:=b1.1;rw[c2]at this;exact this
 have n1:a.number=g1.number:=by rw[c1];unfold jE fW;simp[t1]
 have n2:b.number=g2.number:=by rw[c2];unfold jE fW;simp[t2]
 have z1:=(kN (hv g1 hg1)).1;have z2:=(kN (hv g2 hg2)).1;have hkk:k1=k2:=by rw[<-q1,<-q2,ybV t1 z1,ybV t2 z2,<-n1,<-n2,hn]
 rw[e1,e2,hkk]
def Zg{α:Type} [Inhabited α] {l:List α}{i:Nat}(h:i<l.length):l.take (i+1)=l.take i++ [l.getD i default]:=by rw[Bg,fc,List.getElem?_eq_getElem h];rfl
def Ie(s:Oa->Cc->Bool)(l:List Cc)(x:Oa):Bool:=l.all (s x)
def Uc(s:Oa->Cc->Bool)(l:List Cc)(X:Nat->List Oa):Nat->List Oa
 |0=>[]
 |m+1=>Uc s l X m++(X (m+1)).filter (Ie s l)
def Xu(s:Oa->Cc->Bool)(l:List Cc){X:Nat->List Oa}(h:∀m,(X m).length<=1000000):∀m,(Uc s l X m).length<=1000000*m
 |0=>Nat.zero_le _
 |m+1=>by have h1:=Xu s l h m;have h2:=h (m+1);have h3:=Mh (Ie s l) (X (m+1));rw[Uc,ed];omega
structure Wg(x:Oa):Prop where
 month:0<=x.month/\x.month<=1000000000
 cell:0<=x.cell/\x.cell<=1000000000
 load:0<=x.load/\x.load<=1000000000
def ydS(x:Oa)(f:Int):(Tc x f).1=(ln x f).1:=by
 unfold Tc ln
 cases f==1 <;> cases f==2 <;> cases f==3 <;> cases f==4 <;> cases f==5 <;> rfl
def yeo{x:Oa}(h:Wg x)(f:Int):0<=(ln x f).1/\(ln x f).1<=1000000000:=by
 have h1:=h.month;have h2:=h.cell;have h3:=h.load;unfold ln
 cases f==1 <;> cases f==2 <;> cases f==3 <;> cases f==4 <;> cases f==5 <;> first|exact h1|exact h2|exact h3|exact(show(0:Int)<=0/\(0:Int)<=1000000000 from⟨dC,dC⟩)
end Go.Pj
namespace Go.Proofs
open Go.Shelf
def Tryz.ybi:Ren where
 f:=λn=>match n with|6=>24|15=>52|14=>51|28=>97|29=>98|20=>89|21=>90|22=>91|23=>92|24=>93|25=>94|26=>95|27=>96|46=>158|47=>159|48=>160|49=>161|50=>162|57=>218|n=>n
 t:=λn=>match n with|22=>94|24=>90|25=>97|3=>3|39=>153|0=>0|53=>212|55=>214|4=>4|46=>206|45=>205|50=>139|5=>5|9=>9|66=>267|70=>271|76=>328|77=>329|n=>n
 g:=λn=>n
def Tryz.yce:SlLaysF0.n6 prog Tryz.ybi where
 mixed:=kR
 f6:=⟨ "slices.SortFunc[[]draghead/project.value,draghead/project.value]",Nb kR,func24.trans (Na some kR)⟩
 f14:=⟨ "slices.pdqsortCmpFunc[draghead/project.value]",Nb kR,func51.trans (Na some kR)⟩
 f15:=func52.trans (Na some kR)
 f20:=⟨ "slices.insertionSortCmpFunc[draghead/project.value]",Nb kR,func89.trans (Na some kR)⟩
 f21:=⟨ "slices.heapSortCmpFunc[draghead/project.value]",Nb kR,func90.trans (Na some kR)⟩
 f22:=⟨ "slices.breakPatternsCmpFunc[draghead/project.value]",Nb kR,func91.trans (Na some kR)⟩
 f23:=⟨ "slices.choosePivotCmpFunc[draghead/project.value]",Nb kR,func92.trans (Na some kR)⟩
 f24:=⟨ "slices.reverseRangeCmpFunc[draghead/project.value]",Nb kR,func93.trans (Na some kR)⟩
 f25:=⟨ "slices.partialInsertionSortCmpFunc[draghead/project.value]",Nb kR,func94.trans (Na some kR)⟩
 f26:=⟨ "slices.partitionEqualCmpFunc[draghead/project.value]",Nb kR,func95.trans (Na some kR)⟩
 f27:=⟨ "slices.partitionCmpFunc[draghead/project.value]",Nb kR,func96.trans (Na some kR)⟩
 f28:=func97.trans (Na some kR)
 f29:=func98.trans (Na some kR)
 f46:=⟨ "slices.siftDownCmpFunc[draghead/project.value]",Nb kR,func158.trans (Na some kR)⟩
 f47:=func159.trans (Na some kR)
 f48:=func160.trans (Na some kR)
 f49:=⟨ "slices.medianAdjacentCmpFunc[draghead/project.value]",Nb kR,func161.trans (Na some kR)⟩
 f50:=⟨ "slices.medianCmpFunc[draghead/project.value]",Nb kR,func162.trans (Na some kR)⟩
 f57:=⟨ "slices.order2CmpFunc[draghead/project.value]",Nb kR,func218.trans (Na some kR)⟩
 t0:=underlying0
 a0:=Tryz.isAgg0
 z0:=Tryz.sizeOf0
 v0:=zeroValue0
 t3:=underlying3
 a3:=Tryz.isAgg3
 z3:=Tryz.sizeOf3
 v3:=zeroValue3
 t4:=underlying4
 a4:=Tryz.isAgg4
 z4:=Tryz.sizeOf4
 v4:=zeroValue4
 t5:=underlying5
 a5:=Tryz.isAgg5
 z5:=Tryz.sizeOf5
 v5:=zeroValue5
 t9:=underlying9
 a9:=Tryz.isAgg9
 z9:=Tryz.sizeOf9
 v9:=zeroValue9
 t22:=underlying94
 a22:=Tryz.isAgg94
 z22:=Tryz.sizeOf94
 v22:=zeroValue94
 t25:=underlying97
 a25:=Tryz.isAgg97
 z25:=Tryz.sizeOf97
 v25:=zeroValue97
 t39:=underlying153
 a39:=Tryz.isAgg153
 z39:=Tryz.sizeOf153
 v39:=zeroValue153
 t45:=underlying205
 a45:=Tryz.isAgg205
 z45:=Tryz.sizeOf205
 v45:=zeroValue205
 t46:=underlying206
 a46:=Tryz.isAgg206
 z46:=Tryz.sizeOf206
 v46:=zeroValue206
 t50:=underlying139
 a50:=Tryz.isAgg139
 z50:=Tryz.sizeOf139
 v50:=zeroValue139
 t53:=underlying212
 a53:=Tryz.isAgg212
 z53:=Tryz.sizeOf212
 v53:=zeroValue212
 t55:=underlying214
 a55:=Tryz.isAgg214
 z55:=Tryz.sizeOf214
 v55:=zeroValue214
 t66:=underlying267
 a66:=Tryz.isAgg267
 z66:=Tryz.sizeOf267
 v66:=zeroValue267
 t70:=underlying271
 a70:=Tryz.isAgg271
 z70:=Tryz.sizeOf271
 v70:=zeroValue271
 t76:=underlying328
 a76:=Tryz.isAgg328
 z76:=Tryz.sizeOf328
 v76:=zeroValue328
 t77:=underlying329
 a77:=Tryz.isAgg329
 z77:=Tryz.sizeOf329
 v77:=zeroValue329
end Go.Proofs
namespace Go.Pj
open Go Go.Ax Go.Ch Go.Proofs Go.Proofs.Tryz Go.Sort Go.Shelf
def Fp(p q:Int×bJ):Int:=if p.1=q.1 then Lib.compareBytes p.2 q.2 else aW (p.1-q.1)
def ydi(n:Int):RowKit.wrap64 n=aW n:=by
 have h:aW n=if n%18446744073709551616>=9223372036854775808 then n%18446744073709551616-18446744073709551616 else n%18446744073709551616:=by unfold aW IntKind.wrap;simp[IntKind.bits,IntKind.signed]
 rw[h];unfold RowKit.wrap64;split <;> omega
def yec(a b:Int)(s t:bJ)(w:Aa):
  Calls prog 25 #[.agg #[.int .i64 a,.string (bs s)],.agg #[.int .i64 b,.string (bs t)]] w λe w'=>
   e=.returned (.int .i64 (Fp (a,s) (b,t)))/\∃q os',w'=grow (w.drewN q) os':=by
 have hc:=λw'=>Tryz.strings_Compare (bs s) (bs t) w'
 rw[CK,CK]at hc
 unfold Fp
 by_cases h:a=b
 ·rw[La h];go_enter func25,Tryz.ntmps25;go_wp2_with (first|(go_at_fn 26;refine(hc _).mono ?_;rintro e w' ⟨rfl,rfl⟩));refine(hc _).mono ?_;rintro e w' ⟨rfl,rfl⟩;go_wp2;go_ret;exact⟨rfl,0, #[.cells #[.int .i64 b,.string (bs s)] 90 (0,0),.cells #[.int .i64 b,.string (bs t)] 90 (0,0)],rfl⟩
 ·rw[Ka h];go_enter func25,Tryz.ntmps25;go_wp2;all_goals first
   |exact absurd ‹(a !=b)=false› (by simp[h])
   |(go_ret
     exact⟨Na (λz=>Ending.returned (.int .i64 z)) (ydi _),0, #[.cells #[.int .i64 a,.string (bs s)] 90 (0,0),.cells #[.int .i64 b,.string (bs t)] 90 (0,0)],rfl⟩)
abbrev Va:=Fin 2000000000×bJ
def ze(p:Va):Nat->DV
 |0=>dI (p.1.val:Nat)
 |1=>dT p.2
 |_=>.bL
def ydB(p:Va):∀j,j<2->(ze p j).one=true
 |0,_|1,_=>rfl
instance:Inhabited (GV ze 2):=⟨⟨((0,[]),[.int .i64 0,.string (bs [])]),by
 refine⟨rfl,λv hv=>?_,λj u hj hu=>?_⟩
 ·simp only[wb,Sd,Kd]at hv;rcases hv with rfl|rfl <;> rfl
 match j,hj,hu with
 |0,_,hu|1,_,hu=>cases hu;rfl⟩⟩
def Jg(p q:Va):Int:=Fp ((p.1.val:Nat),p.2) ((q.1.val:Nat),q.2)
def Sp(p q:Va):ltOf Jg p q=decide (p.1<q.1\/(p.1=q.1/\p.2<q.2)):=by
 unfold ltOf Jg Fp;apply Mn.2;have h1:=p.1.isLt;have h2:=q.1.isLt;by_cases h:p.1=q.1
 ·rw[La (by rw[h]),WS,h];simp
 have h3:p.1.val≠q.1.val:=λe=>h (Fin.ext e)
 rw[Ka (show ¬((p.1.val:Nat):Int)=((q.1.val:Nat):Int) by omega),aG (by simp only;omega) (by simp only;omega)];simp only[Fin.lt_def,h,false_and,Kd];omega
def Qp:SWO (ltOf Jg) where
 irrefl:=λx=>by
  rw[Sp,Qd];rintro(h|⟨_,h⟩)
  ·exact absurd h (by rw[Fin.lt_def];omega)
  exact List.lt_irrefl _ h
 trans:=λx y z h1 h2=>by
  rw[Sp,ae]at*;rcases h1 with h1|⟨h1,JX⟩ <;> rcases h2 with h2|⟨h2,h2'⟩
  ·exact .inl (by rw[Fin.lt_def]at*;omega)
  ·exact .inl (h2▸h1)
  ·exact .inl (h1▸h2)
  exact .inr ⟨h1.trans h2,List.lt_trans JX h2'⟩
 ntrans:=λx y z h1 h2=>by
  rw[Sp,Qd]at*;rintro(h|⟨h,h'⟩)
  ·by_cases e:x.1<y.1
   ·exact h1 (.inl e)
   exact h2 (.inl (by rw[Fin.lt_def]at*;omega))
  by_cases e:x.1<y.1
  ·exact h1 (.inl e)
  by_cases e2:y.1<z.1
  ·exact h2 (.inl e2)
  have e3:x.1=y.1:=by rw[Fin.lt_def]at e e2;rw[Fin.ext_iff]at h⊢;omega
  have e4:y.1=z.1:=e3.symm.trans h;have k1:=Dj.1 λg=>h1 (.inr ⟨e3,g⟩)
  have k2:=Dj.1 λg=>h2 (.inr ⟨e4,g⟩)
  exact Dj.2 (tr k2 k1) h'
def ydC(blk off n:Nat)(w:Aa):CmpLays prog 25 #[] (λp:GV ze 2=>p.1.2) 2 (λp q=>Jg p.1.1 q.1.1) blk off n w:=by
 intro m os dk _ x y;generalize sortWorldK _ 2 w blk off m dk os=W;obtain⟨⟨⟨a,s⟩,vs⟩,hx⟩:=x;obtain⟨⟨⟨b,t⟩,us⟩,hy⟩:=y;have e1:=hx.len;have e2:=hy.len;have s0:=hx.val 0 (.int .i64 (a.val:Nat)) O rfl;have t0:=hy.val 0 (.int .i64 (b.val:Nat)) O rfl;have s1:=hx.val 1 (.string (bs s)) O rfl;have t1:=hy.val 1 (.string (bs t)) O rfl
 match vs,e1,us,e2,s0,t0,s1,t1 with
 |[v0,v1],_,[u0,u1],_,s0,t0,s1,t1=>obtain rfl:v0=.int .i64 (a.val:Nat):=sc s0;obtain rfl:u0=.int .i64 (b.val:Nat):=sc t0;obtain rfl:v1=.string (bs s):=sc s1;obtain rfl:u1=.string (bs t):=sc t1;exact yec (a.val:Nat) (b.val:Nat) s t W
def Of(l:List Va):List Va:=l.mergeSort λx y=> !(ltOf Jg y x)
def ycl(l:List Va):(Of l).Pairwise (λx y=>ltOf Jg y x=false):=by
 have:=Rv (le:=λx y:Va=> !(ltOf Jg y x)) (λa b c h1 h2=>by
  simp only[Qh]at*;exact Qp.ntrans _ _ _ h2 h1) (λa b=>by
  simp only[Sh,Qh]
  cases h:ltOf Jg b a with
  |false=>exact .inl rfl
  |true=>
   refine .inr ?_
   cases h2:ltOf Jg a b with
   |false=>rfl
   |true=>exact absurd (Qp.trans _ _ _ h h2) (by rw[Qp.irrefl];decide)) l
 exact this.imp λ{x y} h=>by simpa using h
def ybq(l l':List Va)(hp:l'.Perm l)(hs:l'.Pairwise (λx y=>ltOf Jg y x=false)):l'=Of l:=by
 refine Rx (le:=λx y=>ltOf Jg y x=false) ?_ hs (ycl l) (hp.trans (Oi _ _).symm);intro a b _ _ h1 h2;rw[Sp,Qd]at h1 h2;have e:a.1=b.1:=by
  rw[Fin.ext_iff];have k1:¬b.1<a.1:=λg=>h1 (.inl g)
  have k2:¬a.1<b.1:=λg=>h2 (.inl g)
  rw[Fin.lt_def]at k1 k2;omega
 exact Prod.ext e (List.le_antisymm (Dj.1 λg=>h1 (.inr ⟨e.symm,g⟩)) (Dj.1 λg=>h2 (.inr ⟨e,g⟩)))
def ydn(l:List Va)(f0:Nat->Nat->DV)(SO:∀i j,i<l.length->j<2->aK (f0 i j) (ze (l.getD i default) j))(hl:l.length<=1000000000):
  bW prog 24 [.s (.own 1001),.s (.dZ 25 [])] [(1001,.row 90 l.length 2 f0)] (.t []) [(1001,.row 90 l.length 2 λi=>ze ((Of l).getD i default))]:=
 Jx (α:=Va) (k:=2) Tryz.yce rfl call24 dC Tryz.isAgg90 Tryz.sizeOf90 ze (λt j h=>ydB t j h) Jg Qp
  (enters_of func25 kR rfl) ydC l (Of l) (ybq l) f0 SO hl
def Gc:List (Va×Int)->Va->Int->List (Va×Int)
 |[],k,v=>[(k,aW (0+v))]
 |(a,u)::r,k,v=>bif decide (a=k)then(a,aW (u+v))::r else(a,u)::Gc r k v
def tb:List (Va×Int)->Va->Int
 |[],_=>0
 |(a,u)::r,k=>bif decide (a=k)then u else tb r k
open Go.ChangeMaps (setBlock)
def ec(k:Va):wa:=.agg #[.int .i64 (k.1.val:Nat),.string (bs k.2)]
def nc:Nat->List (Va×Int)->List MapEntry
 |_,[]=>[]
 |n,p::r=>{key:=ec p.1,val:=.int .i64 p.2,born:=n}::nc (n+1) r
def mn:∀(n:Nat) (L:List (Va×Int)) (j:Nat),(nc n L)[j]? =L[j]?.map λp=>{key:=ec p.1,val:=.int .i64 p.2,born:=n+j}
 |_,[],_=>rfl
 |n,p::r,0=>rfl
 |n,p::r,j+1=>by rw[nc,Uq,Uq,mn (n+1) r j,show n+1+j=n+(j+1) by omega]
def yby:∀(n:Nat) (L:List (Va×Int)) (p:Va×Int),nc n (L++ [p])=nc n L++ [{key:=ec p.1,val:=.int .i64 p.2,born:=n+L.length}]
 |n,[],p=>rfl
 |n,q::r,p=>by rw[We,nc,yby (n+1) r p,nc,We,Rb,show n+1+r.length=n+(r.length+1) by omega]
def ybP(x:Int):∀(n:Nat) (L:List (Va×Int)) (j:Nat),nc n (L.modify j λp=>(p.1,x))=(nc n L).modify j λe=>{e with val:=.int .i64 x}
 |n,[],j=>by simp[nc]
 |n,q::r,0=>rfl
 |n,q::r,j+1=>by rw[Jn,nc,ybP x (n+1) r j,nc,Jn]
def bp:∀(n:Nat) (L:List (Va×Int)),((nc n L).map (·.born)).Nodup/\∀b∈(nc n L).map (·.born),n<=b/\b<n+L.length
 |n,[]=>⟨Py,λb h=>by cases h⟩
 |n,p::r=>by
  obtain⟨h1,h2⟩:=bp (n+1) r;refine⟨Ug.2 ⟨λh=>?_,h1⟩,λb hb=>?_⟩
  ·have h:n∈(nc (n+1) r).map (·.born):=h;have:=h2 _ h;omega
  rw[Rb];rcases wb.1 hb with hb|hb
  ·have hb:b=n:=hb;omega
  have:=h2 _ hb;omega
def ybQ:prog.fieldsOf 90= #[{name:= "number",type:=3,offset:=0,embedded:=false,tag:= "",pkgPath:= "draghead/project",byteOffset:=0},{name:= "name",type:=9,offset:=1,embedded:=false,tag:= "",pkgPath:= "draghead/project",byteOffset:=8}]:=by unfold Program.fieldsOf;rw[underlying90]
def yeX(a b:Va)(w:Aa):(Op.equal 90 (ec a) (ec b)).run prog w=.ok (decide (a=b)) w:=by
 have h:(Op.equal 90 (ec a) (ec b)).run prog w=.ok (((a.1.val:Int)==(b.1.val:Int))&&((bs a.2).toList==(bs b.2).toList)) w:=by show(Op.equalIn (9999+1) 90 (ec a) (ec b)).run prog w=_;unfold ec;rw[run_equalIn_struct w 9999 90 _ _ (by rw[ybQ];exact underlying90) Tryz.stoodInHeld90,ybQ];simp[go_sem,Op.eqFields];by_cases h1:(a.1.val:Int)=(b.1.val:Int) <;> by_cases h2:(bs a.2).toList=(bs b.2).toList <;> simp[h1,h2]
 rw[h,<-beq_toListBytes];refine Na (λz=>Result.ok z w) ?_;rw[Ff,Bool.and_eq_true,Tf,Tf,ae];refine⟨λ⟨e1,e2⟩=>Prod.ext (Fin.ext O) (rq e2),λe=>by subst e;exact⟨rfl,rfl⟩⟩
def fQ:List (Va×Int)->Va->Nat->Da (Nat×Int)
 |[],_,_=>none
 |(a,u)::r,k,i=>bif decide (a=k)then some (i,u)else fQ r k (i+1)
def yb5(k:Va)(w:Aa):∀(L:List (Va×Int)) (n i:Nat),(Instr.findAsking 90 (ec k) (nc n L) i).run prog w=.ok ((fQ L k i).map λp=>(p.1,.int .i64 p.2)) w
 |[],_,_=>rfl
 |(a,u)::r,n,i=>by
  rw[nc,fQ,Instr.findAsking];simp only[Ic,yeX,fw];by_cases h:a=k
  ·subst h;simp
  have h2:¬k=a:=λe=>h e.symm
  simp only[h,h2,Dw,Ua,Xj,rh];exact yb5 k w r (n+1) (i+1)
def Ov(k:Va)(w:Aa)(L:List (Va×Int))(n:Nat):(Instr.findKey 90 (ec k) (nc n L)).run prog w=.ok ((fQ L k 0).map λp=>(p.1,.int .i64 p.2)) w:=by
 unfold Instr.findKey
 cases L with
 |nil=>simp[Bb underlying90,nc,Instr.findNow,fQ]
 |cons p r=>have h:Instr.findNow (.struct #[{name:= "number",type:=3,offset:=0,embedded:=false,tag:= "",pkgPath:= "draghead/project",byteOffset:=0},{name:= "name",type:=9,offset:=1,embedded:=false,tag:= "",pkgPath:= "draghead/project",byteOffset:=8}]) (ec k) (nc n (p::r)) 0=none:=rfl;simp only[Ic,Bb underlying90,fw,h];exact yb5 k w (p::r) n 0
def rn(em:Bool)(k:Va)(w:Aa):(Instr.checkKey em 10000 90 (ec k)).run prog w=.ok () w:=by
 show(Instr.checkKey em (9998+1+1) 90 (ec k)).run prog w=_;have h3:∀n a,(Instr.checkKey em (n+1) 3 (.int .i64 a)).run prog w=.ok () w:=λn a=>by simp[Instr.checkKey,Bb underlying3]
 have h9:∀n a,(Instr.checkKey em (n+1) 9 (.string a)).run prog w=.ok () w:=λn a=>by simp[Instr.checkKey,Bb underlying9]
 have p3:∀u v:wa,(part 3 #[u,v] 0).run prog w=.ok u w:=λu v=>by simp[part,go_sem]
 have p9:∀u v:wa,(part 9 #[u,v] 1).run prog w=.ok v w:=λu v=>by simp[part,go_sem]
 unfold ec;rw[Instr.checkKey];simp only[Ic,Bb underlying90,fw];rw[<-Array.forIn_toList];have e1:("number" ≠ "_")=True:=eq_true dC;have e2:("name" ≠ "_")=True:=eq_true dC;simp only[List.forIn_cons,List.forIn_nil,e1,e2,Xi,Ic,p3,p9,h3,h9,fw,Wc]
def yem(k:Va)(w:Aa):(Instr.keyThatStays (ec k) (ec k)).run prog w=.ok (ec k) w:=by
 unfold Instr.keyThatStays;have h:Instr.sameBits 10000 (ec k) (ec k)=true:=by show Instr.sameBits (9999+1) (ec k) (ec k)=true;simp[ec,Instr.sameBits]
 rw[h];rfl
def Jk{k:Va}:∀{L:List (Va×Int)} {i:Nat},fQ L k i=none->k∉L.map Prod.fst/\tb L k=0/\∀v,Gc L k v=L++ [(k,aW (0+v))]
 |[],_,_=>⟨λh=>(by cases h),rfl,λ_=>rfl⟩
 |(a,u)::r,i,h=>by
  rw[fQ]at h;by_cases e:a=k
  ·rw[pc e]at h;cases h
  rw[Kc e,Ua]at h;obtain⟨h1,h2,h3⟩:=Jk h;refine⟨λhm=>?_,?_,λv=>?_⟩
  ·rw[Le,wb]at hm;rcases hm with hm|hm
   ·exact e hm.symm
   exact h1 hm
  ·rw[tb,Kc e,Ua,h2]
  rw[Gc,Kc e,Ua,h3 v,We]
def Xm{k:Va}:∀{L:List (Va×Int)} {i j:Nat} {u:Int},fQ L k i=some (j,u)->i<=j/\L[j-i]? =some (k,u)/\tb L k=u/\∀v,Gc L k v=L.modify (j-i) λp=>(p.1,aW (u+v))
 |[],_,_,_,h=>by cases h
 |(a,x)::r,i,j,u,h=>by
  rw[fQ]at h;by_cases e:a=k
  ·rw[pc e,cond_true]at h;have h:(i,x)=(j,u):=sc h;obtain⟨rfl,rfl⟩:i=j/\x=u:=⟨Na Prod.fst h,Na Prod.snd h⟩;subst e;refine⟨mb _,sM,by rw[tb,pc rfl,cond_true],λv=>?_⟩;rw[Gc,pc rfl,cond_true,Td,Wx]
  rw[Kc e,Ua]at h;obtain⟨h1,h2,h3,h4⟩:=Xm h;have ej:j-i=(j-(i+1))+1:=O;refine⟨O,by rw[ej,Uq];exact h2,by rw[tb,Kc e,Ua,h3],λv=>?_⟩;rw[Gc,Kc e,Ua,h4 v,ej,Jn]
def Xd(L:List (Va×Int))(k:Va):List (Va×Int):=match fQ L k 0 with
 |none=>L++ [(k,0)]
 |some _=>L
def Zf(L:List (Va×Int))(k:Va):Nat:=match fQ L k 0 with
 |none=>L.length
 |some p=>p.1
abbrev Ub(bm:Nat)(L:List (Va×Int))(it:Da (Nat×List Nat)):Ae:=⟨bm,nc 0 L,L.length,it⟩
section
variable{bm:Nat}{L:List (Va×Int)}{w:Aa}
def yeK(k:Va)(hb:w.heap[bm]? =some (.map (nc 0 L).toArray L.length)):(Instr.lookup 88 (.map (some bm)) (ec k) false).run prog w=.ok (.int .i64 (tb L k)) w:=by
 have hf:=Ov k w L 0
 cases h:fQ L k 0 with
 |none=>rw[h]at hf;obtain⟨_,h2,_⟩:=Jk h;rw[h2];simp[Instr.lookup,Bb underlying88,MapKept.run_getObj_map hb,rn,hf,zeroValue3]
 |some p=>obtain⟨j,u⟩:=p;rw[h]at hf;obtain⟨_,_,h3,_⟩:=Xm h;rw[h3];simp[Instr.lookup,Bb underlying88,MapKept.run_getObj_map hb,rn,hf]
def yeW(k:Va)(hb:w.heap[bm]? =some (.map (nc 0 L).toArray L.length)):
  (Instr.mapEntry 88 (.map (some bm)) (ec k)).run prog w=.ok (.tuple #[.int .i64 (tb L k),goInt (Zf L k)]) (setBlock w bm (.map (nc 0 (Xd L k)).toArray (Xd L k).length)):=by
 have hf:=Ov k w L 0
 unfold Xd Zf
 cases h:fQ L k 0 with
 |none=>rw[h]at hf;obtain⟨_,h2,_⟩:=Jk h;simp only;rw[h2,yby,Ec,ed];simp[Instr.mapEntry,Bb underlying88,MapKept.run_getObj_map hb,rn,hf,zeroValue3,MapKept.run_setObj_map _ hb,setBlock]
 |some p=>
  obtain⟨j,u⟩:=p;rw[h]at hf;obtain⟨_,h2,h3,_⟩:=Xm h;rw[ak]at h2;simp only;rw[h3];have he:(nc 0 L)[j]? =some {key:=ec k,val:=.int .i64 u,born:=j}:=by rw[mn,h2,Ec];rfl
  have hm:(nc 0 L).modify j (λe=>{e with key:=ec k})=nc 0 L:=by
   refine Si λi=>?_
   rw[se];by_cases Z5:j=i
   ·subst Z5;rw[he];simp
   simp[Z5]
  simp[Instr.mapEntry,Bb underlying88,MapKept.run_getObj_map hb,rn,hf,he,hm,yem,MapKept.run_setObj_map _ hb,setBlock]
def ydo(L:List (Va×Int))(k:Va):(Xd L k)[Zf L k]? =some (k,tb L k):=by
 unfold Xd Zf
 cases h:fQ L k 0 with
 |none=>rw[(Jk h).2.1];simp
 |some p=>obtain⟨_,h2,h3,_⟩:=Xm (i:=0) (j:=p.1) (u:=p.2) h;rw[h3];exact h2
def yb4(L:List (Va×Int))(k:Va)(v:Int):((Xd L k).modify (Zf L k) λp=>(p.1,aW (tb L k+v)))=Gc L k v:=by
 unfold Xd Zf
 cases h:fQ L k 0 with
 |none=>
  obtain⟨_,h2,h3⟩:=Jk h;simp only;rw[h2,h3 v];refine Si λi=>?_
  rw[se];by_cases hi:L.length=i
  ·subst hi;simp
  simp only[hi,rh];by_cases hi2:i<L.length
  ·rw[Jc hi2,Jc hi2];simp
  rw[Gd O,Gd O];have:i-L.length≠0:=O;obtain⟨q,hq⟩:=Nat.exists_eq_succ_of_ne_zero this;rw[hq];rfl
 |some p=>obtain⟨_,_,h3,h4⟩:=Xm (i:=0) (j:=p.1) (u:=p.2) h;rw[h3,h4 v];rfl
def yen(k:Va)(x:Int)(hb:w.heap[bm]? =some (.map (nc 0 (Xd L k)).toArray (Xd L k).length)):
  (Instr.entryStore 88 (.map (some bm)) (goInt (Zf L k)) (.int .i64 x)).run prog w=.ok () (setBlock w bm (.map (nc 0 ((Xd L k).modify (Zf L k) λp=>(p.1,x))).toArray (Xd L k).length)):=by
 rw[ybP]
 have h:(nc 0 (Xd L k))[Zf L k]? =some {key:=ec k,val:=.int .i64 (tb L k),born:=Zf L k}:=by rw[mn,ydo,Ec];rfl
 exact ycY hb (bp 0 (Xd L k)).1 h (.int .i64 x)
def ye5(k:Va)(x:Int)(hb:w.heap[bm]? =some (.map (nc 0 []).toArray ([]:List (Va×Int)).length)):
  (Instr.mapUpdate 88 (.map (some bm)) (ec k) (.int .i64 x)).run prog w=.ok () (setBlock w bm (.map (nc 0 [(k,x)]).toArray 1)):=by
 have hf:(Instr.findKey 90 (ec k) []).run prog w=.ok none w:=Ov k w [] 0
 simp[Instr.mapUpdate,Bb underlying88,MapKept.run_getObj_map hb,rn,hf,MapKept.run_setObj_map _ hb,setBlock,nc]
def ydy(L:List (Va×Int))(k:Va):tb (Xd L k) k=tb L k:=by
 unfold Xd
 cases h:fQ L k 0 with
 |none=>
  obtain⟨h1,h2,_⟩:=Jk h;have h3:∀M:List (Va×Int),k∉M.map Prod.fst->tb (M++ [(k,0)]) k=0:=by
   intro M;induction M with
   |nil=>intro _;show tb [(k,0)] k=0;rw[tb,pc rfl,cond_true]
   |cons q r ih=>intro hq;rw[Le,wb,not_or]at hq;obtain⟨a,u⟩:=q;rw[We,tb,Kc (λe=>hq.1 e.symm),Ua,ih hq.2]
  rw[h2];exact h3 L h1
 |some p=>rfl
variable{R:Cx}{N:Nat}{I:St}{K:St->Hid->Prop}{o:Oper}{x y z:Ca}{d:Nat}{k:Va}
def No(ho:o.op=.lookup 88 x y false)(hd:o.dst=some d)(hN:d<N)(hx:ev I x=.s (.d (.val (.map (some bm)))))(hy:∀M V u,(ev I y).bI M V u->u=ec k)
  (hK:K ⟨(d,.s (.d (.val (.int .i64 (tb L k)))))::I.env,I.box⟩ (Fb (Ub bm L none))):n9 prog R N o I (Fb (Ub bm L none)) K:=
 n9.xE (h:=Ub bm L none) (v:=.int .i64 (tb L k)) (av:=.d (.val (.int .i64 (tb L k)))) ho hd hN hx hy (λ_ hb=>yeK k hb) (λ_ _=>rfl) hK
def n9.yfj(ho:o.op=.mapEntry 88 x y)(hd:o.dst=some d)(hN:d<N)(hx:ev I x=.s (.d (.val (.map (some bm)))))(hy:∀M V u,(ev I y).bI M V u->u=ec k)
  (hK:K ⟨(d,.t [.s (.d .bL),.s (.d (.val (goInt (Zf L k))))])::I.env,I.box⟩ (Fb (Ub bm (Xd L k) none))):n9 prog R N o I (Fb (Ub bm L none)) K:=
 n9.ydd (h:=Ub bm L none) ho hd hN hx hy rfl (λ_ hb=>yeW k hb) hK
def n9.yeT{v:Int}(ho:o.op=.entryStore 88 x y z)(hd:o.dst=none)(hx:ev I x=.s (.d (.val (.map (some bm)))))(hy:ev I y=.s (.d (.val (goInt (Zf L k)))))(hz:∀M V u,(ev I z).bI M V u->u=.int .i64 (aW (tb L k+v)))
  (hK:K I (Fb (Ub bm (Gc L k v) none))):n9 prog R N o I (Fb (Ub bm (Xd L k) none)) K:=by
 refine n9.yco (h:=Ub bm (Xd L k) none) ho hd hx hy hz rfl (λ_ hb=>yen k _ hb) ?_
 rw[yb4]
 have e:(Xd L k).length=(Gc L k v).length:=by rw[<-yb4,Zq]
 show K I (Fb ⟨bm,nc 0 (Gc L k v),(Xd L k).length,none⟩)
 rw[e];exact hK
def n9.ye4{v:Int}(ho:o.op=.mapUpdate 88 x y z)(hd:o.dst=none)(hx:ev I x=.s (.d (.val (.map (some bm)))))(hy:∀M V u,(ev I y).bI M V u->u=ec k)(hz:∀M V u,(ev I z).bI M V u->u=.int .i64 v)
  (hK:K I (Fb (Ub bm [(k,v)] none))):n9 prog R N o I (Fb (Ub bm [] none)) K:=
 n9.yfo (h:=Ub bm [] none) ho hd hx hy hz rfl (λ_ hb=>ye5 k v hb) hK
end
abbrev Rk(p:Oa):List SV:=[.d (dI p.month),.d (dI p.cell),.d (dS p.aN),.d (dI p.iZ),.d (dI p.gV),.d (dI p.load),.d (dS p.dN)]
def ydm(a:AV):aF prog 24 [.s (.d eO),a] (.t []):=by
 refine⟨call24,λM w vs _ hr hM=>?_⟩
 match vs,hr with
 |[v,v2],⟨hv,_,_⟩=>have hv:v=.slice none 0 0:=hv;subst hv;refine(AnyF.slices_SortFunc_none (P:=prog) (ρ:=Tryz.ybi) {Tryz.yce with} none 0 v2 w).mono ?_;rintro e w' ⟨he,rfl⟩;exact⟨.tuple #[],M,he,⟨[],rfl,oO⟩,fb _ _,hM,⟨⟨rfl,rfl,rfl,mb _,λ_ _=>rfl⟩,oO⟩⟩
 |[],h=>exact h.elim
 |[_],h=>exact h.2.elim
 |_::_::_::_,h=>exact h.2.2.elim
def qc(x:Oa)(g:Int):Va:=(⟨(Tc x g).1.toNat%2000000000,Cg _ dC⟩,tx (Tc x g).2)
def yeJ{x:Oa}(h:Wg x)(g:Int):(((qc x g).1.val:Nat):Int)=(Tc x g).1/\bs (qc x g).2=(Tc x g).2:=by obtain⟨h1,h2⟩:=yeo h g;rw[<-ydS]at h1 h2;refine⟨?_,CJ _⟩;show(((Tc x g).1.toNat%2000000000:Nat):Int)=_;omega
def yeI{x:Oa}(h:Wg x)(g:Int){M:Mem}{V:Nm}{u:wa}(hu:(mj (Tc x g)).bI M V u):u=ec (qc x g):=by
 obtain⟨h1,h2⟩:=yeJ h g;obtain⟨vs,rfl,hv⟩:=hu
 match vs,hv with
 |[a,b],⟨ha,hb,_⟩=>obtain rfl:a=.int .i64 (Tc x g).1:=ha;obtain rfl:b=.string (Tc x g).2:=hb;unfold ec;rw[h1,h2]
def Oc(g m:Int)(xs:List Oa)(L:List (Va×Int)):List (Va×Int):=xs.foldl (λL x=>Gc L (qc x g) (Pc x m)) L
abbrev wg(p:Proj)(Y:List Fact)(q:Hc)(bm m:Nat)(r:List (Nat×AV))(b:List (Nat×Da jK)):St:=⟨[(5,.s (.ptr 5 0)),(8,.s (.ptr 8 0)),(12,dQ bm),(13,.s (.d (cZ (dA p Y 25)))),(14,vI m)]++r,[(5,some (.cells (Fc q))),(8,some (.cells (l0 p Y)))]++b⟩
abbrev bq:Oper:=⟨some 80,.lookup 88 (.tmp 75) (.tmp 79) false,3, "query.go:192", #[⟨0,.data⟩,⟨4,.data⟩],none⟩
abbrev Pp:Oper:=⟨some 86,.mapEntry 88 (.tmp 75) (.tmp 79),0, "query.go:192", #[⟨0,.data⟩,⟨4,.data⟩,⟨9,.chain⟩,⟨0,.phase⟩,⟨1,.phase⟩,⟨2,.phase⟩,⟨3,.phase⟩,⟨4,.phase⟩,⟨5,.textOnly .mapOpAssignEntry⟩,⟨6,.phase⟩,⟨7,.phase⟩,⟨8,.phase⟩,⟨9,.phase⟩,⟨10,.textOnly .mapOpAssignEntry⟩],none⟩
def hA(bm:Nat)(L:List (Va×Int))(x:Oa)(g:Int)(i:Nat):Da Uj:=
 bif Nat.beq i 5 then some ⟨bq,(some (.s (.d (.val (.int .i64 (tb L (qc x g)))))),[]),([],[]),λI=>fL I.env 75=dQ bm/\fL I.env 79=mj (Tc x g)⟩
 else bif Nat.beq i 11 then some ⟨Pp,(some (.t [.s (.d .bL),.s (.d (.val (goInt (Zf L (qc x g)))))]),[]),([],[]),λI=>fL I.env 75=dQ bm/\fL I.env 79=mj (Tc x g)⟩
 else none
def Bp{bm:Nat}{L:List (Va×Int)}{x:Oa}{g:Int}{i:Nat}{h:Uj}(hi:hA bm L x g i=some h):
  (i=5/\h=⟨bq,(some (.s (.d (.val (.int .i64 (tb L (qc x g)))))),[]),([],[]),λI=>fL I.env 75=dQ bm/\fL I.env 79=mj (Tc x g)⟩)\/
  (i=11/\h=⟨Pp,(some (.t [.s (.d .bL),.s (.d (.val (goInt (Zf L (qc x g)))))]),[]),([],[]),λI=>fL I.env 75=dQ bm/\fL I.env 79=mj (Tc x g)⟩):=by
 unfold hA at hi
 cases h5:Nat.beq i 5 with
 |true=>rw[h5]at hi;exact .inl ⟨Mb h5,(sc hi).symm⟩
 |false=>
  rw[h5,Ua]at hi
  cases h11:Nat.beq i 11 with
  |true=>rw[h11]at hi;exact .inr ⟨Mb h11,(sc hi).symm⟩
  |false=>rw[h11]at hi;cases hi
def ye2(p:Proj)(Y:List Fact)(q:Hc)(x:Oa){e:List (Nat×AV)}:KV ⟨e,[(5,some (.cells (Fc q))),(8,some (.cells (l0 p Y))),(16,some (.cells (Rk x)))]⟩:=by
 intro y b hb;rcases LI (l:=[(5,some (.cells (Fc q))),(8,some (.cells (l0 p Y))),(16,some (.cells (Rk x)))]) (k:=[]) (by simpa using hb)with⟨pr,hp,e⟩|h
 ·simp only[wb,Sd,Kd]at hp;rcases hp with rfl|rfl|rfl <;> (cases e;rfl)
 cases h
def yer(p:Proj)(Y:List Fact)(q:Hc)(bm m i:Nat)(xs:List Oa)(x:Oa)(L:List (Va×Int))(hx:Wg x)(R:Cx)(J:R.ref=[])(K:Exit->St->Hid->Prop)
  (hK:∀I,HSub R f8.ntmps I (Fb (Ub bm (Gc L (qc x q.Xa) (Pc x q.Vb)) none)) (wg p Y q bm m [(57,iD xs),(58,vI xs.length),(59,vI i)] []) (Fb (Ub bm (Gc L (qc x q.Xa) (Pc x q.Vb)) none))->K .normal I (Fb (Ub bm (Gc L (qc x q.Xa) (Pc x q.Vb)) none))):
  bS prog R f8.ntmps (ng f8.body [1,1,1,1,1,1,1,0,1,2,2,1,0,2,2,1,1,2,2,1,1,0,2,1,1]) (wg p Y q bm m [(57,iD xs),(58,vI xs.length),(59,vI i),(16,.s (.ptr 16 0))] [(16,some (.cells (Rk x)))]) (Fb (Ub bm L none)) K:=by
 refine bS.ydw (m:=11) (hs:=hA bm L x q.Xa) (H1:=Fb (Ub bm (Xd L (qc x q.Xa)) none)) (λi h hi=>?_) aJ J mix (ye2 p Y q x) 13 rfl rfl dC rfl (λi h hi=>?_) (λi h hi I b hb hC=>?_) ⟨_,rfl⟩ ?_
 ·rcases Bp hi with⟨_,rfl⟩|⟨_,rfl⟩
  ·exact⟨rfl,(λ_ hp=>by cases hp),λI I' hc ht _=>⟨(ht 75 (by show 75∈bq.looksAt _;decide)).trans hc.1,(ht 79 (by show 79∈bq.looksAt _;decide)).trans hc.2⟩⟩
  exact⟨rfl,(λ_ hp=>by cases hp),λI I' hc ht _=>⟨(ht 75 (by show 75∈Pp.looksAt _;decide)).trans hc.1,(ht 79 (by show 79∈Pp.looksAt _;decide)).trans hc.2⟩⟩
 ·rcases Bp hi with⟨_,rfl⟩|⟨_,rfl⟩ <;> rfl
 ·have tR:∀M V u,(ev I (.tmp 79)).bI M V u->u=ec (qc x q.Xa):=λM V u hu=>yeI hx q.Xa (M:=M) (V:=V) (by
   rcases Bp hi with⟨_,rfl⟩|⟨_,rfl⟩
   ·have h2:ev I (.tmp 79)=mj (Tc x q.Xa):=hC.2;rw[h2]at hu;exact hu
   have h2:ev I (.tmp 79)=mj (Tc x q.Xa):=hC.2;rw[h2]at hu;exact hu)
  rcases Bp hi with⟨rfl,rfl⟩|⟨rfl,rfl⟩
  ·cases b with
   |true=>refine No (L:=Xd L (qc x q.Xa)) (k:=qc x q.Xa) rfl rfl dC hC.1 tR ?_;rw[ydy];exact⟨rfl,rfl⟩
   |false=>exact No (L:=L) (k:=qc x q.Xa) rfl rfl dC hC.1 tR ⟨rfl,rfl⟩
  obtain rfl:b=false:=hb rfl;exact n9.yfj (L:=L) (k:=qc x q.Xa) rfl rfl dC hC.1 tR ⟨rfl,rfl⟩
 ·refine And.intro rfl (And.intro rfl ?_);refine And.intro rfl (And.intro rfl ?_);refine aB (valueOf x q.Xa) (And.intro rfl ?_);refine⟨rfl,⟨rfl,rfl⟩,?_⟩;refine And.intro rfl (And.intro rfl ?_);refine And.intro rfl (aB (ydE x q.Vb) ?_);refine And.intro rfl (And.intro rfl ?_);refine⟨rfl,⟨rfl,rfl⟩,?_⟩;refine And.intro rfl (aD ?_);refine n9.yeT (k:=qc x q.Xa) (v:=Pc x q.Vb) rfl rfl rfl rfl (λ_ _ _ h=>h) ?_;exact hK _ (Za (ab [] (by rw[J];rfl) rfl Fa Fa))
def ybS(g m:Int)(xs ys:List Oa)(L:List (Va×Int)):Oc g m (xs++ys) L=Oc g m ys (Oc g m xs L):=by unfold Oc;rw[iw]
def yev(p:Proj)(Y:List Fact)(q:Hc)(bm m i:Nat)(xs:List Oa)(L:List (Va×Int))(hx:Wg (xs.getD i default))(hi:i<xs.length)(_hxl:xs.length<=1000000)(hq:q.conds.length<=1000000)(R:Cx)(J:R.ref=[]):
  bS prog R f8.ntmps (ng f8.body [1,1,1,1,1,1,1,0,1,2,2,1,0,2,2,1,1,2,2,1,1,0]) (wg p Y q bm m [(57,iD xs),(58,vI xs.length),(59,vI i)] []) (Fb (Ub bm L none))
   λe s h=>e=.normal/\HSub R f8.ntmps s h (wg p Y q bm m [(57,iD xs),(58,vI xs.length),(59,vI i)] []) (Fb (Ub bm (Oc q.Xa q.Vb ([xs.getD i default].filter (Ie Ab q.conds)) L) none)):=by
 apply od
 refine sA J [5,8] λ_ h'=>?_
 apply oi Ha
 refine Pb (I':=wg p Y q bm m [(57,iD xs),(58,vI xs.length),(59,vI i),(16,.s (.ptr 16 0))] [(16,some (.cells (Rk (xs.getD i default))))]) (Za (ab [] (by rw[J];rfl) rfl Fa Fa)) ?_
 generalize xs.getD i default=x at hx
 refine pb (sA J [5,8,16] λ_ h'=>?_)
 apply od
 refine Hg (S:=Nat) (λk=>wg p Y q bm m [(57,iD xs),(58,vI xs.length),(59,vI i),(16,.s (.ptr 16 0)),(64,.s (.d (pn q.conds))),(65,vI q.conds.length),(66,vI k)] [(16,some (.cells (Rk x)))]) (λ_=>Fb (Ub bm L none)) (λk=>k<=q.conds.length/\(q.conds.take k).all (Ab x)=true) (λk=>q.conds.length-k) 0 ⟨Nat.zero_le _,rfl⟩ (Za (ab [] (by rw[J];rfl) rfl Fa Fa)) ?_
 rintro k ⟨hk,lC⟩
 refine sA J [5,8,16] λ_ h'=>?_
 refine pb (Nc ?_)
 refine aI (λh3=>gd ?_) (λh3=>Oe ?_)
 ·have h3:(k:Int)<q.conds.length:=bG h3;have hk1:(q.conds.take (k+1)).all (Ab x)=((q.conds.take k).all (Ab x)&&Ab x (q.conds.getD k default)):=by rw[Zg O,List.all_append];simp
  refine pb (od (eA J [5,8,16] λ_ h'=>?_));refine oi Ha (aB (ydh x (q.conds.getD k default)) ?_);repeat refine aR ?_
  apply aI<;>intro h4
  ·have h4:Ab x (q.conds.getD k default)=false:=by simpa using h4
   have hn:Ie Ab q.conds x=false:=by
    cases e:Ie Ab q.conds x with
    |false=>rfl
    |true=>unfold Ie at e;rw[Hd]at e;have:=e (q.conds.getD k default) (by rw[fc,List.getElem?_eq_getElem O];exact Ce _);rw[h4]at this;cases this
   have ef:Oc q.Xa q.Vb ([x].filter (Ie Ab q.conds)) L=L:=by rw[tw,hn,Ka dC];rfl
   rw[ef];exact⟨rfl,Za (ab [] (by rw[J];rfl) rfl Fa Fa)⟩
  have h4:Ab x (q.conds.getD k default)=true:=by simpa using h4
  refine eA J [5,8,16,18] λ_ h'=>?_
  exact⟨k+1,⟨O,by rw[hk1,lC,h4];rfl⟩,O,Za (ab [] (by rw[J];rfl) rfl Fa Fa)⟩
 ·have h3:¬(k:Int)<q.conds.length:=bF h3;obtain rfl:k=q.conds.length:=O;have hn:Ie Ab q.conds x=true:=by rw[Vd]at lC;exact lC
  have ef:Oc q.Xa q.Vb ([x].filter (Ie Ab q.conds)) L=Gc L (qc x q.Xa) (Pc x q.Vb):=by rw[tw,hn,La rfl];rfl
  rw[ef];refine Pb (I':=wg p Y q bm m [(57,iD xs),(58,vI xs.length),(59,vI i),(16,.s (.ptr 16 0))] [(16,some (.cells (Rk x)))]) (Za (ab [] (by rw[J];rfl) rfl Fa Fa)) ?_;exact yer p Y q bm m i xs x L hx R J _ λI h=>⟨rfl,h⟩
def yet(p:Proj)(Y:List Fact)(q:Hc)(bm:Nat)(X:Nat->List Oa)(L:List (Va×Int))(hX:∀M:Nat,1<=M->M<=24->aF prog 15 [SR p Y,vI M,.s (.d (cZ (dA p Y 25)))] (iD (X M)))
  (hxl:∀M,(X M).length<=1000000) (hxn:∀M,1<=M->M<=24->∀x∈X M,Wg x) (hq:q.conds.length<=1000000) (R:Cx) (J:R.ref=[]):
  bS prog R f8.ntmps (ng f8.body [1,1,1,1,1,1,1,0,1]) (wg p Y q bm 1 [] []) (Fb (Ub bm L none))
   λe s h=>e=.normal/\HSub R f8.ntmps s h ⟨[(5,.s (.ptr 5 0)),(12,dQ bm)],[(5,some (.cells (Fc q)))]⟩ (Fb (Ub bm (Oc q.Xa q.Vb (Uc Ab q.conds X 24) L) none)):=by
 apply od
 refine Hg (S:=Nat) (λm=>wg p Y q bm (m+1:Nat) [] []) (λm=>Fb (Ub bm (Oc q.Xa q.Vb (Uc Ab q.conds X m) L) none)) (λm=>m<=24) (λm=>24-m) 0 (Nat.zero_le _) (Za (ab [] (by rw[J];rfl) rfl Fa Fa)) ?_
 intro m hm
 refine pb (sA J [5,8] λ_ h'=>?_)
 apply Nc
 refine aI (λh1=>gd ?_) (λh1=>Oe ?_)
 ·have h1:((m+1:Nat):Int)<=24:=Nb h1;have hP:=hX (m+1) O O;have hx1:=hxl (m+1);have hn1:=hxn (m+1) O O;have hsu:Oc q.Xa q.Vb (Uc Ab q.conds X (m+1)) L=Oc q.Xa q.Vb ((X (m+1)).filter (Ie Ab q.conds)) (Oc q.Xa q.Vb (Uc Ab q.conds X m) L):=by rw[Uc,ybS]
  refine th (I':=wg p Y q bm (m+1:Nat) [] []) (H':=Fb (Ub bm (Oc q.Xa q.Vb (Uc Ab q.conds X (m+1)) L) none)) ?_ ?_
  ·rw[hsu];generalize X (m+1)=xs at hP hx1 hn1;generalize Oc q.Xa q.Vb (Uc Ab q.conds X m) L=L1;refine od (bS.scope (pb (bS.label ?_)));refine sA J [5,8] λ_ h'=>aB hP (od ?_)
   refine Hg (S:=Nat) (λi=>wg p Y q bm (m+1:Nat) [(57,iD xs),(58,vI xs.length),(59,vI i)] []) (λi=>Fb (Ub bm (Oc q.Xa q.Vb ((xs.take i).filter (Ie Ab q.conds)) L1) none)) (λi=>i<=xs.length) (λi=>xs.length-i) 0 (Nat.zero_le _) (Za (ab [] (by rw[J];rfl) rfl Fa Fa)) ?_;intro i hi;refine sA J [5,8] λ_ h'=>pb (Nc ?_)
   refine aI (λh2=>gd ?_) (λh2=>Oe ?_)
   ·have h2:(i:Int)<xs.length:=bG h2;have ht:Oc q.Xa q.Vb ((xs.take (i+1)).filter (Ie Ab q.conds)) L1=Oc q.Xa q.Vb ([xs.getD i default].filter (Ie Ab q.conds)) (Oc q.Xa q.Vb ((xs.take i).filter (Ie Ab q.conds)) L1):=by rw[Zg O,cw,ybS]
    refine th (Pb (I':=wg p Y q bm (m+1:Nat) [(57,iD xs),(58,vI xs.length),(59,vI i)] []) (Za (ab [] (by rw[J];rfl) rfl Fa Fa)) (yev p Y q bm (m+1) i xs _ (hn1 _ (by rw[fc,List.getElem?_eq_getElem O];exact Ce _)) O hx1 hq R J)) ?_;rw[<-ht];refine eA J [5,8] λ_ h'=>?_
    exact⟨i+1,O,O,Za (ab [] (by rw[J];rfl) rfl Fa Fa)⟩
   have h2:¬(i:Int)<xs.length:=bF h2;obtain rfl:i=xs.length:=O;rw[Vd];exact⟨rfl,Za (ab [] (by rw[J];rfl) rfl Fa Fa)⟩
  refine eA J [5,8] λ_ h'=>?_
  exact⟨m+1,O,O,Za (ab [] (by rw[J];rfl) rfl Fa Fa)⟩
 ·have h1:¬((m+1:Nat):Int)<=24:=Wj h1;obtain rfl:m=24:=O;exact⟨rfl,Za (ab [] (by rw[J];rfl) rfl Fa Fa)⟩
def ll:List Va->AV
 |[]=>.s (.d eO)
 |_::_=>.s (.own 100)
def Pk:List Va->aP
 |[]=>[]
 |x::r=>[(100,some (.row 90 (x::r).length 2 (λi=>ze ((x::r).getD i default))))]
def Pf(L:List (Va×Int))(vs:List Nat):List Va:=vs.reverse.map λj=>(L.getD j default).1
def ycc(L:List (Va×Int))(j:Nat)(vs:List Nat):Pf L (j::vs)=Pf L vs++ [(L.getD j default).1]:=by unfold Pf;simp
def yt{n:Nat}{vs:List Nat}(h:vs.Nodup)(hs:∀j∈vs,j<n):vs.length<=n:=by have:=wz h (λj hj=>Gf.2 (hs j hj):vs⊆List.range n);simpa using this
def It{L:List (Va×Int)}{qe:MapEntry}(h:qe∈nc 0 L):qe.born<L.length/\∃kx u,(L.getD qe.born default).1=kx/\qe.key=ec kx/\u=(L.getD qe.born default).2:=by
 obtain⟨j,hj⟩:=dd h;rw[mn]at hj
 cases hl:L[j]? with
 |none=>rw[hl]at hj;cases hj
 |some p=>
  rw[hl]at hj;have hj: {key:=ec p.1,val:=.int .i64 p.2,born:=0+j}=qe:=sc hj;subst hj;have fZ:=(Ue.1 hl).1;have e:L.getD (0+j) default=p:=by rw[Ec,fc,hl];rfl
  exact⟨by show 0+j<_;omega,p.1,p.2,by rw[e],rfl,by rw[e]⟩
def ycB{L:List (Va×Int)}{vs:List Nat}(h:vs.Nodup)(hs:∀j∈vs,j<L.length)(ha:∀q∈nc 0 L,q.born∈vs):(Pf L vs).Perm (L.map Prod.fst):=by
 have h1:vs.Perm (List.range L.length):=(Px h List.nodup_range).2 λj=>⟨λhj=>Gf.2 (hs j hj),λhj=>by
  have hj:=Gf.1 hj;have he:(nc 0 L)[j]? =some {key:=ec L[j].1,val:=.int .i64 L[j].2,born:=0+j}:=by rw[mn,List.getElem?_eq_getElem hj];rfl
  have:=ha _ (Dd he);rwa [Ec]at this⟩
 have h2:(List.range L.length).map (λj=>(L.getD j default).1)=L.map Prod.fst:=by
  refine List.ext_getElem sM λj h3 h4=>?_
  have h5:j<L.length:=by simpa using h4
  rw[On,List.getElem_range,On,fc,List.getElem?_eq_getElem h5];rfl
 rw[<-h2];exact((List.reverse_perm vs).trans h1).map _
def Rw{R:Cx}{N:Nat}{I:St}{h:Ae}:HSub R N I (Fb h) I (Fb {h with it:=none}):=λM V _ _ i hi=>
 have hF:h.F M _:=hi.holds
 have hs:∀k,Ae.S {h with it:=none} k->h.S k:=λk hk=>hk.elim .inl λ⟨_,e⟩=>(by cases e)
 ⟨M,V,i,⟨⟨hF.map,λ_ _ e=>(by cases e)⟩,λk hk=>hi.low k (hs k hk),λk hk=>hi.apart k (hs k hk),λx bc b c e1 e2 h3=>hi.names x bc b c e1 e2 (hs b h3)⟩,fb _ _⟩
def yc6{α:Type} [Inhabited α] {el:α->Nat->DV}{l:List α}{x:α}{g:Nat->Nat->DV}{a c:Nat}(hg:g 0 c=el x c)(ha:a<l.length+1):jM l.length (λi=>el (l.getD i default)) g a c=el ((l++ [x]).getD a default) c:=by
 unfold jM;by_cases h:a<l.length
 ·rw[La h];show el (l.getD a default) c=_;rw[fc,fc,Jc h]
 obtain rfl:a=l.length:=O;rw[Ka h,Td,hg,fc,Gd (mb _),Td];rfl
def yd2(q:Hc)(bm:Nat)(L:List (Va×Int))(hL:L.length<=1000000000)(R:Cx)(J:R.ref=[]):
  bS prog R f8.ntmps (ng f8.body [1,1,1,1,1,1,1,1,1,0]) ⟨[(19,.s (.d eO)),(5,.s (.ptr 5 0)),(12,dQ bm)],[(5,some (.cells (Fc q)))]⟩ (Fb (Ub bm L none))
   λe s h=>e=.normal/\∃ks:List Va,ks.Perm (L.map Prod.fst)/\HSub R f8.ntmps s h ⟨(19,ll ks):: [(5,.s (.ptr 5 0)),(12,dQ bm)],(5,some (.cells (Fc q)))::Pk ks⟩ (Fb (Ub bm L none)):=by
 have qT:∀x∈nc 0 L,x.born<L.length:=λx hx=>(It hx).1
 refine pb (Sc (Kb (rc:=[]) aJ 1 J [5] rfl rfl (Rc rfl (n9.yeO (h:=Ub bm L none) (kt:=90) (et:=3) rfl rfl dC rfl underlying88 λbi=>mc ?_))))
 apply od
 refine Hg (S:=List Nat) (λvs=>⟨(19,ll (Pf L vs)):: [(5,.s (.ptr 5 0)),(12,dQ bm),(90,.s (.d (.val (.pointer (some ⟨bi,0,none⟩)))))],(5,some (.cells (Fc q)))::Pk (Pf L vs)⟩) (λvs=>Fb (Ub bm L (some (bi,vs)))) (λvs=>vs.Nodup/\∀j∈vs,j<L.length) (λvs=>L.length-vs.length) [] ⟨Py,λ_ h=>by cases h⟩ (Za (ab [] (by rw[J];rfl) rfl Fa Fa)) ?_
 rintro vs ⟨hv,hs⟩
 have hlen:(Pf L vs).length=vs.length:=by unfold Pf;simp
 have hvl:=yt hv hs
 cases hks:Pf L vs with
 |nil=>
  refine pb (Sc (Rc rfl (Dx (h:=Ub bm L (some (bi,vs))) (bi:=bi) (sn:=vs) rfl rfl dC rfl rfl qT (λlC=>?_) (λqe hq hns=>?_))))
  ·refine Kb (rc:=[]) aJ 1 J [5] rfl rfl (mc ?_);refine pb (Nc (Oe ?_));refine⟨rfl,[],hks▸ycB hv hs lC,?_⟩;exact Ww (aa:=⟨(19,ll []):: [(5,.s (.ptr 5 0)),(12,dQ bm)],(5,some (.cells (Fc q)))::Pk []⟩) (H2:=Fb (Ub bm L (some (bi,vs)))) (Za (ab [] (by rw[J];rfl) rfl Fa Fa)) Rw
  obtain⟨hb1,kx,_,hkx,hke,_⟩:=It hq;refine Kb (rc:=[]) aJ 1 J [5] rfl rfl (mc ?_);refine pb (Nc (gd ?_));apply od;refine pb (Sc (Rc rfl (dx (h:=Ub bm L (some (bi,qe.born::vs))) (bi:=bi) (sn:=vs) (q:=qe) (tk:=.g [.d (dI (kx.1.val:Nat)),.d (dT kx.2)]) rfl rfl dC rfl hq rfl (bp 0 L).1 (λM V=>by rw[hke];exact⟨_,rfl,rfl,rfl,oO⟩) (Kb (rc:=[]) aJ 3 J [5] rfl rfl (mc ?_)))));have hkn:Pf L (qe.born::vs)=[]++ [kx]:=by rw[ycc,hks,hkx]
  have YO:(qe.born::vs).Nodup/\∀j∈qe.born::vs,j<L.length:=⟨Ug.2 ⟨hns,hv⟩,λj hj=>(wb.1 hj).elim (λe=>e▸hb1) (hs j)⟩;have hdec:L.length-(qe.born::vs).length<L.length-vs.length:=by have h1:=yt YO.1 YO.2;rw[Rb]at h1⊢;omega
  refine Pb (I':=⟨[(19,.s (.d eO)),(5,.s (.ptr 5 0)),(12,dQ bm),(90,.s (.d (.val (.pointer (some ⟨bi,0,none⟩))))),(20,.s (.ptr 20 0))],[(5,some (.cells (Fc q))),(20,some (.cells [.d (dI (kx.1.val:Nat)),.d (dT kx.2)]))]⟩) (Za (ab [] (by rw[J];rfl) rfl Fa Fa)) ?_;refine eA J [5,20] λ_ h'=>ob dC (ob dC ?_)
  refine⟨qe.born::vs,YO,hdec,?_⟩;show HSub _ _ _ _ ⟨(19,ll (Pf L (qe.born::vs))):: [(5,.s (.ptr 5 0)),(12,dQ bm),(90,.s (.d (.val (.pointer (some ⟨bi,0,none⟩)))))],(5,some (.cells (Fc q)))::Pk (Pf L (qe.born::vs))⟩ _;rw[hkn];refine Za (ab [(100,98)] (by rw[J];rfl) rfl ⟨bQ,⟨rfl,Bc sM λa c ha hc=>?_⟩,oO⟩ Fa);have ha:a<1:=ha;obtain rfl:a=0:=O;have hc:c<2:=hc
  match c,hc with
  |0,_|1,_=>exact Wa rfl
 |cons k0 kr=>
  have ND:(k0::kr).length<=1000000000:=by rw[<-hks,hlen];omega
  refine pb (Sc (Rc rfl (Dx (h:=Ub bm L (some (bi,vs))) (bi:=bi) (sn:=vs) rfl rfl dC rfl rfl qT (λlC=>?_) (λqe hq hns=>?_))))
  ·refine Kb (rc:=[]) aJ 1 J [5,100] rfl rfl (mc ?_);refine pb (Nc (Oe ?_));refine⟨rfl,(k0::kr),hks▸ycB hv hs lC,?_⟩;exact Ww (aa:=⟨(19,ll (k0::kr)):: [(5,.s (.ptr 5 0)),(12,dQ bm)],(5,some (.cells (Fc q)))::Pk (k0::kr)⟩) (H2:=Fb (Ub bm L (some (bi,vs)))) (Za (ab [] (by rw[J];rfl) rfl Fa Fa)) Rw
  obtain⟨hb1,kx,_,hkx,hke,_⟩:=It hq;refine Kb (rc:=[]) aJ 1 J [5,100] rfl rfl (mc ?_);refine pb (Nc (gd ?_));apply od;refine pb (Sc (Rc rfl (dx (h:=Ub bm L (some (bi,qe.born::vs))) (bi:=bi) (sn:=vs) (q:=qe) (tk:=.g [.d (dI (kx.1.val:Nat)),.d (dT kx.2)]) rfl rfl dC rfl hq rfl (bp 0 L).1 (λM V=>by rw[hke];exact⟨_,rfl,rfl,rfl,oO⟩) (Kb (rc:=[]) aJ 3 J [5,100] rfl rfl (mc ?_)))));have hkn:Pf L (qe.born::vs)=(k0::kr)++ [kx]:=by rw[ycc,hks,hkx]
  have YO:(qe.born::vs).Nodup/\∀j∈qe.born::vs,j<L.length:=⟨Ug.2 ⟨hns,hv⟩,λj hj=>(wb.1 hj).elim (λe=>e▸hb1) (hs j)⟩;have hdec:L.length-(qe.born::vs).length<L.length-vs.length:=by have h1:=yt YO.1 YO.2;rw[Rb]at h1⊢;omega
  refine Pb (I':=⟨[(19,.s (.own 100)),(5,.s (.ptr 5 0)),(12,dQ bm),(90,.s (.d (.val (.pointer (some ⟨bi,0,none⟩))))),(20,.s (.ptr 20 0))],[(5,some (.cells (Fc q))),(100,some (.row 90 (k0::kr).length 2 (λi=>ze ((k0::kr).getD i default)))),(20,some (.cells [.d (dI (kx.1.val:Nat)),.d (dT kx.2)]))]⟩) (Za (ab [] (by rw[J];rfl) rfl Fa Fa)) ?_;refine eA J [5,100,20] λ_ h'=>ob (show((k0::kr).length+1)*24<=_ by omega) (ob (nJ (λc hc=>by match c,hc with|0,_|1,_=>rfl)) ?_)
  refine⟨qe.born::vs,YO,hdec,?_⟩;show HSub _ _ _ _ ⟨(19,ll (Pf L (qe.born::vs))):: [(5,.s (.ptr 5 0)),(12,dQ bm),(90,.s (.d (.val (.pointer (some ⟨bi,0,none⟩)))))],(5,some (.cells (Fc q)))::Pk (Pf L (qe.born::vs))⟩ _;rw[hkn];refine Za (ab [(100,98)] (by rw[J];rfl) rfl ⟨bQ,⟨rfl,Bc sM λa c ha hc=>?_⟩,oO⟩ Fa);have ha:a<(k0::kr).length+1:=ha;have hc:c<2:=hc
  match c,hc with
  |0,_|1,_=>exact Wa (yc6 (el:=ze) rfl ha)
end Go.Pj
namespace Go.Ax
def KV.of{e:List (Nat×AV)}{l:aP}(h:PH (none,l)=true):KV ⟨e,l⟩:=by
 intro x b hb;rcases LI (l:=l) (k:=[]) (by simpa using hb)with⟨p,hp,e⟩|h2
 ·exact Ur h p hp b e
 cases h2
def Lw{P:Ba}{R:Cx}{N:Nat}{I:St}{o:Oper}{K:St->Hid->Prop}{T:List (Nat×bV)}{H:Hid}{rl:List Nat}(hT:cD P T)(J:R.ref=[])(ks:List Nat)(h1:(ks.all λx=>rE I.box x)=true)(h2:((cR I.box).all λx=>ks.contains x)=true)
  (h:VW P T N ks rl o I λI'=>K I' H):n9 P R N o I H K:=
 n9.plain hT (λx hx=>Ao (by rw[Hd]at h1;exact h1 x hx)) (λx bc hx=>by have:=p7 hx;rw[Hd]at h2;simpa using h2 x this) (λx hx=>by rw[J]at hx;cases hx) h
end Go.Ax
namespace Go.Pj
open Go Go.Ax Go.Ch Go.Proofs Go.Proofs.Tryz Go.Sort Go.Shelf
abbrev lkB:Oper:=⟨some 111,.lookup 88 (.tmp 109) (.tmp 110) false,3, "query.go:207", #[⟨2,.data⟩,⟨3,.data⟩],none⟩
def Xt{k:Va}{M:Mem}{V:Nm}{u:wa}(hu:AV.bI M V (.g [.d (dI (k.1.val:Nat)),.d (dT k.2)]) u):u=ec k:=by
 obtain⟨vs,rfl,hv⟩:=hu
 match vs,hv with
 |[a,b],⟨ha,hb,_⟩=>obtain rfl:a=.int .i64 (k.1.val:Nat):=ha;obtain rfl:b=.string (bs k.2):=hb;rfl
def Yd(g:Int)(k:Va):ta:=bif g !=0&& !Qc g then bs (Lib.itoa (k.1.val:Nat))else bs k.2
def Dt:List bd->AV
 |[]=>.s (.d eO)
 |_::_=>.s (.own 100)
def Zu:List bd->aP
 |[]=>[]
 |x::r=>[(100,some (.row 59 (x::r).length 2 (Zm (x::r))))]
abbrev Am(q:Hc)(bm:Nat)(S:List Va)(i:Nat)(o:List bd):St:=⟨(21,Dt o):: [(5,.s (.ptr 5 0)),(12,dQ bm),(101,.s (.own 200)),(102,vI S.length),(103,vI i)],(5,some (.cells (Fc q)))::(200,some (.row 90 S.length 2 (λi=>ze (S.getD i default))))::Zu o⟩
def yc5(q:Hc)(bm i:Nat)(L:List (Va×Int))(S:List Va)(o:List bd)(hi:i<S.length)(_hS:S.length<=1000000000)(ho:o.length<=1000000000)(R:Cx)(J:R.ref=[]):
  bS prog R f8.ntmps (ng f8.body [1,1,1,1,1,1,1,1,1,1,1,1,0,1,2,2,1,1,0]) (Am q bm S i o) (Fb (Ub bm L none))
   λe s h=>e=.normal/\HSub R f8.ntmps s h (Am q bm S i (o++ [⟨Yd q.Xa (S.getD i default),tb L (S.getD i default)⟩])) (Fb (Ub bm L none)):=by
 generalize hk:S.getD i default=k
 cases o with
 |nil=>
  refine od (sA J [5,200] λ_ h'=>?_);refine oi Ha (oi (show((i:Int)).toNat<S.length by omega) ?_);refine Pb (I':=⟨[(21,.s (.d eO)),(5,.s (.ptr 5 0)),(12,dQ bm),(101,.s (.own 200)),(102,vI S.length),(103,vI i),(23,.s (.ptr 23 0))],[(5,some (.cells (Fc q))),(200,some (.row 90 S.length 2 (λi=>ze (S.getD i default)))),(23,some (.cells [.d (dI (k.1.val:Nat)),.d (dT k.2)]))]⟩) (Za (ab [] (by rw[J];rfl) rfl ⟨bQ,bQ,⟨rfl,cc (by rw[<-hk];rfl)⟩,oO⟩ Fa)) ?_;refine pb (Po (m:=4) (om:=lkB) (em:=(some (.s (.d (.val (.int .i64 (tb L k))))),[])) (fm:=([],[])) (C:=λI=>fL I.env 109=dQ bm/\fL I.env 110=.g [.d (dI (k.1.val:Nat)),.d (dT k.2)]) (H1:=Fb (Ub bm L none)) ⟨rfl,(λ_ hp=>by cases hp),λI I' hc ht _=>⟨(ht 109 dC).trans hc.1,(ht 110 dC).trans hc.2⟩⟩ aJ J mix ?_ 7 rfl rfl dC rfl rfl (λI hC=>No (L:=L) (k:=k) rfl rfl dC hC.1 (λM V u hu=>Xt (M:=M) (V:=V) (by have h2:ev I (.tmp 110)=.g [.d (dI (k.1.val:Nat)),.d (dT k.2)]:=hC.2;rw[h2]at hu;exact hu)) ⟨rfl,rfl⟩) ?_)
  ·exact KV.of rfl
  refine And.intro rfl (And.intro rfl ?_);refine And.intro rfl (And.intro rfl ?_);refine⟨rfl,⟨rfl,rfl⟩,?_⟩;refine And.intro rfl (And.intro rfl ?_);refine aD (Lw (rl:=[]) aJ J [5,200,23,24] rfl rfl ?_);refine Pb (I':=⟨[(21,.s (.d eO)),(5,.s (.ptr 5 0)),(12,dQ bm),(101,.s (.own 200)),(102,vI S.length),(103,vI i),(23,.s (.ptr 23 0)),(24,.s (.ptr 24 0))],[(5,some (.cells (Fc q))),(200,some (.row 90 S.length 2 (λi=>ze (S.getD i default)))),(23,some (.cells [.d (dI (k.1.val:Nat)),.d (dT k.2)])),(24,some (.cells [.d (dT k.2),.d (dI (tb L k))]))]⟩) (Za (ab [] (by rw[J];rfl) rfl Fa Fa)) ?_;refine th (I':=⟨[(21,.s (.d eO)),(5,.s (.ptr 5 0)),(12,dQ bm),(101,.s (.own 200)),(102,vI S.length),(103,vI i),(23,.s (.ptr 23 0)),(24,.s (.ptr 24 0))],[(5,some (.cells (Fc q))),(200,some (.row 90 S.length 2 (λi=>ze (S.getD i default)))),(23,some (.cells [.d (dI (k.1.val:Nat)),.d (dT k.2)])),(24,some (.cells [.d (dS (Yd q.Xa k)),.d (dI (tb L k))]))]⟩) (H':=Fb (Ub bm L none)) ?_ ?_
  ·refine sA J [5,200,23,24] λ_ h'=>?_
   repeat refine aR ?_
   refine bR (Hh q.Xa) ?_;repeat refine aR ?_
   refine Nc (aI (λh4=>?_) (λh4=>gd ?_))
   ·have h4:(q.Xa !=0&& !Qc q.Xa)=true:=h4;refine eA J [5,200,23,24] λ_ h'=>?_
    refine aB (D6 _ O (by have:=k.1.isLt;omega)) ?_;exact⟨rfl,Za (ab [] (by rw[J];rfl) rfl ⟨bQ,bQ,bQ,⟨rfl,cc (by unfold Yd;rw[h4];rfl)⟩,oO⟩ Fa)⟩
   have h4:(q.Xa !=0&& !Qc q.Xa)=false:=h4;exact⟨rfl,Za (ab [] (by rw[J];rfl) rfl ⟨bQ,bQ,bQ,⟨rfl,cc (by unfold Yd;rw[h4];rfl)⟩,oO⟩ Fa)⟩
  refine eA J [5,200,23,24] λ_ h'=>ob dC (ob dC ?_)
  refine⟨rfl,?_⟩;show HSub _ _ _ _ ⟨(21,Dt ([]++ [(⟨Yd q.Xa k,tb L k⟩:bd)])):: [(5,.s (.ptr 5 0)),(12,dQ bm),(101,.s (.own 200)),(102,vI S.length),(103,vI i)],(5,some (.cells (Fc q)))::(200,some (.row 90 S.length 2 (λi=>ze (S.getD i default))))::Zu ([]++ [(⟨Yd q.Xa k,tb L k⟩:bd)])⟩ _;refine Za (ab [(100,129)] (by rw[J];rfl) rfl ⟨bQ,bQ,⟨rfl,Bc sM λa c ha hc=>?_⟩,oO⟩ Fa);have ha:a<1:=ha;obtain rfl:a=0:=O;have hc:c<2:=hc
  match c,hc with
  |0,_|1,_=>exact Wa rfl
 |cons o0 o1=>
  refine od (sA J [5,200,100] λ_ h'=>?_);refine oi Ha (oi (show((i:Int)).toNat<S.length by omega) ?_);refine Pb (I':=⟨[(21,.s (.own 100)),(5,.s (.ptr 5 0)),(12,dQ bm),(101,.s (.own 200)),(102,vI S.length),(103,vI i),(23,.s (.ptr 23 0))],[(5,some (.cells (Fc q))),(200,some (.row 90 S.length 2 (λi=>ze (S.getD i default)))),(100,some (.row 59 (o0::o1).length 2 (Zm (o0::o1)))),(23,some (.cells [.d (dI (k.1.val:Nat)),.d (dT k.2)]))]⟩) (Za (ab [] (by rw[J];rfl) rfl ⟨bQ,bQ,bQ,⟨rfl,cc (by rw[<-hk];rfl)⟩,oO⟩ Fa)) ?_;refine pb (Po (m:=4) (om:=lkB) (em:=(some (.s (.d (.val (.int .i64 (tb L k))))),[])) (fm:=([],[])) (C:=λI=>fL I.env 109=dQ bm/\fL I.env 110=.g [.d (dI (k.1.val:Nat)),.d (dT k.2)]) (H1:=Fb (Ub bm L none)) ⟨rfl,(λ_ hp=>by cases hp),λI I' hc ht _=>⟨(ht 109 dC).trans hc.1,(ht 110 dC).trans hc.2⟩⟩ aJ J mix ?_ 7 rfl rfl dC rfl rfl (λI hC=>No (L:=L) (k:=k) rfl rfl dC hC.1 (λM V u hu=>Xt (M:=M) (V:=V) (by have h2:ev I (.tmp 110)=.g [.d (dI (k.1.val:Nat)),.d (dT k.2)]:=hC.2;rw[h2]at hu;exact hu)) ⟨rfl,rfl⟩) ?_)
  ·exact KV.of rfl
  refine And.intro rfl (And.intro rfl ?_);refine And.intro rfl (And.intro rfl ?_);refine⟨rfl,⟨rfl,rfl⟩,?_⟩;refine And.intro rfl (And.intro rfl ?_);refine aD (Lw (rl:=[]) aJ J [5,200,100,23,24] rfl rfl ?_);refine Pb (I':=⟨[(21,.s (.own 100)),(5,.s (.ptr 5 0)),(12,dQ bm),(101,.s (.own 200)),(102,vI S.length),(103,vI i),(23,.s (.ptr 23 0)),(24,.s (.ptr 24 0))],[(5,some (.cells (Fc q))),(200,some (.row 90 S.length 2 (λi=>ze (S.getD i default)))),(100,some (.row 59 (o0::o1).length 2 (Zm (o0::o1)))),(23,some (.cells [.d (dI (k.1.val:Nat)),.d (dT k.2)])),(24,some (.cells [.d (dT k.2),.d (dI (tb L k))]))]⟩) (Za (ab [] (by rw[J];rfl) rfl Fa Fa)) ?_;refine th (I':=⟨[(21,.s (.own 100)),(5,.s (.ptr 5 0)),(12,dQ bm),(101,.s (.own 200)),(102,vI S.length),(103,vI i),(23,.s (.ptr 23 0)),(24,.s (.ptr 24 0))],[(5,some (.cells (Fc q))),(200,some (.row 90 S.length 2 (λi=>ze (S.getD i default)))),(100,some (.row 59 (o0::o1).length 2 (Zm (o0::o1)))),(23,some (.cells [.d (dI (k.1.val:Nat)),.d (dT k.2)])),(24,some (.cells [.d (dS (Yd q.Xa k)),.d (dI (tb L k))]))]⟩) (H':=Fb (Ub bm L none)) ?_ ?_
  ·refine sA J [5,200,100,23,24] λ_ h'=>?_
   repeat refine aR ?_
   refine bR (Hh q.Xa) ?_;repeat refine aR ?_
   refine Nc (aI (λh4=>?_) (λh4=>gd ?_))
   ·have h4:(q.Xa !=0&& !Qc q.Xa)=true:=h4;refine eA J [5,200,100,23,24] λ_ h'=>?_
    refine aB (D6 _ O (by have:=k.1.isLt;omega)) ?_;exact⟨rfl,Za (ab [] (by rw[J];rfl) rfl ⟨bQ,bQ,bQ,bQ,⟨rfl,cc (by unfold Yd;rw[h4];rfl)⟩,oO⟩ Fa)⟩
   have h4:(q.Xa !=0&& !Qc q.Xa)=false:=h4;exact⟨rfl,Za (ab [] (by rw[J];rfl) rfl ⟨bQ,bQ,bQ,bQ,⟨rfl,cc (by unfold Yd;rw[h4];rfl)⟩,oO⟩ Fa)⟩
  refine eA J [5,200,100,23,24] λ_ h'=>ob (show((o0::o1).length+1)*24<=_ by omega) (ob (nJ (λc hc=>by match c,hc with|0,_|1,_=>rfl)) ?_)
  refine⟨rfl,?_⟩;show HSub _ _ _ _ ⟨(21,Dt (o0::o1++ [(⟨Yd q.Xa k,tb L k⟩:bd)])):: [(5,.s (.ptr 5 0)),(12,dQ bm),(101,.s (.own 200)),(102,vI S.length),(103,vI i)],(5,some (.cells (Fc q)))::(200,some (.row 90 S.length 2 (λi=>ze (S.getD i default))))::Zu (o0::o1++ [(⟨Yd q.Xa k,tb L k⟩:bd)])⟩ _;refine Za (ab [(100,129)] (by rw[J];rfl) rfl ⟨bQ,bQ,⟨rfl,Bc sM λa c ha hc=>?_⟩,oO⟩ Fa);have ha:a<(o0::o1).length+1:=ha;have hc:c<2:=hc
  match c,hc with
  |0,_|1,_=>exact Wa (yc6 (el:=yeS) rfl ha)
def yeu(q:Hc)(bm:Nat)(L:List (Va×Int))(S:List Va)(hS:S.length<=1000000000)(R:Cx)(J:R.ref=[]):
  bS prog R f8.ntmps (ng f8.body [1,1,1,1,1,1,1,1,1,1,1,1]) ⟨[(21,.s (.d eO)),(5,.s (.ptr 5 0)),(12,dQ bm),(19,.s (.own 200))],[(5,some (.cells (Fc q))),(200,some (.row 90 S.length 2 (λi=>ze (S.getD i default))))]⟩ (Fb (Ub bm L none))
   λe s _=>XP tab f8.results.toList (.t [.s (.d (Hk (S.map λk=>(⟨Yd q.Xa k,tb L k⟩:bd)))),.s (.d (dI 0))]) e s:=by
 refine pb (sA J [5,200] λ_ h'=>?_)
 apply od
 refine Hg (S:=Nat) (λi=>Am q bm S i ((S.take i).map λk=>(⟨Yd q.Xa k,tb L k⟩:bd))) (λ_=>Fb (Ub bm L none)) (λi=>i<=S.length) (λi=>S.length-i) 0 (Nat.zero_le _) (Za (ab [] (by rw[J];rfl) rfl Fa Fa)) ?_
 intro i hi
 have HW:((S.take i).map λk=>(⟨Yd q.Xa k,tb L k⟩:bd)).length<=i:=by rw[bg,pf];omega
 generalize hoo:((S.take i).map λk=>(⟨Yd q.Xa k,tb L k⟩:bd))=o at HW
 cases o with
 |nil=>
  refine sA J [5,200] λ_ h'=>pb (Nc ?_)
  refine aI (λh1=>gd ?_) (λh1=>Oe ?_)
  ·have h1:(i:Int)<S.length:=bG h1;have ht:(S.take (i+1)).map (λk=>(⟨Yd q.Xa k,tb L k⟩:bd))=[]++ [⟨Yd q.Xa (S.getD i default),tb L (S.getD i default)⟩]:=by rw[Zg O,Vi,hoo];rfl
   refine th (Pb (I':=Am q bm S i []) (Za (ab [] (by rw[J];rfl) rfl Fa Fa)) (yc5 q bm i L S [] O hS dC R J)) ?_;refine eA J [5,200,100] λ_ h'=>⟨i+1,O,O,?_⟩
   rw[ht];exact Za (ab [] (by rw[J];rfl) rfl Fa Fa)
  have h1:¬(i:Int)<S.length:=bF h1;obtain rfl:i=S.length:=O;rw[Vd]at hoo;refine sA J [5,200] λ_ h'=>Yi ?_
  rw[hoo];exact Re ⟨Nd,Ja _,oO⟩
 |cons o0 o1=>
  refine sA J [5,200,100] λ_ h'=>pb (Nc ?_)
  refine aI (λh1=>gd ?_) (λh1=>Oe ?_)
  ·have h1:(i:Int)<S.length:=bG h1;have ht:(S.take (i+1)).map (λk=>(⟨Yd q.Xa k,tb L k⟩:bd))=(o0::o1)++ [⟨Yd q.Xa (S.getD i default),tb L (S.getD i default)⟩]:=by rw[Zg O,Vi,hoo];rfl
   refine th (Pb (I':=Am q bm S i (o0::o1)) (Za (ab [] (by rw[J];rfl) rfl Fa Fa)) (yc5 q bm i L S (o0::o1) O hS (by rw[Rb]at HW⊢;omega) R J)) ?_;refine eA J [5,200,100] λ_ h'=>⟨i+1,O,O,?_⟩
   rw[ht];exact Za (ab [] (by rw[J];rfl) rfl Fa Fa)
  have h1:¬(i:Int)<S.length:=bF h1;obtain rfl:i=S.length:=O;rw[Vd]at hoo;refine sA J [5,200,100] λ_ h'=>Yi ?_
  rw[hoo];exact Re ⟨Ja _,Ja _,oO⟩
def oe(g:Int):List (Va×Int):=bif g==0 then [((0,[]),0)]else []
def mapA(q:Hc)(X:Nat->List Oa):List (Va×Int):=Oc q.Xa q.Vb (Uc Ab q.conds X 24) (oe q.Xa)
def Yg(q:Hc)(L:List (Va×Int)):List bd:=(Of (L.map Prod.fst)).map λk=>⟨Yd q.Xa k,tb L k⟩
def ydO(L:List (Va×Int))(k:Va)(v:Int):(Gc L k v).length<=L.length+1:=by
 induction L with
 |nil=>exact mb _
 |cons p r ih=>
  obtain⟨a,u⟩:=p;rw[Gc]
  cases decide (a=k)with
  |true=>exact Nat.le_succ _
  |false=>rw[Ua,Rb,Rb];omega
def Fu(g m:Int):∀(xs:List Oa) (L:List (Va×Int)),(Oc g m xs L).length<=L.length+xs.length
 |[],L=>mb _
 |x::r,L=>by have h1:=Fu g m r (Gc L (qc x g) (Pc x m));have h2:=ydO L (qc x g) (Pc x m);show(Oc g m r (Gc L (qc x g) (Pc x m))).length<=_;rw[Rb];omega
def yfd(p:Proj)(l Y:List Fact)(q:Hc)(X:Nat->List Oa)(t:bJ)
  (hO:aF prog 13 [oR p,cJ l,vI 1,vI 1] (.t [.g (l0 p Y),.s (.d (dI 0))])) (hQ:aF prog 20 [fp q] (.t [.s (.d (dT t)),.s (.d (dI 0))]))
  (hLo:aF prog 14 [SR p Y,vI 24] (.s (.d (cZ (dA p Y 25))))) (hX:∀M:Nat,1<=M->M<=24->aF prog 15 [SR p Y,vI M,.s (.d (cZ (dA p Y 25)))] (iD (X M)))
  (hxl:∀M,(X M).length<=1000000) (hxn:∀M,1<=M->M<=24->∀x∈X M,Wg x) (hq:q.conds.length<=1000000):
  aF prog 8 [oR p,cJ l,fp q] (.t [.s (.d (Hk (Yg q (mapA q X)))),.s (.d (dI 0))]):=by
 refine eW func8 rfl rfl call8 rfl rfl (λR J=>Gj ?_)
 refine sA J [] λ_ h'=>?_
 refine sA J [3,5] λ_ h'=>?_
 apply aB hO
 refine Pb (H':=Ud) (I':=⟨[(5,.s (.ptr 5 0)),(8,.s (.ptr 8 0)),(9,vI 0)],[(5,some (.cells (Fc q))),(8,some (.cells (l0 p Y)))]⟩) ?_ ?_
 ·exact Za (ab [] (by rw[J];rfl) rfl Fa Fa)
 refine pb (sA J [5,8] λ_ h'=>?_)
 apply Nc
 refine aI (λh=>by cases h) (λ_=>gd ?_)
 refine pb (sA J [5,8] λ_ h'=>?_)
 apply aB hQ
 refine Pb (H':=Ud) (I':=⟨[(5,.s (.ptr 5 0)),(8,.s (.ptr 8 0)),(11,vI 0)],[(5,some (.cells (Fc q))),(8,some (.cells (l0 p Y)))]⟩) ?_ ?_
 ·exact Za (ab [] (by rw[J];rfl) rfl Fa Fa)
 refine sA J [5,8] λ_ h'=>?_
 apply Nc
 refine aI (λh=>by cases h) (λ_=>gd ?_)
 refine pb (Sc (Rc rfl (n9.il rfl rfl dC λbm=>Kb (rc:=[]) aJ 1 J [5,8] rfl rfl (mc ?_))))
 have hL0:(oe q.Xa).length<=1:=by unfold oe;cases q.Xa==0 <;> decide
 refine Pb (I':=⟨[(5,.s (.ptr 5 0)),(8,.s (.ptr 8 0)),(12,dQ bm)],[(5,some (.cells (Fc q))),(8,some (.cells (l0 p Y)))]⟩) (H':=Fb (Ub bm [] none)) (Za (ab [] (by rw[J];rfl) rfl Fa Fa)) ?_
 refine th (I':=⟨[(5,.s (.ptr 5 0)),(8,.s (.ptr 8 0)),(12,dQ bm)],[(5,some (.cells (Fc q))),(8,some (.cells (l0 p Y)))]⟩) (H':=Fb (Ub bm (oe q.Xa) none)) ?_ ?_
 ·refine sA J [5,8] λ_ h'=>Nc (aI (λh=>?_) (λh=>gd ?_))
  ·have h:(q.Xa==0)=true:=h;have e:oe q.Xa=[((0,[]),0)]:=by unfold oe;rw[h];rfl
   rw[e];refine Sc (Kb (rc:=[]) aJ 2 J [5,8] rfl rfl (Rc rfl (n9.ye4 (k:=(0,[])) (v:=0) rfl rfl rfl (λM V u hu=>Xt (k:=(0,[])) hu) (λ_ _ _ hu=>hu) (mc ?_))));exact⟨rfl,Za (ab [] (by rw[J];rfl) rfl Fa Fa)⟩
  have h:(q.Xa==0)=false:=h;have e:oe q.Xa=[]:=by unfold oe;rw[h];rfl
  rw[e];exact⟨rfl,Za (ab [] (by rw[J];rfl) rfl Fa Fa)⟩
 refine sA J [5,8] λ_ h'=>?_
 apply aB hLo
 refine th (I':=⟨[(5,.s (.ptr 5 0)),(12,dQ bm)],[(5,some (.cells (Fc q)))]⟩) (H':=Fb (Ub bm (mapA q X) none)) ?_ ?_
 ·refine sA J [5,8] λ_ h'=>?_
  exact Pb (I':=wg p Y q bm 1 [] []) (Za (ab [] (by rw[J];rfl) rfl Fa Fa)) (yet p Y q bm X (oe q.Xa) hX hxl hxn hq R J)
 have hml:(mapA q X).length<=1000000000:=by have h1:=Fu q.Xa q.Vb (Uc Ab q.conds X 24) (oe q.Xa);have h2:=Xu Ab q.conds hxl 24;unfold mapA;omega
 generalize hL:mapA q X=L at hml
 refine sA J [5] λ_ h'=>?_
 refine pb (Pb (I':=⟨[(19,.s (.d eO)),(5,.s (.ptr 5 0)),(12,dQ bm)],[(5,some (.cells (Fc q)))]⟩) (Za (ab [] (by rw[J];rfl) rfl Fa Fa)) (bS.mono (yd2 q bm L O R J) ?_))
 rintro e s h ⟨rfl,ks,hks,fQ⟩
 apply Pb fQ
 have ND:ks.length<=1000000000:=by rw[hks.length_eq,bg];exact hml
 have hS:Of (L.map Prod.fst)=Of ks:=(ybq _ _ ((Oi _ _).trans hks) (ycl ks)).symm
 have hSl:(Of ks).length=ks.length:=by unfold Of;simp
 unfold Yg
 rw[hS]
 cases ks with
 |nil=>
  refine sA J [5] λ_ h'=>aB (ydm _) (sA J [5] λ_ h'=>?_)
  rw[show Of []=[] by simp[Of]];refine pb (sA J [5] λ_ h'=>?_);apply od;refine Hg (S:=Unit) (λ_=>⟨[(21,.s (.d eO)),(102,vI 0),(103,vI 0)],[(5,some (.cells (Fc q)))]⟩) (λ_=>Fb (Ub bm L none)) (λ_=>True) (λ_=>0) () trivial (Za (ab [] (by rw[J];rfl) rfl Fa Fa)) ?_;intro _ _;refine sA J [5] λ_ h'=>pb (Nc ?_)
  refine aI (λh1=>absurd h1 dC) (λ_=>Oe ?_);exact sA J [5] λ_ h'=>Yi (Re ⟨Nd,Ja _,oO⟩)
 |cons k0 kr=>
  refine pb (eB [24] J [5,100] λ_ h'=>?_);refine⟨[(1001,100)],_,_,_,_,ydn (k0::kr) _ (λ_ _ _ _=>λ_ _ r=>r) ND,rfl,⟨rfl,oO⟩,rfl,?_⟩;rw[<-hSl];generalize Of (k0::kr)=S at hSl;refine sA J [5,100] λ_ h'=>?_
  exact Pb (I':=⟨[(21,.s (.d eO)),(5,.s (.ptr 5 0)),(12,dQ bm),(19,.s (.own 200))],[(5,some (.cells (Fc q))),(200,some (.row 90 S.length 2 (λi=>ze (S.getD i default))))]⟩) (Za (ab [(200,100)] (by rw[J];rfl) rfl Fa Fa)) (yeu q bm L S O R J)
open Go Go.Ax Go.Ch Go.Proofs Go.Proofs.Tryz
def Jo{p:Proj}{l:List Fact}(hk:Ci p l)(M:Int):ZR (cntF l) M:=ZR.of (x4 hk).len (yc8 hk.fmt M)
def yd0(p:Proj)(l:List Fact)(M:Nat)(hp:p.fits)(hf:∀f∈l,f.fits)(hl:l.length<=9223372036854775807)(he:j6 p l M 1=0):
  aF prog 7 [oR p,cJ l,vI M] (.t [.g [.d (dI M),.d (dI (OW p l M).over),.d (dI (OW p l M).fG),.d (dI (OW p l M).total),.d (x0 (OW p l M).Y4),.d (xZ (OW p l M).mq),.d (b5 (OW p l M).wq)],.s (.d (dI 0))]):=by
 obtain⟨hk,_⟩:=tL he
 have hS:=x4 hk
 exact aGO p l M hp hf hl he (Jo hk M) (late p (cntF l) M (sK p (cntF l) M) hp (Yh hk.proj) (by have:=hS.len;omega) (by show(lE p (cntF l) M).length=_;unfold lE;simp))
structure PcD(F:Fact->Prop)(pt y:Oa):Prop where
 month:y.month=pt.month
 cell:y.cell=pt.cell
 aN:y.aN=pt.aN
 load:(y.load=pt.load/\y.dN=pt.dN)\/∃f,F f/\y.load=f.number/\y.dN=f.dN
def ydf{F:Fact->Prop}{pt:Oa}:∀(k:Nat) (s:DS),(∀r∈s.cur,F r.1)->(∀y∈s.out,PcD F pt y)->(∀y∈(pB pt k s).out,PcD F pt y)/\∀r∈(pB pt k s).cur,F r.1
 |0,s,hc,ho=>⟨ho,hc⟩
 |k+1,s,hc,ho=>by
  rw[pB]
  cases decide (s.v>0)with
  |false=>exact⟨ho,hc⟩
  |true=>
   refine ydf k (a6 pt s) (λr hr=>?_) (λy hy=>?_)
   ·unfold a6 at hr
    cases hd:decide (s.lo<s.cur.length)with
    |false=>rw[hd]at hr;exact hc r hr
    |true=>
     rw[hd]at hr;rcases List.mem_or_eq_of_mem_set hr with hr|rfl
     ·exact hc r hr
     exact hc (s.cur.getD s.lo default) (bP (Nb hd))
   unfold a6 at hy
   cases hd:decide (s.lo<s.cur.length)with
   |false=>
    rw[hd]at hy;rcases ic.1 hy with hy|hy
    ·exact ho y hy
    rw[Ib.1 hy];exact⟨rfl,rfl,rfl,.inl ⟨rfl,rfl⟩⟩
   |true=>
    rw[hd]at hy;rcases ic.1 hy with hy|hy
    ·exact ho y hy
    rw[Ib.1 hy];exact⟨rfl,rfl,rfl,.inr ⟨_,hc _ (bP (Nb hd)),rfl,rfl⟩⟩
def yeF{F:Fact->Prop}{E:List mF}(k:bJ)(h:∀e∈E,∀r∈e.2.1.2,F r.1):∀r∈(B1 E k).2,F r.1:=by
 unfold B1;split
 ·rename_i i e he;exact h e (Dd (NQ he).2.1)
 exactλr hr=>by cases hr
def yeP{F:Fact->Prop}{E:List mF}{k:bJ}{v:Nat×List Room}(h:∀e∈E,∀r∈e.2.1.2,F r.1)(hv:∀r∈v.2,F r.1):∀e∈Tj E k v,∀r∈e.2.1.2,F r.1:=by
 intro e he;unfold Tj at he;split at he
 ·rename_i i e' _;obtain⟨j,hj⟩:=dd he;rw[se]at hj
  cases hE:E[j]? with
  |none=>rw[hE]at hj;cases hj
  |some y=>
   rw[hE]at hj;have hj:(if i=j then(y.1,v,y.2.2)else y)=e:=by simpa using hj
   split at hj
   ·subst hj;exact hv
   subst hj;exact h y (Dd hE)
 rcases ic.1 he with he|he
 ·exact h e he
 rw[Ib.1 he];exact hv
structure PcM(F:Fact->Prop)(S:ta->Prop)(M:Int)(n:Nat)(y:Oa):Prop where
 month:y.month=M
 cell:∃i:Nat,y.cell=i/\i<n
 aN:S y.aN
 load:(y.load=0/\y.dN=bs [])\/∃f,F f/\y.load=f.number/\y.dN=f.dN
def pu(F:Fact->Prop)(S:ta->Prop)(M:Int)(n:Nat)(s:PS):Prop:=(∀e∈s.1,∀r∈e.2.1.2,F r.1)/\∀y∈s.2,PcM F S M n y
def ycw{F:Fact->Prop}{S:ta->Prop}{p:Proj}{M:Int}{i n:Nat}(hi:i<n):∀(xs:List Part) (s:PS),(∀x∈xs,S x.aN)->pu F S M n s->pu F S M n (xs.foldl (oN p M i) s)
 |[],_,_,h=>h
 |x::r,s,hx,h=>by
  refine ycw hi r _ (λy hy=>hx y (oc _ hy)) ?_;have h0:=yeF (F:=F) x.aN.data.toList h.1;obtain⟨h1,h2⟩:=ydf (F:=F) (pt:=bN p M i x) ((B1 s.1 x.aN.data.toList).2.length-(B1 s.1 x.aN.data.toList).1+1) (qE (bN p M i x) (B1 s.1 x.aN.data.toList).1 (B1 s.1 x.aN.data.toList).2) h0 (λy hy=>by cases hy);refine⟨yeP h.1 h2,λy hy=>?_⟩;rcases ic.1 hy with hy|hy
  ·exact h.2 y hy
  obtain⟨a,b,c,d⟩:=h1 y hy;exact⟨a,⟨i,b,hi⟩,c▸hx x Zd,d⟩
def ydZ{F:Fact->Prop}{S:ta->Prop}{p:Proj}{Y:List Fact}{M:Nat}{E:List mF}(hS:∀i hi lo,∀x∈vP p.gr (dP p.aT i) hi lo,S x.aN)(hE:∀e∈E,∀r∈e.2.1.2,F r.1):∀i,i<=p.aT.levels.length->pu F S M p.aT.levels.length (EE p Y M E i)
 |0,_=>⟨hE,λy hy=>by cases hy⟩
 |i+1,hi=>by
  have ih:=ydZ (Y:=Y) (M:=M) hS hE i O;rw[GY];unfold wZ
  cases(iL p Y (M-1) i==30000||decide (iL p Y M i>=iL p Y (M-1) i))with
  |true=>exact ih
  |false=>exact ycw O _ _ (λx hx=>hS _ _ _ x hx) ih
def sl(g:Ground)(s:ta):Prop:=∃x∈g.bK,x.name=s
def yc1{p:Proj}(hv:PV p){c:Pt}{hi lo:Int}:∀x∈vP p.gr c hi lo,sl p.gr x.aN:=by
 intro x hx;unfold vP at hx
 cases he:(FQ p.gr c hi lo !=0)with
 |true=>rw[he]at hx;cases hx
 |false=>
  rw[he]at hx;have hx:x∈nL (uD p.gr c).bB hi lo (uD p.gr c).bB.length:=hx;unfold nL at hx;obtain⟨j,hj,hx⟩:=lh.1 hx;have hj:=Gf.1 hj;unfold X8 at hx;have YI:x.aN=((uD p.gr c).bB.getD j default).aN:=by
   cases hq:decide (C4 (uD p.gr c).bB hi j>FM (uD p.gr c).bB lo j)with
   |false=>rw[hq]at hx;cases hx
   |true=>rw[hq]at hx;rw[<-Option.some.inj hx]
  rw[YI];have hg:=hv.gr;have hb0:=EX hg;obtain⟨i,hi,hbi⟩:=Vj (Pu (c:=c) hb0.1);unfold dX at hg;obtain⟨_,hg⟩:=dU hg;obtain⟨_,hg⟩:=dF dC hg;obtain⟨_,hg⟩:=dF dC hg;have hb:=lQ hg i (Nat.zero_le _) O;unfold uC at hb;obtain⟨_,hb⟩:=dF dC hb;obtain⟨_,hb⟩:=dF dC hb;rw[aX hi,hbi]at hb;unfold vN at hb;obtain⟨_,hb⟩:=dF dC hb;obtain⟨_,hb⟩:=dF dC hb;obtain⟨_,hb⟩:=dF dC hb;have hl:=lQ hb j (Nat.zero_le _) O;unfold sL at hl;obtain⟨_,hl⟩:=dF dC hl;obtain⟨_,hl⟩:=dF dC hl;obtain⟨hl,_⟩:=dF dC hl;rw[GJ,Ph]at hl;obtain⟨y,hy,hs⟩:=Ll.1 hl;rw[KU]at hs;exact⟨y,hy,eq_of_beq hs⟩
def yf(l:List Fact)(M:Int)(f:Fact):Prop:=f∈cntF l/\f.kind=1/\f.month<=M
def Ep{p:Proj}{l:List Fact}{M:Nat}(hk:Ci p l):∀y∈G3 p (cntF l) M,PcM (yf l M) (sl p.gr) M p.aT.levels.length y:=by refine(ydZ (Y:=cntF l) (M:=M) (λ_ _ _=>yc1 (Yh hk.proj)) (λe he r hr=>?_) p.aT.levels.length (mb _)).2;unfold qD at he;obtain⟨e0,h0,rfl⟩:=Lc.1 he;exact eo (Q:=λr=>yf l M r.1) (λf hf=>Zt (HZ (mb _) f hf)) (mb _) e0 h0 r hr
open Go Go.Ax Go.Ch Go.Proofs Go.Proofs.Tryz
def du(p:Proj)(Y:List Fact)(m:Int):List Fact×gK:=iM p (j8 Y m) (j8 Y m).length
abbrev kyS(s:ta):bJ:=s.data.toList
def Yf:List Part->Int
 |[]=>0
 |x::r=>(x.cb-x.bot)+Yf r
def ycO(b:List Part):∀a,Yf (a++b)=Yf a+Yf b
 |[]=>by show Yf b=0+_;omega
 |x::r=>by show _+Yf (r++b)=_+Yf r+_;rw[ycO b r];omega
def Sk(x y:Int):mm true x y=max x y:=by unfold mm;simp only;split <;> omega
def ydu{l:List sC}{hi lo:Int}(h:lo<=hi)(hd:∀i,i+1<l.length->(l.getD (i+1) default).cb<(l.getD i default).cb):
  ∀n,n<l.length->Yf (nL l hi lo (n+1))=hi-min hi (FM l lo n):=by
 intro n
 induction n with
 |zero=>
  intro h0;rw[ZC];show Yf ([]++(X8 l hi lo 0).toList)=_;unfold X8 C4;show Yf ([]++(bif decide (hi>FM l lo 0)then some (⟨(l.getD 0 default).aN,hi,FM l lo 0⟩:Part)else none).toList)=_;by_cases hb:hi>FM l lo 0
  ·rw[pc hb];show(hi-FM l lo 0)+0=_;omega
  rw[Kc hb];show(0:Int)=_;omega
 |succ n ih=>
  intro hn;rw[ZC,ycO,ih O];have ht:C4 l hi (n+1)=min hi (l.getD (n+1) default).cb:=by unfold C4;rw[pc O];exact ij _ _
  have hb0:FM l lo n=max lo (l.getD (n+1) default).cb:=by unfold FM;rw[pc O];exact Sk _ _
  have hb1:FM l lo (n+1)=lo\/∃t,t<(l.getD (n+1) default).cb/\FM l lo (n+1)=max lo t:=by
   unfold FM;by_cases hc:n+1+1<l.length
   ·rw[pc O];exact .inr ⟨_,hd (n+1) hc,Sk _ _⟩
   rw[Kc O];exact .inl rfl
  unfold X8;rw[ht,hb0];generalize FM l lo (n+1)=b at hb1;generalize (l.getD (n+1) default).cb=t at hb1;by_cases hc:min hi t>b
  ·rw[pc hc];show _+((min hi t-b)+0)=_;rcases hb1 with hb1|⟨u,h1,h2⟩ <;> omega
  rw[Kc hc];show _+(0:Int)=_;rcases hb1 with hb1|⟨u,h1,h2⟩ <;> omega
def yd3{s:List lI}{b:fS}(h:vN s b=0):0<b.bB.length/\∀i,i+1<b.bB.length->(b.bB.getD (i+1) default).cb<(b.bB.getD i default).cb:=by unfold vN at h;obtain⟨_,h⟩:=dF dC h;obtain⟨h1,h⟩:=dF dC h;obtain⟨_,h⟩:=dF dC h;refine⟨by simp at h1;exact Nh.2 h1,λi hi=>?_⟩;have h2:=lQ h (i+1) (Nat.zero_le _) O;unfold sL at h2;obtain⟨_,h2⟩:=dF dC h2;obtain⟨h2,_⟩:=dF dC h2;rw[pc O]at h2;simpa using h2
def yew{g:Ground}(h:dX g=0){b:fS}(hb:b∈g.cC):vN g.bK b=0:=by unfold dX at h;obtain⟨_,h⟩:=dU h;obtain⟨_,h⟩:=dF dC h;obtain⟨_,h⟩:=dF dC h;obtain⟨i,hi,rfl⟩:=Vj hb;have h2:=lQ h i (Nat.zero_le _) O;unfold uC at h2;obtain⟨_,h2⟩:=dF dC h2;obtain⟨_,h2⟩:=dF dC h2;rw[aX hi]at h2;exact h2
def ydk{p:Proj}(hv:PV p){i:Nat}(hi:i<p.aT.levels.length){a b:Int}(ha: -20000<=a/\a<=20000)(hb: -20000<=b/\b<=20000)(h:b<=a):Yf (vP p.gr (dP p.aT i) a b)=a-b:=by
 have hg:=(RY hv.gv hi).1;have he:FQ p.gr (dP p.aT i) a b=0:=by
  have e1:FN p.gr (dP p.aT i) [a,b]=0:=by unfold FN;rw[hv.gr,hg];have w1:=within_iff.2 ha;have w2:=within_iff.2 hb;simp[L2,w1,w2]
  unfold FQ;rw[e1,Kc O];rfl
 unfold vP;rw[he];show Yf (nL _ a b _)=_;obtain⟨h1,h2⟩:=yd3 (yew hv.gr (Pu (c:=dP p.aT i) (EX hv.gr).1));generalize (uD p.gr (dP p.aT i)).bB=l at h1 h2;obtain⟨n,hn⟩:∃n,l.length=n+1:=⟨l.length-1,O⟩;rw[hn,ydu h h2 n O];have:FM l b n=b:=by unfold FM;rw[Kc O];rfl
 rw[this];omega
def ycG{p:Proj}{m:Int}{i:Nat}{x:Part}(hv:PV p)(hx:AQ x):(bN p m i x).iZ=(x.cb-x.bot)*dH p:=by obtain⟨a1,a2⟩:=cp hv;have h1:=hx.lt;have h2:=hx.lo;have h3:=hx.hi;have h4:=Th (a:=x.cb-x.bot) (b:=dH p) O O;have h5:(x.cb-x.bot)*dH p<=40000*1000000:=Yj O a2 O dC;show aW (aW (x.cb-x.bot)*dH p)=_;rw[show aW (x.cb-x.bot)=x.cb-x.bot from aG O O,aG O O]
def ydD{p:Proj}(hv:PV p){i:Nat}(hi:i<p.aT.levels.length):P2 p i=30000\/(-20000<=P2 p i/\P2 p i<=20000):=by
 unfold P2;rw[ycW _ _ _ hi];unfold L0
 cases hd:(UI p.chan (dP p.aT i)).2 with
 |false=>exact .inl rfl
 |true=>have h1:=yd6 hv.val (RY hv.gv hi).1 hd;have h2:=hv.val.over;refine .inr ?_;show -20000<=aW _/\aW _<=20000;rw[aG O O];omega
def yde{p:Proj}{m:Int}{i:Nat}{x:Part}(hv:PV p)(hi:i<p.aT.levels.length)(hx:AQ x):0<=(bN p m i x).gV/\(bN p m i x).gV<=(bN p m i x).iZ:=by
 obtain⟨a1,a2⟩:=cp hv;have h1:=hx.lt;have h2:=hx.lo;have h3:=hx.hi;rw[ycG hv hx];have h4:=Th (a:=x.cb-x.bot) (b:=dH p) O O;show 0<=(bif P2 p i !=30000 then aW (mm true 0 (aW (x.cb-mm true x.bot (P2 p i)))*dH p)else 0)/\(bif P2 p i !=30000 then aW (mm true 0 (aW (x.cb-mm true x.bot (P2 p i)))*dH p)else 0)<=_
 cases hl:(P2 p i !=30000)with
 |false=>exact⟨Me _,h4⟩
 |true=>
  have hb:=ydD hv hi;have hl:P2 p i≠30000:=by simpa using hl
  show 0<=aW _/\aW _<=_;rw[Sk,Sk,aG (n:=x.cb-max x.bot (P2 p i)) O O];have q1:=Th (a:=max 0 (x.cb-max x.bot (P2 p i))) (b:=dH p) O O;have q2:=Mi (a:=max 0 (x.cb-max x.bot (P2 p i))) (b:=x.cb-x.bot) (c:=dH p) O O;have q3:(x.cb-x.bot)*dH p<=40000*1000000:=Yj O a2 O dC;rw[aG O O];exact⟨q1,q2⟩
section
variable{l:List Fact}{f:Fact}(h0:f.kind=0)
include h0
end
def Vk(x:Int):Prop:=x=30000\/(-20000<=x/\x<=20000)
def yn{n:Int}(h: -1000000<=n)(k:n<=1000000):aW n=n:=aG O O
open Go Go.Ax Go.Ch Go.Proofs Go.Proofs.Tryz
def ycM{p:Proj}{Y:List Fact}(hS:nj p Y)(hv:kn Y)(m:Int){i:Nat}(hi:i<p.aT.levels.length):Vk (fF p Y m i).1:=by
 have ha:=GD hv 0 m hi hS.shape;have hb:=GD hv 1 m hi hS.shape;have hc:=GD hv 2 m hi hS.shape;unfold fF;generalize lT Y 0 m i=a at ha;generalize lT Y 1 m i=b at hb;generalize lT Y 2 m i=c at hc;dsimp only
 cases h1:(a==30000)with
 |true=>exact hb
 |false=>
  have h1:a≠30000:=by simpa using h1
  cases h2:(b==30000)with
  |true=>exact ha
  |false=>
   have h2:b≠30000:=by simpa using h2
   cases decide (aW (mm true a b-mm false a b)<=p.agree)with
   |true=>show Vk (aW (aW (Int.tdiv (aW (aW (aW (a+b)+40000)+1)) 2)-20000));rw[yn (n:=a+b) O O,yn (n:=a+b+40000) O O,yn (n:=a+b+40000+1) O O,Il O,yn (n:=(a+b+40000+1) / 2) O O,yn O O];exact .inr O
   |false=>
    cases h3:(c==30000)with
    |true=>exact hc
    |false=>
     have h3:c≠30000:=by simpa using h3
     show Vk (X4 a b c);unfold X4;rw[Sk,ij,ij,Sk];exact .inr O
def Bt{p:Proj}{Y:List Fact}(hp:PV p)(hS:nj p Y)(hv:kn Y){i:Nat}(hi:i<p.aT.levels.length):∀M,Vk (iL p Y M i)
 |0=>by
  rw[iL]
  cases h:((fF p Y ((0:Nat):Int) i).1==30000)with
  |true=>exact hp.gv.Ju _ (by rw[fc,List.getElem?_eq_getElem hi];exact Ce _)
  |false=>exact ycM hS hv _ hi
 |M+1=>by have h1:=Bt hp hS hv hi M;have h2:=ycM hS hv ((M+1:Nat):Int) hi;rw[iL,ij];unfold Vk at*;omega
def sd:List Oa->Int
 |[]=>0
 |x::r=>x.iZ+sd r
def yp(b:List Oa):∀a,sd (a++b)=sd a+sd b
 |[]=>by show sd b=0+_;omega
 |x::r=>by show _+sd (r++b)=_+sd r+_;rw[yp b r];omega
structure pg(x:Oa):Prop where
 iZ:0<x.iZ
 gV:0<=x.gV/\x.gV<=x.iZ
def ycr{l:List Oa}(h:∀x∈l,pg x){y:Oa}(hy:pg y):∀x∈l++ [y],pg x:=λx hx=>by
 rcases ic.1 hx with hx|hx
 ·exact h x hx
 rw[Ib.1 hx];exact hy
def ydM{pt:Oa}{N:Nat}{fin:DS}{T:Int}:∀Ma s,DJ pt N fin (Ma,s)->(0<=s.p/\s.p<=s.v)->(∀x∈s.out,pg x)->sd s.out+s.v=T->(∀x∈fin.out,pg x)/\sd fin.out=T:=by
 intro Ma;induction Ma with
 |zero=>
  intro s h hp hq hT;by_cases hv:s.v>0
  ·obtain⟨k',e,_⟩:=h.step hv;omega
  have aCM:s=fin:=h.run;have h0:s.v=0:=by have:=h.v;dsimp only at this;omega
  rw[<-aCM];exact⟨hq,O⟩
 |succ Ma ih=>
  intro s h hp hq hT;by_cases hv:s.v>0
  ·obtain⟨k',e,h'⟩:=h.step hv;obtain rfl:Ma=k':=O;have hvv:=h.v;have hlen:=h.len;have hleft:=h.left s.lo (mb _);dsimp only at hvv hlen hleft;by_cases DR:s.lo<s.cur.length
   ·obtain⟨l1,l2⟩:=hleft O;have hd:decide (s.lo<s.cur.length)=true:=pc DR;have m1:=ij s.v (s.cur.getD s.lo default).2;have m2:=ij s.p (mm false s.v (s.cur.getD s.lo default).2);have e2:aW (s.v-mm false s.v (s.cur.getD s.lo default).2)=s.v-mm false s.v (s.cur.getD s.lo default).2:=aG O O;have e3:aW (s.p-mm false s.p (mm false s.v (s.cur.getD s.lo default).2))=s.p-mm false s.p (mm false s.v (s.cur.getD s.lo default).2):=aG O O;refine ih (a6 pt s) h' ?_ ?_ ?_
    ·unfold a6;rw[hd];show 0<=aW _/\aW _<=aW _;rw[e2,e3];omega
    ·unfold a6;rw[hd];exact ycr hq ⟨by show 0<mm false _ _;omega,by show 0<=mm false _ _/\mm false _ _<=mm false _ _;omega⟩
    rw[<-hT];unfold a6;rw[hd];show sd (s.out++ [_])+aW _=_;rw[yp,e2];show _+(mm false _ _+0)+_=_;omega
   have hd:decide (s.lo<s.cur.length)=false:=Kc DR;have m2:=ij s.p s.v;refine ih (a6 pt s) h' ?_ ?_ ?_
   ·unfold a6;rw[hd];show 0<=aW _/\aW _<=aW _;rw[aG O O,aG O O];omega
   ·unfold a6;rw[hd];exact ycr hq ⟨hv,by show 0<=mm false _ _/\mm false _ _<=s.v;omega⟩
   rw[<-hT];unfold a6;rw[hd];show sd (s.out++ [_])+aW _=_;rw[yp,aG O O];show _+(s.v+0)+_=_;omega
  have aCM:s=fin:=by have:=h.run;rw[<-this];exact(BD hv).symm
  have h0:s.v=0:=by have:=h.v;dsimp only at this;omega
  rw[<-aCM];exact⟨hq,O⟩
def ybR{M:Int}{p:Proj}(hv:PV p){i:Nat}(hi:i<p.aT.levels.length):∀(xs:List Part) (s:PS) (n:Nat),D5 s n->(∀x∈xs,AQ x)->(∀y∈s.2,pg y)->
  D5 (xs.foldl (oN p M i) s) (n+xs.length*201)/\(∀y∈(xs.foldl (oN p M i) s).2,pg y)/\sd (xs.foldl (oN p M i) s).2=sd s.2+Yf xs*dH p
 |[],s,n,h,_,hq=>⟨h.more (Ey _ _),hq,by show _=_+(0:Int)*_;rw[Int.zero_mul,Un];rfl⟩
 |x::r,s,n,h,hx,hq=>by
  have hx0:=hx x (Zd);have hpv:=BK (m:=M) (i:=i) hv hx0;have hg:=YS (k:=kyS x.aN) h.1;have h1:=XH (pt:=bN p M i x) (n:=(B1 s.1 (kyS x.aN)).2.length) rfl hg.le (by have:=hg.Hi;omega) ⟨O,hpv.2⟩ hg.left;obtain⟨a1,a2⟩:=ydM (T:=(bN p M i x).iZ) _ _ h1 (yde (m:=M) hv hi hx0) (λy hy=>by cases hy) (Br _);have h2:=KN (m:=M) (i:=i) (x:=x) h ⟨O,hpv.2⟩;have hs:sd (oN p M i s x).2=sd s.2+(bN p M i x).iZ:=by show sd (s.2++_)=_;rw[yp];exact Na _ a2
  obtain⟨h3,h4,h5⟩:=ybR hv hi r _ _ h2 (λy hy=>hx y (oc _ hy)) (λy hy=>by
   rcases ic.1 hy with hy|hy
   ·exact hq y hy
   exact a1 y hy)
  refine⟨h3.more (by rw[Rb];omega),h4,?_⟩;rw[Ly,h5,hs,ycG hv hx0];show _=_+(x.cb-x.bot+Yf r)*dH p;rw[Int.add_mul];omega
def ycK{p:Proj}{Y:List Fact}{M:Nat}(hp:PV p)(hS:nj p Y)(hv:kn Y)(hM:1<=M){E:List mF}(hE:D5 (E,[]) 0):∀i,i<=p.aT.levels.length->
  D5 (EE p Y M E i) (i*2412)/\(∀y∈(EE p Y M E i).2,pg y)/\sd (EE p Y M E i).2<=(i:Int)*40000000000
 |0,_=>⟨hE.more (Nat.zero_le _),(λy hy=>by cases hy),Me _⟩
 |i+1,hi=>by
  obtain⟨h1,h2,h3⟩:=ycK hp hS hv hM hE i O;have b1:=Bt hp hS hv (show i<p.aT.levels.length by omega) (M-1);have b2:=Bt hp hS hv (show i<p.aT.levels.length by omega) M;rw[GY];unfold wZ
  cases hg:(iL p Y (M-1) i==30000||decide (iL p Y M i>=iL p Y (M-1) i))with
  |true=>exact⟨h1.more O,h2,by show sd (EE p Y M E i).2<=_;omega⟩
  |false=>simp only[Ed,Wq,Qd]at hg;unfold Vk at b1 b2;have h6:=ydk hp (show i<p.aT.levels.length by omega) (a:=iL p Y (M-1) i) (b:=iL p Y M i) O O O;have h4:=I6 (c:=dP p.aT i) (hi:=iL p Y (M-1) i) (lo:=iL p Y M i) hp;obtain⟨h5,h7,h8⟩:=ybR (M:=M) hp (show i<p.aT.levels.length by omega) (vP p.gr (dP p.aT i) (iL p Y (M-1) i) (iL p Y M i)) _ _ h1 (λx hx=>D7 hx) h2;obtain⟨a1,a2⟩:=cp hp;refine⟨h5.more O,h7,?_⟩;show sd (List.foldl _ (EE p Y M E i) _).2<=_;have:(iL p Y (M-1) i-iL p Y M i)*dH p<=40000*1000000:=Yj O a2 O dC;rw[h8,h6];omega
def yca(p:Proj)(S:List Fact):∀k,k<=S.length->((iM p S k).1).Sublist (S.take k)
 |0,_=>List.Sublist.refl _
 |k+1,hk=>by
  have ih:=yca p S k O;have y5:k<S.length:=O;have ht:S.take (k+1)=S.take k++ [S.getD k default]:=by rw[Bg,List.getElem?_eq_getElem y5,aX y5];rfl
  rw[iM,ht]
  cases(oS (iM p S k).2 (zC (S.getD k default)) (S.getD k default).dN==0)with
  |true=>exact ih.append (List.Sublist.refl _)
  |false=>exact ih.trans (List.sublist_append_left _ _)
def ydI{p:Proj}{l:List Fact}{M:Nat}(hk:Ci p l)(hM:1<=M):(∀y∈G3 p (cntF l) M,pg y)/\sd (G3 p (cntF l) M)<=4000000000000:=by
 have hS:=x4 hk;have hp:=Yh hk.proj;have hn:=hp.cells;have fQ:=yca p (j8 (cntF l) M) (j8 (cntF l) M).length (mb _);rw[Vd]at fQ;have fQ:(du p (cntF l) M).1.Sublist (j8 (cntF l) M):=fQ;have hbed:∀f∈(du p (cntF l) M).1,1<=f.aT/\f.aT<=1000000000000:=λf hf=>by obtain⟨a,b,_⟩:=Zt (fQ.subset hf);exact aNV hk.fmt f a b
 have hlen:(du p (cntF l) M).1.length<=200:=Xb fQ.length_le (by
  have h2:(j8 (cntF l) M).length<=(cntF l).length:=by unfold j8;rw[A5];exact Mh _ _
  have:=hS.len;omega)
 obtain⟨_,h2,h3⟩:=ycK hp hS (aGB hk.fmt) hM (M:=M) ⟨O1 (m:=(M:Int)) hbed hlen,mb _⟩ p.aT.levels.length (mb _);exact⟨h2,by have h3:sd (G3 p (cntF l) M)<=_:=h3;omega⟩
def ych{p:Proj}{l:List Fact}{m f:Int}(h:iI p l=0)(h1:f<=m)(h2:m<=24):j6 p l m f=0:=by unfold j6;rw[h,show within m f 24=true from within_iff.2 ⟨h1,h2⟩];rfl
def yed{l:List Fact}(hv:∀f∈l,fR f=0):∀f∈cntF l,f.kind=1->(1<=f.number/\f.number<=1000000)/\isName f.dN=true:=by
 intro f hf hk;obtain⟨k,_,_,g,hg,rfl,_⟩:=N4 hv hf;have hk:g.kind=1:=hk;have hz:=kN (hv g hg);have h1:=(mQ hz.2 (by rw[hk];rfl)).2.2;have e1:(jE g).dN=g.dN:=by unfold jE;rw[hk];rfl
 have e2:(jE g).number=g.number:=by unfold jE fW;simp[hk]
 rw[e1,e2];have h2:=hz.1;unfold nZ cK at h2;rw[hk]at h2
 cases hw:within g.number 1 1000000 with
 |true=>exact⟨within_iff.1 hw,h1⟩
 |false=>rw[hw]at h2;cases h2
def Cu{p:Proj}{l:List Fact}{M:Nat}(hk:Ci p l)(hM:M<=24):∀y∈G3 p (cntF l) M,Wg y:=λy hy=>by
 have hn:=(Yh hk.proj).cells;obtain⟨h1,⟨i,h2,h3⟩,_,h4⟩:=Ep hk y hy;refine⟨O,O,?_⟩;rcases h4 with⟨h,_⟩|⟨f,⟨hf,hf1,_⟩,h,_⟩
 ·omega
 have:=(yed hk.fmt f hf hf1).1;omega
def Mc(p:Proj)(l:List Fact)(M:Nat):List Oa:=if 1<=M/\M<=24 then G3 p (cntF l) M else []
def Du(p:Proj)(l:List Fact)(q:Hc)(hp:p.fits)(hf:∀f∈l,f.fits)(hl:l.length<=9223372036854775807)(he:iI p l=0)(hq:q.fits)(hqe:Ge q=0)(hqc:q.conds.length<=1000000):
  aF prog 8 [oR p,cJ l,fp q] (.t [.s (.d (Hk (Yg q (mapA q (Mc p l))))),.s (.d (dI 0))]):=by
 have hk:=YW he
 have hQ:=ycQ q hq
 rw[hqe]at hQ
 refine yfd p l (cntF l) q (Mc p l) (di q) (MP p l 1 1 hp hf hl (ych he dC dC)) hQ (lowest p (cntF l) 24 (x4 hk) (mb _)) (λM h1 h2=>?_) (λM=>?_) (λM h1 h2 x hx=>?_) hqc
 ·unfold Mc;rw[La ⟨h1,h2⟩];exact(Wp hp hk ⟨h1,h2⟩ O (Jo hk M)).1
 ·unfold Mc;split
  ·rename_i h;have:=(Wp (LN:=25) hp hk h O (Jo hk M)).2;omega
  exact Nat.zero_le _
 ·unfold Mc at hx;rw[La ⟨h1,h2⟩]at hx;exact Cu hk h2 x hx
open Go Go.Ax Go.Ch Go.Proofs Go.Proofs.Tryz Go.Sort Go.Shelf
def Kj(n:Int):aW n=if n%18446744073709551616>=9223372036854775808 then n%18446744073709551616-18446744073709551616 else n%18446744073709551616:=by unfold aW IntKind.wrap;simp[IntKind.bits,IntKind.signed]
def Bn(a b:Int):aW (aW a+b)=aW (a+b):=by rw[Kj a,Kj (a+b),Kj];split <;> split <;> omega
def ye7(a b:Int):aW (a+aW b)=aW (a+b):=by rw[az,Bn,az]
def ye6(a:Int):aW (aW a)=aW a:=by have:=Bn a 0;simpa using this
def yb9(k j:Va)(v:Int):∀L:List (Va×Int),tb (Gc L k v) j=bif decide (k=j)then aW (tb L j+v)else tb L j
 |[]=>by show(bif decide (k=j)then aW (0+v)else tb [] j)=_;rfl
 |(a,u)::r=>by
  rw[Gc];by_cases h:a=k
  ·subst h;rw[pc rfl,cond_true,tb,tb]
   cases decide (a=j) <;> rfl
  rw[Kc h,Ua,tb,tb,yb9 k j v r];by_cases h2:a=j
  ·subst h2;rw[pc rfl,Kc λe=>h e.symm];rfl
  rw[Kc h2];rfl
def Ii(g m:Int)(k:Va):List Oa->Int
 |[]=>0
 |x::r=>(bif decide (qc x g=k)then Pc x m else 0)+Ii g m k r
def ybU(g m:Int)(k:Va):∀(xs:List Oa) (L:List (Va×Int)),aW (tb L k)=tb L k->tb (Oc g m xs L) k=aW (tb L k+Ii g m k xs)
 |[],L,h=>by show tb L k=aW (tb L k+0);rw[Un,h]
 |x::r,L,h=>by
  have hs:=yb9 (qc x g) k (Pc x m) L;have h2:aW (tb (Gc L (qc x g) (Pc x m)) k)=tb (Gc L (qc x g) (Pc x m)) k:=by
   rw[hs]
   cases decide (qc x g=k)with
   |true=>exact ye6 _
   |false=>exact h
  show tb (Oc g m r (Gc L (qc x g) (Pc x m))) k=_;rw[ybU g m k r _ h2,hs,Ii]
  cases decide (qc x g=k)with
  |true=>rw[cond_true,cond_true,Bn,Int.add_assoc]
  |false=>rw[Ua,Ua,Br]
def ybX(k:Va)(v:Int):∀L:List (Va×Int),(∀j,j∈(Gc L k v).map Prod.fst↔j=k\/j∈L.map Prod.fst)/\((L.map Prod.fst).Nodup->((Gc L k v).map Prod.fst).Nodup)
 |[]=>⟨λj=>by simp[Gc],λ_=>by simp[Gc]⟩
 |(a,u)::r=>by
  obtain⟨h1,h2⟩:=ybX k v r;rw[Gc];by_cases h:a=k
  ·subst h;rw[pc rfl,cond_true];refine⟨λj=>?_,λhn=>hn⟩;simp only[Le,wb];exact⟨λhj=>.inr hj,λhj=>hj.elim (λe=>.inl e) id⟩
  rw[Kc h,Ua];refine⟨λj=>?_,λhn=>?_⟩
  ·simp only[Le,wb,h1 j];exact⟨λhj=>hj.elim (λe=>.inr (.inl e)) (λe=>e.elim .inl λe=>.inr (.inr e)),λhj=>hj.elim (λe=>.inr (.inl e)) (λe=>e.elim .inl λe=>.inr (.inr e))⟩
  rw[Le,Ug]at hn⊢;exact⟨λhm=>((h1 a).1 hm).elim h hn.1,h2 hn.2⟩
def ybz(g m:Int):∀(xs:List Oa) (L:List (Va×Int)),(L.map Prod.fst).Nodup->((Oc g m xs L).map Prod.fst).Nodup/\∀k,k∈(Oc g m xs L).map Prod.fst↔k∈L.map Prod.fst\/∃x∈xs,qc x g=k
 |[],L,h=>⟨h,λk=>⟨.inl,λhk=>hk.elim id λ⟨_,hx,_⟩=>by cases hx⟩⟩
 |x::r,L,h=>by
  obtain⟨h1,h2⟩:=ybX (qc x g) (Pc x m) L;obtain⟨h3,h4⟩:=ybz g m r (Gc L (qc x g) (Pc x m)) (h2 h);refine⟨h3,λk=>?_⟩;show k∈(Oc g m r (Gc L (qc x g) (Pc x m))).map Prod.fst↔_;rw[h4 k,h1 k];constructor
  ·rintro((rfl|hk)|⟨y,hy,rfl⟩)
   ·exact .inr ⟨x,Zd,rfl⟩
   ·exact .inl hk
   exact .inr ⟨y,oc _ hy,rfl⟩
  rintro(hk|⟨y,hy,rfl⟩)
  ·exact .inl (.inr hk)
  rcases wb.1 hy with rfl|hy
  ·exact .inl (.inl rfl)
  exact .inr ⟨y,hy,rfl⟩
def ydl(g:Int):((oe g).map Prod.fst).Nodup:=by
 unfold oe
 cases g==0 <;> simp
def yc2(g:Int)(k:Va):tb (oe g) k=0:=by
 unfold oe
 cases g==0 with
 |true=>
  rw[cond_true,tb]
  cases decide ((0,[])=k) <;> rfl
 |false=>rfl
def ycg(q:Hc)(X:Nat->List Oa)(k:Va):tb (mapA q X) k=aW (Ii q.Xa q.Vb k (Uc Ab q.conds X 24)):=by unfold mapA;rw[ybU _ _ _ _ _ (by rw[yc2];rfl),yc2,Br]
def ycy(x:Oa):qc x 0=(0,[]):=rfl
def ybT(m:Int):∀(xs:List Oa) (v:Int),∃u,Oc 0 m xs [((0,[]),v)]=[((0,[]),u)]
 |[],v=>⟨v,rfl⟩
 |x::r,v=>by show ∃u,Oc 0 m r (Gc [((0,[]),v)] (qc x 0) (Pc x m))=_;rw[ycy,Gc,pc rfl,cond_true];exact ybT m r _
def ybY(m:Int):∀xs:List Oa,Ii 0 m (0,[]) xs=(xs.map λx=>Pc x m).sum
 |[]=>rfl
 |x::r=>by rw[Ii,ycy,pc rfl,cond_true,ybY m r,Le,List.sum_cons]
def ybM(q:Hc)(X:Nat->List Oa)(h:q.Xa=0):Yg q (mapA q X)=[⟨bs [],aW ((Uc Ab q.conds X 24).map λx=>Pc x q.Vb).sum⟩]:=by
 have hg:=ycg q X (0,[]);rw[h,ybY]at hg;obtain⟨u,hu⟩:=ybT q.Vb (Uc Ab q.conds X 24) 0;have e:mapA q X=[((0,[]),u)]:=by unfold mapA oe;rw[h];exact hu
 have e2:u=aW ((Uc Ab q.conds X 24).map λx=>Pc x q.Vb).sum:=by rw[<-hg,e,tb,pc rfl,cond_true]
 unfold Yg Yd;rw[e,h,<-e2];simp[Of,tb]
def yel{p:Proj}(hv:PV p){s:ta}(h:sl p.gr s):bE s (bs [])=false:=by
 obtain⟨x,hx,rfl⟩:=h;obtain⟨i,hi,hxi⟩:=Vj hx;have hg:=hv.gr;unfold dX at hg;obtain⟨hg,_⟩:=dU hg;unfold mO at hg;obtain⟨_,hg⟩:=dF dC hg;obtain⟨_,hg⟩:=dF dC hg;have hb:=lQ hg i (Nat.zero_le _) O;unfold wD at hb;rw[aX hi,hxi]at hb;obtain⟨hb,_⟩:=dF dC hb;rw[Ph]at hb
 cases e:bE x.name (bs [])with
 |false=>rfl
 |true=>rw[KU]at e;rw[eq_of_beq e]at hb;exact absurd hb dC
def yeg{p:Proj}{l:List Fact}(he:iI p l=0):∀m,∀x∈Mc p l m,Wg x/\bE x.aN (bs [])=false:=by
 intro m x hx;unfold Mc at hx;split at hx
 ·rename_i h;have hk:=YW he;exact⟨Cu hk h.2 x hx,yel (Yh hk.proj) (Ep hk x hx).aN⟩
 cases hx
def ydJ{p:Proj}{l:List Fact}(hp:p.fits)(he:iI p l=0)(m:Nat):(Mc p l m).length<=1000000:=by
 have hk:=YW he;unfold Mc;split
 ·rename_i h;have:=(Wp (LN:=25) hp hk h O (Jo hk m)).2;omega
 exact Nat.zero_le _
def ydp(q:Hc){X:Nat->List Oa}(h:∀m,(X m).length<=1000000):(Yg q (mapA q X)).length<=1000000000:=by
 have h1:=Fu q.Xa q.Vb (Uc Ab q.conds X 24) (oe q.Xa);have h2:=Xu Ab q.conds h 24;have h3:(oe q.Xa).length<=1:=by unfold oe;cases q.Xa==0 <;> decide
 have h4:(Yg q (mapA q X)).length=(Oc q.Xa q.Vb (Uc Ab q.conds X 24) (oe q.Xa)).length:=by unfold Yg Of mapA;rw[bg,List.length_mergeSort,bg]
 rw[h4];omega
def yep(a b:Int):aW (aW a-aW b)=aW (a-b):=by rw[Kj a,Kj b,Kj (a-b),Kj];split <;> split <;> split <;> omega
open Go Go.Ax Go.Ch Go.Proofs Go.Proofs.Tryz
def yeG(p:Proj):aF prog 9 [oR p] (vB (vC p)):=by exact eP func9 rfl rfl call9 rfl rfl λR J=>aB (aI9 p) (db _)
def yeY(l:List Fact)(m:Int)(hm:m<=1000000):aF prog 10 [cJ l,vI m] (vB (HD l m)):=by exact eP func10 rfl rfl call10 rfl rfl λR J=>aB (aMW l m hm) (db _)
def Iu(p:Proj)(l:List Fact):Bool:=(!vC p&& !HD l 20)&&iI p l==0
def ye3(p:Proj)(l:List Fact)(hp:p.Um)(hf:∀f∈l,f.fits)(hl:l.length<=9223372036854775807):aF prog 4 [oR p,cJ l] (vB (Iu p l)):=by
 refine eP func4 rfl rfl call4 rfl rfl λR J=>aB (yeG p) ?_
 repeat refine aR ?_
 refine bR (yeY l 20 dC) ?_;repeat refine aR ?_
 refine yey (r:=vI (iI p l)) (λhb=>?_) ?_
 ·have hb:(!vC p&& !HD l 20)=true:=hb;simp only[Bool.and_eq_true,Qh]at hb;exact PM p l (hp.fits hb.1) hf hl
 repeat refine aR ?_
 exact Ia rfl
def ten:aF prog 6 [] (vB true):=by
 have hS:=aGO RB YZ 1 aCZ RC dC aJD aM4 (aLO RB (cntF YZ) (1:Nat) _ rfl);rw[aCX,aJC,aFW]at hS;obtain⟨d,hd,hdv⟩:=aM7;rw[hd]at hS;refine eW func6 rfl rfl call6 rfl rfl (λR J=>?_);refine sX J (Uf (I':=⟨[(1,cJ YZ)],[]⟩) ?_ ?_)
 ·refine Gj (Sc ?_);refine Kb (rc:=[]) aJ 1 J [] rfl rfl ?_;refine Af (I':=⟨[(4,.s (.d (b5 [-1000, -1060])))],[]⟩) (H':=Ud) (Eg (Se J [] [4] rfl rfl rfl trivial ⟨⟨rfl,(Ee (Ib.2 rfl) rfl).then (Xc (Yc λi j hi hj=>by have hi:i<2:=hi;have hj:j<1:=hj;match i,j,hi,hj with|0,0,_,_|1,0,_,_=>exact Ja _))⟩,oO⟩)) ?_;refine Kb (rc:=[]) aJ 2 J [] rfl rfl ?_;refine Af (I':=⟨[(5,.g [.d (dI 0),.d (dI 1),.d (dI 0),.d (dI 1),.d (dI 0),.d (dI 0),.d (dI 0),.d (dI 0),.d (dI 0),.d (dS (bs [])),.d (dS (bs [])),.d (dS (bs [])),.d (b5 [-1000, -1060])]),(6,.s (.d (b5 [-1005, -1065])))],[]⟩) (H':=Ud) (Eg (Se J [] [6] rfl rfl rfl trivial ⟨⟨rfl,qb⟩,⟨rfl,(Ee (Ib.2 rfl) rfl).then (Xc (Yc λi j hi hj=>by have hi:i<2:=hi;have hj:j<1:=hj;match i,j,hi,hj with|0,0,_,_|1,0,_,_=>exact Ja _))⟩,oO⟩)) ?_;refine Kb (rc:=[]) aJ 3 J [] rfl rfl (Af (I':=⟨[(9,cJ YZ)],[]⟩) (H':=Ud) (Eg (Se J [] [9] rfl rfl rfl trivial ⟨⟨rfl,(Ee (Ib.2 rfl) rfl).then (Xc (Yc λi j hi hj=>?_))⟩,oO⟩)) ?_)
  ·have hi:i<3:=hi;have hj:j<13:=hj
   match i,j,hi,hj with
   |0,0,_,_|0,1,_,_|0,2,_,_|0,3,_,_|0,4,_,_|0,5,_,_|0,6,_,_|0,7,_,_|0,8,_,_|0,9,_,_|0,10,_,_|0,11,_,_|0,12,_,_|1,0,_,_|1,1,_,_|1,2,_,_|1,3,_,_|1,4,_,_|1,5,_,_|1,6,_,_|1,7,_,_|1,8,_,_|1,9,_,_|1,10,_,_|1,11,_,_|1,12,_,_|2,0,_,_|2,1,_,_|2,2,_,_|2,3,_,_|2,4,_,_|2,5,_,_|2,6,_,_|2,7,_,_|2,8,_,_|2,9,_,_|2,10,_,_|2,11,_,_=>exact Ja _
   |2,12,_,_=>exact Nd
  exact Kb (rc:=[]) aJ 1 J [] rfl rfl (mc ⟨rfl,Qa J [] rfl trivial Fa⟩)
 refine eX J (aB Example ?_);apply aB hS;repeat refine aR ?_
 exact Ia rfl
open Go Go.Ax Go.Ch Go.Proofs Go.Proofs.Tryz Go.Sort Go.Shelf
def Bd(M:Int):Cc:=⟨1,bs [61],M,bs []⟩
def ff:Cc:=⟨4,bs [62,61],1,bs []⟩
def yex{M:Int}(h:1<=M/\M<=4):Ac (Bd M)=0:=by have e:within M 0 1000000=true:=within_iff.2 Ha;show(bif !true then(2:Int)else bif !(Ig (Bd M))then 3 else bif !false&& !within M 0 1000000 then 2 else bif false&&_ then 4 else 0)=0;rw[e,show Ig (Bd M)=true from by show nf.contains (tx (bs [61]))=true;decide];rfl
def yfe:Ac ff=0:=by show(bif !true then(2:Int)else bif !(Ig ff)then 3 else bif !false&& !within 1 0 1000000 then 2 else bif false&&_ then 4 else 0)=0;rw[show Ig ff=true from by show nf.contains (tx (bs [62,61]))=true;decide];rfl
def ydg{x:Oa}{M:Int}(h:Wg x)(hM:1<=M/\M<=4):Ab x (Bd M)=decide (x.month=M):=by
 have h1:=h.month;have e:Sj x (Bd M)=x.month-M:=by show aW (x.month-M)=_;exact aG O O
 unfold Ab;rw[e];show(bif bE (bs [61]) (bs [61])then x.month-M==0 else _)=_;rw[show bE (bs [61]) (bs [61])=true by rw[KU,Ui],cond_true,Ff,Tf,ae];omega
def ydN{x:Oa}(h:Wg x):Ab x ff=decide (x.load>0):=by
 have h1:=h.load;have e:Sj x ff=x.load-1:=by show aW (x.load-1)=_;exact aG O O
 have hs:∀a b:bJ,a≠b->bE (bs a) (bs b)=false:=λa b JW=>by
  cases e:bE (bs a) (bs b)with
  |false=>rfl
  |true=>rw[KU]at e;exact absurd (rq (eq_of_beq e)) JW
 unfold Ab;rw[e];unfold Xf;show(bif bE (bs [62,61]) (bs [61])then _ else bif bE (bs [62,61]) (bs [33,61])then _ else bif bE (bs [62,61]) (bs [60])then _ else bif bE (bs [62,61]) (bs [60,61])then _ else bif bE (bs [62,61]) (bs [62])then _ else decide (x.load-1>=0))=_;rw[hs _ _ dC,hs _ _ dC,hs _ _ dC,hs _ _ dC,hs _ _ dC];apply Mn.2;omega
def Mu{p:Proj}{l:List Fact}(he:iI p l=0){M:Nat}(hM:1<=M/\M<=4)(cs:List Cc):∀n,Uc Ab (Bd M::cs) (Mc p l) n=if M<=n then(Mc p l M).filter (Ie Ab cs)else []
 |0=>by rw[Ka O];rfl
 |n+1=>by
  have ih:=Mu he hM cs n;rw[Uc,ih];have hx:∀x∈Mc p l (n+1),Ie Ab (Bd M::cs) x=(decide (n+1=M)&&Ie Ab cs x):=λx hx=>by
   have hn:=(yeg he (n+1) x hx).1;unfold Mc at hx;split at hx
   ·have h1:=(Ep (YW he) x hx).month;unfold Ie;rw[List.all_cons,ydg hn O,h1];congr 1;exact Mn.2 O
   cases hx
  by_cases h:n+1=M
  ·rw[Ka O,La O,wj,<-h];refine List.filter_congr λx hx1=>?_
   rw[<-h]at hx;rw[hx x hx1,pc rfl,Cw]
  have h0:(Mc p l (n+1)).filter (Ie Ab (Bd M::cs))=[]:=by rw[List.filter_eq_nil_iff];intro x hx1;rw[hx x hx1,Kc h];simp
  rw[h0,mh];by_cases h2:M<=n
  ·rw[La h2,La O]
  rw[Ka h2,Ka O]
def ydq{p:Proj}{l:List Fact}(he:iI p l=0){M:Nat}(hM:1<=M/\M<=4):Uc Ab [Bd M] (Mc p l) 24=G3 p (cntF l) M:=by rw[Mu he hM [] 24,La O];unfold Mc;rw[La ⟨hM.1,O⟩];exact List.filter_eq_self.2 λ_ _=>rfl
def ydr{p:Proj}{l:List Fact}(he:iI p l=0){M:Nat}(hM:1<=M/\M<=4):Uc Ab [Bd M,ff] (Mc p l) 24=(G3 p (cntF l) M).filter λx=>decide (x.load>0):=by
 rw[Mu he hM [ff] 24,La O];unfold Mc;rw[La ⟨hM.1,O⟩];refine List.filter_congr λx hx=>?_
 have hn:=Cu (YW he) O x hx;show(Ab x ff&&true)=_;rw[Uh,ydN hn]
def gf(s:ta):List Oa->Int
 |[]=>0
 |x::r=>(bif bE x.aN s&&decide (x.load>0)then x.gV else 0)+gf s r
def ycI(s:ta)(b:List Oa):∀a,gf s (a++b)=gf s a+gf s b
 |[]=>by show gf s b=0+_;omega
 |x::r=>by show _+gf s (r++b)=_+gf s r+_;rw[ycI s b r];omega
def Kt(l:List Oa)(s:ta):∀i,i<=l.length->wL l s i=aW (gf s (l.take i))
 |0,_=>rfl
 |i+1,hi=>by
  rw[Zg O,ycI,wL,Kt l s i O];show _=aW (_+((bif bE (l.getD i default).aN s&&decide ((l.getD i default).load>0)then(l.getD i default).gV else 0)+0))
  cases bE (l.getD i default).aN s&&decide ((l.getD i default).load>0)with
  |true=>rw[cond_true,cond_true,Bn,Un]
  |false=>rw[Ua,Ua,Un,Un]
def ycE(l:List Oa):∀i,i<=l.length->G5 l i=aW ((((l.take i).map λx=>x.iZ).sum)-(((l.take i).map λx=>x.gV).sum))
 |0,_=>rfl
 |i+1,hi=>by rw[G5,ycE l i O,Bn,ye7,Zg O,Vi,Vi,List.sum_append,List.sum_append];apply Na aW;simp only[Le,Vy,List.sum_cons,List.sum_nil];omega
def ycJ{s:ta}:∀{l:List Oa},(∀y∈l,pg y)->0<=gf s l/\gf s l<=sd l
 |[],_=>⟨Me _,Me _⟩
 |x::r,h=>by
  obtain⟨h1,h2⟩:=ycJ (s:=s) (l:=r) λy hy=>h y (oc _ hy)
  have hx:=h x Zd;have h3:=hx.iZ;have h4:=hx.gV;show 0<=_+gf s r/\_+gf s r<=x.iZ+sd r
  cases bE x.aN s&&decide (x.load>0)with
  |true=>rw[cond_true];omega
  |false=>rw[Ua];omega
def wv(x:Oa)(k:Va):qc x 3=k↔k.1=0/\x.aN=bs k.2:=by
 constructor
 ·rintro rfl;exact⟨rfl,(CJ x.aN).symm⟩
 rintro⟨h1,h2⟩;apply Prod.ext h1.symm;show tx x.aN=k.2;rw[h2];rfl
def ycN(k:Va)(hk:k.1=0):∀l:List Oa,Ii 3 1 k (l.filter λx=>decide (x.load>0))=gf (bs k.2) l
 |[]=>rfl
 |x::r=>by
  have ih:=ycN k hk r;have hm:Pc x 1=x.gV:=rfl;have hd:decide (qc x 3=k)=bE x.aN (bs k.2):=by rw[KU,bytes_beq];apply Mn.2;rw[wv];exact⟨λh=>h.2,λh=>⟨hk,h⟩⟩
  rw[tw];show _=(bif bE x.aN (bs k.2)&&decide (x.load>0)then x.gV else 0)+gf (bs k.2) r;by_cases h:x.load>0
  ·rw[pc h,La rfl,Ii,ih,hd,hm,Uh]
  rw[Kc h,Ka dC,ih,Ty,Ua,Br]
def yci{s:ta}:∀{l:List Oa},(∀x∈l,x.load>0->x.aN≠s)->gf s l=0
 |[],_=>rfl
 |x::r,h=>by
  show(bif bE x.aN s&&decide (x.load>0)then x.gV else 0)+gf s r=0;rw[yci λy hy=>h y (oc _ hy)];by_cases hl:x.load>0
  ·have hs:bE x.aN s=false:=by
    cases e:bE x.aN s with
    |false=>rfl
    |true=>rw[KU]at e;exact absurd (eq_of_beq e) (h x Zd hl)
   rw[hs];rfl
  rw[Kc hl,Ty];rfl
def ydQ{p:Proj}(hv:PV p){i j:Nat}(Z5:i<j)(hj:j<p.gr.bK.length):(p.gr.bK.getD i default).name≠(p.gr.bK.getD j default).name:=by
 intro e;have hg:=hv.gr;unfold dX at hg;obtain⟨hg,_⟩:=dU hg;unfold mO at hg;obtain⟨_,hg⟩:=dF dC hg;obtain⟨_,hg⟩:=dF dC hg;have hb:=lQ hg j (Nat.zero_le _) O;unfold wD at hb;obtain⟨_,hb⟩:=dF dC hb;obtain⟨hb,_⟩:=dF dC hb;have hm:p.gr.bK.getD i default∈p.gr.bK.take j:=by rw[aX (by omega:i<p.gr.bK.length)];exact Dd (i:=i) (by rw[Ni Z5];exact List.getElem?_eq_getElem _)
 have:=Tg.1 hb _ hm;rw[KU,e,Ui]at this;exact this rfl
def ydP{p:Proj}(hv:PV p):p.gr.bK.length<=8:=by have hg:=hv.gr;unfold dX at hg;obtain⟨hg,_⟩:=dU hg;unfold mO at hg;obtain⟨_,hg⟩:=dF dC hg;obtain⟨hg,_⟩:=dF dC hg;have hg:=Wj hg;omega
def yd8{p:Proj}{l:List Oa}{n:Nat}{d:Wf}(h:d∈gB p l n):∃i,i<n/\wL l (p.gr.bK.getD i default).name l.length>0/\d=Tm p l (p.gr.bK.getD i default).name:=by
 unfold gB at h;obtain⟨i,hi,hd⟩:=lh.1 h;refine⟨i,Gf.1 hi,?_⟩;unfold wi at hd;by_cases hv:wL l (p.gr.bK.getD i default).name l.length>0
 ·rw[pc hv]at hd;exact⟨hv,(sc hd).symm⟩
 rw[Kc hv]at hd;cases hd
def yeE{p:Proj}{l:List Oa}{n i:Nat}(hi:i<n)(hv:wL l (p.gr.bK.getD i default).name l.length>0):Tm p l (p.gr.bK.getD i default).name∈gB p l n:=by unfold gB;refine lh.2 ⟨i,Gf.2 hi,?_⟩;unfold wi;rw[pc hv];rfl
def yc9{p:Proj}(hv:PV p)(l:List Oa):((gB p l p.gr.bK.length).map Wf.aN).Nodup:=by
 unfold List.Nodup;rw[gw];unfold gB;rw[List.pairwise_filterMap];refine Hz ?_ List.pairwise_lt_range;intro i j _ hj Z5 d hd d' hd';have hj:=Gf.1 hj;have e:∀k d,wi p l k=some d->d.aN=(p.gr.bK.getD k default).name:=λk d h=>by
  unfold wi at h
  cases hq:decide (wL l (p.gr.bK.getD k default).name l.length>0)with
  |true=>rw[hq]at h;rw[<-Option.some.inj h];rfl
  |false=>rw[hq]at h;cases h
 rw[e i d hd,e j d' hd'];exact ydQ hv Z5 hj
def Pg(M:Int):Hc:=⟨1,[Bd M,ff],3⟩
structure iu(lM:List Oa)(A:List bd):Prop where
 of:∀a∈A,a.iZ=wL lM a.aN lM.length/\∃y∈lM,y.aN=a.aN
 nodup:(A.map bd.aN).Nodup
 all:∀y∈lM,y.load>0->∃a∈A,a.aN=y.aN
def yd1{p:Proj}{l:List Fact}(he:iI p l=0){M:Nat}(hM:1<=M/\M<=4):iu (G3 p (cntF l) M) (Yg (Pg M) (mapA (Pg M) (Mc p l))):=by
 have hw:=ydr he hM;have BX:=λk=>ycg (Pg M) (Mc p l) k
 obtain⟨hn,hk⟩:=ybz 3 1 (Uc Ab [Bd M,ff] (Mc p l) 24) (oe 3) (ydl 3);have hG:Oc 3 1 (Uc Ab [Bd M,ff] (Mc p l) 24) (oe 3)=mapA (Pg M) (Mc p l):=rfl;have BX:∀k,tb (mapA (Pg M) (Mc p l)) k=aW (Ii 3 1 k (Uc Ab [Bd M,ff] (Mc p l) 24)):=BX;rw[hG]at hn hk;rw[hw]at hk BX;generalize mapA (Pg M) (Mc p l)=G at hn hk BX;generalize G3 p (cntF l) M=lM at hk BX;have aL3:(Of (G.map Prod.fst)).Perm (G.map Prod.fst):=Oi _ _;have tR:∀k,k∈G.map Prod.fst↔∃x∈lM,x.load>0/\k.1=0/\x.aN=bs k.2:=λk=>by
  rw[hk k];constructor
  ·rintro(h|⟨x,hx,h⟩)
   ·cases h
   obtain⟨h1,h2⟩:=rf.1 hx;exact⟨x,h1,by simpa using h2,(wv x k).1 h⟩
  rintro⟨x,h1,h2,h3⟩;exact .inr ⟨x,rf.2 ⟨h1,by simpa using h2⟩,(wv x k).2 h3⟩
 have HV:∀k,Yd 3 k=bs k.2:=λ_=>rfl
 refine⟨λa ha=>?_,?_,λy hy hl=>?_⟩
 ·obtain⟨k,hkm,rfl⟩:=Lc.1 ha;obtain⟨x,h1,h2,h3,h4⟩:=(tR k).1 (aL3.mem_iff.1 hkm);refine⟨?_,x,h1,h4⟩;show tb G k=wL lM (bs k.2) lM.length;rw[BX k,ycN k h3,Kt _ _ _ (mb _),Vd]
 ·unfold Yg;rw[Rn];unfold List.Nodup;rw[gw];refine Hz ?_ (aL3.nodup_iff.2 hn);intro k j hkm hjm fJ e;have e:bs k.2=bs j.2:=e;obtain⟨_,_,_,h3,_⟩:=(tR k).1 (aL3.mem_iff.1 hkm);obtain⟨_,_,_,h4,_⟩:=(tR j).1 (aL3.mem_iff.1 hjm);exact fJ (Prod.ext (h3.trans h4.symm) (rq e))
 refine⟨⟨y.aN,tb G (0,tx y.aN)⟩,Lc.2 ⟨(0,tx y.aN),aL3.mem_iff.2 ((tR _).2 ⟨y,hy,hl,rfl,(CJ _).symm⟩),?_⟩,rfl⟩;show(⟨bs (tx y.aN),_⟩:bd)=_;rw[CJ]
def ycv{lM:List Oa}(hpc:∀y∈lM,pg y)(hal:sd lM<=4000000000000)(s:ta):0<=wL lM s lM.length/\wL lM s lM.length=gf s lM:=by obtain⟨h1,h2⟩:=ycJ (s:=s) hpc;rw[Kt _ _ _ (mb _),Vd,aG O O];exact⟨h1,rfl⟩
def ybt{p:Proj}{lM:List Oa}{A:List bd}(hA:iu lM A)(hpc:∀y∈lM,pg y)(hal:sd lM<=4000000000000)(jA:∀y∈lM,sl p.gr y.aN){a:bd}(ha:a∈A)(h0:a.iZ≠0):∃d∈gB p lM p.gr.bK.length,d.aN=a.aN/\d.iZ=a.iZ:=by
 obtain⟨h1,y,hy,hs⟩:=hA.of a ha;have h2:=(ycv hpc hal a.aN).1;obtain⟨x,hx,hxn⟩:=jA y hy;obtain⟨i,hi,hxi⟩:=Vj hx;have hn:(p.gr.bK.getD i default).name=a.aN:=by rw[aX hi,hxi,hxn,hs]
 refine⟨_,yeE hi (by rw[hn];omega),?_,?_⟩
 ·show(p.gr.bK.getD i default).name=_;exact hn
 show wL lM (p.gr.bK.getD i default).name lM.length=_;rw[hn,h1]
def ycR{p:Proj}{lM:List Oa}{A:List bd}(hv:PV p)(hA:iu lM A)(hpc:∀y∈lM,pg y)(hal:sd lM<=4000000000000)(jA:∀y∈lM,sl p.gr y.aN):(A.filter λa=>decide (a.iZ≠0)).length=(gB p lM p.gr.bK.length).length:=by
 have h1:((A.filter λa=>decide (a.iZ≠0)).map bd.aN).Perm ((gB p lM p.gr.bK.length).map Wf.aN):=by
  refine(Px (hA.nodup.sublist (List.filter_sublist.map _)) (yc9 hv lM)).2 λs=>?_
  constructor
  ·intro h;obtain⟨a,ha,rfl⟩:=Lc.1 h;obtain⟨h1,h2⟩:=rf.1 ha;obtain⟨d,hd,he,_⟩:=ybt hA hpc hal jA h1 (by simpa using h2);exact Lc.2 ⟨d,hd,he⟩
  intro h;obtain⟨d,hd,rfl⟩:=Lc.1 h;obtain⟨i,hi,hp,rfl⟩:=yd8 hd;show(p.gr.bK.getD i default).name∈_;generalize (p.gr.bK.getD i default).name=s at hp;have h2:=(ycv hpc hal s).2;have h3:∃x∈lM,x.load>0/\x.aN=s:=by
   refine Classical.byContradiction λhc=>?_
   rw[yci λx hx hl e=>hc ⟨x,hx,hl,e⟩]at h2;omega
  obtain⟨x,hx,hl,rfl⟩:=h3;obtain⟨a,ha,hs⟩:=hA.all x hx hl;refine Lc.2 ⟨a,rf.2 ⟨ha,?_⟩,hs⟩;have h4:=(hA.of a ha).1;rw[hs]at h4;rw[ae];omega
 have:=h1.length_eq;rwa [bg,bg]at this
open Go Go.Ax Go.Ch Go.Proofs Go.Proofs.Tryz
def Gh(m:Int)(M:Int):Hc:=⟨m,[Bd M],0⟩
def ycs{M:Int}(h:1<=M/\M<=4):(Bd M).fits:=⟨by show _<=M;omega,by show M<=_;omega,by show(bs [61]).size<=_;decide,by show(bs []).size<=_;decide⟩
def yd4:ff.fits:=⟨dC,dC,by show(bs [62,61]).size<=_;decide,by show(bs []).size<=_;decide⟩
def yeh{M:Int}(h:1<=M/\M<=4):(Pg M).fits:=⟨by show(2:Nat)<=_;decide,λc hc=>by
 have hc:c∈[Bd M,ff]:=hc;simp only[wb,Sd,Kd]at hc;rcases hc with rfl|rfl
 ·exact ycs h
 exact yd4⟩
def ycL{m M:Int}(h:1<=M/\M<=4):(Gh m M).fits:=⟨by show(1:Nat)<=_;decide,λc hc=>by have hc:c∈[Bd M]:=hc;rw[Ib.1 hc];exact ycs h⟩
def yfm{M:Int}(h:1<=M/\M<=4):Ge (Pg M)=0:=by show(bif false then(2:Int)else bif false then 8 else bif Ac (Bd M)==0 then(bif Ac ff==0 then 0 else Ac ff)else Ac (Bd M))=0;rw[yex h,yfe];rfl
def yeN{m M:Int}(hm:m=0\/m=1)(h:1<=M/\M<=4):Ge (Gh m M)=0:=by
 have e:(!(within m 0 2)|| !(within 0 0 5))=false:=by rcases hm with rfl|rfl <;> rfl
 show(bif (!(within m 0 2)|| !(within 0 0 5))then(2:Int)else bif false then 8 else bif Ac (Bd M)==0 then 0 else Ac (Bd M))=0;rw[e,yex h];rfl
abbrev Dl(st:Stmt)(A:List bd)(r:List (Nat×AV)):St:=⟨[(7,.s (.ptr 7 0)),(11,.s (.d (Hk A)))]++r,[(7,some (.cells [.d (dI st.month),.d (dI st.over),.d (dI st.fG),.d (dI st.total),.d (x0 st.Y4),.d (xZ st.mq),.d (b5 st.wq)]))]⟩
def Hl(a:bd)(D:List Wf)(k:Nat):Bool:=(D.take k).any λd=>bE d.aN a.aN&&d.iZ==a.iZ
def TopQueryTwoWays(p:Proj)(l:List Fact)(m:Int)(hp:p.Um)(hf:∀f∈l,f.fits)(hl:l.length<=9223372036854775807):aF prog 3 [oR p,cJ l,vI m] (vB true):=by
 refine eW func3 rfl rfl call3 rfl rfl (λR J=>?_);refine sX J (Sa (sX J ?_));refine aB (ye3 p l hp hf hl) ?_;repeat refine aR ?_
 refine bR (cI m 1 4) ?_;repeat refine aR ?_
 refine Cb (aI (λ_=>eX J (aB ten (db _))) (λh=>Qb ?_));have h:(!Iu p l|| !within m 1 4)=false:=h;simp only[Ed,Ph]at h;obtain⟨ht,hw⟩:=h;unfold Iu at ht;simp only[Bool.and_eq_true,Qh,Tf]at ht;obtain⟨⟨hg,hm⟩,he⟩:=ht;have hw:=within_iff.1 hw;have oW:=hp.fits hg;obtain⟨M,rfl⟩:∃k:Nat,m=k:=⟨m.toNat,O⟩;have hM:1<=M/\M<=4:=Ha;have hk:=YW he;have hpv:=Yh hk.proj;have hS:=yd0 p l M oW hf hl (ych he O O);have hA:=Du p l (Pg M) oW hf hl he (yeh hw) (yfm hw) (by show 2<=_;decide);have hV:=Du p l (Gh 0 M) oW hf hl he (ycL hw) (yeN (.inl rfl) hw) (by show 1<=_;decide);have hW:=Du p l (Gh 1 M) oW hf hl he (ycL hw) (yeN (.inr rfl) hw) (by show 1<=_;decide);rw[ybM (Gh 0 M) _ rfl]at hV;rw[ybM (Gh 1 M) _ rfl]at hW;have eh:=ydq he hM;have ev:((Uc Ab (Gh 0 M).conds (Mc p l) 24).map λx=>Pc x (Gh 0 M).Vb)=(G3 p (cntF l) M).map λx=>x.iZ:=by show(Uc Ab [Bd M] (Mc p l) 24).map (λx=>Pc x 0)=_;rw[eh];rfl
 have ew:((Uc Ab (Gh 1 M).conds (Mc p l) 24).map λx=>Pc x (Gh 1 M).Vb)=(G3 p (cntF l) M).map λx=>x.gV:=by show(Uc Ab [Bd M] (Mc p l) 24).map (λx=>Pc x 1)=_;rw[eh];rfl
 rw[ev]at hV;rw[ew]at hW;have hq:=yd1 he hM;obtain⟨hpc,hal⟩:=ydI hk hM.1;have jA:∀y∈G3 p (cntF l) M,sl p.gr y.aN:=λy hy=>(Ep hk y hy).aN
 have hov:(OW p l M).over=aW (aW ((G3 p (cntF l) M).map λx=>x.iZ).sum-aW ((G3 p (cntF l) M).map λx=>x.gV).sum):=by show G5 (G3 p (cntF l) M) (G3 p (cntF l) M).length=_;rw[ycE _ _ (mb _),Vd,yep]
 have hmo:(OW p l M).month=M:=rfl;have hdu:(OW p l M).Y4=gB p (G3 p (cntF l) M) p.gr.bK.length:=rfl;have hDl:=LS p (G3 p (cntF l) M) p.gr.bK.length;have hAl:=ydp (Pg M) (ydJ oW he);have hfd:=λa ha h0=>ybt (p:=p) hq hpc hal jA (a:=a) ha h0
 have hct:=ycR hpv hq hpc hal jA;rw[<-hdu]at hDl hfd hct;have hsl:=ydP hpv;generalize Yg (Pg M) (mapA (Pg M) (Mc p l))=A at hA hAl hfd hct;generalize OW p l M=st at hS hov hDl hfd hct hmo;generalize ((G3 p (cntF l) M).map λx=>x.iZ).sum=sv at hV hov;generalize ((G3 p (cntF l) M).map λx=>x.gV).sum=sw at hW hov;refine sX J (aB hS ?_);refine sX J (sX J ?_);refine Bk (Se (I':=⟨[(1,cJ l),(3,.s (.ptr 3 0)),(7,.s (.ptr 7 0)),(8,vI 0),(9,.s (.d (pn [Bd M]))),(10,.s (.d (pn [Bd M,ff])))],[(3,some (.cells (qH p))),(7,some (.cells [.d (dI M),.d (dI st.over),.d (dI st.fG),.d (dI st.total),.d (x0 st.Y4),.d (xZ st.mq),.d (b5 st.wq)]))]⟩) J [] [40,44] rfl rfl rfl ⟨⟨rfl,ee⟩,⟨rfl,ee⟩,oO⟩ ⟨⟨rfl,qb⟩,⟨rfl,qb⟩,⟨rfl,qb⟩,⟨rfl,qb⟩,⟨rfl,(Ee sM rfl).then (Xc (Yc λi j hi hj=>Wa ?_))⟩,⟨rfl,(Ee sM rfl).then (Xc (Yc λi j hi hj=>Wa ?_))⟩,oO⟩) ?_
 ·have hi:i<1:=hi;have hj:j<4:=hj;obtain rfl:i=0:=O
  match j,hj with
  |0,_|1,_|2,_|3,_=>rfl
 ·have hi:i<2:=hi;have hj:j<4:=hj
  match i,j,hi,hj with
  |0,0,_,_|0,1,_,_|0,2,_,_|0,3,_,_|1,0,_,_|1,1,_,_|1,2,_,_|1,3,_,_=>rfl
 refine sX J (aB hA ?_);refine sX J (aB hV ?_);refine sX J (aB hW ?_);obtain⟨z,hz⟩:∃z:Int,z=0:=⟨0,rfl⟩;refine Tb (I':=Dl st A [(8,vI z),(12,vI z),(13,.s (.d (Hk [⟨bs [],aW sv⟩]))),(14,vI z),(15,.s (.d (Hk [⟨bs [],aW sw⟩]))),(16,vI z)]) (Qa J [] rfl ⟨⟨rfl,cc (by rw[hmo];rfl)⟩,oO⟩ ⟨Z,Z,⟨rfl,Wb (by rw[hz];rfl)⟩,⟨rfl,Wb (by rw[hz];rfl)⟩,Z,⟨rfl,Wb (by rw[hz];rfl)⟩,Z,⟨rfl,Wb (by rw[hz];rfl)⟩,oO⟩) ?_;refine Sa (sX J ?_);repeat first|apply oi trivial|apply sk|apply st|apply sg|apply sh|apply su|apply wl|apply Zk
 refine og (λ_=>⟨Me _,Int.zero_lt_one⟩) ?_;repeat first|apply oi trivial|apply sk|apply st|apply sg|apply sh|apply su|apply wl|apply Zk
 refine og (λ_=>⟨Me _,Int.zero_lt_one⟩) ?_;repeat first|apply oi trivial|apply sk|apply st|apply sg|apply sh|apply su|apply wl|apply Zk
 refine aD (Cb ?_);refine aI (λh=>?_) (λ_=>Qb ?_)
 ·exfalso;have h:((((aW (aW (aW (z+z)+z)+z) !=0||(1:Int) !=1)||(1:Int) !=1)||st.over !=aW (aW sv-aW sw)))=true:=h;rw[hov,hz,show aW (aW (aW (0+0)+0)+0)=0 from rfl]at h;simp at h
 refine sX J (Uf (I':=Dl st A [(17,vI st.Y4.length)]) ?_ ?_)
 ·refine sX J (Eb ?_);refine Gb (λi:Nat=>Dl st A [(17,vI ((A.take i).filter λa=>decide (a.iZ≠0)).length),(18,vI i)]) (λi=>i<=A.length) (λi=>A.length-i) 0 (Nat.zero_le _) (Qa J [] rfl Fa Fa) ?_;intro i hi;refine Sa (sX J ?_);refine Cb (aI (λh=>Qb ?_) (λh=>Ld ?_))
  ·have h:(i:Int)<A.length:=bG h;have hle:=Mh (λa:bd=>decide (a.iZ≠0)) (A.take i);rw[pf]at hle;have ht:((A.take (i+1)).filter λa=>decide (a.iZ≠0))=((A.take i).filter λa=>decide (a.iZ≠0))++(if(A.getD i default).iZ≠0 then [A.getD i default]else []):=by rw[Zg O,cw,tw,List.filter_nil];simp
   have ham:A.getD i default∈A:=bP O;have hfi:=hfd _ ham;generalize hc:((A.take i).filter λa=>decide (a.iZ≠0)).length=c at hle;refine Uf (I':=Dl st A [(17,vI (c+(if(A.getD i default).iZ≠0 then 1 else 0):Nat)),(18,vI i)]) ?_ ?_
   ·refine Eb (Sa (sX J ?_));refine oi Ha (Cb ?_);refine aI (λh0=>Ld ?_) (λh0=>Qb ?_)
    ·have h0:((A.getD i default).iZ==0)=true:=h0;have h0:(A.getD i default).iZ=0:=by simpa using h0
     exact⟨rfl,Qa J [] rfl Fa ⟨Z,Z,⟨rfl,Wb (by rw[Ka (λhh=>hh h0)];rfl)⟩,Fa⟩⟩
    have h0:((A.getD i default).iZ==0)=false:=h0;have h0:(A.getD i default).iZ≠0:=by simpa using h0
    rw[La h0];obtain⟨d,hd,hds,hdv⟩:=hfi h0;generalize hga:A.getD i default=a at hds hdv h0;refine sX J (Uf (I':=Dl st A [(17,vI c),(18,vI i),(19,vB true)]) ?_ ?_)
    ·refine sX J (Eb ?_);refine Gb (λk:Nat=>Dl st A [(17,vI c),(18,vI i),(19,vB (Hl a st.Y4 k)),(20,vI k)]) (λk=>k<=st.Y4.length) (λk=>st.Y4.length-k) 0 (Nat.zero_le _) (Qa J [] rfl Fa Fa) ?_;intro k hk;refine Sa (sX J ?_);refine Cb (aI (λh1=>Qb ?_) (λh1=>Ld ?_))
     ·have h1:(k:Int)<st.Y4.length:=bG h1;have hf1:Hl a st.Y4 (k+1)=(Hl a st.Y4 k||(bE (st.Y4.getD k default).aN a.aN&&(st.Y4.getD k default).iZ==a.iZ)):=by unfold Hl;rw[Zg O,Pn];simp
      refine Sa (Eb (eX J ?_));repeat refine aR ?_
      refine og (λ_=>Ha) ?_;repeat refine aR ?_
      refine og (λ_=>Ha) ?_;repeat refine aR ?_
      refine og (λ_=>Ha) ?_;repeat refine aR ?_
      refine og (λ_=>Ha) ?_;repeat refine aR ?_
      repeat first|refine oi (λh=>by simpa[rL]using h) ?_|apply oi trivial|apply sk|apply st|apply sg|apply sh|apply su|apply wl|apply Zk
      refine aD (eX J ?_);refine⟨k+1,O,O,?_⟩;exact Qa J [] rfl Fa ⟨Z,Z,Z,Z,⟨rfl,Wb (by rw[hf1,<-hga];rfl)⟩,Fa⟩
     have h1:¬(k:Int)<st.Y4.length:=bF h1;obtain rfl:k=st.Y4.length:=O;have xO:Hl a st.Y4 st.Y4.length=true:=by unfold Hl;rw[Vd,Ll];exact⟨d,hd,by rw[hds,hdv,KU,Ui,Ui];rfl⟩
     exact⟨rfl,Qa J [] rfl Fa ⟨Z,Z,Z,Z,⟨rfl,Wb (by rw[xO];rfl)⟩,oO⟩⟩
    refine Sa (sX J ?_);refine Cb (aI (λh2=>by cases h2) (λ_=>Qb ?_));exact eX J ⟨rfl,Qa J [] rfl Fa Fa⟩
   refine eX J ⟨i+1,O,O,?_⟩;have hl1:((A.take (i+1)).filter λa=>decide (a.iZ≠0)).length=c+(if(A.getD i default).iZ≠0 then 1 else 0):=by rw[ht,ed,hc];split <;> rfl
   exact Qa J [] rfl Fa ⟨Z,Z,⟨rfl,Wb (by rw[hl1];rfl)⟩,Fa⟩
  have h:¬(i:Int)<A.length:=bF h;obtain rfl:i=A.length:=O;exact⟨rfl,Qa J [] rfl Fa ⟨Z,Z,⟨rfl,Wb (by rw[Vd,hct];rfl)⟩,oO⟩⟩
 apply eX J;repeat refine aR ?_
 apply bR ten;repeat first|apply oi trivial|apply sk|apply st|apply sg|apply sh|apply su|apply wl|apply Zk
 refine Ia (Na (λb=>vB b) ?_);simp
end Go.Pj
