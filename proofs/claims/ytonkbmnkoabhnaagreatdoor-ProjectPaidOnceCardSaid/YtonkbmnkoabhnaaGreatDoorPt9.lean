/- Part 9: lemmas that the proofs of this seat share; by itself it claims nothing. -/
import Derived.Test.YtonkbmnkoabhnaaGreatDoorPt8
set_option maxRecDepth 100000
set_option maxHeartbeats 1000000
namespace Go.Pj
open Go Go.Ax Go.Ch Go.Proofs Go.Proofs.Tryz
theorem aGB{l:List Fact}(hv:∀f∈l,fR f=0):aBS (cntF l):=by
 intro f hf h0 x hx;obtain⟨_,_,_,g,hg,rfl,_⟩:=N4 hv hf;have h0:g.kind=0:=h0;obtain⟨_,h2⟩:=kN (hv g hg);have hb:=(oB h2 (by rw[h0];rfl)).1;have e:(jE g).levels=g.levels:=by unfold jE;simp only [h0,beq_self_eq_true,cond_true]
 rw[e]at hx;have:=List.any_eq_false.1 hb x hx;rcases yT (show iQ x=false by simpa using this)with h|h
 ·exact .inl h
 exact .inr h.2
theorem aBR{l:List Fact}(h:HD l 25=false):l.length≤25∧∀f∈l,f.levels.length≤1000000:=by unfold HD at h;rw[Bool.or_eq_false_iff]at h;have h1:=of_decide_eq_false h.1;refine⟨oM,fun f hf=>?_⟩;have:=List.any_eq_false.1 h.2 f hf;simp only [KX,Bool.or_eq_true,decide_eq_true_eq,not_or]at this;omega
abbrev lim(n:Nat):Prop:=n≤9223372036854775807
theorem aGY:Rd prog 119 2 (fun p:Int×Int=>[.d (dI p.1),.d (dI p.2)]) (fun _=>True):=
 (fI underlying119 rfl kR (aS rfl rI (aS rfl rI jN))).to (fun a=>(a.1,a.2.1)) (fun _=>rfl) (fun _ _=>trivial)
theorem aKZ:Rd prog 121 5 (fun s:lI=>[.d (dS s.name),.d (dI s.run),.d (dI s.aF5),.d (dI s.num),.d (dI s.den)]) (fun s=>lim s.name.size):=
 (fI underlying121 rfl kR (aS rfl rS (aS rfl rI (aS rfl rI (aS rfl aGY jN))))).to (fun a=>⟨a.1,a.2.1,a.2.2.1,a.2.2.2.1.1,a.2.2.2.1.2⟩) (fun _=>rfl) (fun _ h=>h.1)
theorem aIB:Rd prog 29 1 (fun l:List lI=>[.d (kV l)]) (fun l=>lim l.length∧∀a∈l,lim a.name.size):=
 kF underlying29 kR aKZ dC aGU (fun _=>rfl) (fun a j hj=>by match j,hj with|0,_|1,_|2,_|3,_|4,_=>rfl)
theorem aIC:Rd prog 123 2 (fun s:sC=>[.d (dI s.top),.d (dS s.aN)]) (fun _=>True):=
 (fI underlying123 rfl kR (aS rfl rI (aS rfl rS jN))).to (fun a=>⟨a.1,a.2.1⟩) (fun _=>rfl) (fun _ _=>trivial)
theorem aEZ:Rd prog 65 1 (fun l:List sC=>[.d (mN l)]) (fun l=>lim l.length∧∀a∈l,True):=
 kF underlying65 kR aIC dC aLM (fun _=>rfl) (fun a j hj=>by match j,hj with|0,_|1,_=>rfl)
theorem aOO:Rd prog 67 4 (fun s:fS=>[.d (dS s.name),.d (dI s.x),.d (dI s.y),.d (mN s.bB)]) (fun s=>lim s.name.size∧lim s.bB.length):=
 (fI underlying67 rfl kR (aS rfl rS (aS rfl rI (aS rfl rI (aS rfl aEZ jN))))).to (fun a=>⟨a.1,a.2.1,a.2.2.1,a.2.2.2.1⟩) (fun _=>rfl) (fun _ h=>⟨h.1,h.2.2.2.1.1⟩)
theorem aK7:Rd prog 30 1 (fun l:List fS=>[.d (pN l)]) (fun l=>lim l.length∧∀a∈l,lim a.name.size∧lim a.bB.length):=
 kF underlying30 kR aOO dC aNS (fun _=>rfl) (fun a j hj=>by match j,hj with|0,_|1,_|2,_|3,_=>rfl)
theorem aOI:Rd prog 125 2 (fun s:pQ=>[.d (dS s.aN),.d (dI s.vY)]) (fun _=>True):=
 (fI underlying125 rfl kR (aS rfl rS (aS rfl rI jN))).to (fun a=>⟨a.1,a.2.1⟩) (fun _=>rfl) (fun _ _=>trivial)
theorem aK2:Rd prog 33 1 (fun l:List pQ=>[.d (CG l)]) (fun l=>lim l.length∧∀a∈l,True):=
 kF underlying33 kR aOI dC aII (fun _=>rfl) (fun a j hj=>by match j,hj with|0,_|1,_=>rfl)
theorem aOE:Rd prog 171 3 (fun s:zF=>[.d (dS s.name),.d (dI s.due),.d (dI s.pen)]) (fun _=>True):=
 (fI underlying171 rfl kR (aS rfl rS (aS rfl rI (aS rfl rI jN)))).to (fun a=>⟨a.1,a.2.1,a.2.2.1⟩) (fun _=>rfl) (fun _ _=>trivial)
theorem aK0:Rd prog 34 1 (fun l:List zF=>[.d (RL l)]) (fun l=>lim l.length∧∀a∈l,True):=
 kF underlying34 kR aOE dC aH1 (fun _=>rfl) (fun a j hj=>by match j,hj with|0,_|1,_|2,_=>rfl)
theorem aOJ:Rd prog 69 6 (fun s:uF=>[.d (dS s.name),.d (dI s.OE),.d (dI s.base),.d (dI s.top),.d (b5 s.aV),.d (dI s.GZ)]) (fun s=>lim s.name.size):=
 (fI underlying69 rfl kR (aS rfl rS (aS rfl rI (aS rfl rI (aS rfl rI (aS rfl Ch.PL (aS rfl rI jN))))))).to (fun a=>⟨a.1,a.2.1,a.2.2.1,a.2.2.2.1,a.2.2.2.2.1,a.2.2.2.2.2.1⟩) (fun _=>rfl) (fun _ h=>h.1)
theorem aK3:Rd prog 35 1 (fun l:List uF=>[.d (q7 l)]) (fun l=>lim l.length∧∀a∈l,lim a.name.size):=
 kF underlying35 kR aOJ dC X0 (fun _=>rfl) (fun a j hj=>by match j,hj with|0,_|1,_|2,_|3,_|4,_|5,_=>rfl)
theorem aOP:Rd prog 127 3 (fun s:nM=>[.d (dS s.aN),.d (dI s.num),.d (dI s.den)]) (fun s=>lim s.aN.size):=
 (fI underlying127 rfl kR (aS rfl rS (aS rfl aGY jN))).to (fun a=>⟨a.1,a.2.1.1,a.2.1.2⟩) (fun _=>rfl) (fun _ h=>h.1)
theorem aK8:Rd prog 36 1 (fun l:List nM=>[.d (oY l)]) (fun l=>lim l.length∧∀a∈l,lim a.aN.size):=
 kF underlying36 kR aOP dC aNU (fun _=>rfl) (fun a j hj=>by match j,hj with|0,_|1,_|2,_=>rfl)
theorem aOM:Rd prog 32 2 (fun g:Ground=>[.d (kV g.bK),.d (pN g.cC)]) Ground.fits:=
 (fI underlying32 rfl kR (aS rfl aIB (aS rfl aK7 jN))).to (fun a=>⟨a.1,a.2.1⟩) (fun _=>rfl) (fun _ h=>⟨h.1.1,h.2.1.1,h.1.2,fun x hx=>(h.2.1.2 x hx).1,fun x hx=>(h.2.1.2 x hx).2⟩)
theorem aOL:Rd prog 24 6 (fun g:eZ=>[.d (dI g.x),.d (dI g.y),.d (dI g.side),.d (dI g.dO),.d (dI g.rows),.d (b5 g.levels)]) (fun g=>lim g.levels.length):=
 (fI underlying24 rfl kR (aS rfl rI (aS rfl rI (aS rfl rI (aS rfl rI (aS rfl rI (aS rfl Ch.PL jN))))))).to (fun a=>⟨a.1,a.2.1,a.2.2.1,a.2.2.2.1,a.2.2.2.2.1,a.2.2.2.2.2.1⟩) (fun _=>rfl) (fun _ h=>h.2.2.2.2.2.1.1)
theorem aON:Rd prog 28 5 (fun c:kE=>[.d (dS c.name),.d (x3 c.aZ),.d (dI c.over),.d (dI c.buffer),.d (zM c.regions)]) kE.ok:=
 (fI underlying28 rfl kR (aS rfl rS (aS rfl aOQ (aS rfl rI (aS rfl rI (aS rfl aK1 jN)))))).to (fun a=>⟨a.1,a.2.1,a.2.2.1,a.2.2.2.1,a.2.2.2.2.1⟩) (fun _=>rfl)
  (fun _ h=>⟨h.1,h.2.1.1,h.2.1.2,h.2.2.1,h.2.2.2.1,h.2.2.2.2.1.1,h.2.2.2.2.1.2⟩)
theorem aQF:RdA prog 38 oR Proj.okk:=
 VN (k:=20) underlying38 ((fI underlying38 rfl kR (aS rfl rS (aS rfl aOL (aS rfl aON (aS rfl aOM (aS rfl rI (aS rfl rI (aS rfl aK2 (aS rfl aK0 (aS rfl aK3 (aS rfl aK8 jN))))))))))).to
  (fun a=>(⟨a.1,a.2.1,a.2.2.1,a.2.2.2.1,a.2.2.2.2.1,a.2.2.2.2.2.1,a.2.2.2.2.2.2.1,a.2.2.2.2.2.2.2.1,a.2.2.2.2.2.2.2.2.1,a.2.2.2.2.2.2.2.2.2.1⟩:Proj)) (fun _=>rfl)
  (fun _ h=>⟨h.1,h.2.1,h.2.2.1,h.2.2.2.1,h.2.2.2.2.2.2.1.1,h.2.2.2.2.2.2.2.1.1,h.2.2.2.2.2.2.2.2.1.2,h.2.2.2.2.2.2.2.2.2.1.2⟩))
theorem aK6:Rd prog 72 13 (fun f:Fact=>[.d (dI f.kind),.d (dI f.seq),.d (dI f.a8),.d (dI f.month),.d (dI f.number),.d (dI f.aT),.d (dI f.over),.d (dI f.cls),.d (dI f.target),.d (dS f.aN),.d (dS f.dN),.d (dS f.eS),.d (b5 f.levels)]) Fact.fits:=
 (fI underlying72 rfl kR (aS rfl rI (aS rfl rI (aS rfl rI (aS rfl rI (aS rfl rI (aS rfl rI (aS rfl rI (aS rfl rI (aS rfl rI (aS rfl rS (aS rfl rS (aS rfl rS (aS rfl Ch.PL jN)))))))))))))).to
  (fun a=>(⟨a.1,a.2.1,a.2.2.1,a.2.2.2.1,a.2.2.2.2.1,a.2.2.2.2.2.1,a.2.2.2.2.2.2.1,a.2.2.2.2.2.2.2.1,a.2.2.2.2.2.2.2.2.1,a.2.2.2.2.2.2.2.2.2.1,a.2.2.2.2.2.2.2.2.2.2.1,a.2.2.2.2.2.2.2.2.2.2.2.1,a.2.2.2.2.2.2.2.2.2.2.2.2.1⟩:Fact)) (fun _=>rfl)
  (fun _ h=>⟨h.2.2.2.2.2.2.2.2.2.2.2.2.1.1,h.2.2.2.2.2.2.2.2.2.1,h.2.2.2.2.2.2.2.2.2.2.1,h.2.2.2.2.2.2.2.2.2.2.2.1⟩)
theorem aQH:Rd prog 39 1 (fun l:List Fact=>[.d (RN l)]) (fun l=>lim l.length∧∀a∈l,a.fits):=
 kF underlying39 kR aK6 dC J0 (fun _=>rfl) (fun a j hj=>by match j,hj with|0,_|1,_|2,_|3,_|4,_|5,_|6,_|7,_|8,_|9,_|10,_|11,_|12,_=>rfl)
end Go.Pj
set_option maxRecDepth 100000
set_option maxHeartbeats 20000000
namespace Go.Ax
open Go.RowKit
theorem aM.trans{cx:Cx}{N:Nat}{a b c:St}(h:aM cx N a b)(k:aM cx N b c):aM cx N a c:=fun M β x w i=>let⟨β',i'⟩:=h M β x w i;k M β' x w i'
theorem sh{b:Bool}{q:Prop}(h:q):Q3 (b=true) (some (rL true b))∧q:=⟨fun h=>by simpa [rL]using h,h⟩
theorem ybx{P:Program}{f:FuncId}{args:List AV}{r:AV}{K:AV→Prop}{b:Bool}{X:Prop}(h:b=true→aF P f args r)(k:K r):(∃r,(b=true→aF P f args r)∧K r)∨X:=.inl ⟨r,h,k⟩
section
variable{α:Type} [Inhabited α] {s n e:Nat}{f g:Nat→Nat→DV}{el:α→Nat→DV}{l:List α}{x:α}
end
end Go.Ax
namespace Go.Ch
open Go Go.Ax Go.Proofs Go.Proofs.Tryz
theorem yaZ{a b:Pt}(ha:fB a=true)(hb:fB b=true):0≤span a b∧span a b≤3000000:=by have h:=KQ ha hb;obtain⟨h1,h2,h3⟩:=AL ha hb hb;exact⟨h.1,h.le oM oM⟩
def yaV(l:List F8)(r:Int×Bool):Prop:=(r=(0,false)∧∀x∈l,(TG x).2=false)∨(r.2=true∧(∃x∈l,TG x=r)∧∀x∈l,(TG x).2=true→r.1≤(TG x).1)
theorem ybs(l:List F8):yaV l (FL l):=by
 have:∀(m:List F8),yaV m (FL m):=by
  intro m;suffices h:∀n,yaV (m.take n) (FL (m.take n)) by simpa using h m.length
  intro n;induction n with
  |zero=>exact .inl ⟨rfl,sM⟩
  |succ n ih=>
   by_cases hn:n<m.length
   ·rw[List.take_succ_eq_append_getElem hn,Y5];exact ih.step _
   rw[List.take_of_length_le oM]at ih ⊢;exact ih
 exact this l
theorem yaQ{u v s d L U:Int}(hs:0<s)(hd:0≤d)(hd2:d≤s)(h1:L≤u)(h2:L≤v)(h3:u≤U)(h4:v≤U):L≤aBQ u v s d∧aBQ u v s d≤U:=by
 have a1:L*(s - d)≤u*(s - d):=Int.mul_le_mul_of_nonneg_right h1 oM;have a2:L*d≤v*d:=Int.mul_le_mul_of_nonneg_right h2 hd;have a3:u*(s - d)≤U*(s - d):=Int.mul_le_mul_of_nonneg_right h3 oM;have a4:v*d≤U*d:=Int.mul_le_mul_of_nonneg_right h4 hd;have e1:L*(s - d)+L*d=L*s:=by rw[Int.mul_sub];omega
 have e2:U*(s - d)+U*d=U*s:=by rw[Int.mul_sub];omega
 unfold aBQ;constructor
 ·exact Int.le_ediv_of_mul_le hs oM
 exact Int.ediv_le_of_le_mul hs oM
structure PrtOk(c:kE)(x:F8):Prop where
 off:0≤x.offset∧x.offset≤8000000000000
 half:1≤x.half∧x.half≤100000
 rA:c.over - 20000≤x.rA∧x.rA≤20000
 run:0≤x.run∧x.run≤1000
theorem ya6{a b:Ap}{p:Pt}{x:F8}(h:aBV a b p=some x):0≤nT a.pt b.pt p∧nT a.pt b.pt p≤nT a.pt b.pt b.pt∧x=aLB a b p:=by
 unfold aBV at h
 cases hb:(decide (nT a.pt b.pt p<0)||decide (nT a.pt b.pt p>nT a.pt b.pt b.pt))with
 |true=>rw[hb]at h;cases h
 |false=>rw[hb]at h;simp only [Bool.or_eq_false_iff,decide_eq_false_iff_not]at hb;simp only [cond_false,Option.some.injEq]at h;exact⟨oM,oM,h.symm⟩
theorem yaW{a q b:Ap}{p:Pt}{x:F8}(h:R5 a q b p=some x):x=⟨span q.pt p,q.half,q.level,q.run⟩:=by
 unfold R5 at h
 cases hb:(decide (nT a.pt q.pt p≤nT a.pt q.pt q.pt)||decide (nT q.pt b.pt p≥0))with
 |true=>rw[hb]at h;cases h
 |false=>rw[hb]at h;simp only [cond_false,Option.some.injEq]at h;exact h.symm
theorem ybl{c:kE}{p:Pt}(hv:Val c)(hp:fB p=true){x:F8}(hx:x∈G4 c p):PrtOk c x:=by
 have h2:=hv.n2;unfold G4 lF l8 at hx;simp only [List.mem_append,List.mem_filterMap,List.mem_range]at hx;rcases hx with⟨k,hk,h⟩|⟨j,hj,h⟩
 ·obtain⟨d0,d1,rfl⟩:=ya6 h;have ha:=hv.w9 k oM;have hb:=hv.w9 (k+1) oM;have JW:=hv.apart k oM;have hs:=sq_pos JW;have l1:=hv.level k oM;have l2:=hv.level (k+1) oM;have f1:=hv.half k oM;have f2:=hv.half (k+1) oM;exact⟨aFC ha hb hp JW,yaQ hs d0 d1 f1.1 f2.1 f1.2 f2.2,yaQ hs d0 d1 l1.1 l2.1 l1.2 l2.2,hv.run k oM⟩
 have:=yaW h;subst this;have hq:=hv.w9 (j+1) oM;have hsp:=yaZ hq hp;exact⟨⟨hsp.1,Int.le_trans hsp.2 oM⟩,hv.half (j+1) oM,hv.level (j+1) oM,hv.run (j+1) oM⟩
theorem ybD{c:kE}{x:F8}(hx:PrtOk c x)(hv:Val c)(h:(TG x).2=true):c.over - 20000≤(TG x).1∧(TG x).1≤20000:=by
 obtain⟨h1,h2,h3,h4⟩:=hx;have ho:=hv.over;unfold TG lvl at h ⊢
 cases c1:decide (x.offset≤x.half)with
 |true=>rw[c1]at h;exact h3
 |false=>
  rw[c1]at h;have c1:=bF c1
  cases c2:(x.run==0)with
  |true=>rw[c2]at h;cases h
  |false=>
   rw[c2]at h;have c2:x.run≠0:=by simpa using c2
   have hq:0≤(x.offset - x.half).tdiv x.run∧(x.offset - x.half).tdiv x.run≤8000000000000:=by rw[Int.tdiv_eq_ediv_of_nonneg oM];exact⟨Int.ediv_nonneg oM oM,Int.le_trans (Int.ediv_le_self _ oM) oM⟩
   have e:aW (x.rA+aW ((aW (x.offset - x.half)).tdiv x.run))=x.rA+(x.offset - x.half).tdiv x.run:=by rw[aG (n:=x.offset - x.half) oM oM,aG (n:=(x.offset - x.half).tdiv x.run) oM oM,aG oM oM]
   simp only [cond_false]at h ⊢;have h:=bG h;rw[e]at h ⊢;omega
theorem ybr{c:kE}{p:Pt}(hv:Val c)(hp:fB p=true)(h:(UI c p).2=true):c.over - 20000≤(UI c p).1∧(UI c p).1≤20000:=by
 rcases ybs (G4 c p)with⟨h1,_⟩|⟨_,⟨x,hx,e⟩,_⟩
 ·unfold UI at h;rw[h1]at h;cases h
 unfold UI at h ⊢;rw[←e]at h ⊢;exact ybD (ybl hv hp hx) hv h
theorem yaX(c:kE)(g:eZ)(less:Int){i:Nat}(h:i<g.levels.length):(mM c g less).levels.getD i 0=L0 c g less i:=by simp[mM,h]
def ybG(x:F8):Bool:=decide (x.offset≤x.half)
def FM(c:kE)(p:Pt):Bool:=(G4 c p).any ybG
def lv(g:eZ)(k:Int):Int:=g.levels.getD k.toNat 0
def wZ(g:eZ)(r:Int×Bool)(i:Nat):Int×Bool:=(bif decide (r.1<0)||decide (lv g i>lv g r.1)then(i:Int)else r.1,r.2||lv g i==30000)
end Go.Ch
namespace Go.Ax
open Go.RowKit
theorem cV.ya9{M:Mem}{β:Nm}:∀{cs:List SV} {vs:List Value},cs.length=vs.length→(∀(k:Nat) (c:SV) (v:Value),cs[k]? =some c→vs[k]? =some v→c.bI M β v)→cV M β cs vs
 |[],[],_,_=>trivial
 |c::cs,v::vs,h,k=>⟨k 0 c v rfl rfl,cV.ya9 (by simpa using h) fun i c v h1 h2=>k (i+1) c v (by simpa using h1) (by simpa using h2)⟩
 |[],_::_,h,_=>by simp at h
 |_::_,[],h,_=>by simp at h
theorem cV.set{M:Mem}{β:Nm}:∀{cs:List SV} {vs:List Value} {j:Nat} {c c':SV},cV M β cs vs→cs[j]? =some c→(∀v,c.bI M β v→c'.bI M β v)→cV M β (cs.set j c') vs
 |[],_,_,_,_,_,h,_=>by simp at h
 |x::cs,[],_,_,_,h,_,_=>h.elim
 |x::cs,v::vs,0,c,c',h,hj,k=>by simp at hj;subst hj;exact⟨k v h.1,h.2⟩
 |x::cs,v::vs,j+1,c,c',h,hj,k=>⟨h.1,cV.set h.2 (by simpa using hj) k⟩
end Go.Ax
namespace Go.Pj
open Go Go.Ax Go.Ch Go.Proofs Go.Proofs.Tryz Go.Sort Go.Shelf
theorem ybg(a:Int)(w:World):Calls prog 111 #[.int .i64 a] w fun e w'=>e=.returned (.bool false)∧w'=w:=by go_enter func111,Tryz.ntmps111;go_wp2;go_ret;exact⟨rfl,rfl⟩
theorem ybz(a b:Int)(w:World):Calls prog 64 #[.int .i64 a,.int .i64 b] w fun e w'=>e=.returned (.int .i64 (aNI a b))∧w'=w:=by
 have hc:=fun a w'=>ybg a w'
 go_enter func64,Tryz.ntmps64;go_wp2_with (first|(go_at_fn 111;refine(hc _ _).mono ?_;rintro e w' ⟨rfl,rfl⟩));refine(hc _ _).mono ?_;rintro e w' ⟨rfl,rfl⟩;go_wp2_with (first|(go_at_fn 111;refine(hc _ _).mono ?_;rintro e w' ⟨rfl,rfl⟩));refine(hc _ _).mono ?_;rintro e w' ⟨rfl,rfl⟩;go_wp2;all_goals go_ret
 all_goals (refine⟨?_,rfl⟩;unfold aNI)
 all_goals first
  |(rw[if_pos (by assumption)];rfl)
  |(rw[if_neg oM,if_pos (by assumption)];rfl)
  |(rw[if_neg oM,if_neg oM];rfl)
theorem ybI(a b:Int)(g cap:Nat)(w:World)(h0:w.cell? ⟨g,0,none⟩=some (.int .i64 a))(h1:w.cell? ⟨g,1,none⟩=some (.int .i64 b)):
  Calls prog 63 #[.slice (some ⟨g,0,none⟩) 2 cap] w fun e w'=>e=.returned (.int .i64 (orI a b))∧w'=w:=by
 go_enter func63,Tryz.ntmps63
 go_wp2_with fail
 go_rounds 3
 all_goals go_ret
 all_goals (refine⟨?_,rfl⟩;unfold orI)
 ·rename_i hz;rw[hz];rfl
 ·rename_i hz;rw[show(a !=0)=false by assumption,hz];rfl
 ·rw[show(a !=0)=false by assumption,show(b !=0)=false by assumption];rfl
theorem ybJ(a b:Int)(w:World)(o1 o2:Obj):
  Calls prog 63 #[.slice (some ⟨w.heap.size+1+1,0,none⟩) 2 2] (((w.alloc o1).alloc o2).alloc (.cells #[.int .i64 a,.int .i64 b] 3)).drew fun e w'=>e=.returned (.int .i64 (orI a b))∧w'=(((w.alloc o1).alloc o2).alloc (.cells #[.int .i64 a,.int .i64 b] 3)).drew:=
 by
 have hs:((w.alloc o1).alloc o2).heap.size=w.heap.size+1+1:=by show(Array.push (Array.push w.heap o1) o2).size=_;rw[Array.size_push,Array.size_push]
 have hh:((((w.alloc o1).alloc o2).alloc (.cells #[.int .i64 a,.int .i64 b] 3)).drew).heap[w.heap.size+1+1]? =some (.cells #[.int .i64 a,.int .i64 b] 3):=by rw[←hs];exact heap_alloc_new ((w.alloc o1).alloc o2) _
 exact ybI a b _ _ _ (by simp only [World.cell?,hh];rfl) (by simp only [World.cell?,hh];rfl)
theorem yby(m1 n1 m2 n2:Int)(w:World)(v0 v1 v2 v5 v6 v7 v8 v9 v10 v11 v12 u0 u1 u2 u5 u6 u7 u8 u9 u10 u11 u12:Value):
  Calls prog 62 #[.agg #[v0,v1,v2,.int .i64 m1,.int .i64 n1,v5,v6,v7,v8,v9,v10,v11,v12],.agg #[u0,u1,u2,.int .i64 m2,.int .i64 n2,u5,u6,u7,u8,u9,u10,u11,u12]] w fun e w'=>
   e=.returned (.int .i64 (orI (aNI m1 m2) (aNI n1 n2)))∧∃q os',w'=grow (w.drewN q) os':=by
 have hc:=fun a b w'=>ybz a b w'
 have ho:=ybJ (aNI m1 m2) (aNI n1 n2) w (.cells #[v0,v1,v2,.int .i64 m1,.int .i64 n1,v5,v6,v7,v8,v9,v10,v11,v12] 72) (.cells #[u0,u1,u2,.int .i64 m2,.int .i64 n2,u5,u6,u7,u8,u9,u10,u11,u12] 72)
 go_enter func62,Tryz.ntmps62
 go_wp2_with fail
 go_region_with (first|(go_at_call 64;refine(hc _ _ _).mono ?_;rintro e w' ⟨rfl,rfl⟩)|(go_at_call 63;refine Calls.mono ho ?_;intro e w1 V7;obtain⟨he,V7⟩:=V7;subst he))
 all_goals go_wp2
 all_goals (try go_ret)
 all_goals exact⟨by first|rfl|simp[Act.put],1, #[.cells #[v0,v1,v2,.int .i64 m1,.int .i64 n1,v5,v6,v7,v8,v9,v10,v11,v12] 72,.cells #[u0,u1,u2,.int .i64 m2,.int .i64 n2,u5,u6,u7,u8,u9,u10,u11,u12] 72,.cells #[.int .i64 (aNI m1 m2),.int .i64 (aNI n1 n2)] 3],by first|rfl|exact V7.trans rfl⟩
open Go Go.Ax Go.Ch Go.Proofs Go.Proofs.Tryz
theorem PV.eS{p:Proj}(h:PV p){i:Nat}(hi:i<p.cU.length):0≤PG p.chan.regions (p.cU.getD i default).name∧(p.cU.getD i default).due≤24:=by have hs:=h.cU;unfold rR at hs;obtain⟨_,hs⟩:=dF dC hs;have hr:=lQ hs i (Nat.zero_le _) oM;unfold qG at hr;obtain⟨h1,hr⟩:=dF dC hr;obtain⟨_,hr⟩:=dF dC hr;obtain⟨h3,hr⟩:=dF dC hr;simp only [decide_eq_false_iff_not]at h1;simp only [Bool.or_eq_false_iff,Bool.not_eq_false',within,Bool.and_eq_true,decide_eq_true_eq]at h3;omega
open Go Go.Ax Go.Ch Go.Proofs Go.Proofs.Tryz Go.Sort Go.Shelf
theorem yaq(x y:Fact):ltOf cfL x y=decide (x.month<y.month∨(x.month=y.month∧x.number<y.number)):=by
 unfold ltOf cfL orI aNI;refine decide_eq_decide.2 ?_;by_cases h1:x.month<y.month
 ·simp[h1]
 by_cases h2:y.month<x.month
 ·have:x.month≠y.month:=oM;simp[h1,h2,this]
 have e:x.month=y.month:=oM;by_cases h3:x.number<y.number
 ·simp[e,h3]
 by_cases h4:y.number<x.number
 ·simp[e,h3,h4]
 simp[e,h3,h4]
theorem ybL:SWO (ltOf cfL) where
 irrefl:=fun x=>by rw[yaq];simp
 trans:=fun x y z h1 h2=>by rw[yaq,decide_eq_true_eq]at*;omega
 ntrans:=fun x y z h1 h2=>by rw[yaq,decide_eq_false_iff_not]at*;omega
instance:Inhabited (GV J0 13):=⟨⟨(default,[.int .i64 (default:Fact).kind,.int .i64 (default:Fact).seq,.int .i64 (default:Fact).a8,.int .i64 (default:Fact).month,.int .i64 (default:Fact).number,.int .i64 (default:Fact).aT,.int .i64 (default:Fact).over,.int .i64 (default:Fact).cls,.int .i64 (default:Fact).target,.string (default:Fact).aN,.string (default:Fact).dN,.string (default:Fact).eS,.slice none 0 0]),by
 refine⟨rfl,fun v hv=>?_,fun j u hj hu=>?_⟩
 ·simp only [List.mem_cons,List.not_mem_nil,or_false]at hv;rcases hv with rfl|rfl|rfl|rfl|rfl|rfl|rfl|rfl|rfl|rfl|rfl|rfl|rfl <;> rfl
 match j,hj,hu with
 |0,_,hu|1,_,hu|2,_,hu|3,_,hu|4,_,hu|5,_,hu|6,_,hu|7,_,hu|8,_,hu|9,_,hu|10,_,hu|11,_,hu=>cases hu;rfl
 |12,_,hu=>cases hu⟩⟩
theorem ya7(blk off n:Nat)(w:World):CmpLays prog 62 #[] (fun p:GV J0 13=>p.1.2) 13 (fun p q=>cfL p.1.1 q.1.1) blk off n w:=by
 intro m os dk _ x y;generalize sortWorldK _ 13 w blk off m dk os=W;obtain⟨⟨s,vs⟩,hx⟩:=x;obtain⟨⟨t,us⟩,hy⟩:=y;have e1:=hx.len;have e2:=hy.len;have s3:=hx.val 3 (.int .i64 s.month) oM rfl;have s4:=hx.val 4 (.int .i64 s.number) oM rfl;have t3:=hy.val 3 (.int .i64 t.month) oM rfl;have t4:=hy.val 4 (.int .i64 t.number) oM rfl
 match vs,e1,us,e2,s3,s4,t3,t4 with
 |[v0,v1,v2,v3,v4,v5,v6,v7,v8,v9,v10,v11,v12],_,[u0,u1,u2,u3,u4,u5,u6,u7,u8,u9,u10,u11,u12],_,s3,s4,t3,t4=>obtain rfl:v3=.int .i64 s.month:=Option.some.inj s3;obtain rfl:v4=.int .i64 s.number:=Option.some.inj s4;obtain rfl:u3=.int .i64 t.month:=Option.some.inj t3;obtain rfl:u4=.int .i64 t.number:=Option.some.inj t4;exact yby s.month s.number t.month t.number W v0 v1 v2 v5 v6 v7 v8 v9 v10 v11 v12 u0 u1 u2 u5 u6 u7 u8 u9 u10 u11 u12
theorem yaM(l:List Fact)(hn:∀a∈l,∀b∈l,a.number=b.number→a=b)(l':List Fact)(hp:l'.Perm l)(hs:l'.Pairwise (fun x y=>ltOf cfL y x=false)):l'=JH l:=by
 refine List.Perm.eq_of_pairwise (le:=fun x y=>ltOf cfL y x=false) ?_ hs ?_ (hp.trans (List.mergeSort_perm _ _).symm)
 ·intro a b ha hb h1 h2;have ha:a∈l:=hp.mem_iff.1 ha;have hb:b∈l:=(List.mergeSort_perm _ _).mem_iff.1 hb;rw[yaq,decide_eq_false_iff_not]at h1 h2;exact hn a ha b hb oM
 have:=List.pairwise_mergeSort (le:=fun x y:Fact=> !(ltOf cfL y x)) (fun a b c h1 h2=>by
  simp only [yaq,Bool.not_eq_true',decide_eq_false_iff_not]at*;omega) (fun a b=>by
  simp only [yaq,Bool.or_eq_true,Bool.not_eq_true',decide_eq_false_iff_not];omega) l
 exact this.imp fun {x y} h=>by simpa using h
theorem ya3(l:List Fact)(hn:∀a∈l,∀b∈l,a.number=b.number→a=b)(f0:Nat→Nat→DV)(SO:∀i j,i<l.length→j<13→aK (f0 i j) (nE l i j))(hl:l.length≤1000000):
  bW prog 61 [.s (.own 1001),.s (.dZ 62 [])] [(1001,.row 72 l.length 13 f0)] (.t []) [(1001,.row 72 l.length 13 (nE (JH l)))]:=
 aKD (α:=Fact) (k:=13) Tryz.aBY rfl call61 dC Tryz.isAgg72 Tryz.sizeOf72 J0 (fun t j h=>aCW t j h) cfL ybL
  (enters_of func62 kR rfl) ya7 l (JH l) (yaM l hn) f0 SO hl
open Go Go.Ax Go.Ch Go.Proofs Go.Proofs.Tryz
theorem ZR.of{fs:List Fact}{m:Int}(hl:fs.length≤200)(hn:∀a∈tO fs m,∀b∈tO fs m,a.number=b.number→a=b):ZR fs m:=fun _=>
 ya3 _ hn _ (fun _ _ _ _=>fun _ _ r=>r) (by have:(tO fs m).length≤fs.length:=List.length_filter_le _ _;omega)
theorem yao{g:Fact}(h:g.kind=1)(hv:nZ g=0):bT g=iO [AX,Lib.itoa g.number]:=by unfold bT nH cS;rw[hv,h];rfl
theorem ya4{l:List Fact}(hv:∀f∈l,fR f=0)(m:Int):∀a∈tO (cntF l) m,∀b∈tO (cntF l) m,a.number=b.number→a=b:=by
 intro a ha b hb hn;unfold tO at ha hb;obtain⟨ha,a1⟩:=List.mem_filter.1 ha;obtain⟨hb,b1⟩:=List.mem_filter.1 hb;simp only [Bool.and_eq_true,beq_iff_eq]at a1 b1;obtain⟨k1,_,e1,g1,hg1,c1,q1⟩:=N4 hv ha;obtain⟨k2,_,e2,g2,hg2,c2,q2⟩:=N4 hv hb;have t1:g1.kind=1:=by have:=a1.1;rw[c1]at this;exact this
 have t2:g2.kind=1:=by have:=b1.1;rw[c2]at this;exact this
 have n1:a.number=g1.number:=by rw[c1];unfold jE fW;simp[t1]
 have n2:b.number=g2.number:=by rw[c2];unfold jE fW;simp[t2]
 have z1:=(kN (hv g1 hg1)).1;have z2:=(kN (hv g2 hg2)).1;have hkk:k1=k2:=by rw[←q1,←q2,yao t1 z1,yao t2 z2,←n1,←n2,hn]
 rw[e1,e2,hkk]
theorem ZR.gen{p:Proj}{l:List Fact}(hk:FOK p l)(M:Int):ZR (cntF l) M:=ZR.of (x4 hk).len (ya4 hk.fmt M)
def yad(p:Proj)(fs:List Fact)(m:Int):List Fact×gK:=iM p (j8 fs m) (j8 fs m).length
def yag(l:List Fact)(i:Nat):List Int:=(l.take i).map Fact.number
theorem ya8{l:List Fact}{i:Nat}(h:i<l.length):yag l (i+1)=yag l i++ [(l.getD i default).number]:=by unfold yag;rw[List.take_add_one,List.getElem?_eq_getElem h,List.map_append,aX h];rfl
theorem ybk(l:List Fact)(i:Nat):(yag l i).length≤i:=by unfold yag;rw[List.length_map];simp;omega
theorem ybj(l:List Fact):yag l l.length=l.map Fact.number:=by unfold yag;rw[List.take_length]
abbrev haS(H:List Fact)(y:gK)(d:List Int)(i:Nat):St:=⟨[(7,.s (.ptr 7 0)),(12,.s (.ptr 12 0)),(13,.s (.mo d.isEmpty 100)),(33,cJ H),(34,vI H.length),(35,vI i)],[(7,some (.cells (iB ty55.zero))),(12,some (.cells (uH y))),(100,some (.b8 3 d.length 1 (cP d)))]⟩
theorem ya1(p:Proj)(l:List Fact)(m:Int)(hp:p.fits)(hf:∀f∈l,f.fits)(hl:l.length≤9223372036854775807)(he:j6 p l m 0=0):
  aF prog 13 [oR p,cJ l,vI m] (.t [.s (.d (b5 ((yad p (cntF l) m).1.map Fact.number))),.g (uH (yad p (cntF l) m).2),.s (.d (dI 0))]):=by
 have hk:=(tL he).1
 have hS:=x4 hk
 have hH:=aI8 p (cntF l) m hp (PV.of hk.proj) hS.len (ZR.gen hk m)
 have hHl:(yad p (cntF l) m).1.length≤200:=by
  have h1:=BY p (j8 (cntF l) m) (j8 (cntF l) m).length;have h2:(j8 (cntF l) m).length≤(cntF l).length:=by unfold j8;rw[A5];exact List.length_filter_le _ _
  have:=hS.len;exact Nat.le_trans h1 oM
 have hH:aF prog 29 [SR p (cntF l),vI m] (.t [.s (.d (RN (yad p (cntF l) m).1)),.g (uH (yad p (cntF l) m).2)]):=hH
 generalize (yad p (cntF l) m)=r at hH hHl
 obtain⟨H,y⟩:=r
 have hHl:H.length≤200:=hHl
 refine eW func13 rfl rfl call13 rfl rfl (fun cx aA=>?_)
 refine sX aA ?_
 refine sX aA ?_
 refine aB (MP p l m 0 hp hf hl he) ?_
 refine AW.seq (sX aA ?_)
 refine AW.cond ?_
 refine aI (fun h=>by cases h) (fun _=>AW.skip ?_)
 refine sX aA ?_
 refine aB (hH) ?_
 refine sX aA ?_
 refine AW.cut (σ':=haS H y (yag H H.length) H.length) ?_ ?_
 ·refine sX aA (AW.block ?_);refine AW.cG (fun i:Nat=>haS H y (yag H i) i) (fun i=>i≤H.length) (fun i=>H.length - i) 0 (Nat.zero_le _) (aM.bD aA [(100,1000)] rfl ⟨bQ,bQ,⟨rfl,rfl⟩,oO⟩ ⟨qZ,qZ,⟨rfl,aU.nil rfl⟩,qZ,qZ,qZ,oO⟩) ?_;intro i hi;have hnl:=ybk H i;refine sX aA (AW.seq (AW.cond ?_));refine aI (fun h1=>AW.skip ?_) (fun h1=>AW.exit ?_)
  ·have h1:(i:Int)<H.length:=bG h1;have bC:i<H.length:=oM;have ew:aW ((i:Int)+1)=((i+1:Nat):Int):=aG oM oM;have hs:=ya8 bC;refine AW.seq (AW.block (sX aA ?_));refine oi ⟨oM,oM⟩ (eX aA ?_);refine ob dC ?_;refine ob (by rw[dK];show((yag H i).length+1)*8≤_;omega) ?_;refine ob (nJ (AS rfl)) (eX aA ?_);refine⟨i+1,oM,oM,?_⟩;show aM _ _ _ (haS H y (yag H (i+1)) (i+1));rw[hs];exact aM.bD aA [(100,43)] rfl ⟨bQ,bQ,⟨rfl,aY.snoc (el:=fun n _=>dI n) (x:=(H.getD i default).number) (AS rfl)⟩,oO⟩ ⟨qZ,qZ,⟨rfl,aU.mo (cA _ _)⟩,qZ,qZ,⟨rfl,aU.int ew⟩,oO⟩
  have h1:¬(i:Int)<H.length:=bF h1;obtain rfl:i=H.length:=oM;exact⟨rfl,aM.bD aA [] rfl ⟨bQ,bQ,bQ,oO⟩ ⟨qZ,qZ,qZ,qZ,qZ,qZ,oO⟩⟩
 refine eX aA ?_
 rw[←ybj]
 refine aD ?_
 exact aC.t ⟨aK.of_eq (show DV.fU (bif (yag H H.length).isEmpty then 0 else(yag H H.length).length) 1 (cP (yag H H.length))=b5 (yag H H.length) by rw[dK];rfl),⟨aK.refl _,aK.refl _,aK.refl _,aK.refl _,oO⟩,aK.refl _,oO⟩
open Go Go.Ax Go.Ch Go.Proofs Go.Proofs.Tryz
theorem yaE{l:List Fact}(hv:∀f∈l,fR f=0){k:bJ}(hk:k∈pS l):∃g∈l,rU (zH (pT l) k)=jE g∧bT g=k:=by
 obtain⟨j,e,uZ,he⟩:=KO hk;obtain⟨hl1,_⟩:=O0 he;obtain⟨e',DT,y5,_,hp,_⟩:=A4 he;have qP:zH (pT l) k=e.2.1.getD (e.2.1.length - 1) []:=by unfold zH;rw[uZ]
 have kK:zH (pT l) k∈e.2.1:=by rw[qP,aX oM];exact List.getElem_mem _
 rw[hp]at kK;obtain⟨g,hg,ht,tR⟩:=yP DT _ (XZ kK);refine⟨g,hg,?_,?_⟩
 ·rw[ht];exact LZ (hv g hg)
 rw[tR,←y5];exact(xU uZ).2.2
theorem ybq{l:List Fact}(hv:∀f∈l,fR f=0):(cntF l).Pairwise fun a b=>a.kind=1→b.kind=1→a.number≠b.number:=by
 unfold cntF;rw[List.pairwise_map];have hn:(pS l).Nodup:=(List.mergeSort_perm _ _).nodup_iff.2 (C9 l);refine List.Pairwise.imp_of_mem ?_ hn;intro k1 k2 h1 h2 fJ a1 a2 hnum;obtain⟨g1,hg1,c1,q1⟩:=yaE hv h1;obtain⟨g2,hg2,c2,q2⟩:=yaE hv h2;rw[c1]at a1 hnum;rw[c2]at a2 hnum;have t1:g1.kind=1:=a1;have t2:g2.kind=1:=a2;have n1:(jE g1).number=g1.number:=by unfold jE fW;simp[t1]
 have n2:(jE g2).number=g2.number:=by unfold jE fW;simp[t2]
 refine fJ ?_;rw[←q1,←q2,yao t1 (kN (hv g1 hg1)).1,yao t2 (kN (hv g2 hg2)).1,←n1,←n2,hnum]
def ya(q:Piece→Bool):List Piece→Int
 |[]=>0
 |x::r=>(bif q x then x.iZ else 0)+ya q r
theorem yaA(q:Piece→Bool)(b:List Piece):∀a,ya q (a++b)=ya q a+ya q b
 |[]=>by show ya q b=0+_;omega
 |x::r=>by show _+ya q (r++b)=_+ya q r+_;rw[yaA q b r];omega
theorem yaf(q:Piece→Bool)(a:List Piece)(x:Piece):ya q (a++ [x])=ya q a+bif q x then x.iZ else 0:=by rw[yaA];show _+(_+0)=_;omega
abbrev kyS(s:ByteArray):bJ:=s.data.toList
structure LuD(L:bJ→List Fact):Prop where
 one:∀k k' j j',j<(L k).length→j'<(L k').length→((L k).getD j default).number=((L k').getD j' default).number→k=k'∧j=j'
 pos:∀k,∀f∈L k,1≤f.number
structure PcOK(L:bJ→List Fact)(M:Int)(n:Nat)(x:Piece):Prop where
 month:x.month=M
 cell:∃i:Nat,x.cell=i∧i<n
 iZ:0<x.iZ
 gV:0≤x.gV∧x.gV≤x.iZ
 load:(x.load=0∧x.dN=bs [])∨∃f∈L (kyS x.aN),f.number=x.load∧f.dN=x.dN
structure RiD(L:bJ→List Fact)(M:Int)(n:Nat)(g:bJ→Nat×List Room)(out:List Piece):Prop where
 facts:∀k,(g k).2.map Prod.fst=L k
 left:∀k j,j<(g k).2.length→0≤((g k).2.getD j default).2∧ya (fun x=>x.load==((g k).2.getD j default).1.number) out+((g k).2.getD j default).2=((g k).2.getD j default).1.aT
 lM:∀x∈out,PcOK L M n x
def upd(g:bJ→Nat×List Room)(k:bJ)(v:Nat×List Room):bJ→Nat×List Room:=fun k'=>if k'=k then v else g k'
theorem yae(g:bJ→Nat×List Room)(k:bJ)(v:Nat×List Room):upd g k v k=v:=if_pos rfl
theorem yas{g:bJ→Nat×List Room}{k k':bJ}{v:Nat×List Room}(h:k'≠k):upd g k v k'=g k':=if_neg h
theorem yar{l:List Room}{L:List Fact}(h:l.map Prod.fst=L){j:Nat}(hj:j<l.length):j<L.length∧(l.getD j default).1=L.getD j default:=by subst h;refine⟨by rw[List.length_map];exact hj,?_⟩;rw[List.getD_eq_getElem?_getD,List.getD_eq_getElem?_getD,List.getElem?_map,List.getElem?_eq_getElem hj];rfl
theorem RiD.none{L:bJ→List Fact}{M:Int}{n:Nat}{g:bJ→Nat×List Room}{out:List Piece}(h:RiD L M n g out)(hU:LuD L){x:Piece}(hx:PcOK L M n x)(h0:x.load=0){k:bJ}{lo lo':Nat}{cur:List Room}(hg:g k=(lo,cur)):RiD L M n (upd g k (lo',cur)) (out++ [x]):=by
 have e:∀k',(upd g k (lo',cur) k').2=(g k').2:=fun k'=>by
  by_cases he:k'=k
  ·subst he;rw[yae,hg]
  rw[yas he]
 refine⟨fun k'=>by rw[e];exact h.facts k',fun k' j hj=>?_,fun y hy=>?_⟩
 ·rw[e]at hj ⊢;obtain⟨h1,h2⟩:=h.left k' j hj;obtain⟨h3,h4⟩:=yar (h.facts k') hj;have:=hU.pos k' _ (bP h3);rw[←h4]at this;rw[yaf,h0,show((0:Int)==((g k').2.getD j default).1.number)=false by rw[beq_eq_false_iff_ne];omega];exact⟨h1,by show _+0+_=_;omega⟩
 rcases List.mem_append.1 hy with hy|hy
 ·exact h.lM y hy
 rw[List.mem_singleton.1 hy];exact hx
theorem RiD.some{L:bJ→List Fact}{M:Int}{n:Nat}{g:bJ→Nat×List Room}{out:List Piece}(h:RiD L M n g out)(hU:LuD L){x:Piece}(hx:PcOK L M n x){k:bJ}{lo lo':Nat}{cur:List Room}(hg:g k=(lo,cur))(hl:lo<cur.length)
  (h0:x.load=(cur.getD lo default).1.number) (hv:x.iZ≤(cur.getD lo default).2):RiD L M n (upd g k (lo',cur.set lo ((cur.getD lo default).1,(cur.getD lo default).2 - x.iZ))) (out++ [x]):=by
 have hf:=h.facts k
 have hL:=h.left k
 rw[hg]at hf hL
 have hf:cur.map Prod.fst=L k:=hf
 obtain⟨a1,a2⟩:=yar hf hl
 refine⟨fun k'=>?_,fun k' j hj=>?_,fun y hy=>?_⟩
 ·by_cases he:k'=k
  ·subst he;rw[yae];show(cur.set lo _).map Prod.fst=_;rw[List.map_set,←hf];apply List.ext_getElem sM;intro i h1 h2;by_cases hi:lo=i
   ·subst hi;simp[List.getD_eq_getElem?_getD,hl]
   simp[hi]
  rw[yas he];exact h.facts k'
 ·by_cases he:k'=k
  ·subst he;rw[yae]at hj ⊢;have hjc:j<cur.length:=by simpa using hj
   clear hj;show 0≤((cur.set lo _).getD j default).2∧ya (fun y=>y.load==((cur.set lo _).getD j default).1.number) _+((cur.set lo _).getD j default).2=((cur.set lo _).getD j default).1.aT;have h1:0≤(cur.getD j default).2:=(hL j hjc).1;have h2:ya (fun x=>x.load==(cur.getD j default).1.number) out+(cur.getD j default).2=(cur.getD j default).1.aT:=(hL j hjc).2;by_cases hi:j=lo
   ·subst hi;rw[show(cur.set j ((cur.getD j default).1,(cur.getD j default).2 - x.iZ)).getD j default=((cur.getD j default).1,(cur.getD j default).2 - x.iZ) by rw[List.getD_eq_getElem?_getD,List.getElem?_set_self hjc];rfl];dsimp only;rw[yaf,h0,BEq.rfl];dsimp only [cond_true];omega
   rw[show(cur.set lo ((cur.getD lo default).1,(cur.getD lo default).2 - x.iZ)).getD j default=cur.getD j default by rw[List.getD_eq_getElem?_getD,List.getElem?_set_ne (Ne.symm hi),List.getD_eq_getElem?_getD]];obtain⟨b1,b2⟩:=yar hf hjc;have fJ:(cur.getD lo default).1.number≠(cur.getD j default).1.number:=fun hn=>by rw[a2,b2]at hn;exact hi (hU.one _ _ _ _ a1 b1 hn).2.symm
   rw[yaf,h0,beq_eq_false_iff_ne.2 fJ];exact⟨h1,by show _+0+_=_;omega⟩
  rw[yas he]at hj ⊢;obtain⟨h1,h2⟩:=h.left k' j hj;obtain⟨b1,b2⟩:=yar (h.facts k') hj;have fJ:(cur.getD lo default).1.number≠((g k').2.getD j default).1.number:=fun hn=>by rw[a2,b2]at hn;exact he (hU.one _ _ _ _ a1 b1 hn).1.symm
  rw[yaf,h0,beq_eq_false_iff_ne.2 fJ];exact⟨h1,by show _+0+_=_;omega⟩
 ·rcases List.mem_append.1 hy with hy|hy
  ·exact h.lM y hy
  rw[List.mem_singleton.1 hy];exact hx
theorem yaU(g:bJ→Nat×List Room)(k:bJ)(v w:Nat×List Room):upd (upd g k v) k w=upd g k w:=by funext k';unfold upd;split <;> rfl
theorem ybm{L:bJ→List Fact}{M:Int}{n:Nat}(hU:LuD L){pt:Piece}{g:bJ→Nat×List Room}{out0:List Piece}{T:Int→Int}(hl:pt.load=0)(hpit:pt.dN=bs [])(cY:∃i:Nat,pt.cell=i∧i<n)(hm:pt.month=M){N:Nat}{fin:DS}:
  ∀fuel s,DJ pt N fin (fuel,s)→RiD L M n (upd g (kyS pt.aN) (s.lo,s.cur)) (out0++s.out)→(0≤s.p∧s.p≤s.v)→(∀c,ya (fun x=>x.cell==c) (out0++s.out)+(if c=pt.cell then s.v else 0)=T c)→
   RiD L M n (upd g (kyS pt.aN) (fin.lo,fin.cur)) (out0++fin.out)∧∀c,ya (fun x=>x.cell==c) (out0++fin.out)=T c:=by
 intro fuel
 induction fuel with
 |zero=>
  intro s h hr hp hT;by_cases hv:s.v>0
  ·obtain⟨k',e,_⟩:=h.step hv;omega
  have aCM:s=fin:=h.run;have h0:s.v=0:=by have:=h.v;dsimp only at this;omega
  subst aCM;refine⟨hr,fun c=>?_⟩;rw[←hT c,h0];split <;> omega
 |succ fuel ih=>
  intro s h hr hp hT;by_cases hv:s.v>0
  ·obtain⟨k',e,h'⟩:=h.step hv;obtain rfl:fuel=k':=oM;have hvv:=h.v;have hlen:=h.len;have hleft:=h.left s.lo (Nat.le_refl _);dsimp only at hvv hlen hleft;by_cases DR:s.lo<s.cur.length
   ·obtain⟨l1,l2⟩:=hleft oM;have hd:decide (s.lo<s.cur.length)=true:=decide_eq_true DR;have m1:=aLJ s.v (s.cur.getD s.lo default).2;have m2:=aLJ s.p (mm false s.v (s.cur.getD s.lo default).2);have hx:PcOK L M n ⟨pt.month,pt.cell,pt.aN,mm false s.v (s.cur.getD s.lo default).2,mm false s.p (mm false s.v (s.cur.getD s.lo default).2),(s.cur.getD s.lo default).1.number,(s.cur.getD s.lo default).1.dN⟩:=by refine⟨hm,cY,by show 0<mm false _ _;omega,by show 0≤mm false _ _∧mm false _ _≤mm false _ _;omega,.inr ?_⟩;have hf:=hr.facts (kyS pt.aN);rw[yae]at hf;obtain⟨a1,a2⟩:=yar hf DR;exact⟨_,bP a1,congrArg Fact.number a2.symm,congrArg Fact.dN a2.symm⟩
    have e1:aW ((s.cur.getD s.lo default).2 - mm false s.v (s.cur.getD s.lo default).2)=(s.cur.getD s.lo default).2 - mm false s.v (s.cur.getD s.lo default).2:=aG oM oM;have e2:aW (s.v - mm false s.v (s.cur.getD s.lo default).2)=s.v - mm false s.v (s.cur.getD s.lo default).2:=aG oM oM;have e3:aW (s.p - mm false s.p (mm false s.v (s.cur.getD s.lo default).2))=s.p - mm false s.p (mm false s.v (s.cur.getD s.lo default).2):=aG oM oM;have hs:=hr.some hU hx (lo':=bif aW ((s.cur.getD s.lo default).2 - mm false s.v (s.cur.getD s.lo default).2)==0 then s.lo+1 else s.lo) (yae g _ _) DR rfl (by show mm false _ _≤_;omega);rw[yaU]at hs;refine ih (a6 pt s) h' ?_ ?_ fun c=>?_
    ·unfold a6;rw[hd];dsimp only [cond_true];rw[e1]at hs ⊢;rw[←List.append_assoc];exact hs
    ·unfold a6;rw[hd];show 0≤aW _∧aW _≤aW _;rw[e2,e3];omega
    rw[←hT c];unfold a6;rw[hd];show ya _ (out0++(s.out++ [_]))+(if c=pt.cell then aW _ else 0)=_;rw[←List.append_assoc,yaf,e2];by_cases hc:c=pt.cell
    ·rw[if_pos hc,if_pos hc,hc,BEq.rfl];show _+mm false _ _+_=_;omega
    rw[if_neg hc,if_neg hc,show(pt.cell==c)=false from beq_eq_false_iff_ne.2 (Ne.symm hc)];show _+(0:Int)+0=_;omega
   have hd:decide (s.lo<s.cur.length)=false:=decide_eq_false DR;have m2:=aLJ s.p s.v;have hx:PcOK L M n ⟨pt.month,pt.cell,pt.aN,s.v,mm false s.p s.v,pt.load,pt.dN⟩:=
    ⟨hm,cY,hv,by show 0≤mm false _ _∧mm false _ _≤s.v;omega,.inl ⟨hl,hpit⟩⟩
   have hs:=hr.none hU hx hl (lo':=s.lo) (yae g _ _);rw[yaU]at hs;refine ih (a6 pt s) h' ?_ ?_ fun c=>?_
   ·unfold a6;rw[hd];dsimp only [cond_false];rw[←List.append_assoc];exact hs
   ·unfold a6;rw[hd];show 0≤aW _∧aW _≤aW _;rw[aG oM oM,aG oM oM];omega
   rw[←hT c];unfold a6;rw[hd];show ya _ (out0++(s.out++ [_]))+(if c=pt.cell then aW _ else 0)=_;rw[←List.append_assoc,yaf,aG oM oM];by_cases hc:c=pt.cell
   ·rw[if_pos hc,if_pos hc,hc,BEq.rfl];show _+s.v+_=_;omega
   rw[if_neg hc,if_neg hc,show(pt.cell==c)=false from beq_eq_false_iff_ne.2 (Ne.symm hc)];show _+(0:Int)+0=_;omega
  have aCM:s=fin:=by have:=h.run;rw[←this];exact(BD hv).symm
  have h0:s.v=0:=by have:=h.v;dsimp only at this;omega
  subst aCM;refine⟨hr,fun c=>?_⟩;rw[←hT c,h0];split <;> omega
theorem yac(e:mF)(r:List mF)(k:bJ):B1 (e::r) k=bif k==e.1 then e.2.1 else B1 r k:=by
 have sh:∀(l:List mF) (i:Nat),(fP l k (i+1)).map (·.2)=(fP l k i).map (·.2):=by
  intro l;induction l with
  |nil=>intro i;rfl
  |cons x r ih=>
   intro i;rw[fP,fP]
   cases k==x.1 with
   |true=>rfl
   |false=>exact ih (i+1)
 unfold B1;rw[fP]
 cases k==e.1 with
 |true=>rfl
 |false=>
  have:=sh r 0;show(match fP r k (0+1)with|some (_,e)=>e.2.1|none=>(0,[]))=(match fP r k 0 with|some (_,e)=>e.2.1|none=>(0,[]))
  cases h1:fP r k (0+1) <;> cases h2:fP r k 0 <;> rw[h1,h2]at this <;> simp_all
theorem yaF{k:bJ}:∀{E:List mF} {i j:Nat} {e:mF},fP E k i=some (j,e)→∃a b,E=a++e::b∧j=i+a.length∧e.1=k∧∀x∈a,(k==x.1)=false
 |[],_,_,_,h=>by cases h
 |x::r,i,j,e,h=>by
  rw[fP]at h
  cases hk:(k==x.1)with
  |true=>rw[hk]at h;obtain⟨rfl,rfl⟩:=Prod.mk.inj (Option.some.inj h);exact⟨[],r,rfl,rfl,(eq_of_beq hk).symm,fun y hy=>by cases hy⟩
  |false=>
   rw[hk]at h;obtain⟨a,b,rfl,hj,he,ha⟩:=yaF (E:=r) h;refine⟨x::a,b,rfl,by rw[hj,List.length_cons];omega,he,fun y hy=>?_⟩;rcases List.mem_cons.1 hy with rfl|hy
   ·exact hk
   exact ha y hy
theorem yaN{k:bJ}:∀{E:List mF} {i:Nat},fP E k i=none→∀x∈E,(k==x.1)=false
 |[],_,_,x,hx=>by cases hx
 |y::r,i,h,x,hx=>by
  rw[fP]at h
  cases hk:(k==y.1)with
  |true=>rw[hk]at h;cases h
  |false=>
   rw[hk]at h;rcases List.mem_cons.1 hx with rfl|hx
   ·exact hk
   exact yaN h x hx
theorem yay{k:bJ}(b:List mF):∀(a:List mF),(∀x∈a,(k==x.1)=false)→B1 (a++b) k=B1 b k
 |[],_=>rfl
 |x::r,h=>by rw[List.cons_append,yac,h x (List.mem_cons_self),cond_false];exact yay b r fun y hy=>h y (List.mem_cons_of_mem _ hy)
theorem yaB{k k':bJ}{x y:mF}(b:List mF)(hx:x.1=k)(hy:y.1=k)(hk:k'≠k):∀(a:List mF),B1 (a++x::b) k'=B1 (a++y::b) k'
 |[]=>by have h:(k'==k)=false:=beq_eq_false_iff_ne.2 hk;rw[List.nil_append,List.nil_append,yac,yac,hx,hy,h];rfl
 |z::r=>by rw[List.cons_append,List.cons_append,yac,yac,yaB b hx hy hk r]
theorem yaI(E:List mF)(k:bJ)(v:Nat×List Room):B1 (aAS E k v)=upd (B1 E) k v:=by
 funext k';unfold aAS
 cases hf:fP E k 0 with
 |none=>
  have hn:=yaN hf;by_cases he:k'=k
  ·subst he;rw[yae];show B1 (E++ [(k',v,E.length)]) k'=v;rw[yay _ _ hn,yac,BEq.rfl];rfl
  rw[yas he];show B1 (E++ [(k,v,E.length)]) k'=B1 E k';have:∀a:List mF,B1 (a++ [(k,v,E.length)]) k'=B1 a k':=by
   intro a;induction a with
   |nil=>rw[List.nil_append,yac,show(k'==k)=false from beq_eq_false_iff_ne.2 he];rfl
   |cons x r ih=>rw[List.cons_append,yac,yac,ih]
  exact this E
 |some p=>
  obtain⟨i,e⟩:=p;obtain⟨a,b,rfl,hi,hek,ha⟩:=yaF hf;obtain rfl:i=a.length:=oM;show B1 ((a++e::b).modify a.length fun e=>(e.1,v,e.2.2)) k'=_;have hm:(a++e::b).modify a.length (fun e=>(e.1,v,e.2.2))=a++(e.1,v,e.2.2)::b:=by
   clear hf ha hi;induction a with
   |nil=>rfl
   |cons x r ih=>simpa [List.modify_succ_cons]using ih
  rw[hm];by_cases he:k'=k
  ·subst he;rw[yae,yay _ _ ha,yac,←hek,BEq.rfl];rfl
  rw[yas he];exact yaB (x:=(e.1,v,e.2.2)) (y:=e) b hek hek he a
theorem ybv(g:bJ→Nat×List Room)(k:bJ):upd g k ((g k).1,(g k).2)=g:=by
 funext k';unfold upd;split
 ·rename_i h;rw[h]
 rfl
theorem ybn{L:bJ→List Fact}{M:Int}{n:Nat}(hU:LuD L){p:Proj}{i:Nat}{x:Part}{s:PS}(hi:i<n)(h:RiD L M n (B1 s.1) s.2)(hg:wB (B1 s.1 (kyS x.aN)))
  (hv:0<(bN p M i x).iZ∧(bN p M i x).iZ≤1000000000000000) (hp:0≤(bN p M i x).gV∧(bN p M i x).gV≤(bN p M i x).iZ):
  RiD L M n (B1 (oN p M i s x).1) (oN p M i s x).2∧∀c:Int,ya (fun y=>y.cell==c) (oN p M i s x).2=ya (fun y=>y.cell==c) s.2+if c=(i:Int)then(bN p M i x).iZ else 0:=by
 have h1:=XH (pt:=bN p M i x) (n:=(B1 s.1 (kyS x.aN)).2.length) rfl hg.le (by have:=hg.few;omega) ⟨oM,hv.2⟩ hg.left
 have h2:=ybm (g:=B1 s.1) (out0:=s.2) (T:=fun c=>ya (fun y=>y.cell==c) s.2+if c=(i:Int)then(bN p M i x).iZ else 0) hU (pt:=bN p M i x) rfl rfl ⟨i,rfl,hi⟩ rfl _ _ h1 (by
  show RiD L M n (upd (B1 s.1) (kyS x.aN) ((B1 s.1 (kyS x.aN)).1,(B1 s.1 (kyS x.aN)).2)) (s.2++ []);rw[ybv,List.append_nil];exact h) hp (fun c=>by
  show ya _ (s.2++ [])+_=_;rw[List.append_nil];rfl)
 refine⟨?_,h2.2⟩
 show RiD L M n (B1 (aAS s.1 (kyS x.aN) _)) (s.2++_)
 rw[yaI]
 exact h2.1
def thk:List Part→Int
 |[]=>0
 |x::r=>(x.top - x.bot)+thk r
theorem yaT(b:List Part):∀a,thk (a++b)=thk a+thk b
 |[]=>by show thk b=0+_;omega
 |x::r=>by show _+thk (r++b)=_+thk r+_;rw[yaT b r];omega
theorem yav(x y:Int):mm true x y=max x y:=by unfold mm;simp only;split <;> omega
theorem ybe{l:List sC}{hi lo:Int}(h:lo≤hi)(hd:∀i,i+1<l.length→(l.getD (i+1) default).top<(l.getD i default).top):
  ∀n,n<l.length→thk (nL l hi lo (n+1))=hi - min hi (FM l lo n):=by
 intro n
 induction n with
 |zero=>
  intro h0;rw[ZC];show thk ([]++(X8 l hi lo 0).toList)=_;unfold X8 C4;show thk ([]++(bif decide (hi>FM l lo 0)then some (⟨(l.getD 0 default).aN,hi,FM l lo 0⟩:Part)else none).toList)=_;by_cases hb:hi>FM l lo 0
  ·rw[decide_eq_true hb];show(hi - FM l lo 0)+0=_;omega
  rw[decide_eq_false hb];show(0:Int)=_;omega
 |succ n ih=>
  intro hn;rw[ZC,yaT,ih oM];have ht:C4 l hi (n+1)=min hi (l.getD (n+1) default).top:=by unfold C4;rw[decide_eq_true oM];exact aLJ _ _
  have hb0:FM l lo n=max lo (l.getD (n+1) default).top:=by unfold FM;rw[decide_eq_true oM];exact yav _ _
  have hb1:FM l lo (n+1)=lo∨∃t,t<(l.getD (n+1) default).top∧FM l lo (n+1)=max lo t:=by
   unfold FM;by_cases hc:n+1+1<l.length
   ·rw[decide_eq_true oM];exact .inr ⟨_,hd (n+1) hc,yav _ _⟩
   rw[decide_eq_false oM];exact .inl rfl
  unfold X8;rw[ht,hb0];generalize FM l lo (n+1)=b at hb1;generalize (l.getD (n+1) default).top=t at hb1;by_cases hc:min hi t>b
  ·rw[decide_eq_true hc];show _+((min hi t - b)+0)=_;rcases hb1 with hb1|⟨u,h1,h2⟩ <;> omega
  rw[decide_eq_false hc];show _+(0:Int)=_;rcases hb1 with hb1|⟨u,h1,h2⟩ <;> omega
theorem ybp{s:List lI}{b:fS}(h:vN s b=0):0<b.bB.length∧∀i,i+1<b.bB.length→(b.bB.getD (i+1) default).top<(b.bB.getD i default).top:=by unfold vN at h;obtain⟨_,h⟩:=dF dC h;obtain⟨h1,h⟩:=dF dC h;obtain⟨_,h⟩:=dF dC h;refine⟨by simp at h1;exact List.length_pos_iff.2 h1,fun i hi=>?_⟩;have h2:=lQ h (i+1) (Nat.zero_le _) oM;unfold sL at h2;obtain⟨_,h2⟩:=dF dC h2;obtain⟨h2,_⟩:=dF dC h2;rw[decide_eq_true oM]at h2;simpa using h2
theorem ybw{g:Ground}(h:dX g=0){b:fS}(hb:b∈g.cC):vN g.bK b=0:=by unfold dX at h;obtain⟨_,h⟩:=dU h;obtain⟨_,h⟩:=dF dC h;obtain⟨_,h⟩:=dF dC h;obtain⟨i,hi,rfl⟩:=List.getElem_of_mem hb;have h2:=lQ h i (Nat.zero_le _) oM;unfold uC at h2;obtain⟨_,h2⟩:=dF dC h2;obtain⟨_,h2⟩:=dF dC h2;rw[aX hi]at h2;exact h2
theorem ybd{p:Proj}(hv:PV p){i:Nat}(hi:i<p.aT.levels.length){a b:Int}(ha: -20000≤a∧a≤20000)(hb: -20000≤b∧b≤20000)(h:b≤a):thk (vP p.gr (dP p.aT i) a b)=a - b:=by
 have hg:=(RY hv.gv hi).1;have he:FQ p.gr (dP p.aT i) a b=0:=by
  have e1:FN p.gr (dP p.aT i) [a,b]=0:=by unfold FN;rw[hv.gr,hg];have w1:=within_iff.2 ha;have w2:=within_iff.2 hb;simp[L2,w1,w2]
  unfold FQ;rw[e1,decide_eq_false oM];rfl
 unfold vP;rw[he];show thk (nL _ a b _)=_;obtain⟨h1,h2⟩:=ybp (ybw hv.gr (aIO (c:=dP p.aT i) (EX hv.gr).1));generalize (uD p.gr (dP p.aT i)).bB=l at h1 h2;obtain⟨n,hn⟩:∃n,l.length=n+1:=⟨l.length - 1,oM⟩;rw[hn,ybe h h2 n oM];have:FM l b n=b:=by unfold FM;rw[decide_eq_false oM];rfl
 rw[this];omega
theorem yaR{p:Proj}{m:Int}{i:Nat}{x:Part}(hv:PV p)(hx:AQ x):(bN p m i x).iZ=(x.top - x.bot)*dH p:=by obtain⟨a1,a2⟩:=aDT hv;have h1:=hx.lt;have h2:=hx.lo;have h3:=hx.hi;have h4:=Int.mul_nonneg (a:=x.top - x.bot) (b:=dH p) oM oM;have h5:(x.top - x.bot)*dH p≤40000*1000000:=Int.mul_le_mul oM a2 oM dC;show aW (aW (x.top - x.bot)*dH p)=_;rw[show aW (x.top - x.bot)=x.top - x.bot from aG oM oM,aG oM oM]
theorem ybh{p:Proj}(hv:PV p){i:Nat}(hi:i<p.aT.levels.length):P2 p i=30000∨(-20000≤P2 p i∧P2 p i≤20000):=by
 unfold P2;rw[yaX _ _ _ hi];unfold L0
 cases hd:(UI p.chan (dP p.aT i)).2 with
 |false=>exact .inl rfl
 |true=>have h1:=ybr hv.val (RY hv.gv hi).1 hd;have h2:=hv.val.over;refine .inr ?_;show -20000≤aW _∧aW _≤20000;rw[aG oM oM];omega
theorem yb{p:Proj}{m:Int}{i:Nat}{x:Part}(hv:PV p)(hi:i<p.aT.levels.length)(hx:AQ x):0≤(bN p m i x).gV∧(bN p m i x).gV≤(bN p m i x).iZ:=by
 obtain⟨a1,a2⟩:=aDT hv;have h1:=hx.lt;have h2:=hx.lo;have h3:=hx.hi;rw[yaR hv hx];have h4:=Int.mul_nonneg (a:=x.top - x.bot) (b:=dH p) oM oM;show 0≤(bif P2 p i !=30000 then aW (mm true 0 (aW (x.top - mm true x.bot (P2 p i)))*dH p)else 0)∧(bif P2 p i !=30000 then aW (mm true 0 (aW (x.top - mm true x.bot (P2 p i)))*dH p)else 0)≤_
 cases hl:(P2 p i !=30000)with
 |false=>exact⟨Int.le_refl _,h4⟩
 |true=>
  have hb:=ybh hv hi;have hl:P2 p i≠30000:=by simpa using hl
  show 0≤aW _∧aW _≤_;rw[yav,yav,aG (n:=x.top - max x.bot (P2 p i)) oM oM];have q1:=Int.mul_nonneg (a:=max 0 (x.top - max x.bot (P2 p i))) (b:=dH p) oM oM;have q2:=Int.mul_le_mul_of_nonneg_right (a:=max 0 (x.top - max x.bot (P2 p i))) (b:=x.top - x.bot) (c:=dH p) oM oM;have q3:(x.top - x.bot)*dH p≤40000*1000000:=Int.mul_le_mul oM a2 oM dC;rw[aG oM oM];exact⟨q1,q2⟩
structure MiD(L:bJ→List Fact)(p:Proj)(M:Int)(s:PS)(n:Nat):Prop where
 ri:RiD L M p.aT.levels.length (B1 s.1) s.2
 inv:D5 s n
theorem yaH{L:bJ→List Fact}{M:Int}(hU:LuD L){p:Proj}(hv:PV p){i:Nat}(hi:i<p.aT.levels.length):∀(xs:List Part) (s:PS) (n:Nat),MiD L p M s n→(∀x∈xs,AQ x)→
  MiD L p M (xs.foldl (oN p M i) s) (n+xs.length*201)∧∀c:Int,ya (fun y=>y.cell==c) (xs.foldl (oN p M i) s).2=ya (fun y=>y.cell==c) s.2+if c=(i:Int)then thk xs*dH p else 0
 |[],s,n,h,_=>⟨⟨h.ri,h.inv.more (Nat.le_add_right _ _)⟩,fun c=>by rw[List.foldl_nil];show _=_+if _ then(0:Int)*_ else 0;rw[Int.zero_mul,ite_self,Int.add_zero]⟩
 |x::r,s,n,h,hx=>by
  have hx0:=hx x (List.mem_cons_self);have h1:=ybn (M:=M) (i:=i) hU hi h.ri (YS h.inv.1) (BK (m:=M) (i:=i) hv hx0) (yb hv hi hx0);have hpv:=BK (m:=M) (i:=i) hv hx0;have h2:=KN (m:=M) (i:=i) (x:=x) h.inv ⟨oM,hpv.2⟩;obtain⟨h3,h4⟩:=yaH hU hv hi r _ _ ⟨h1.1,h2⟩ fun y hy=>hx y (List.mem_cons_of_mem _ hy)
  refine⟨⟨h3.ri,h3.inv.more (by rw[List.length_cons];omega)⟩,fun c=>?_⟩;rw[List.foldl_cons,h4 c,h1.2 c,yaR hv hx0];show _=_+if _ then(x.top - x.bot+thk r)*dH p else 0;rw[Int.add_mul];by_cases hc:c=(i:Int)
  ·rw[if_pos hc,if_pos hc,if_pos hc];omega
  rw[if_neg hc,if_neg hc,if_neg hc];omega
section
variable{l:List Fact}{f:Fact}(h0:f.kind=0)
include h0
end
def lv3(x:Int):Prop:=x=30000∨(-20000≤x∧x≤20000)
theorem yaj{n:Int}(h: -1000000≤n)(k:n≤1000000):aW n=n:=aG oM oM
theorem yaS{p:Proj}{fs:List Fact}(hS:SOK p fs)(hv:aBS fs)(m:Int){i:Nat}(hi:i<p.aT.levels.length):lv3 (fF p fs m i).1:=by
 have ha:=GD hv 0 m hi hS.shape;have hb:=GD hv 1 m hi hS.shape;have hc:=GD hv 2 m hi hS.shape;unfold fF;generalize lT fs 0 m i=a at ha;generalize lT fs 1 m i=b at hb;generalize lT fs 2 m i=c at hc;dsimp only
 cases h1:(a==30000)with
 |true=>exact hb
 |false=>
  have h1:a≠30000:=by simpa using h1
  cases h2:(b==30000)with
  |true=>exact ha
  |false=>
   have h2:b≠30000:=by simpa using h2
   cases decide (aW (mm true a b - mm false a b)≤p.agree)with
   |true=>show lv3 (aW (aW (Int.tdiv (aW (aW (aW (a+b)+40000)+1)) 2) - 20000));rw[yaj (n:=a+b) oM oM,yaj (n:=a+b+40000) oM oM,yaj (n:=a+b+40000+1) oM oM,Int.tdiv_eq_ediv_of_nonneg oM,yaj (n:=(a+b+40000+1) / 2) oM oM,yaj oM oM];exact .inr oM
   |false=>
    cases h3:(c==30000)with
    |true=>exact hc
    |false=>
     have h3:c≠30000:=by simpa using h3
     show lv3 (X4 a b c);unfold X4;rw[yav,aLJ,aLJ,yav];exact .inr oM
theorem yah{p:Proj}{fs:List Fact}(hp:PV p)(hS:SOK p fs)(hv:aBS fs){i:Nat}(hi:i<p.aT.levels.length):∀M,lv3 (iL p fs M i)
 |0=>by
  rw[iL]
  cases h:((fF p fs ((0:Nat):Int) i).1==30000)with
  |true=>exact hp.gv.lev _ (by rw[List.getD_eq_getElem?_getD,List.getElem?_eq_getElem hi];exact List.getElem_mem _)
  |false=>exact yaS hS hv _ hi
 |M+1=>by have h1:=yah hp hS hv hi M;have h2:=yaS hS hv ((M+1:Nat):Int) hi;rw[iL,aLJ];unfold lv3 at*;omega
theorem yaP(p:Proj)(fs:List Fact)(M i:Nat):iL p fs (M+1) i≤iL p fs M i:=by rw[iL,aLJ];omega
def mvF(p:Proj)(fs:List Fact)(M i:Nat):Int:=bif iL p fs (M - 1) i==30000 then 0 else(iL p fs (M - 1) i - iL p fs M i)*dH p
theorem yba{L:bJ→List Fact}{p:Proj}{fs:List Fact}{M:Nat}(hU:LuD L)(hp:PV p)(hS:SOK p fs)(hv:aBS fs)(hM:1≤M){E:List mF}(hE:MiD L p M (E,[]) 0):∀i,i≤p.aT.levels.length→
  MiD L p M (EE p fs M E i) (i*2412)∧∀c:Int,ya (fun y=>y.cell==c) (EE p fs M E i).2=if 0≤c∧c<i then mvF p fs M c.toNat else 0
 |0,_=>by refine⟨⟨hE.ri,hE.inv.more (Nat.zero_le _)⟩,fun c=>?_⟩;rw[if_neg oM];rfl
 |i+1,hi=>by
  obtain⟨h1,h2⟩:=yba hU hp hS hv hM hE i oM;have b1:=yah hp hS hv (show i<p.aT.levels.length by omega) (M - 1);have b2:=yah hp hS hv (show i<p.aT.levels.length by omega) M;have hle:iL p fs M i≤iL p fs (M - 1) i:=by have:=yaP p fs (M - 1) i;rw[show M - 1+1=M by omega]at this;exact this
  rw[GY];unfold wZ;have key:∀c:Int,(if 0≤c∧c<((i+1:Nat):Int)then mvF p fs M c.toNat else 0)=(if 0≤c∧c<(i:Int)then mvF p fs M c.toNat else 0)+if c=(i:Int)then mvF p fs M i else 0:=fun c=>by
   by_cases hc:c=(i:Int)
   ·subst hc;rw[if_pos oM,if_neg oM,if_pos rfl,Int.toNat_natCast,Int.zero_add]
   rw[if_neg hc,Int.add_zero];by_cases JA:0≤c∧c<(i:Int)
   ·rw[if_pos oM,if_pos JA]
   rw[if_neg oM,if_neg JA]
  unfold mvF at key
  cases hg:(iL p fs (M - 1) i==30000||decide (iL p fs M i≥iL p fs (M - 1) i))with
  |true=>
   refine⟨⟨h1.ri,h1.inv.more oM⟩,fun c=>?_⟩;show ya _ (EE p fs M E i).2=_;unfold mvF at h2 ⊢;rw[key,h2];have:(bif iL p fs (M - 1) i==30000 then(0:Int)else(iL p fs (M - 1) i - iL p fs M i)*dH p)=0:=by
    cases h3:(iL p fs (M - 1) i==30000)with
    |true=>rfl
    |false=>
     rw[h3]at hg;have hg:iL p fs M i≥iL p fs (M - 1) i:=by simpa using hg
     rw[show iL p fs (M - 1) i - iL p fs M i=0 by omega];show(0:Int)*_=0;exact Int.zero_mul _
   rw[this,ite_self,Int.add_zero]
  |false=>
   simp only [Bool.or_eq_false_iff,beq_eq_false_iff_ne,decide_eq_false_iff_not]at hg;unfold lv3 at b1 b2;have h3:=ybd hp (show i<p.aT.levels.length by omega) (a:=iL p fs (M - 1) i) (b:=iL p fs M i) oM oM hle;have h4:=I6 (c:=dP p.aT i) (hi:=iL p fs (M - 1) i) (lo:=iL p fs M i) hp;obtain⟨h5,h6⟩:=yaH hU hp (show i<p.aT.levels.length by omega) (vP p.gr (dP p.aT i) (iL p fs (M - 1) i) (iL p fs M i)) _ _ h1 fun x hx=>D7 hx
   refine⟨⟨h5.ri,h5.inv.more oM⟩,fun c=>?_⟩;show ya _ (List.foldl _ (EE p fs M E i) _).2=_;unfold mvF at h2 ⊢;rw[key,h6 c,h2,h3,beq_eq_false_iff_ne.2 hg.1];rfl
theorem ybi{l:List Fact}(hv:∀f∈l,fR f=0):∀f∈cntF l,f.kind=1→1≤f.number∧1≤f.month:=by
 intro f hf hk;obtain⟨k,_,_,g,hg,rfl,_⟩:=N4 hv hf;have hk:g.kind=1:=hk;have hz:=kN (hv g hg);have h1:=within_iff.1 (mQ hz.2 (by rw[hk];rfl)).1.1;have e1:(jE g).month=g.month:=by unfold jE;rw[hk];rfl
 have e2:(jE g).number=g.number:=by unfold jE fW;simp[hk]
 rw[e1,e2];have h2:=hz.1;unfold nZ cK at h2;rw[hk]at h2
 cases hw:within g.number 1 1000000 with
 |true=>exact⟨(within_iff.1 hw).1,h1.1⟩
 |false=>rw[hw]at h2;cases h2
def stE(e:Rm.gL):mF:=(e.1,(0,e.2.1),e.2.2)
theorem yai(E:List Rm.gL):qD E=E.map stE:=rfl
theorem yaG(k:bJ):∀(E:List Rm.gL) (i:Nat),fP (qD E) k i=(Rm.fE E k i).map fun x=>(x.1,stE x.2)
 |[],_=>rfl
 |e::r,i=>by
  show(bif k==e.1 then some (i,stE e)else fP (qD r) k (i+1))=_;rw[Rm.fE,yaG k r (i+1)]
  cases k==e.1 <;> rfl
theorem ya0(E:List Rm.gL)(k:bJ)(t:Room):qD (Rm.o6 E k t)=aAS (qD E) k (0,(B1 (qD E) k).2++ [t]):=by
 have h:=yaG k E 0;unfold Rm.o6 aAS B1
 cases hf:Rm.fE E k 0 with
 |none=>rw[hf]at h;have h:fP (qD E) k 0=none:=h;rw[h];show qD (E++ [(k,[t],E.length)])=qD E++ [(k,(0,[]++ [t]),(qD E).length)];rw[yai,yai,List.map_append,List.length_map];rfl
 |some x=>
  obtain⟨i,e⟩:=x;rw[hf]at h;have h:fP (qD E) k 0=some (i,stE e):=h;rw[h];obtain⟨_,h2,_⟩:=NQ h;have h2:(qD E)[i]? =some (stE e):=h2;rw[yai,List.getElem?_map]at h2;show qD (E.modify i fun e=>(e.1,e.2.1++ [t],e.2.2))=(qD E).modify i fun y=>(y.1,(0,e.2.1++ [t]),y.2.2)
  rw[yai,yai];apply List.ext_getElem?;intro j;rw[List.getElem?_map,List.getElem?_modify,List.getElem?_modify,List.getElem?_map];by_cases hj:i=j
  ·subst hj
   cases hE:E[i]? with
   |none=>rw[hE]at h2;cases h2
   |some y=>rw[hE]at h2;have h2:stE y=stE e:=Option.some.inj h2;have h3:y.2.1=e.2.1:=congrArg (fun z:mF=>z.2.1.2) h2;simp[stE,h3]
  simp[hj]
def ldK(H:List Fact)(m:Int)(k:bJ):List Fact:=H.filter fun f=>f.month==m&&Rm.kS f==k
theorem yaK(H:List Fact)(m:Int)(k:bJ):∀i,i≤H.length→B1 (qD (Rm.kU H m i)) k=(0,(ldK (H.take i) m k).map fun f=>(f,f.aT))
 |0,_=>rfl
 |i+1,hi=>by
  have ih:=fun k'=>yaK H m k' i oM
  have bC:i<H.length:=oM;have ht:H.take (i+1)=H.take i++ [H.getD i default]:=by rw[List.take_add_one,List.getElem?_eq_getElem bC,aX bC];rfl
  rw[Rm.DW bC,ht];unfold Rm.KM ldK;rw[List.filter_append,List.map_append];clear ht;generalize H.getD i default=f
  cases hm:(f.month==m)with
  |false=>
   have:([f].filter fun x=>x.month==m&&Rm.kS x==k)=[]:=by simp[hm]
   rw[this];show B1 (qD (Rm.kU H m i)) k=_;rw[ih k];exact congrArg (Prod.mk 0) (List.append_nil _).symm
  |true=>
   show B1 (qD (Rm.o6 _ _ _)) k=_;rw[ya0,yaI];by_cases hk:k=Rm.kS f
   ·subst hk;rw[yae,ih];have:([f].filter fun x=>x.month==m&&Rm.kS x==Rm.kS f)=[f]:=by simp[hm]
    rw[this];rfl
   rw[yas hk,ih k];have:([f].filter fun x=>x.month==m&&Rm.kS x==k)=[]:=by have:(Rm.kS f==k)=false:=beq_eq_false_iff_ne.2 (Ne.symm hk);simp[this]
   rw[this];exact congrArg (Prod.mk 0) (List.append_nil _).symm
theorem yak{H:List Fact}{m:Int}{k:bJ}{f:Fact}(h:f∈ldK H m k):f∈H∧f.month=m∧Rm.kS f=k:=by obtain⟨h1,h2⟩:=List.mem_filter.1 h;simp only [Bool.and_eq_true,beq_iff_eq]at h2;exact⟨h1,h2.1,h2.2⟩
theorem ybE{H:List Fact}(hp:H.Pairwise fun a b=>a.number≠b.number){a b:Fact}(ha:a∈H)(hb:b∈H)(h:a.number=b.number):a=b:=by
 obtain⟨i,hi,rfl⟩:=List.getElem_of_mem ha;obtain⟨j,hj,rfl⟩:=List.getElem_of_mem hb;have:=List.pairwise_iff_getElem.1 hp;rcases Nat.lt_trichotomy i j with e|e|e
 ·exact absurd h (this i j hi hj e)
 ·subst e;rfl
 exact absurd h.symm (this j i hj hi e)
theorem ybB{H:List Fact}{m:Int}(hp:H.Pairwise fun a b=>a.number≠b.number)(h1:∀f∈H,1≤f.number):LuD (ldK H m) where
 one k k' j j' hj qR h:=by
  have a:=yak (bP hj);have b:=yak (bP qR);have e:=ybE hp a.1 b.1 h;have ek:k=k':=by rw[←a.2.2,←b.2.2,e]
  subst ek;have hq:(ldK H m k).Pairwise fun a b=>a.number≠b.number:=hp.filter _
  have:=List.pairwise_iff_getElem.1 hq;rw[aX hj,aX qR]at h;refine⟨rfl,?_⟩;rcases Nat.lt_trichotomy j j' with e|e|e
  ·exact absurd h (this j j' hj qR e)
  ·exact e
  exact absurd h.symm (this j' j qR hj e)
 pos k f hf:=h1 f (yak hf).1
theorem yaz(p:Proj)(S:List Fact):∀k,k≤S.length→((iM p S k).1).Sublist (S.take k)
 |0,_=>List.Sublist.refl _
 |k+1,hk=>by
  have ih:=yaz p S k oM;have y5:k<S.length:=oM;have ht:S.take (k+1)=S.take k++ [S.getD k default]:=by rw[List.take_add_one,List.getElem?_eq_getElem y5,aX y5];rfl
  rw[iM,ht]
  cases(oS (iM p S k).2 (zC (S.getD k default)) (S.getD k default).dN==0)with
  |true=>exact ih.append (List.Sublist.refl _)
  |false=>exact ih.trans (List.sublist_append_left _ _)
structure PcsOK(p:Proj)(fs:List Fact)(M:Nat):Prop where
 lM:∀x∈G3 p fs M,PcOK (ldK (yad p fs M).1 M) M p.aT.levels.length x
 load:∀k,∀f∈ldK (yad p fs M).1 M k,ya (fun x=>x.load==f.number) (G3 p fs M)≤f.aT
 cell:∀c:Nat,c<p.aT.levels.length→ya (fun x=>x.cell==(c:Int)) (G3 p fs M)=mvF p fs M c
theorem yaJ{p:Proj}{l:List Fact}{M:Nat}(hk:FOK p l)(hM:1≤M):PcsOK p (cntF l) M:=by
 have hp:=PV.of hk.proj;have hS:=x4 hk;have hv:=aGB hk.fmt;have fQ:=yaz p (j8 (cntF l) M) (j8 (cntF l) M).length (Nat.le_refl _);rw[List.take_length]at fQ;have fQ:(yad p (cntF l) M).1.Sublist (j8 (cntF l) M):=fQ;have kK:∀f∈(yad p (cntF l) M).1,f∈cntF l∧f.kind=1∧f.month≤M:=fun f hf=>aAN (fQ.subset hf)
 have fJ:(yad p (cntF l) M).1.Pairwise fun a b=>a.number≠b.number:=by refine List.Pairwise.sublist fQ ((List.mergeSort_perm _ _).symm.pairwise ?_ fun h=>h.symm);unfold tO;refine List.Pairwise.imp_of_mem ?_ ((ybq hk.fmt).filter _);intro a b ha hb h;have ha:=(List.mem_filter.1 ha).2;have hb:=(List.mem_filter.1 hb).2;simp only [Bool.and_eq_true,beq_iff_eq]at ha hb;exact h ha.1 hb.1
 have hU:=ybB (m:=M) fJ fun f hf=>(ybi hk.fmt f (kK f hf).1 (kK f hf).2.1).1
 have hbed:∀f∈(yad p (cntF l) M).1,1≤f.aT∧f.aT≤1000000000000:=fun f hf=>aNV hk.fmt f (kK f hf).1 (kK f hf).2.1
 have hlen:(yad p (cntF l) M).1.length≤200:=Nat.le_trans fQ.length_le (by
  have h2:(j8 (cntF l) M).length≤(cntF l).length:=by unfold j8;rw[A5];exact List.length_filter_le _ _
  have:=hS.len;omega)
 have jO:=fun k=>yaK (yad p (cntF l) M).1 M k (yad p (cntF l) M).1.length (Nat.le_refl _)
 rw[List.take_length]at jO;have hpc:G3 p (cntF l) M=(EE p (cntF l) M (qD (Rm.kU (yad p (cntF l) M).1 M (yad p (cntF l) M).1.length)) p.aT.levels.length).2:=rfl;generalize hH:(yad p (cntF l) M).1=H at*;have hE:MiD (ldK H M) p M (qD (Rm.kU H M H.length),[]) 0:=by
  refine⟨⟨fun k=>?_,fun k j hj=>?_,fun x hx=>by cases hx⟩,O1 hbed hlen,Nat.le_refl _⟩
  ·show(B1 (qD (Rm.kU H M H.length)) k).2.map Prod.fst=_;rw[jO k,List.map_map];exact List.map_id _
  show 0≤((B1 (qD (Rm.kU H M H.length)) k).2.getD j default).2∧0+((B1 (qD (Rm.kU H M H.length)) k).2.getD j default).2=((B1 (qD (Rm.kU H M H.length)) k).2.getD j default).1.aT;have hj:j<(B1 (qD (Rm.kU H M H.length)) k).2.length:=hj;rw[jO k]at hj ⊢;have qR:j<(ldK H M k).length:=by simpa using hj
  have e:((ldK H M k).map fun f=>(f,f.aT)).getD j default=((ldK H M k).getD j default,((ldK H M k).getD j default).aT):=by rw[List.getD_eq_getElem?_getD,List.getElem?_map,List.getElem?_eq_getElem qR,aX qR];rfl
  show 0≤(((ldK H M k).map fun f=>(f,f.aT)).getD j default).2∧0+(((ldK H M k).map fun f=>(f,f.aT)).getD j default).2=(((ldK H M k).map fun f=>(f,f.aT)).getD j default).1.aT;rw[e];have:=hbed _ (yak (bP qR)).1;exact⟨by show 0≤Fact.aT _;omega,Int.zero_add _⟩
 obtain⟨h1,h2⟩:=yba hU hp hS hv hM hE p.aT.levels.length (Nat.le_refl _);rw[←hpc]at h2;refine⟨by rw[hpc,hH];exact h1.ri.lM,fun k f hf=>?_,fun c hc=>?_⟩
 ·rw[hH]at hf;have hfa:=h1.ri.facts k;obtain⟨j,hj,rfl⟩:=List.getElem_of_mem hf;have hj2:j<((B1 (EE p (cntF l) M (qD (Rm.kU H M H.length)) p.aT.levels.length).1 k).2).length:=by rw[←hfa,List.length_map]at hj;exact hj
  obtain⟨a1,a2⟩:=h1.ri.left k j hj2;obtain⟨_,b2⟩:=yar hfa hj2;rw[b2,aX hj]at a2;rw[←hpc]at a2;omega
 rw[h2 c,if_pos oM,Int.toNat_natCast]
open Go Go.Ax Go.Ch Go.Proofs Go.Proofs.Tryz
theorem ya2(p:Proj)(l:List Fact)(M:Nat)(hp:p.fits)(hf:∀f∈l,f.fits)(hl:l.length≤9223372036854775807)(he:j6 p l M 1=0):
  aF prog 11 [oR p,cJ l,vI M] (.t [.s (.d (WR (G3 p (cntF l) M))),.s (.d (dI 0))]):=by
 obtain⟨hk,hw⟩:=tL he
 have hw:=within_iff.1 hw
 have hS:=x4 hk
 have hP:=(aE6 (M:=M) hp hk ⟨oM,oM⟩ (ZR.gen hk M)).1
 refine eP func11 rfl rfl call11 rfl rfl fun cx aA=>?_
 refine aB (MP p l M 1 hp hf hl he) ?_
 refine aI (fun h=>by cases h) (fun _=>?_)
 refine aB (lowest p (cntF l) M hS oM) ?_
 refine aB (hP) ?_
 refine aD ?_
 exact aC.refl _
def ldC(m:Int)(x:Piece)(sum:Int)(f:Fact):Bool:=f.kind==1&&f.number==x.load&&f.month==m&&bE f.aN x.aN&&bE f.dN x.dN&&decide (sum≤f.aT)
structure LdH(c:List Fact)(m:Int)(xs:List Piece):Prop where
 iZ:∀x∈xs,0<x.iZ
 told:∀x∈xs,x.load≠0→ya (fun y=>y.load==x.load) xs≤1000000000000∧c.any (ldC m x (ya (fun y=>y.load==x.load) xs))=true
theorem yaD{q:Piece→Bool}{xs:List Piece}(hv:∀x∈xs,0<x.iZ):∀k,k≤xs.length→0≤ya q (xs.take k)∧ya q (xs.take k)≤ya q xs:=by
 have nn:∀l:List Piece,(∀x∈l,0<x.iZ)→0≤ya q l:=by
  intro l;induction l with
  |nil=>intro _;exact Int.le_refl _
  |cons x r ih=>
   intro h;have h1:=h x (List.mem_cons_self);have h2:=ih fun y hy=>h y (List.mem_cons_of_mem _ hy)
   show 0≤(bif q x then x.iZ else 0)+ya q r
   cases q x with
   |true=>show 0≤x.iZ+_;omega
   |false=>show 0≤(0:Int)+_;omega
 intro k _;have h1:=nn (xs.take k) fun x hx=>hv x (List.mem_of_mem_take hx)
 have h2:=nn (xs.drop k) fun x hx=>hv x (List.mem_of_mem_drop hx)
 have h3:=yaA q (xs.drop k) (xs.take k);rw[List.take_append_drop]at h3;omega
theorem yat{α:Type} [Inhabited α] {l:List α}{i:Nat}(h:i<l.length):l.take (i+1)=l.take i++ [l.getD i default]:=by rw[List.take_add_one,List.getElem?_eq_getElem h,aX h];rfl
abbrev ldS(c:List Fact)(xs:List Piece)(m:Int)(i:Nat)(r:List (Nat×AV)):St:=⟨[(0,cJ c),(1,iD xs),(2,vI m),(7,vI i)]++r,[]⟩
theorem ybC(c:List Fact)(xs:List Piece)(m:Int)(hc:c.length≤1000000)(hx:xs.length≤1000000)(h:LdH c m xs):aF prog 12 [cJ c,iD xs,vI m] (vB true):=by
 refine eW func12 rfl rfl call12 rfl rfl (fun cx aA=>?_);refine sX aA (AW.seq (sX aA ?_));refine AW.block (AW.cG (fun i:Nat=>ldS c xs m i []) (fun i=>i≤xs.length) (fun i=>xs.length - i) 0 (Nat.zero_le _) (aM.bD aA [] rfl trivial ⟨qZ,qZ,qZ,qZ,oO⟩) ?_);intro i hi;refine sX aA (aI (fun h1=>?_) (fun h1=>?_))
 ·have h1:(i:Int)<xs.length:=bG h1;have bC:i<xs.length:=oM;have ew:aW ((i:Int)+1)=((i+1:Nat):Int):=aG oM oM;have hxi:=h.told _ (bP bC);refine AW.seq (AW.block (sX aA ?_));refine oi ⟨oM,oM⟩ (aI (fun h2=>eX aA ⟨i+1,oM,oM,aM.bD aA [] rfl trivial ⟨qZ,qZ,qZ,⟨rfl,aU.int ew⟩,oO⟩⟩) (fun h2=>?_));have h2:((xs.getD i default).load==0)=false:=h2;obtain⟨hsum,T5⟩:=hxi (by simpa using h2);have hsm:=fun k hk=>yaD (q:=fun y=>y.load==(xs.getD i default).load) h.iZ k hk
  refine sX aA (AW.cut (σ':=ldS c xs m i [(8,vI (ya (fun y=>y.load==(xs.getD i default).load) xs))]) ?_ ?_)
  ·refine sX aA (AW.block ?_);refine AW.cG (fun k:Nat=>ldS c xs m i [(8,vI (ya (fun y=>y.load==(xs.getD i default).load) (xs.take k))),(9,vI k)]) (fun k=>k≤xs.length) (fun k=>xs.length - k) 0 (Nat.zero_le _) (aM.bD aA [] rfl trivial ⟨qZ,qZ,qZ,qZ,qZ,qZ,oO⟩) ?_;intro k hk;refine sX aA (aI (fun h3=>?_) (fun h3=>?_))
   ·have h3:(k:Int)<xs.length:=bG h3;have y5:k<xs.length:=oM;have ek:aW ((k:Int)+1)=((k+1:Nat):Int):=aG oM oM;have LC:=hsm k hk;have SH:=hsm (k+1) oM;have jO:ya (fun y=>y.load==(xs.getD i default).load) (xs.take (k+1))=ya (fun y=>y.load==(xs.getD i default).load) (xs.take k)+bif (xs.getD k default).load==(xs.getD i default).load then(xs.getD k default).iZ else 0:=by rw[yat y5,yaf]
    refine AW.seq (AW.block (eX aA ?_));refine oi ⟨oM,oM⟩ (oi ⟨oM,oM⟩ ?_);refine aD (aI (fun h4=>?_) (fun h4=>?_))
    ·have h4:((xs.getD k default).load==(xs.getD i default).load)=true:=h4;rw[h4,cond_true]at jO;have e5:aW (ya (fun y=>y.load==(xs.getD i default).load) (xs.take k)+(xs.getD k default).iZ)=ya (fun y=>y.load==(xs.getD i default).load) (xs.take (k+1)):=by rw[jO];exact aG oM oM
     refine oi ⟨oM,oM⟩ (eX aA ?_);exact⟨k+1,oM,oM,aM.bD aA [] rfl trivial ⟨qZ,qZ,qZ,qZ,⟨rfl,aU.int e5⟩,⟨rfl,aU.int ek⟩,oO⟩⟩
    have h4:((xs.getD k default).load==(xs.getD i default).load)=false:=h4;rw[h4,cond_false]at jO;exact eX aA ⟨k+1,oM,oM,aM.bD aA [] rfl trivial ⟨qZ,qZ,qZ,qZ,⟨rfl,aU.int (jO.trans (Int.add_zero _)).symm⟩,⟨rfl,aU.int ek⟩,oO⟩⟩
   have h3:¬(k:Int)<xs.length:=bF h3;obtain rfl:k=xs.length:=oM;rw[List.take_length];exact⟨rfl,aM.bD aA [] rfl trivial ⟨qZ,qZ,qZ,qZ,qZ,oO⟩⟩
  refine sX aA ?_;generalize hS:ya (fun y=>y.load==(xs.getD i default).load) xs=S at T5 hsum;refine AW.cut (σ':=ldS c xs m i [(10,vB true)]) ?_ ?_
  ·refine sX aA (AW.block ?_);refine AW.cG (fun k:Nat=>ldS c xs m i [(8,vI S),(10,vB ((c.take k).any (ldC m (xs.getD i default) S))),(11,vI k)]) (fun k=>k≤c.length) (fun k=>c.length - k) 0 (Nat.zero_le _) (aM.bD aA [] rfl trivial ⟨qZ,qZ,qZ,qZ,qZ,⟨rfl,aU.d fun _ _ r=>r⟩,qZ,oO⟩) ?_;intro k hk;refine sX aA (aI (fun h3=>?_) (fun h3=>?_))
   ·have h3:(k:Int)<c.length:=bG h3;have y5:k<c.length:=oM;have ek:aW ((k:Int)+1)=((k+1:Nat):Int):=aG oM oM;have jO:(c.take (k+1)).any (ldC m (xs.getD i default) S)=((c.take k).any (ldC m (xs.getD i default) S)||ldC m (xs.getD i default) S (c.getD k default)):=by rw[yat y5,List.any_append];simp
    refine AW.seq (AW.block (sX aA ?_));refine oi ⟨oM,oM⟩ (eX aA ?_);repeat refine aR ?_
    refine og (fun _=>⟨oM,oM⟩) ?_;repeat refine aR ?_
    refine og (fun _=>⟨oM,oM⟩) ?_;repeat refine aR ?_
    refine og (fun _=>⟨oM,oM⟩) ?_;repeat refine aR ?_
    refine aD (eX aA ?_);refine⟨k+1,oM,oM,?_⟩;exact aM.bD aA [] rfl trivial ⟨qZ,qZ,qZ,qZ,qZ,⟨rfl,aU.of_eq (by rw[jO];rfl)⟩,⟨rfl,aU.int ek⟩,oO⟩
   have h3:¬(k:Int)<c.length:=bF h3;obtain rfl:k=c.length:=oM;rw[List.take_length,T5];exact⟨rfl,aM.bD aA [] rfl trivial ⟨qZ,qZ,qZ,qZ,qZ,oO⟩⟩
  refine eX aA (aI (fun h3=>by cases h3) (fun _=>?_));exact eX aA ⟨i+1,oM,oM,aM.bD aA [] rfl trivial ⟨qZ,qZ,qZ,⟨rfl,aU.int ew⟩,oO⟩⟩
 exact eX aA (aC.refl _)
def yaa(p:Proj)(c:List Fact):Nat→Nat→Int
 |0,i=>iL p c 0 i
 |m+1,i=>bif yaa p c m i==30000 then iL p c (m+1) i else yaa p c m i
def smF(p:Proj)(c:List Fact):Nat→Nat→Int
 |0,_=>0
 |m+1,i=>smF p c m i+mvF p c (m+1) i
structure SmOK(p:Proj)(c:List Fact)(m i:Nat):Prop where
 lv:lv3 (yaa p c m i)
 le:iL p c m i≤yaa p c m i
 no:iL p c m i=30000→yaa p c m i=30000∧smF p c m i=0
 yes:iL p c m i≠30000→yaa p c m i≠30000∧smF p c m i=dH p*(yaa p c m i - iL p c m i)
theorem yaY{p:Proj}{c:List Fact}(hp:PV p)(hS:SOK p c)(hv:aBS c){i:Nat}(hi:i<p.aT.levels.length):∀m,SmOK p c m i
 |0=>by have h:=yah hp hS hv hi 0;exact⟨h,Int.le_refl _,fun e=>⟨e,rfl⟩,fun e=>⟨e,by show(0:Int)=dH p*(iL p c 0 i - iL p c 0 i);rw[Int.sub_self,Int.mul_zero]⟩⟩
 |m+1=>by
  have ih:=yaY hp hS hv hi m;have h1:=yah hp hS hv hi (m+1);have h2:=yah hp hS hv hi m;have hle:=yaP p c m i;have e1:yaa p c (m+1) i=bif yaa p c m i==30000 then iL p c (m+1) i else yaa p c m i:=rfl;have e2:smF p c (m+1) i=smF p c m i+bif iL p c m i==30000 then 0 else(iL p c m i - iL p c (m+1) i)*dH p:=rfl;by_cases h0:iL p c m i=30000
  ·obtain⟨a,b⟩:=ih.no h0;rw[a,show((30000:Int)==30000)=true from rfl,cond_true]at e1;rw[b,h0,show((30000:Int)==30000)=true from rfl,cond_true]at e2;exact⟨e1▸h1,by rw[e1];exact Int.le_refl _,fun e=>⟨e1.trans e,e2⟩,fun e=>⟨by rw[e1];exact e,by rw[e1,e2,Int.sub_self,Int.mul_zero];rfl⟩⟩
  obtain⟨a,b⟩:=ih.yes h0;rw[show(yaa p c m i==30000)=false by simpa using a,cond_false]at e1;rw[b,show(iL p c m i==30000)=false by simpa using h0,cond_false]at e2;have h4:=ih.le;unfold lv3 at h1 h2;exact⟨e1▸ih.lv,by rw[e1];omega,fun e=>by omega,fun _=>⟨by rw[e1];exact a,by rw[e1,e2,Int.mul_comm _ (dH p),←Int.mul_add];congr 1;omega⟩⟩
theorem ybc{p:Proj}{c:List Fact}(hp:PV p)(hS:SOK p c)(hv:aBS c){i:Nat}(hi:i<p.aT.levels.length)(m:Nat):0≤smF p c m i∧smF p c m i≤40000000000:=by
 have h:=yaY hp hS hv hi m;have ha:=aDT hp;have h1:=yah hp hS hv hi m;have h2:=h.lv;have h3:=h.le;unfold lv3 at h1 h2;by_cases h0:iL p c m i=30000
 ·rw[(h.no h0).2];exact⟨dC,dC⟩
 obtain⟨a,b⟩:=h.yes h0;rw[b];have k1:0≤yaa p c m i - iL p c m i:=oM;have k2:yaa p c m i - iL p c m i≤40000:=oM;exact⟨Int.mul_nonneg oM k1,by have:=Int.mul_le_mul ha.2 k2 k1 (by decide:(0:Int)≤1000000);omega⟩
theorem ybt{a b:ByteArray}(h:kyS a=kyS b):a=b:=by have h:a.data.toList=b.data.toList:=h;exact ByteArray.ext (Array.toList_inj.1 h)
theorem ybF{p:Proj}{l:List Fact}{M:Nat}(hk:FOK p l)(hM:1≤M):LdH (cntF l) M (G3 p (cntF l) M):=by
 have hP:=yaJ hk hM;have hS:=x4 hk;refine⟨fun x hx=>(hP.lM x hx).iZ,fun x hx h0=>?_⟩;rcases(hP.lM x hx).load with h|⟨f,hf,h1,h2⟩
 ·exact absurd h.1 h0
 have hl:=hP.load _ f hf;obtain⟨g1,g2,g3⟩:=yak hf;have fQ:=yaz p (j8 (cntF l) M) (j8 (cntF l) M).length (Nat.le_refl _);rw[List.take_length]at fQ;obtain⟨g4,g5,_⟩:=aAN (fQ.subset g1);have hb:=aNV hk.fmt f g4 g5;rw[←h1];refine⟨oM,List.any_eq_true.2 ⟨f,g4,?_⟩⟩;have hs:f.aN=x.aN:=ybt g3;unfold ldC;rw[h1]at hl;simp only [g5,g2,h1,hs,h2,bE,beq_self_eq_true,Bool.and_true,Bool.true_and,decide_eq_true_eq];exact hl
theorem ybf{p:Proj}{l:List Fact}{M:Nat}(hk:FOK p l)(hM:1≤M){x:Piece}(hx:x∈G3 p (cntF l) M):((x.load==0&&x.dN.toList==(bs []).toList)||((yad p (cntF l) M).1.map Fact.number).any fun n=>n==x.load)=true:=by
 rcases((yaJ hk hM).lM x hx).load with h|⟨f,hf,h1,h2⟩
 ·rw[h.1,h.2];simp
 have h3:((yad p (cntF l) M).1.map Fact.number).any (fun n=>n==x.load)=true:=List.any_eq_true.2 ⟨_,List.mem_map.2 ⟨f,(yak hf).1,h1⟩,beq_self_eq_true _⟩;rw[h3,Bool.or_true]
end Go.Pj
namespace Go.Ax
open Go.RowKit
abbrev yaL(b:Nat)(c:Nat×Nat):Value:=.slice (some ⟨b,0,none⟩) c.2 c.1
theorem AW.pin{P:Program}{cx:Cx}{N:Nat}{σ:St}{c:Code}{K:Exit→St→Prop}{e n s:Nat}{f:Nat→Nat→DV}(x:Nat)(hx:aH σ.box x=some (some (.row e n s f)))(aA:cx.ref=[])
  (h:∀(NY:Cx) b d,NY.ref=[x]→NY.β0 x=some (b,d)→d.2≤d.1→AW P NY N c σ fun q s=>∃s',aM NY N s s'∧K q s'):AW P cx N c σ K:=by
 intro M β a w i
 obtain⟨b,d,cur,h0,h1,h2,h3,h4,h5,h6⟩:=i.box x _ hx
 have nomw:∀k,¬cx.xC k:=fun k ⟨y,z,hy,_⟩=>by rw[aA]at hy;cases hy
 have hB:cx.B≤b:=(i.low x _ b d hx h0).resolve_right (nomw b)
 let NY:Cx:={cx with ref:=[x],β0:=fun y=>if y=x then some (b,d)else none}
 have hβ0:NY.β0 x=some (b,d):=if_pos rfl
 have mw:∀k,NY.xC k→k=b:=by
  rintro k ⟨y,z,hy,hz⟩;obtain rfl:y=x:=List.mem_singleton.1 hy;rw[hβ0]at hz
  cases hz
  rfl
 have hp:Hp NY w:=⟨i.heap.le,by obtain⟨bs,q1,q2⟩:=i.heap.tab;exact⟨bs,q1,fun g t m=>⟨(q2 g t m).1,fun hm=>by have:=mw g hm;have h9:g<cx.B:=(q2 g t m).1;omega⟩⟩⟩
 have i':Inv NY N M β σ a w:=⟨i.defers,i.tmps,hp,i.env,i.mem,i.keys,i.box,i.inj,i.apart,fun y bc b1 c1 g1 g2=>.inl ((i.low y bc b1 c1 g1 g2).resolve_right (nomw b1)),fun y hy=>by obtain rfl:y=x:=List.mem_singleton.1 hy;exact⟨h0.trans hβ0.symm,_,h0⟩⟩
 refine wpIn_mono (h NY b d rfl hβ0 (h2▸h4) M β a w i') ?_
 rintro q a' w' ⟨σ',M',β',⟨s',hs,hk⟩,i2,hg,lB⟩
 obtain⟨β2,i3⟩:=hs M' β' a' w' i2
 refine⟨s',M',β2,hk,⟨i3.defers,i3.tmps,⟨i3.heap.le,by obtain⟨bs,q1,q2⟩:=i3.heap.tab;exact⟨bs,q1,fun g t m=>⟨(q2 g t m).1,nomw g⟩⟩⟩,i3.env,i3.mem,i3.keys,i3.box,i3.inj,i3.apart,fun y bc b1 c1 g1 g2=>?_,fun y hy=>by rw[aA]at hy;cases hy⟩,hg,⟨lB.os,lB.tape,lB.output,lB.size,fun k hk1 TX=>lB.block k hk1 fun hm=>?_,lB.drawn⟩⟩
 ·rcases i3.low y bc b1 c1 g1 g2 with h|h
  ·exact .inl h
  exact .inl (by rw[mw b1 h];exact hB)
 ·have:=mw k hm;have h9:k<cx.B:=hk1;omega
theorem Inv.tied{cx:Cx}{N:Nat}{M:Mem}{β:Nm}{σ:St}{a:Act}{w:World}{x b:Nat}{d:Nat×Nat}(i:Inv cx N M β σ a w)(hm:cx.ref=[x])(h0:cx.β0 x=some (b,d)):β x=some (b,d):=
 ((i.ref x (by rw[hm];exact List.mem_singleton.2 rfl)).1).trans h0
theorem Inv.ybb{cx:Cx}{N:Nat}{M:Mem}{β:Nm}{σ:St}{a:Act}{w:World}(i:Inv cx N M β σ a w){y:Nat}{bx bx':jK}(hy:aH σ.box y=some (some bx))(hr:cN M β w y bx'){E:List (Nat×AV)}(hE:∀t,(fL E t).bI M β (a.tmps.getD t undef)):
  Inv cx N M β ⟨E,(y,some bx')::σ.box⟩ a w:=by
 have live:∀z bc,aH ((y,some bx')::σ.box) z=some (some bc)→∃bc,aH σ.box z=some (some bc):=by
  intro z bc h;rw[aL]at h;by_cases hz:y=z
  ·subst hz;exact⟨_,hy⟩
  rw[if_neg hz]at h;exact⟨_,h⟩
 refine⟨i.defers,i.tmps,i.heap,hE,i.mem,?_,?_,?_,?_,?_,i.ref⟩
 ·intro z p h;obtain⟨q,hq⟩:=i.keys z p h;show ∃y',aH ((y,_)::σ.box) z=some y';rw[aL];by_cases hz:y=z
  ·rw[if_pos hz];exact⟨_,rfl⟩
  rw[if_neg hz];exact⟨q,hq⟩
 ·intro z bc h;have h:aH ((y,some bx')::σ.box) z=some (some bc):=h;rw[aL]at h;by_cases hz:y=z
  ·subst hz;rw[if_pos rfl]at h
   cases h
   exact hr
  rw[if_neg hz]at h;exact i.box z bc h
 ·intro z z' bx bx' b1 c1 c2 e1 e2 k1 k2;obtain⟨_,e1⟩:=live _ _ e1;obtain⟨_,e2⟩:=live _ _ e2;exact i.inj z z' _ _ b1 c1 c2 e1 e2 k1 k2
 ·intro z bx b1 c1 e1 k1;obtain⟨_,e1⟩:=live _ _ e1;exact i.apart z _ b1 c1 e1 k1
 ·intro z bx b1 c1 e1 k1;obtain⟨_,e1⟩:=live _ _ e1;exact i.low z _ b1 c1 e1 k1
theorem aM.ybK{cx:Cx}{N:Nat}{σ:St}{cs:List SV}{x b:Nat}{d:Nat×Nat}(hm:cx.ref=[x])(h0:cx.β0 x=some (b,d))(y0 j:Nat)(hy0:aH σ.box y0=some (some (.cells cs)))(hj:cs[j]? =some (.own x)):
  aM cx N σ ⟨σ.env,(y0,some (.cells (cs.set j (.d (.val (yaL b d))))))::σ.box⟩:=by
 intro M β a w i
 have ht:=i.tied hm h0
 obtain⟨b0,c0,vs0,T0,us0,g0,g1,g2⟩:=i.box y0 _ hy0
 refine⟨β,i.ybb (bx':=.cells (cs.set j (.d (.val (yaL b d))))) hy0 ⟨b0,c0,vs0,T0,us0,g0,g1,g2.set hj ?_⟩ i.env⟩
 rintro v ⟨b1,c1,q1,rfl,q2⟩
 rw[ht]at q1
 cases q1
 rfl
theorem aM.ybH{cx:Cx}{N:Nat}{σ:St}{e s:Nat}{g:Nat→Nat→DV}{x b:Nat}{d:Nat×Nat}(hm:cx.ref=[x])(h0:cx.β0 x=some (b,d))(hd:d.2≤d.1)(t y j:Nat)(ht:fL σ.env t=.s (.own y))(hb:aH σ.box y=some (some (.row e 1 s g)))(hj:j<s)(hg:g 0 j=.val (yaL b d)):
  aM cx N σ ⟨(t,.s (.j0 y s 0 1))::σ.env,(y,some (.cells ((cellsOf 1 s g).set j (.own x))))::σ.box⟩:=by
 intro M β a w i
 have htie:=i.tied hm h0
 obtain⟨b1,c1,cur,k0,k1,k2,k3,k4,k5,k6⟩:=i.box y _ hb
 have hs:0<s:=oM
 have hle:1*s≤cur.size:=by rw[k3];exact Nat.mul_le_mul_right _ k4
 have hlen:(cellsOf 1 s g).length=1*s:=by unfold cellsOf;rw[List.length_map,List.length_range]
 refine⟨β,i.ybb (bx':=.cells ((cellsOf 1 s g).set j (.own x))) hb ⟨b1,c1,cur.toList.take (1*s),e,cur.toList.drop (1*s),k0,?_,?_⟩ fun u=>?_⟩
 ·rw[List.take_append_drop];exact k1
 ·refine cV.set (c:=.d (g 0 j)) (cV.ya9 ?_ fun k c' v hk hv=>?_) ?_ ?_
  ·rw[hlen,List.length_take,Array.length_toList];omega
  ·unfold cellsOf at hk;rw[List.getElem?_map]at hk;have fZ:k<1*s:=by have:=(List.getElem?_eq_some_iff.1 hv).1;rw[List.length_take]at this;omega
   rw[List.getElem?_range fZ]at hk;simp only [Option.map_some,Option.some.injEq]at hk;subst hk;rw[List.getElem?_take_of_lt fZ]at hv;obtain⟨u,hu,hr⟩:=k6 (k / s) (k%s) (Nat.div_lt_of_lt_mul (by rw[Nat.mul_comm];exact fZ)) (Nat.mod_lt _ hs);rw[Nat.mul_comm,Nat.div_add_mod]at hu;rw[Array.getElem?_toList]at hv;rw[hu]at hv
   cases hv
   exact hr
  ·unfold cellsOf;rw[List.getElem?_map,List.getElem?_range oM];simp[Nat.div_eq_of_lt hj,Nat.mod_eq_of_lt hj]
  intro v hv;have hv:(g 0 j).bI M v:=hv;rw[hg]at hv;have hv:v=yaL b d:=hv;exact⟨b,d,htie,hv,hd⟩
 ·show(fL ((t,_)::σ.env) u).bI M β _;rw[gP];by_cases hu:t=u
  ·rw[if_pos hu];subst hu;have:=i.env t;rw[ht]at this;obtain⟨b2,c2,q1,q2,q3⟩:=this;rw[k0]at q1
   cases q1
   exact⟨b1,c1,0,k0,by rw[q2,k2];rfl,fun _=>by simp,oM,oM⟩
  rw[if_neg hu];exact i.env u
end Go.Ax
namespace Go.Pj
open Go Go.Ax Go.Ch Go.Proofs Go.Proofs.Tryz
def lwZ(p:Proj)(fs:List Fact):Nat→St
 |0=>⟨[(2,.s (.ptr 2 0)),(5,.s (.d eO)),(12,vI (0+1:Nat)),(13,vI (0:Nat))],[(2,some (.cells (l0 p fs)))]⟩
 |_=>⟨[(2,.s (.ptr 2 0)),(5,.s (.j0 100 6 0 1)),(12,vI (0+1:Nat)),(13,vI (1:Nat))],[(2,some (.cells (l0 p fs))),(100,some (.cells (C3 p.aT (.own 700)))),(700,some (.row 3 p.aT.levels.length 1 (cP (lE p fs 0))))]⟩
theorem ybu(p:Proj)(fs:List Fact)(h:SOK p fs):bW prog 23 [SR p fs,vI (0:Nat)] [] (.s (.j0 100 6 0 1)) [(100,.cells (C3 p.aT (.own 700))),(700,.row 3 p.aT.levels.length 1 (cP (lE p fs 0)))]:=by
 obtain⟨hn0,hn1⟩:=h.n;have hlen:(lE p fs 0).length=p.aT.levels.length:=by unfold lE;simp
 refine gJ func23 rfl rfl call23 aJ rfl rfl rfl rfl (fun cx aA=>?_);have aA:cx.ref=[]:=aA;refine sX aA (sX aA ?_);refine AW.seq (sX aA ?_);refine AW.block (AW.cG (fun k:Nat=>lwZ p fs k) (fun k=>k≤1) (fun k=>1 - k) 0 (Nat.zero_le _) (aM.bD aA [] rfl ⟨bQ,oO⟩ ⟨qZ,qZ,⟨rfl,aU.int (aG oM oM)⟩,qZ,oO⟩) ?_);intro k hk
 cases k with
 |zero=>
  refine sX aA (AW.seq (AW.cond ?_));refine aI (fun h1=>AW.skip ?_) (fun h1=>by simp at h1);refine AW.seq (AW.block (sX aA ?_));refine AW.seq (ex.sound (rc:=[38]) aJ mix aA _ ?_);refine⟨[(9,700)],_,_,_,_,OH p fs (0:Nat) h,rfl,trivial,rfl,?_⟩;refine AW.gR (σ':=⟨[(2,.s (.ptr 2 0)),(5,.s (.d eO)),(6,vI (0:Nat)),(7,.s (.ptr 7 0)),(12,vI (0+1:Nat)),(13,vI (0:Nat))],[(2,some (.cells (l0 p fs))),(7,some (.cells (C3 p.aT (.own 700)))),(700,some (.row 3 p.aT.levels.length 1 (cP (fK p fs (0:Nat) p.aT.levels.length))))]⟩) (aM.bD aA [] rfl ⟨bQ,bQ,bQ,oO⟩ ⟨qZ,qZ,qZ,qZ,qZ,qZ,oO⟩) (AW.seq (sX aA ?_));refine AW.block ?_;refine AW.cG (fun i:Nat=>⟨[(2,.s (.ptr 2 0)),(5,.s (.d eO)),(6,vI (0:Nat)),(7,.s (.ptr 7 0)),(12,vI (0+1:Nat)),(13,vI (0:Nat)),(23,.s (.own 700)),(24,vI p.aT.levels.length),(25,vI i)],[(2,some (.cells (l0 p fs))),(7,some (.cells (C3 p.aT (.own 700)))),(700,some (.row 3 p.aT.levels.length 1 (cP (nG p fs 0 i))))]⟩)
   (fun i=>i≤p.aT.levels.length) (fun i=>p.aT.levels.length - i) 0 (Nat.zero_le _) ?_ ?_
  ·exact aM.bD aA [] rfl ⟨bQ,bQ,⟨rfl,aY.row rfl fun a c ha hc=>aK.of_eq (by show dI ((fK p fs (0:Nat) p.aT.levels.length).getD a 0)=dI ((nG p fs 0 0).getD a 0);rw[FT ha,lN ha,if_neg (Nat.not_lt_zero _)])⟩,oO⟩ ⟨qZ,qZ,qZ,qZ,qZ,qZ,qZ,qZ,qZ,oO⟩
  intro i hi;refine sX aA (AW.seq (AW.cond ?_));refine aI (fun h2=>AW.skip ?_) (fun h2=>AW.exit ?_)
  ·have h2:(i:Int)<p.aT.levels.length:=bG h2;have bC:i<p.aT.levels.length:=oM;refine AW.seq (AW.block (sX aA ?_));refine oi ⟨oM,oM⟩ (oi (show i<p.aT.levels.length by omega) ?_);refine AW.block (sX aA ?_);repeat refine aR ?_
   refine AW.cond (aI (fun h3=>?_) (fun h3=>?_))
   ·have h3:((0:Int)==0&&(nG p fs 0 i).getD i 0==30000)=true:=h3;rw[lN bC,if_neg (Nat.lt_irrefl i)]at h3;have y2:iL p fs 0 i=p.aT.levels.getD i 0:=by unfold iL;rw[show((fF p fs ((0:Nat):Int) i).1==30000)=true by simpa using h3];rfl
    refine eX aA (oi ⟨oM,oM⟩ ?_);refine oi ⟨oM,oM⟩ (ob (show((i:Nat):Int).toNat<p.aT.levels.length by omega) ?_);refine aD (eX aA ?_);refine⟨i+1,oM,oM,?_⟩;refine aM.bD aA [] rfl ⟨bQ,bQ,⟨rfl,aY.row rfl fun a c ha hc=>aK.of_eq ?_⟩,oO⟩ ⟨qZ,qZ,qZ,qZ,qZ,qZ,qZ,qZ,⟨rfl,aU.int (aG oM oM)⟩,oO⟩;show eT (cP (nG p fs 0 i)) i 0 [.d (dI (p.aT.levels.getD i 0))] a c=dI ((nG p fs 0 (i+1)).getD a 0);exact MW ha hc y2.symm
   have h3:((0:Int)==0&&(nG p fs 0 i).getD i 0==30000)=false:=h3;rw[lN bC,if_neg (Nat.lt_irrefl i)]at h3;have y2:iL p fs 0 i=(fF p fs (0:Nat) i).1:=by unfold iL;rw[show((fF p fs ((0:Nat):Int) i).1==30000)=false by simpa using h3];rfl
   refine sX aA (AW.cond ?_);refine aI (fun h4=>by simp at h4) (fun h4=>AW.skip ?_);refine eX aA ⟨i+1,oM,oM,?_⟩;refine aM.bD aA [] rfl ⟨bQ,bQ,⟨rfl,aY.row rfl fun a c ha hc=>aK.of_eq ?_⟩,oO⟩ ⟨qZ,qZ,qZ,qZ,qZ,qZ,qZ,qZ,⟨rfl,aU.int (aG oM oM)⟩,oO⟩;show dI ((nG p fs 0 i).getD a 0)=dI ((nG p fs 0 (i+1)).getD a 0);exact congrArg dI (PX ha y2.symm)
  have h2:¬(i:Int)<p.aT.levels.length:=bF h2;obtain rfl:i=p.aT.levels.length:=oM;rw[HB];refine AW.gR (σ':=⟨[(2,.s (.ptr 2 0)),(5,.s (.d eO)),(7,.s (.ptr 7 0)),(12,vI (0+1:Nat)),(13,vI (0:Nat))],[(2,some (.cells (l0 p fs))),(7,some (.cells (C3 p.aT (.own 700)))),(700,some (.row 3 p.aT.levels.length 1 (cP (lE p fs 0))))]⟩) (aM.bD aA [] rfl ⟨bQ,bQ,bQ,oO⟩ ⟨qZ,qZ,qZ,qZ,qZ,oO⟩) (AW.pin 700 rfl aA fun NY b d href' h0 hd=>?_);refine AW.gR (aM.ybK href' h0 7 5 rfl rfl) (ex.sound (rc:=[]) aJ mix href' _ ?_);refine ob dC (ob dC ?_);refine⟨_,aM.trans (aM.of (σ':=⟨[(2,.s (.ptr 2 0)),(5,.s (.own 100)),(12,vI (0+1:Nat)),(13,vI (0:Nat))],[(2,some (.cells (l0 p fs))),(100,some (.row 24 1 6 (fun _ c=>match c with|0=>dI p.aT.x|1=>dI p.aT.y|2=>dI p.aT.side|3=>dI p.aT.dO|4=>dI p.aT.rows|_=>.val (yaL b d)))),(700,some (.row 3 p.aT.levels.length 1 (cP (lE p fs 0))))]⟩) [(100,70)] (by rw[href'];rfl) rfl ⟨bQ,⟨rfl,aY.row rfl fun a c ha hc=>aK.of_eq (by
   obtain rfl:a=0:=by have ha:a<1:=ha;omega
   match c,hc with|0,_|1,_|2,_|3,_|4,_|5,_=>rfl)⟩,bQ,oO⟩ ⟨qZ,qZ,qZ,qZ,oO⟩) (aM.ybH href' h0 hd 5 100 5 rfl rfl dC rfl),?_⟩
  exact eX aA ⟨1,oM,oM,aM.bD aA [] rfl ⟨bQ,bQ,bQ,oO⟩ ⟨qZ,qZ,qZ,⟨rfl,aU.int (aG oM oM)⟩,oO⟩⟩
 |succ k=>obtain rfl:k=0:=oM;refine sX aA (AW.seq (AW.cond ?_));refine aI (fun h1=>by simp at h1) (fun h1=>AW.exit ?_);exact eX aA ⟨aU.rfl,rfl,rfl,oO⟩
theorem ybo(p:Proj)(l:List Fact)(hp:p.fits)(hf:∀f∈l,f.fits)(hl:l.length≤9223372036854775807)(he:j6 p l 0 0=0):
  bW prog 9 [oR p,cJ l,vI 0] [] (.t [.g (C3 p.aT (.own 700)),.s (.d (dI 0))]) [(700,.row 3 p.aT.levels.length 1 (cP (lE p (cntF l) 0)))]:=by
 obtain⟨hk,hw⟩:=tL he
 have hS:=x4 hk
 refine eG (rc:=[23]) (N:=27) func9 rfl rfl call9 aJ mix rfl rfl rfl rfl (fun cx aA=>?_)
 refine aB (MP p l 0 0 hp hf hl he) ?_
 refine aI (fun h=>by cases h) (fun _=>?_)
 refine⟨[(100,701),(700,700)],_,_,_,_,ybu p (cntF l) hS,rfl,trivial,rfl,?_⟩
 refine oi ⟨dC,dC⟩ ?_
 repeat refine aR ?_
 exact⟨aU.rfl,rfl,oO⟩
theorem yam{p:Proj}{l:List Fact}{m f:Int}(h:iI p l=0)(h1:f≤m)(h2:m≤24):j6 p l m f=0:=by unfold j6;rw[h,show within m f 24=true from within_iff.2 ⟨h1,h2⟩];rfl
abbrev poS(p:Proj)(l c:List Fact)(L:Nat)(fi su:Nat→Int)(r:List (Nat×AV))(b:aP):St:=⟨[(1,cJ l),(2,vI L),(3,.s (.ptr 3 0)),(7,.s (.ptr 7 0)),(9,.s (.ptr 9 0)),(11,cJ c),(12,.s (.own 800))]++r,[(3,some (.cells (qH p))),(7,some (.cells (C3 p.aT (.own 700)))),(9,some (.cells (C3 p.aT (.d (b5 (lE p c L)))))),(700,some (.row 3 p.aT.levels.length 1 (fun i _=>dI (fi i)))),(800,some (.row 3 p.aT.levels.length 1 (fun i _=>dI (su i))))]++b⟩
theorem ProjectPaidOnce(p:Proj)(l:List Fact)(last:Int)(hp:p.okk)(hf:∀f∈l,f.fits)(hl:l.length≤9223372036854775807):aF prog 3 [oR p,cJ l,vI last] (vB true):=by
 refine eW func3 rfl rfl call3 rfl rfl (fun cx aA=>?_);refine sX aA (AW.seq (sX aA ?_));refine aB (aI9 p) ?_;repeat refine aR ?_
 refine bR (aMW l 25 dC) ?_;repeat refine aR ?_
 refine bR (cI last 1 5) ?_;repeat refine aR ?_
 refine ybx (r:=vI (iI p l)) (fun hb=>?_) ?_
 ·have hb:(!((vC p||HD l 25)|| !within last 1 5))=true:=hb;simp only [Bool.not_eq_true',Bool.or_eq_false_iff]at hb;exact PM p l (hp.fits hb.1.1) hf hl
 repeat refine aR ?_
 refine AW.cond (aI (fun _=>eX aA (aB (aDP) (aC.refl _))) (fun h=>AW.skip ?_));have h:(((vC p||HD l 25)|| !within last 1 5)||(iI p l !=0))=false:=h;simp only [Bool.or_eq_false_iff]at h;obtain⟨⟨⟨hg,hm⟩,hw⟩,he⟩:=h;have he:iI p l=0:=by simpa using he
 have hw:=within_iff.1 (show within last 1 5=true by simpa using hw);have oW:=hp.fits hg;obtain⟨hlen,aPJ⟩:=aBR hm;obtain⟨L,rfl⟩:∃k:Nat,last=k:=⟨last.toNat,oM⟩;have hk:=YW he;have hS:=x4 hk;have hpv:=PV.of hk.proj;have hv:=aGB hk.fmt;have hC:=aBC l hf aPJ oM;rw[aJO hk.fmt]at hC;obtain⟨hn0,hn1⟩:=hS.n;have hln:∀m,(lE p (cntF l) m).length=p.aT.levels.length:=fun m=>by unfold lE;simp
 refine AW.seq (ex.sound (rc:=[9]) aJ mix aA _ ?_);refine⟨[(700,700)],_,_,_,_,ybo p l oW hf hl (yam he dC dC),rfl,trivial,rfl,?_⟩;refine sX aA (aB (ZV p l L oW hf hl (yam he oM oM)) ?_);refine sX aA (aB (hC) ?_);refine AW.seq (sX aA ?_);repeat first|refine oi trivial ?_|refine sk ?_|refine st ?_|refine sg ?_|refine sh ?_|refine su ?_|refine sn1 ?_|refine sn0 ?_
 refine AW.cond (aI (fun h2=>?_) (fun _=>AW.skip ?_))
 ·exfalso;have h2:((((0:Int) !=0||(0:Int) !=0)||((p.aT.levels.length:Int) !=(p.aT.levels.length:Int)))||(((lE p (cntF l) L).length:Int) !=(p.aT.levels.length:Int)))=true:=h2;rw[hln]at h2;simp at h2
 refine sX aA (ob (show(0:Int)≤(p.aT.levels.length:Int) by omega) ?_);refine ob (Int.le_refl _) (ob (show(8:Int)*(p.aT.levels.length:Int)≤281474976710656 by omega) ?_);refine AW.gR (σ':=poS p l (cntF l) L (yaa p (cntF l) 0) (smF p (cntF l) 0) [] []) (aM.bD aA [(800,89)] rfl ⟨bQ,bQ,bQ,⟨rfl,aY.row rfl fun a c ha hc=>aK.of_eq (congrArg dI (uS ha))⟩,⟨rfl,aY.row (Int.toNat_natCast _) fun a c ha hc=>aK.of_eq ?_⟩,oO⟩ ⟨qZ,qZ,qZ,qZ,qZ,qZ,qZ,oO⟩) ?_
 ·obtain rfl:c=0:=by have hc:c<1:=hc;omega
  rfl
 generalize pV:cntF l=c at*;refine AW.cut (σ':=poS p l c L (yaa p c L) (smF p c L) [] []) ?_ ?_
 ·refine sX aA (AW.block ?_);refine AW.cG (fun k:Nat=>poS p l c L (yaa p c k) (smF p c k) [(13,vI (k+1:Nat))] []) (fun k=>k≤L) (fun k=>L - k) 0 (Nat.zero_le _) (aM.bD aA [] rfl ⟨bQ,bQ,bQ,bQ,bQ,oO⟩ ⟨qZ,qZ,qZ,qZ,qZ,qZ,qZ,qZ,oO⟩) ?_;intro k hkL;refine AW.seq (sX aA ?_);refine AW.cond (aI (fun h1=>AW.skip ?_) (fun h1=>AW.exit ?_))
  ·have h1:((k+1:Nat):Int)≤(L:Int):=of_decide_eq_true h1;have hP:=ya2 p l (k+1) oW hf hl (yam he oM oM);have hLo:=ZV p l (k+1) oW hf hl (yam he oM oM);have hH:=ya1 p l ((k+1:Nat):Int) oW hf hl (yam he oM oM);have hOK:=yaJ (l:=l) (M:=k+1) hk oM;have hLd:=ybF (l:=l) (M:=k+1) hk oM;have hFo:=fun x hx=>ybf (l:=l) (M:=k+1) hk oM (x:=x) hx
   rw[pV]at hP hLo hH hOK hLd hFo;have hxl:(G3 p c (k+1)).length≤241200:=by have h:=(aE6 (M:=k+1) oW hk ⟨oM,oM⟩ (ZR.gen hk _)).2;rw[pV]at h;exact h
   have vA:c.length≤200:=pV▸hS.len;have hbnd:=fun i (hi:i<p.aT.levels.length) m=>ybc hpv hS hv hi m
   have hpcs:=hOK.lM;have hcel:=hOK.cell;generalize G3 p c (k+1)=xs at hP hLd hFo hxl hpcs hcel;have hnl:((yad p c ((k+1:Nat):Int)).1.map Fact.number).length≤200:=by
    have h1:=BY p (j8 c ((k+1:Nat):Int)) (j8 c ((k+1:Nat):Int)).length;have h2:(j8 c ((k+1:Nat):Int)).length≤c.length:=by unfold j8;rw[A5];exact List.length_filter_le _ _
    rw[List.length_map];exact Nat.le_trans h1 oM
   generalize ((yad p c ((k+1:Nat):Int)).1.map Fact.number)=nums at hH hFo hnl;generalize (yad p c ((k+1:Nat):Int)).2=yd at hH;refine AW.cut (σ':=poS p l c L (yaa p c (k+1)) (smF p c (k+1)) [(13,vI (k+1:Nat))] []) ?_ ?_
   ·refine AW.block (sX aA ?_);refine aB (hP) (AW.seq (sX aA ?_));repeat refine aR ?_
    refine bR (ybC c xs ((k+1:Nat):Int) oM oM hLd) ?_;repeat refine aR ?_
    refine AW.cond (aI (fun h2=>by cases h2) (fun _=>AW.skip ?_));refine sX aA (aB (hLo) ?_);refine AW.seq (sX aA ?_);repeat first|refine oi trivial ?_|refine sk ?_|refine st ?_|refine sg ?_|refine sh ?_|refine su ?_|refine sn1 ?_|refine sn0 ?_
    refine AW.cond (aI (fun h2=>?_) (fun _=>AW.skip ?_))
    ·exfalso;have h2:((0:Int) !=0||(((lE p c (k+1)).length:Int) !=(p.aT.levels.length:Int)))=true:=h2;rw[show(lE p c (k+1)).length=p.aT.levels.length by unfold lE;simp]at h2;simp at h2
    refine AW.cut (σ':=poS p l c L (yaa p c (k+1)) (smF p c k) [(13,vI (k+1:Nat)),(14,iD xs)] []) ?_ ?_
    ·refine sX aA (AW.block ?_);refine AW.cG (fun i:Nat=>poS p l c L (fun a=>if a<i then yaa p c (k+1) a else yaa p c k a) (smF p c k) [(13,vI (k+1:Nat)),(14,iD xs),(16,.s (.ptr 16 0)),(18,vI i)] [(16,some (.cells (C3 p.aT (.d (b5 (lE p c (k+1)))))))]) (fun i=>i≤p.aT.levels.length) (fun i=>p.aT.levels.length - i) 0 (Nat.zero_le _) (aM.bD aA [] rfl ⟨bQ,bQ,bQ,bQ,bQ,bQ,oO⟩ ⟨qZ,qZ,qZ,qZ,qZ,qZ,qZ,qZ,qZ,qZ,qZ,oO⟩) ?_;intro i hi;have Z6:yaa p c (k+1) i=bif yaa p c k i==30000 then iL p c (k+1) i else yaa p c k i:=rfl;refine AW.seq (sX aA ?_);refine AW.cond (aI (fun h2=>AW.skip ?_) (fun h2=>AW.exit ?_))
     ·have h2:(i:Int)<p.aT.levels.length:=bG h2;have bC:i<p.aT.levels.length:=oM;refine AW.seq (AW.block (sX aA ?_));refine oi ⟨oM,oM⟩ (oi (show i<p.aT.levels.length by omega) ?_);refine AW.cond (aI (fun h3=>?_) (fun h3=>AW.skip ?_))
      ·have h3:((if i<i then yaa p c (k+1) i else yaa p c k i)==30000)=true:=h3;rw[if_neg (Nat.lt_irrefl i)]at h3;rw[h3,cond_true]at Z6;refine eX aA ?_;refine oi (show(0:Int)≤(i:Int)∧(i:Int)<((lE p c (k+1)).length:Int) by rw[show(lE p c (k+1)).length=p.aT.levels.length by unfold lE;simp];omega) ?_;refine oi ⟨oM,oM⟩ (ob (show((i:Nat):Int).toNat<p.aT.levels.length by omega) ?_);refine aD (eX aA ?_);refine⟨i+1,oM,oM,?_⟩;refine aM.bD aA [] rfl ⟨bQ,bQ,bQ,⟨rfl,aY.row rfl fun a d ha hd=>aK.of_eq ?_⟩,bQ,bQ,oO⟩ ⟨qZ,qZ,qZ,qZ,qZ,qZ,qZ,qZ,qZ,qZ,⟨rfl,aU.int (aG oM oM)⟩,oO⟩;obtain rfl:d=0:=by have hd:d<1:=hd;omega
       show eT (fun a _=>dI (if a<i then yaa p c (k+1) a else yaa p c k a)) i 0 [.d (dI ((lE p c (k+1)).getD i 0))] a 0=dI (if a<i+1 then yaa p c (k+1) a else yaa p c k a);by_cases h4:a=i
       ·subst h4;rw[oP,uS bC,if_pos (Nat.lt_succ_self a),Z6]
       rw[tG h4];by_cases h5:a<i
       ·rw[if_pos h5,if_pos oM]
       rw[if_neg h5,if_neg oM]
      have h3:((if i<i then yaa p c (k+1) i else yaa p c k i)==30000)=false:=h3;rw[if_neg (Nat.lt_irrefl i)]at h3;rw[h3,cond_false]at Z6;refine eX aA ⟨i+1,oM,oM,?_⟩;refine aM.bD aA [] rfl ⟨bQ,bQ,bQ,⟨rfl,aY.row rfl fun a d ha hd=>aK.of_eq ?_⟩,bQ,bQ,oO⟩ ⟨qZ,qZ,qZ,qZ,qZ,qZ,qZ,qZ,qZ,qZ,⟨rfl,aU.int (aG oM oM)⟩,oO⟩;refine congrArg dI ?_;show(if a<i then yaa p c (k+1) a else yaa p c k a)=(if a<i+1 then yaa p c (k+1) a else yaa p c k a);by_cases h4:a=i
      ·subst h4;rw[if_neg (Nat.lt_irrefl a),if_pos (Nat.lt_succ_self a),Z6]
      by_cases h5:a<i
      ·rw[if_pos h5,if_pos oM]
      rw[if_neg h5,if_neg oM]
     have h2:¬(i:Int)<p.aT.levels.length:=bF h2;obtain rfl:i=p.aT.levels.length:=oM;exact⟨rfl,aM.bD aA [] rfl ⟨bQ,bQ,bQ,⟨rfl,aY.row rfl fun a d ha hd=>aK.of_eq (congrArg dI (if_pos ha))⟩,bQ,oO⟩ ⟨qZ,qZ,qZ,qZ,qZ,qZ,qZ,qZ,qZ,oO⟩⟩
    refine sX aA (aB (hH) ?_);refine AW.gR (σ':=poS p l c L (yaa p c (k+1)) (smF p c k) [(13,vI (k+1:Nat)),(14,iD xs),(19,iR nums),(21,vI 0)] []) (aM.bD aA [] rfl ⟨bQ,bQ,bQ,bQ,bQ,oO⟩ ⟨qZ,qZ,qZ,qZ,qZ,qZ,qZ,qZ,qZ,qZ,qZ,oO⟩) (sX aA ?_);refine AW.block (AW.cG (fun j:Nat=>poS p l c L (yaa p c (k+1)) (fun a=>smF p c k a+ya (fun x=>x.cell==(a:Int)) (xs.take j)) [(13,vI (k+1:Nat)),(14,iD xs),(19,iR nums),(21,vI 0),(22,vI j)] []) (fun j=>j≤xs.length) (fun j=>xs.length - j) 0 (Nat.zero_le _) (aM.bD aA [] rfl ⟨bQ,bQ,bQ,bQ,⟨rfl,aY.row rfl fun a d ha hd=>aK.of_eq (congrArg dI (Int.add_zero _).symm)⟩,oO⟩ ⟨qZ,qZ,qZ,qZ,qZ,qZ,qZ,qZ,qZ,qZ,qZ,qZ,oO⟩) ?_);intro j hj;refine AW.seq (sX aA ?_);refine AW.cond (aI (fun h2=>AW.skip ?_) (fun h2=>AW.exit ?_))
    ·have h2:(j:Int)<xs.length:=bG h2;have qR:j<xs.length:=oM;have hx:=hpcs (xs.getD j default) (bP qR);obtain⟨ci,hci,hcn⟩:=hx.cell;have hvol:=hx.iZ;have hpd:=hx.gV;have hfx:=hFo (xs.getD j default) (bP qR);refine AW.seq (AW.block (AW.seq (sX aA ?_)));refine oi ⟨oM,oM⟩ ?_;repeat refine aR ?_
     refine og (fun _=>⟨oM,oM⟩) ?_;repeat refine aR ?_
     refine og (fun _=>⟨oM,oM⟩) ?_;repeat refine aR ?_
     refine og (fun _=>⟨oM,oM⟩) ?_;repeat refine aR ?_
     refine og (fun _=>⟨oM,oM⟩) ?_;repeat refine aR ?_
     refine og (fun _=>⟨oM,oM⟩) ?_;repeat refine aR ?_
     refine aD (AW.cond ?_);refine aI (fun h3=>?_) (fun _=>AW.skip ?_)
     ·exfalso;have h3:((((decide ((xs.getD j default).cell<0)||decide ((xs.getD j default).cell≥(p.aT.levels.length:Int)))||decide ((xs.getD j default).iZ≤0))||decide ((xs.getD j default).gV<0))||decide ((xs.getD j default).gV>(xs.getD j default).iZ))=true:=h3;simp only [Bool.or_eq_true,decide_eq_true_eq]at h3;omega
     refine sX aA ?_;have hcb:0≤(xs.getD j default).cell∧(xs.getD j default).cell<(p.aT.levels.length:Int):=⟨oM,oM⟩;have jO:∀a:Nat,ya (fun x=>x.cell==(a:Int)) (xs.take (j+1))=ya (fun x=>x.cell==(a:Int)) (xs.take j)+bif (xs.getD j default).cell==(a:Int)then(xs.getD j default).iZ else 0:=fun a=>by rw[yat qR,yaf]
     have y1:=fun a (q:Nat) (hq:q≤xs.length)=>yaD (q:=fun x=>x.cell==((a:Nat):Int)) (fun x hx=>(hpcs x hx).iZ) q hq
     have hb0:=hbnd ci hcn k;have hb1:=hbnd ci hcn (k+1);have hb2:smF p c (k+1) ci=smF p c k ci+mvF p c (k+1) ci:=rfl;have hb3:=hcel ci hcn;have hb4:=y1 ci (j+1) qR;have hb5:=jO ci;have hb6:=y1 ci j hj;rw[hci,beq_self_eq_true,cond_true]at hb5;refine oi ⟨oM,oM⟩ (oi ⟨oM,oM⟩ ?_);refine oi hcb (oi (show(xs.getD j default).cell.toNat<p.aT.levels.length by omega) ?_);refine oi ⟨oM,oM⟩ (oi hcb ?_);refine ob (show(xs.getD j default).cell.toNat<p.aT.levels.length by omega) (aD ?_);refine AW.gR (σ':=poS p l c L (yaa p c (k+1)) (fun a=>smF p c k a+ya (fun x=>x.cell==(a:Int)) (xs.take (j+1))) [(13,vI (k+1:Nat)),(14,iD xs),(19,iR nums),(21,vI 0),(22,vI j)] []) (aM.bD aA [] rfl ⟨bQ,bQ,bQ,bQ,⟨rfl,aY.row rfl fun a d ha hd=>aK.of_eq ?_⟩,oO⟩ ⟨qZ,qZ,qZ,qZ,qZ,qZ,qZ,qZ,qZ,qZ,qZ,qZ,oO⟩) ?_
     ·obtain rfl:d=0:=by have hd:d<1:=hd;omega
      show eT (fun a _=>dI (smF p c k a+ya (fun x=>x.cell==(a:Int)) (xs.take j))) (xs.getD j default).cell.toNat 0 [.d (dI (aW ((smF p c k (xs.getD j default).cell.toNat+ya (fun x=>x.cell==((xs.getD j default).cell.toNat:Int)) (xs.take j))+(xs.getD j default).iZ)))] a 0=dI (smF p c k a+ya (fun x=>x.cell==(a:Int)) (xs.take (j+1)));rw[jO a,hci,Int.toNat_natCast];by_cases h4:a=ci
      ·subst h4;rw[oP,beq_self_eq_true,cond_true,←Int.add_assoc];exact congrArg dI (aG oM oM)
      rw[tG h4,show(((ci:Nat):Int)==(a:Int))=false by simp only [beq_eq_false_iff_ne];omega,cond_false,Int.add_zero]
     generalize hF0:((xs.getD j default).load==0&&(xs.getD j default).dN.toList==(bs []).toList)=f0 at hfx;refine sX aA (oi ⟨oM,oM⟩ ?_);repeat refine aR ?_
     refine og (fun _=>⟨oM,oM⟩) ?_;repeat refine aR ?_
     refine AW.gR (σ':=poS p l c L (yaa p c (k+1)) (fun a=>smF p c k a+ya (fun x=>x.cell==(a:Int)) (xs.take (j+1))) [(13,vI (k+1:Nat)),(14,iD xs),(19,iR nums),(21,vI 0),(22,vI j),(23,vB f0)] []) (aM.bD aA [] rfl ⟨bQ,bQ,bQ,bQ,bQ,oO⟩ ⟨qZ,qZ,qZ,qZ,qZ,qZ,qZ,qZ,qZ,qZ,qZ,qZ,⟨rfl,aU.bool hF0⟩,oO⟩) (AW.cut (σ':=poS p l c L (yaa p c (k+1)) (fun a=>smF p c k a+ya (fun x=>x.cell==(a:Int)) (xs.take (j+1))) [(13,vI (k+1:Nat)),(14,iD xs),(19,iR nums),(21,vI 0),(22,vI j),(23,vB true)] []) ?_ ?_)
     ·refine sX aA (AW.block ?_);refine AW.cG (fun q:Nat=>poS p l c L (yaa p c (k+1)) (fun a=>smF p c k a+ya (fun x=>x.cell==(a:Int)) (xs.take (j+1))) [(13,vI (k+1:Nat)),(14,iD xs),(19,iR nums),(21,vI 0),(22,vI j),(23,vB (f0||(nums.take q).any fun n=>n==(xs.getD j default).load)),(24,vI q)] []) (fun q=>q≤nums.length) (fun q=>nums.length - q) 0 (Nat.zero_le _) (aM.bD aA [] rfl ⟨bQ,bQ,bQ,bQ,bQ,oO⟩ ⟨qZ,qZ,qZ,qZ,qZ,qZ,qZ,qZ,qZ,qZ,qZ,qZ,⟨rfl,aU.bool (Bool.or_false f0).symm⟩,qZ,oO⟩) ?_;intro q hq;refine AW.seq (sX aA ?_);refine AW.cond (aI (fun h4=>AW.skip ?_) (fun h4=>AW.exit ?_))
      ·have h4:(q:Int)<nums.length:=bG h4;have hq':q<nums.length:=oM;refine AW.seq (AW.block (eX aA ?_));repeat refine aR ?_
       refine og (fun _=>⟨oM,oM⟩) ?_;repeat refine aR ?_
       refine og (fun _=>⟨oM,oM⟩) ?_;repeat refine aR ?_
       refine aD (eX aA ?_);refine⟨q+1,oM,oM,?_⟩;refine aM.bD aA [] rfl ⟨bQ,bQ,bQ,bQ,bQ,oO⟩ ⟨qZ,qZ,qZ,qZ,qZ,qZ,qZ,qZ,qZ,qZ,qZ,qZ,⟨rfl,aU.bool ?_⟩,⟨rfl,aU.int (aG oM oM)⟩,oO⟩;show((f0||(nums.take q).any fun n=>n==(xs.getD j default).load)||(nums.getD q 0==(xs.getD j default).load))=(f0||(nums.take (q+1)).any fun n=>n==(xs.getD j default).load);rw[yat hq',List.any_append,←Bool.or_assoc];show _=((f0||(nums.take q).any fun n=>n==(xs.getD j default).load)||((nums.getD q 0==(xs.getD j default).load)||false));rw[Bool.or_false]
      have h4:¬(q:Int)<nums.length:=bF h4;obtain rfl:q=nums.length:=oM;refine⟨rfl,aM.bD aA [] rfl ⟨bQ,bQ,bQ,bQ,bQ,oO⟩ ⟨qZ,qZ,qZ,qZ,qZ,qZ,qZ,qZ,qZ,qZ,qZ,qZ,⟨rfl,aU.bool ?_⟩,oO⟩⟩;rw[List.take_length];exact hfx
     refine sX aA ?_;repeat refine aR ?_
     refine AW.cond (aI (fun h4=>by cases h4) (fun _=>AW.skip ?_));exact eX aA ⟨j+1,oM,oM,aM.bD aA [] rfl ⟨bQ,bQ,bQ,bQ,bQ,oO⟩ ⟨qZ,qZ,qZ,qZ,qZ,qZ,qZ,qZ,qZ,qZ,qZ,⟨rfl,aU.int (aG oM oM)⟩,oO⟩⟩
    have h2:¬(j:Int)<xs.length:=bF h2;obtain rfl:j=xs.length:=oM;refine⟨rfl,aM.bD aA [] rfl ⟨bQ,bQ,bQ,bQ,⟨rfl,aY.row rfl fun a d ha hd=>aK.of_eq (congrArg dI ?_)⟩,oO⟩ ⟨qZ,qZ,qZ,qZ,qZ,qZ,qZ,qZ,oO⟩⟩;show smF p c k a+ya (fun x=>x.cell==(a:Int)) (xs.take xs.length)=_;rw[List.take_length,hcel a ha];rfl
   exact eX aA ⟨k+1,oM,oM,aM.bD aA [] rfl ⟨bQ,bQ,bQ,bQ,bQ,oO⟩ ⟨qZ,qZ,qZ,qZ,qZ,qZ,qZ,⟨rfl,aU.int (aG oM oM)⟩,oO⟩⟩
  have h1:¬((k+1:Nat):Int)≤(L:Int):=of_decide_eq_false h1;obtain rfl:k=L:=oM;exact⟨rfl,aM.bD aA [] rfl ⟨bQ,bQ,bQ,bQ,bQ,oO⟩ ⟨qZ,qZ,qZ,qZ,qZ,qZ,qZ,oO⟩⟩
 have hbnd:=fun i (hi:i<p.aT.levels.length)=>ybc hpv hS hv hi L
 have hsm:=fun i (hi:i<p.aT.levels.length)=>yaY hpv hS hv hi L
 refine sX aA (AW.cut (σ':=poS p l c L (yaa p c L) (smF p c L) [] []) ?_ ?_)
 ·refine sX aA (AW.block ?_);refine AW.cG (fun i:Nat=>poS p l c L (yaa p c L) (smF p c L) [(25,vI (dH p)),(26,vI i)] []) (fun i=>i≤p.aT.levels.length) (fun i=>p.aT.levels.length - i) 0 (Nat.zero_le _) (aM.bD aA [] rfl ⟨bQ,bQ,bQ,bQ,bQ,oO⟩ ⟨qZ,qZ,qZ,qZ,qZ,qZ,qZ,qZ,qZ,oO⟩) ?_;intro i hi;refine AW.seq (sX aA ?_);refine AW.cond (aI (fun h2=>AW.skip ?_) (fun h2=>AW.exit ?_))
  ·have h2:(i:Int)<p.aT.levels.length:=bG h2;have bC:i<p.aT.levels.length:=oM;have hb:=hbnd i bC;have ho:=hsm i bC;have SJ:=yah hpv hS hv bC L;have hfv:=ho.lv;have hle:=ho.le;have hat:(lE p c L).getD i 0=iL p c L i:=uS bC;have har:=aDT hpv;refine AW.seq (AW.block (sX aA ?_));refine AW.cut (σ':=poS p l c L (yaa p c L) (smF p c L) [(25,vI (dH p)),(26,vI i),(27,vI (smF p c L i))] []) ?_ ?_
   ·refine sX aA (oi ⟨oM,oM⟩ ?_);refine oi (show i<p.aT.levels.length by omega) ?_;repeat refine aR ?_
    refine og (fun _=>⟨oM,by rw[hln];omega⟩) ?_;repeat refine aR ?_
    refine AW.cond (aI (fun h3=>?_) (fun h3=>AW.skip ?_))
    ·have h3:((yaa p c L i !=30000)&&((lE p c L).getD i 0 !=30000))=true:=h3;rw[hat]at h3;simp only [Bool.and_eq_true,bne_iff_ne,ne_eq]at h3;have hy:=(ho.yes h3.2).2;unfold lv3 at SJ hfv;refine eX aA (oi ⟨oM,oM⟩ ?_);refine oi (show i<p.aT.levels.length by omega) ?_;refine oi (show(0:Int)≤(i:Int)∧(i:Int)<((lE p c L).length:Int) by rw[hln];omega) ?_;refine aD ⟨rfl,aM.bD aA [] rfl ⟨bQ,bQ,bQ,bQ,bQ,oO⟩ ⟨qZ,qZ,qZ,qZ,qZ,qZ,qZ,qZ,qZ,⟨rfl,aU.int ?_⟩,oO⟩⟩;show aW (dH p*aW (yaa p c L i - (lE p c L).getD i 0))=smF p c L i;rw[hat,aG (n:=yaa p c L i - iL p c L i) oM oM,←hy];exact aG oM oM
    have h3:((yaa p c L i !=30000)&&((lE p c L).getD i 0 !=30000))=false:=h3;rw[hat]at h3;have hz:smF p c L i=0:=by
     by_cases h5:iL p c L i=30000
     ·exact(ho.no h5).2
     have h6:=(ho.yes h5).1;rw[Bool.and_eq_false_iff]at h3;rcases h3 with h3|h3
     ·exact absurd (by simpa using h3) h6
     exact absurd (by simpa using h3) h5
    exact⟨rfl,aM.bD aA [] rfl ⟨bQ,bQ,bQ,bQ,bQ,oO⟩ ⟨qZ,qZ,qZ,qZ,qZ,qZ,qZ,qZ,qZ,⟨rfl,aU.int hz.symm⟩,oO⟩⟩
   refine sX aA (oi ⟨oM,oM⟩ ?_);refine oi (show i<p.aT.levels.length by omega) (AW.cond ?_);refine aI (fun h3=>?_) (fun _=>AW.skip ?_)
   ·exfalso;have h3:(smF p c L i !=smF p c L i)=true:=h3;simp at h3
   exact eX aA ⟨i+1,oM,oM,aM.bD aA [] rfl ⟨bQ,bQ,bQ,bQ,bQ,oO⟩ ⟨qZ,qZ,qZ,qZ,qZ,qZ,qZ,qZ,⟨rfl,aU.int (aG oM oM)⟩,oO⟩⟩
  have h2:¬(i:Int)<p.aT.levels.length:=bF h2;exact⟨rfl,aM.bD aA [] rfl ⟨bQ,bQ,bQ,bQ,bQ,oO⟩ ⟨qZ,qZ,qZ,qZ,qZ,qZ,qZ,oO⟩⟩
 exact eX aA (aB (aDP) (aC.refl _))
end Go.Pj
