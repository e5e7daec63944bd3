/- Part 9: lemmas that the proofs of this seat share; by itself it claims nothing. -/
import Derived.Test.YtfedmlbojaccdaaGreatDoorPt8
set_option maxRecDepth 100000
set_option maxHeartbeats 1000000
namespace Go.Pj
open Go Go.Ax Go.Ch Go.Proofs Go.Proofs.Tryz
theorem aGB{l:List Fact}(hv:∀f∈l,fR f=0):aBS (cntF l):=by
 intro f hf h0 x hx;obtain⟨_,_,_,g,hg,rfl,_⟩:=N4 hv hf;have h0:g.kind=0:=h0;obtain⟨_,h2⟩:=kN (hv g hg);have hb:=(oB h2 (by rw[h0];rfl)).1;have e:(jE g).levels=g.levels:=by unfold jE;simp only [h0,beq_self_eq_true,cond_true]
 rw[e]at hx;have:=List.any_eq_false.1 hb x hx;rcases yT (show iQ x=false by simpa using this)with h|h
 ·exact .inl h
 exact .inr h.2
abbrev lim(n:Nat):Prop:=n≤9223372036854775807
theorem aGY:Rd prog 115 2 (fun p:Int×Int=>[.d (dI p.1),.d (dI p.2)]) (fun _=>True):=
 (fI underlying115 rfl kR (aS rfl rI (aS rfl rI jN))).to (fun a=>(a.1,a.2.1)) (fun _=>rfl) (fun _ _=>trivial)
theorem aKZ:Rd prog 117 5 (fun s:lI=>[.d (dS s.name),.d (dI s.run),.d (dI s.aF5),.d (dI s.num),.d (dI s.den)]) (fun s=>lim s.name.size):=
 (fI underlying117 rfl kR (aS rfl rS (aS rfl rI (aS rfl rI (aS rfl aGY jN))))).to (fun a=>⟨a.1,a.2.1,a.2.2.1,a.2.2.2.1.1,a.2.2.2.1.2⟩) (fun _=>rfl) (fun _ h=>h.1)
theorem aIB:Rd prog 29 1 (fun l:List lI=>[.d (kV l)]) (fun l=>lim l.length∧∀a∈l,lim a.name.size):=
 kF underlying29 kR aKZ dC aGU (fun _=>rfl) (fun a j hj=>by match j,hj with|0,_|1,_|2,_|3,_|4,_=>rfl)
theorem aIC:Rd prog 119 2 (fun s:sC=>[.d (dI s.top),.d (dS s.aN)]) (fun _=>True):=
 (fI underlying119 rfl kR (aS rfl rI (aS rfl rS jN))).to (fun a=>⟨a.1,a.2.1⟩) (fun _=>rfl) (fun _ _=>trivial)
theorem aEZ:Rd prog 68 1 (fun l:List sC=>[.d (mN l)]) (fun l=>lim l.length∧∀a∈l,True):=
 kF underlying68 kR aIC dC aLM (fun _=>rfl) (fun a j hj=>by match j,hj with|0,_|1,_=>rfl)
theorem aOO:Rd prog 70 4 (fun s:fS=>[.d (dS s.name),.d (dI s.x),.d (dI s.y),.d (mN s.bB)]) (fun s=>lim s.name.size∧lim s.bB.length):=
 (fI underlying70 rfl kR (aS rfl rS (aS rfl rI (aS rfl rI (aS rfl aEZ jN))))).to (fun a=>⟨a.1,a.2.1,a.2.2.1,a.2.2.2.1⟩) (fun _=>rfl) (fun _ h=>⟨h.1,h.2.2.2.1.1⟩)
theorem aK7:Rd prog 30 1 (fun l:List fS=>[.d (pN l)]) (fun l=>lim l.length∧∀a∈l,lim a.name.size∧lim a.bB.length):=
 kF underlying30 kR aOO dC aNS (fun _=>rfl) (fun a j hj=>by match j,hj with|0,_|1,_|2,_|3,_=>rfl)
theorem aOI:Rd prog 121 2 (fun s:pQ=>[.d (dS s.aN),.d (dI s.vY)]) (fun _=>True):=
 (fI underlying121 rfl kR (aS rfl rS (aS rfl rI jN))).to (fun a=>⟨a.1,a.2.1⟩) (fun _=>rfl) (fun _ _=>trivial)
theorem aK2:Rd prog 33 1 (fun l:List pQ=>[.d (CG l)]) (fun l=>lim l.length∧∀a∈l,True):=
 kF underlying33 kR aOI dC aII (fun _=>rfl) (fun a j hj=>by match j,hj with|0,_|1,_=>rfl)
theorem aOE:Rd prog 166 3 (fun s:zF=>[.d (dS s.name),.d (dI s.due),.d (dI s.pen)]) (fun _=>True):=
 (fI underlying166 rfl kR (aS rfl rS (aS rfl rI (aS rfl rI jN)))).to (fun a=>⟨a.1,a.2.1,a.2.2.1⟩) (fun _=>rfl) (fun _ _=>trivial)
theorem aK0:Rd prog 34 1 (fun l:List zF=>[.d (RL l)]) (fun l=>lim l.length∧∀a∈l,True):=
 kF underlying34 kR aOE dC aH1 (fun _=>rfl) (fun a j hj=>by match j,hj with|0,_|1,_|2,_=>rfl)
theorem aOJ:Rd prog 72 6 (fun s:uF=>[.d (dS s.name),.d (dI s.OE),.d (dI s.base),.d (dI s.top),.d (b5 s.aV),.d (dI s.GZ)]) (fun s=>lim s.name.size):=
 (fI underlying72 rfl kR (aS rfl rS (aS rfl rI (aS rfl rI (aS rfl rI (aS rfl Ch.PL (aS rfl rI jN))))))).to (fun a=>⟨a.1,a.2.1,a.2.2.1,a.2.2.2.1,a.2.2.2.2.1,a.2.2.2.2.2.1⟩) (fun _=>rfl) (fun _ h=>h.1)
theorem aK3:Rd prog 35 1 (fun l:List uF=>[.d (q7 l)]) (fun l=>lim l.length∧∀a∈l,lim a.name.size):=
 kF underlying35 kR aOJ dC X0 (fun _=>rfl) (fun a j hj=>by match j,hj with|0,_|1,_|2,_|3,_|4,_|5,_=>rfl)
theorem aOP:Rd prog 123 3 (fun s:nM=>[.d (dS s.aN),.d (dI s.num),.d (dI s.den)]) (fun s=>lim s.aN.size):=
 (fI underlying123 rfl kR (aS rfl rS (aS rfl aGY jN))).to (fun a=>⟨a.1,a.2.1.1,a.2.1.2⟩) (fun _=>rfl) (fun _ h=>h.1)
theorem aK8:Rd prog 36 1 (fun l:List nM=>[.d (oY l)]) (fun l=>lim l.length∧∀a∈l,lim a.aN.size):=
 kF underlying36 kR aOP dC aNU (fun _=>rfl) (fun a j hj=>by match j,hj with|0,_|1,_|2,_=>rfl)
theorem aOM:Rd prog 32 2 (fun g:Ground=>[.d (kV g.bK),.d (pN g.cC)]) Ground.fits:=
 (fI underlying32 rfl kR (aS rfl aIB (aS rfl aK7 jN))).to (fun a=>⟨a.1,a.2.1⟩) (fun _=>rfl) (fun _ h=>⟨h.1.1,h.2.1.1,h.1.2,fun x hx=>(h.2.1.2 x hx).1,fun x hx=>(h.2.1.2 x hx).2⟩)
theorem aOL:Rd prog 24 6 (fun g:eZ=>[.d (dI g.x),.d (dI g.y),.d (dI g.side),.d (dI g.dO),.d (dI g.rows),.d (b5 g.levels)]) (fun g=>lim g.levels.length):=
 (fI underlying24 rfl kR (aS rfl rI (aS rfl rI (aS rfl rI (aS rfl rI (aS rfl rI (aS rfl Ch.PL jN))))))).to (fun a=>⟨a.1,a.2.1,a.2.2.1,a.2.2.2.1,a.2.2.2.2.1,a.2.2.2.2.2.1⟩) (fun _=>rfl) (fun _ h=>h.2.2.2.2.2.1.1)
theorem aON:Rd prog 28 5 (fun c:kE=>[.d (dS c.name),.d (x3 c.aZ),.d (dI c.over),.d (dI c.buffer),.d (zM c.regions)]) kE.ok:=
 (fI underlying28 rfl kR (aS rfl rS (aS rfl aOQ (aS rfl rI (aS rfl rI (aS rfl aK1 jN)))))).to (fun a=>⟨a.1,a.2.1,a.2.2.1,a.2.2.2.1,a.2.2.2.2.1⟩) (fun _=>rfl)
  (fun _ h=>⟨h.1,h.2.1.1,h.2.1.2,h.2.2.1,h.2.2.2.1,h.2.2.2.2.1.1,h.2.2.2.2.1.2⟩)
theorem aQF:RdA prog 38 oR Proj.okk:=
 VN (k:=20) underlying38 ((fI underlying38 rfl kR (aS rfl rS (aS rfl aOL (aS rfl aON (aS rfl aOM (aS rfl rI (aS rfl rI (aS rfl aK2 (aS rfl aK0 (aS rfl aK3 (aS rfl aK8 jN))))))))))).to
  (fun a=>(⟨a.1,a.2.1,a.2.2.1,a.2.2.2.1,a.2.2.2.2.1,a.2.2.2.2.2.1,a.2.2.2.2.2.2.1,a.2.2.2.2.2.2.2.1,a.2.2.2.2.2.2.2.2.1,a.2.2.2.2.2.2.2.2.2.1⟩:Proj)) (fun _=>rfl)
  (fun _ h=>⟨h.1,h.2.1,h.2.2.1,h.2.2.2.1,h.2.2.2.2.2.2.1.1,h.2.2.2.2.2.2.2.1.1,h.2.2.2.2.2.2.2.2.1.2,h.2.2.2.2.2.2.2.2.2.1.2⟩))
theorem aK6:Rd prog 59 13 (fun f:Fact=>[.d (dI f.kind),.d (dI f.seq),.d (dI f.a8),.d (dI f.month),.d (dI f.number),.d (dI f.aT),.d (dI f.over),.d (dI f.cls),.d (dI f.target),.d (dS f.aN),.d (dS f.dN),.d (dS f.eS),.d (b5 f.levels)]) Fact.fits:=
 (fI underlying59 rfl kR (aS rfl rI (aS rfl rI (aS rfl rI (aS rfl rI (aS rfl rI (aS rfl rI (aS rfl rI (aS rfl rI (aS rfl rI (aS rfl rS (aS rfl rS (aS rfl rS (aS rfl Ch.PL jN)))))))))))))).to
  (fun a=>(⟨a.1,a.2.1,a.2.2.1,a.2.2.2.1,a.2.2.2.2.1,a.2.2.2.2.2.1,a.2.2.2.2.2.2.1,a.2.2.2.2.2.2.2.1,a.2.2.2.2.2.2.2.2.1,a.2.2.2.2.2.2.2.2.2.1,a.2.2.2.2.2.2.2.2.2.2.1,a.2.2.2.2.2.2.2.2.2.2.2.1,a.2.2.2.2.2.2.2.2.2.2.2.2.1⟩:Fact)) (fun _=>rfl)
  (fun _ h=>⟨h.2.2.2.2.2.2.2.2.2.2.2.2.1.1,h.2.2.2.2.2.2.2.2.2.1,h.2.2.2.2.2.2.2.2.2.2.1,h.2.2.2.2.2.2.2.2.2.2.2.1⟩)
theorem aQH:Rd prog 39 1 (fun l:List Fact=>[.d (RN l)]) (fun l=>lim l.length∧∀a∈l,a.fits):=
 kF underlying39 kR aK6 dC J0 (fun _=>rfl) (fun a j hj=>by match j,hj with|0,_|1,_|2,_|3,_|4,_|5,_|6,_|7,_|8,_|9,_|10,_|11,_|12,_=>rfl)
end Go.Pj
namespace Go.Ax
theorem callGo{P:Program}{f:FuncId}{args:List AV}{r:AV}{K:AV→Prop}{b:Bool}{X:Prop}(h:b=true→aF P f args r)(k:K r):(∃r,(b=true→aF P f args r)∧K r)∨X:=.inl ⟨r,h,k⟩
end Go.Ax
namespace Go.Pj
open Go Go.Ax Go.Ch Go.Proofs Go.Proofs.Tryz
set_option maxRecDepth 100000
set_option maxHeartbeats 1000000
def factE(p:Proj)(f:Fact):Int:=bif iG p !=0 then iG p else JB p f
theorem rCheckFact(p:Proj)(f:Fact)(hp:p.fits)(hf:f.fits):aF prog 18 [oR p,pX f] (vI (factE p f)):=by
 refine eP func18 rfl rfl call18 rfl rfl fun cx aA=>aB (JM p hp) (aI (fun h1=>?_) (fun h1=>?_))
 ·have h1:(iG p !=0)=true:=h1;exact aC.of_eq (by unfold factE;rw[h1];rfl)
 have h1:(iG p !=0)=false:=h1;refine aB (XU p f hf) ?_;exact aC.of_eq (by unfold factE;rw[h1];rfl)

theorem yv{α:Type} [Inhabited α] (q:α→Bool):∀(l:List α) (k:Nat),(∃x∈l,q x=true)→0≤Ch.cL q l k
 |[],_,h=>by obtain⟨x,hx,_⟩:=h;cases hx
 |y::l,k,h=>by
  unfold Ch.cL
  cases hy:q y with
  |true=>simp
  |false=>
   obtain⟨x,hx,hq⟩:=h;rcases List.mem_cons.1 hx with rfl|hx
   ·rw[hy]at hq;cases hq
   exact yv q l (k+1) ⟨x,hx,hq⟩
def y6(fs:List Fact)(k:Int):Prop:=∀a∈fs,∀b∈fs,XC k 1 a=true→XC k 1 b=true→a=b
theorem yl{fs:List Fact}{k:Int}(hu:y6 fs k){g:Fact}(hg:g∈fs)(hm:XC k 1 g=true)(cell:Nat):lT fs k 1 cell=g.levels.getD cell 0:=by have h0:0≤OM fs k 1:=yv _ fs 0 ⟨g,hg,hm⟩;obtain⟨_,h2,h3⟩:=yN (XC k 1) fs 0 h0;have h3:XC k 1 (fs.getD (OM fs k 1).toNat default)=true:=h3;have h2:(OM fs k 1).toNat<fs.length:=h2;unfold lT;rw[decide_eq_false oM,cond_false,hu _ (bP h2) g hg h3 hm]
theorem yj{fs:List Fact}{k:Int}(h:∀g∈fs,XC k 1 g=false)(cell:Nat):lT fs k 1 cell=30000:=by
 unfold lT;by_cases h0:0≤OM fs k 1
 ·obtain⟨_,h2,h3⟩:=yN (XC k 1) fs 0 h0;rw[h _ (bP h2)]at h3;cases h3
 rw[decide_eq_true oM];rfl
def ye(k:Int)(o:List Int)(f:Fact):List Int:=bif XC k 1 f then f.levels else o
def ya(fs:List Fact)(k:Int)(i:Nat):List Int:=(fs.take i).foldl (ye k) []
theorem yq{fs:List Fact}{k:Int}{i:Nat}(h:i<fs.length):ya fs k (i+1)=ye k (ya fs k i) (fs.getD i default):=by unfold ya;rw[List.take_add_one,List.getElem?_eq_getElem h,aX h,List.foldl_append];rfl
theorem yx{k:Int}:∀{l:List Fact} {o:List Int},(∀g∈l,XC k 1 g=false)→l.foldl (ye k) o=o
 |[],_,_=>rfl
 |a::l,o,h=>by show l.foldl (ye k) (ye k o a)=o;rw[show ye k o a=o by unfold ye;rw[h a (List.mem_cons_self ..)];rfl];exact yx fun g hg=>h g (List.mem_cons_of_mem _ hg)
theorem yy{k:Int}{L:List Int}:∀{l:List Fact} {o:List Int},(∀g∈l,XC k 1 g=true→g.levels=L)→(o=L∨∃g∈l,XC k 1 g=true)→l.foldl (ye k) o=L
 |[],_,_,h=>by
  rcases h with h|⟨g,hg,_⟩
  ·exact h
  cases hg
 |a::l,o,h,he=>by
  refine yy (l:=l) (o:=ye k o a) (fun g hg=>h g (List.mem_cons_of_mem _ hg)) ?_
  cases ha:XC k 1 a with
  |true=>left;unfold ye;rw[ha];exact h a (List.mem_cons_self ..) ha
  |false=>
   unfold ye;rw[ha];rcases he with he|⟨g,hg,hm⟩
   ·exact .inl he
   rcases List.mem_cons.1 hg with rfl|hg
   ·rw[ha]at hm;cases hm
   exact .inr ⟨g,hg,hm⟩
theorem Ya{fs:List Fact}{k:Int}{n:Nat}(hu:y6 fs k)(hn:0<n)(hl:∀f∈fs,f.kind=0→f.levels.length=n):
  (ya fs k fs.length=[]∧∀c,lT fs k 1 c=30000)∨((ya fs k fs.length).length=n∧∀c,lT fs k 1 c=(ya fs k fs.length).getD c 0):=by
 unfold ya
 rw[List.take_length]
 by_cases h:∃g∈fs,XC k 1 g=true
 ·obtain⟨g,hg,hm⟩:=h;have e:fs.foldl (ye k) []=g.levels:=yy (fun x hx hq=>by rw[hu x hx g hg hq hm]) (.inr ⟨g,hg,hm⟩);rw[e];have hk:g.kind=0:=by unfold XC at hm;simp only [Bool.and_eq_true,beq_iff_eq]at hm;exact hm.1.1
  exact .inr ⟨hl g hg hk,yl hu hg hm⟩
 ·have h:∀g∈fs,XC k 1 g=false:=fun g hg=>by
   cases hq:XC k 1 g with
   |false=>rfl
   |true=>exact absurd ⟨g,hg,hq⟩ h
  exact .inl ⟨yx h,yj h⟩
theorem yh{g:Fact}(h:g.kind=0)(hv:nZ g=0):bT g=iO [pR,Lib.itoa g.a8,Lib.itoa g.month]:=by unfold bT nH cS;rw[hv,h];rfl
theorem yi{k:Int}{g:Fact}:XC k 1 g=true↔g.kind=0∧g.a8=k∧g.month=1:=by unfold XC;simp only [Bool.and_eq_true,beq_iff_eq,and_assoc]
theorem ym{k:Int}{g:Fact}:XC k 1 (jE g)=XC k 1 g:=by
 rw[Bool.eq_iff_iff,yi,yi];show g.kind=0∧(bif fW g==0 then g.a8 else 0)=k∧(bif g.kind==1 then g.month else bif fW g==1 then 0 else g.month)=1↔_;refine and_congr_right fun h=>?_
 have hk:fW g=0:=by unfold fW;rw[h];rfl
 rw[hk,h];rfl
theorem Yb{l:List Fact}{k:bJ}{x:Fact}(h:x∈kO l k l.length):x∈l∧bT x=k:=by refine⟨GN (Nat.le_refl _) x h,?_⟩;rw[GM l k _ (Nat.le_refl _)]at h;have h:=(List.mem_filter.1 (BP.1 h).1).2;unfold VH at h;rw[Bool.not_eq_true',Bool.or_eq_false_iff,Bool.or_eq_false_iff]at h;simpa using h.1.1
theorem yn{l:List Fact}{k:bJ}{g:Fact}(h:J6 l k=some g):∃x∈l,g=jE x∧bT x=k:=by
 unfold J6 at h
 cases hz:(((kO l k l.length).length:Int)==0)with
 |true=>rw[hz]at h;cases h
 |false=>
  rw[hz]at h;have hz:((kO l k l.length).length:Int)≠0:=by simpa using hz
  obtain⟨h1,h2⟩:=Yb (IY (r:=kO l k l.length) oM (Nat.le_refl _));exact⟨_,h1,by cases h;rfl,h2⟩
theorem yk{l:List Fact}(hv:∀f∈l,fR f=0){g:Fact}:g∈cntF l↔∃k,(∃f∈l,(f.kind !=3)=true∧bT f=k)∧J6 l k=some g:=by
 rw[←aJO hv];unfold sQ;rw[List.take_length,List.mem_filterMap];refine exists_congr fun k=>and_congr_left fun _=>?_
 rw[(K5 l l.length (Nat.le_refl _)).2 k,List.take_length]
theorem yr{l:List Fact}(hv:∀f∈l,fR f=0)(k:Int):y6 (cntF l) k:=by intro a ha b hb h1 h2;obtain⟨k1,_,e1⟩:=(yk hv).1 ha;obtain⟨k2,_,e2⟩:=(yk hv).1 hb;obtain⟨x,hx,rfl,rfl⟩:=yn e1;obtain⟨y,hy,rfl,rfl⟩:=yn e2;obtain⟨p1,p2,p3⟩:=yi.1 (ym.symm.trans h1);obtain⟨q1,q2,q3⟩:=yi.1 (ym.symm.trans h2);rw[yh p1 (kN (hv x hx)).1,p2,p3,←q2,←q3,←yh q1 (kN (hv y hy)).1,e2]at e1;exact(Option.some.inj e1).symm
section
variable{l:List Fact}{f:Fact}(h0:f.kind=0)
include h0
theorem Yj{k:bJ}{x:Fact}:VH (l++ [f]) k x=VH l k x:=by unfold VH AT;rw[List.any_append,show [f].any (wdM (bT x) x.seq)=false by simp[wdM,h0],Bool.or_false]
theorem Yc{k:bJ}(hk:bT f≠k):kO (l++ [f]) k (l++ [f]).length=kO l k l.length:=by
 have e:Z1 (l++ [f]) k=Z1 l k:=by funext o x;unfold Z1;rw[Yj h0]
 unfold kO;rw[List.take_length,List.take_length,e,List.foldl_append];show Z1 l k _ f=_;unfold Z1;rw[show VH l k f=false by unfold VH;simp[hk]];rfl
theorem yz{k:bJ}(hk:bT f≠k):J6 (l++ [f]) k=J6 l k:=by unfold J6;rw[Yc h0 hk]
theorem Yd(hv:∀g∈l++ [f],fR g=0){q:Int}(hq:f.a8≠q)(hi:Lib.itoa f.a8≠Lib.itoa q)(hm:f.month=1){g:Fact}(hg:XC q 1 g=true):g∈cntF (l++ [f])↔g∈cntF l:=by
 have hf:=yh h0 (kN (hv f sM)).1;have key:∀k,(∃x∈l++ [f],g=jE x∧bT x=k)→bT f≠k:=by
  rintro k ⟨x,hx,rfl,rfl⟩ e;obtain⟨p1,p2,p3⟩:=yi.1 (ym.symm.trans hg);rw[hf,yh p1 (kN (hv x hx)).1,p2,p3,hm]at e;rw[eY,eY,eY,eY]at e;have e:=List.append_cancel_left e;have e2:Lib.itoa f.a8++([32]++iO [Lib.itoa 1])=Lib.itoa q++([32]++iO [Lib.itoa 1]):=by simpa [List.append_assoc]using e
  exact hi (List.append_cancel_right e2)
 rw[yk hv,yk fun x hx=>hv x (List.mem_append_left _ hx)];constructor
 ·rintro⟨k,⟨x,hx,hx3,hxk⟩,hc⟩;have hk:=key k (yn hc);rw[yz h0 hk]at hc;rcases List.mem_append.1 hx with hx|hx
  ·exact⟨k,⟨x,hx,hx3,hxk⟩,hc⟩
  rw[List.mem_singleton.1 hx]at hxk;exact absurd hxk hk
 rintro⟨k,⟨x,hx,hx3,hxk⟩,hc⟩;obtain⟨y,hy,hg1,hyk⟩:=yn hc;have hk:=key k ⟨y,List.mem_append_left _ hy,hg1,hyk⟩;exact⟨k,⟨x,List.mem_append_left _ hx,hx3,hxk⟩,by rw[yz h0 hk];exact hc⟩
theorem y4(hv:∀g∈l++ [f],fR g=0){q:Int}(hq:f.a8≠q)(hi:Lib.itoa f.a8≠Lib.itoa q)(hm:f.month=1)(c:Nat):lT (cntF (l++ [f])) q 1 c=lT (cntF l) q 1 c:=by
 have kK:=fun {g:Fact}=>Yd (g:=g) h0 hv hq hi hm
 have h1:=yr hv q;have h2:=yr (fun x hx=>hv x (List.mem_append_left _ hx)) (l:=l) q;by_cases h:∃g∈cntF l,XC q 1 g=true
 ·obtain⟨g,hg,hs⟩:=h;rw[yl h1 ((kK hs).2 hg) hs,yl h2 hg hs]
 have hn:∀g∈cntF l,XC q 1 g=false:=fun g hg=>by
  cases hq:XC q 1 g with
  |false=>rfl
  |true=>exact absurd ⟨g,hg,hq⟩ h
 rw[yj hn,yj fun g hg=>by
  cases hq:XC q 1 g with
  |false=>rfl
  |true=>rw[hn g ((kK hq).1 hg)]at hq;cases hq]
end
def yd(a:Nat→Int):Nat→Int×Int×Int
 |0=>(30000, -30000,0)
 |k+1=>bif a k==30000 then yd a k else(mm false (yd a k).1 (a k),mm true (yd a k).2.1 (a k),bif decide ((k:Int)<2)then aW ((yd a k).2.2+1)else(yd a k).2.2)
def yo(is:Bool)(v:Int)(q:Int×Int×Int):Bool:=
 (is&&(decide (q.2.2<2)||v !=30000)|| !is&&((q.2.2==0) !=(v==30000)))||v !=30000&& !within v q.1 q.2.1
def yf(x:Int):Prop:=x=30000∨(-20000≤x∧x≤20000)
theorem yb{n:Int}(h: -1000000≤n)(k:n≤1000000):aW n=n:=aG oM oM
def yu(a b c g:Int):Int×Bool:=
 bif a==30000 then(b,false)else bif b==30000 then(a,false)
 else bif decide (aW (mm true a b - mm false a b)≤g)then(aW (aW (Int.tdiv (aW (aW (aW (a+b)+40000)+1)) 2) - 20000),false)
 else bif c==30000 then(c,true)else(X4 a b c,false)
theorem Yu{x:Int}(h: -20000≤x∧x≤20000):(x==30000)=false:=by simp;omega
theorem Yv{v lo hi k:Int}(h: -20000≤v∧v≤20000)(hk:k≠0)(h1:lo≤v)(h2:v≤hi):yo false v (lo,hi,k)=false:=by
 have e:(v==30000)=false:=Yu h;have e2:(k==0)=false:=by simpa using hk
 unfold yo;simp only [bne,e,e2,within_iff.2 ⟨h1,h2⟩];rfl
theorem Yk{a b:Int}(h0: -20000≤a∧a≤20000)(h1: -20000≤b∧b≤20000):aW (aW (Int.tdiv (aW (aW (aW (a+b)+40000)+1)) 2) - 20000)=(a+b+40001) / 2 - 20000:=by rw[yb (n:=a+b) oM oM,yb (n:=a+b+40000) oM oM,yb (n:=a+b+40000+1) oM oM,Int.tdiv_eq_ediv_of_nonneg oM,yb (n:=(a+b+40000+1) / 2) oM oM,yb oM oM];omega
theorem yt{x:Int}(h:yf x):((x==30000)=true∧x=30000)∨((x==30000)=false∧ -20000≤x∧x≤20000):=by
 rcases h with rfl|h
 ·exact .inl ⟨rfl,rfl⟩
 exact .inr ⟨Yu h,h⟩
theorem Yl(f:Nat→Int){a b c g:Int}(e0:f 0=a)(e1:f 1=b)(e2:f 2=c)(h0:yf a)(h1:yf b)(h2:yf c):yo (yu a b c g).2 (yu a b c g).1 (yd f 3)=false:=by
 have w1:aW (0+1)=1:=rfl;have w2:aW (1+1)=2:=rfl;have d0:decide (((0:Nat):Int)<2)=true:=rfl;have d1:decide (((1:Nat):Int)<2)=true:=rfl;have d2:decide (((2:Nat):Int)<2)=false:=rfl;rcases yt h0 with⟨q0,p0⟩|⟨q0,p0⟩ <;> rcases yt h1 with⟨q1,p1⟩|⟨q1,p1⟩ <;> rcases yt h2 with⟨q2,p2⟩|⟨q2,p2⟩ <;> simp only [yu,yd,e0,e1,e2,q0,q1,q2,cond_true,cond_false,d0,d1,d2,w1,w2,X4];all_goals try cases decide (aW (mm true a b - mm false a b)≤g)
 all_goals first
  |(subst p0;subst p1;subst p2;rfl)
  |(subst p1;rfl)
  |(subst p2;rfl)
  |rfl
  |refine Yv ?_ ?_ ?_ ?_
 all_goals try simp only [cond_true,cond_false]
 all_goals try rw[Yk p0 p1]
 all_goals try simp only [mm]
 all_goals repeat' split
 all_goals omega
theorem Yo(p:Proj)(fs:List Fact)(i:Nat)(ha:∀k:Nat,k<3→yf (lT fs (k:Int) 1 i)):yo (fF p fs 1 i).2 (fF p fs 1 i).1 (yd (fun k=>lT fs (k:Int) 1 i) 3)=false:=
 Yl (g:=p.agree) _ rfl rfl rfl (ha 0 oM) (ha 1 oM) (ha 2 oM)
theorem Ym{p:Proj}{fs gs:List Fact}{i:Nat}(h0:lT gs 0 1 i=lT fs 0 1 i)(h1:lT gs 1 1 i=lT fs 1 1 i)(a0:yf (lT fs 0 1 i))(a1:yf (lT fs 1 1 i))(hd:(if lT fs 0 1 i - lT fs 1 1 i<0 then -(lT fs 0 1 i - lT fs 1 1 i)else lT fs 0 1 i - lT fs 1 1 i)≤p.agree):
  (fF p gs 1 i).1=(fF p fs 1 i).1:=by
 show(yu _ _ _ _).1=(yu _ _ _ _).1
 rw[h0,h1]
 generalize lT fs 0 1 i=a at a0 hd
 generalize lT fs 1 1 i=b at a1 hd
 unfold yu
 rcases yt a0 with⟨q0,p0⟩|⟨q0,p0⟩ <;> rcases yt a1 with⟨q1,p1⟩|⟨q1,p1⟩ <;> simp only [q0,q1,cond_true,cond_false]
 have e:decide (aW (mm true a b - mm false a b)≤p.agree)=true:=by rw[decide_eq_true_eq];unfold mm;simp only;split <;> split <;> rw[yb oM oM] <;> split at hd <;> omega
 rw[e];rfl

abbrev yw(p:Proj)(l fs:List Fact)(th lv dp a b c:List Int)(e:List (Nat×AV)):St:=
 ⟨[(1,cJ l),(2,iR th),(3,.s (.ptr 3 0)),(7,.s (.ptr 7 0)),(8,iR dp),(10,cJ fs),(11,.s (.ptr 11 0))]++e,[(3,some (.cells (qH p))),(7,some (.cells (C3 p.aT (.d (b5 lv))))),(11,some (.cells [.d (b5 a),.d (b5 b),.d (b5 c)]))]⟩
theorem Yw{x:Int}(h:0≤x∧x≤2):x=0∨x=1∨x=2:=oM
abbrev yg(th:List Int):Fact:={kind:=0,seq:=1000000,a8:=2,month:=1,number:=0,aT:=0,over:=0,cls:=0,target:=0,aN:=ByteArray.mk #[],dN:=ByteArray.mk #[],eS:=ByteArray.mk #[],levels:=th}
theorem Yn{l:List Fact}{n:Int}(h:HD l n=false):l.length≤n∧∀f∈l,f.levels.length≤1000000:=by unfold HD at h;rw[Bool.or_eq_false_iff]at h;have h1:=of_decide_eq_false h.1;refine⟨oM,fun f hf=>?_⟩;have:=List.any_eq_false.1 h.2 f hf;simp only [KX,Bool.or_eq_true,decide_eq_true_eq,not_or]at this;omega
theorem y3{l:List Fact}(hv:∀f∈l,fR f=0):∀f∈cntF l,f.kind=0→0≤f.a8∧f.a8≤2:=by
 intro f hf h0;obtain⟨_,_,_,g,hg,rfl,_⟩:=N4 hv hf;have h0:g.kind=0:=h0;have he:=(kN (hv g hg)).1;have hk:fW g=0:=by unfold fW;rw[h0];rfl
 have hp:(jE g).a8=g.a8:=by unfold jE;rw[hk];rfl
 rw[hp];unfold nZ at he;rw[h0]at he;have he:cK 0 g=0:=he;unfold cK at he
 cases hw:within g.a8 0 2 with
 |true=>exact within_iff.1 hw
 |false=>rw[hw]at he;cases he
theorem yp{g:Fact→Int}:∀{l:List Fact} {f:Fact},oH g l=0→g f=0→oH g (l++ [f])=0
 |[],f,_,h=>by rw[List.nil_append,xS,h];rfl
 |a::l,f,h,hf=>by
  rw[xS]at h;rw[List.cons_append,xS]
  cases h0:(g a !=0)with
  |true=>rw[h0]at h;have h:g a=0:=h;rw[h]at h0;cases h0
  |false=>rw[h0]at h;exact yp h hf
theorem Ye{p:Proj}{l:List Fact}{f:Fact}(h:j6 p l 1 0=0)(hf:JB p f=0)(hl:l.length≤100):j6 p (l++ [f]) 1 0=0:=by
 obtain⟨hk,hw⟩:=tL h;have h0:oH (JB p) l=0:=by
  have hz:iI p l=0:=by
   unfold j6 at h
   cases h1:(iI p l !=0)with
   |true=>rw[h1]at h;exact h
   |false=>simpa using h1
  unfold iI at hz;rw[hk.proj,decide_eq_false oM]at hz;exact hz
 have h1:iI p (l++ [f])=0:=by unfold iI;rw[hk.proj,decide_eq_false (by simp;omega),yp h0 hf];rfl
 unfold j6;rw[h1];rfl
theorem Yf{p:Proj}{fs:List Fact}{n i:Nat}(h:i<n):(gY p fs 1 n).any (fun x=>x==(i:Int))=(fF p fs 1 i).2:=by
 rw[Bool.eq_iff_iff,List.any_eq_true];unfold gY;constructor
 ·rintro⟨x,hx,he⟩;obtain⟨k,hk,hb⟩:=List.mem_filterMap.1 hx;have he:x=(i:Int):=by simpa using he
  cases hr:(fF p fs 1 k).2 with
  |false=>rw[hr]at hb;cases hb
  |true=>
   rw[hr]at hb;have hb:(k:Int)=x:=by simpa using hb
   rw[show i=k by omega];exact hr
 intro hr;exact⟨(i:Int),List.mem_filterMap.2 ⟨i,List.mem_range.2 h,by rw[hr];rfl⟩,sM⟩
theorem Yr{l:List Int}{k:Nat}(h:k<l.length)(y:Int):(l.take (k+1)).any (fun x=>x==y)=((l.take k).any (fun x=>x==y)||l.getD k 0==y):=by rw[List.take_add_one,List.getElem?_eq_getElem h,List.any_append,aX h];simp
theorem Yy{p:Prop}{K:AV→Prop}{x off s k:Nat}{n:Int}(h:p)(hk:n.toNat=k)(hK:K (.s (.ptr x (off+k*s)))):imp none p∧K (.s (.ptr x (off+n.toNat*s))):=⟨h,hk▸hK⟩
theorem yc{a b:Bool}(h:(a&&b)=true):a=true∧b=true:=Bool.and_eq_true_iff.1 h
theorem Yh{A:List Int}{n i:Nat}(hi:i<n)(h:A=[]∨A.length=n)(hx:decide ((A.length:Int)>0)=true):(0:Int)≤i∧(i:Int)<A.length:=by
 rcases h with rfl|h
 ·cases hx
 omega
theorem Yp{A:List Int}{f:Nat→Int}{n:Nat}(h:(A=[]∧∀c,f c=30000)∨(A.length=n∧∀c,f c=A.getD c 0))(i:Nat)(hx:decide ((A.length:Int)>0)=true):f i=A.getD i 0:=by
 rcases h with⟨rfl,_⟩|h
 ·cases hx
 exact h.2 i
def Yg(a b c:List Int):Nat→List Int
 |0=>a
 |1=>b
 |_=>c
theorem Yq{A:List Int}{x:Int}{n i:Nat}(hn:0<n)(h:(A=[]∧x=30000)∨(A.length=n∧x=A.getD i 0)):((A.length:Int)==0||A.getD i 0==30000)=(x==30000):=by
 rcases h with⟨rfl,rfl⟩|⟨h,rfl⟩
 ·rfl
 rw[show((A.length:Int)==0)=false by simp;intro e;rw[e]at h;simp at h;omega,Bool.false_or]
theorem Ys{A:List Int}{x:Int}{n i:Nat}(h:(A=[]∧x=30000)∨(A.length=n∧x=A.getD i 0))(hx:(x==30000)=false):A.length=n∧x=A.getD i 0:=by
 rcases h with⟨rfl,rfl⟩|h
 ·cases hx
 exact h
theorem Yt{A:List Int}{x:Int}{n i:Nat}(hi:i<n)(h:(A=[]∧x=30000)∨(A.length=n∧x=A.getD i 0))(hx:(!((A.length:Int)==0))=true):(0:Int)≤(i:Int)∧(i:Int)<(A.length:Int):=by
 rcases h with⟨rfl,_⟩|⟨h,_⟩
 ·cases hx
 omega
abbrev Yx(th:List Int):Prop:=fR (yg th)=0
def Yi(fs:List Fact)(k:Int)(n:Nat)(A:List Int):Prop:=(A=[]∧∀c,lT fs k 1 c=30000)∨(A.length=n∧∀c,lT fs k 1 c=A.getD c 0)
theorem ProjectAgrees(p:Proj)(l:List Fact)(th:List Int)(hp:p.okk)(hf:∀f∈l,f.fits)(hl:l.length≤9223372036854775807)(ht:th.length≤9223372036854775807):aF prog 4 [oR p,cJ l,iR th] (vB true):=by
 refine eW func4 rfl rfl call4 rfl rfl (fun cx aA=>?_);refine sX aA (AW.seq (sX aA ?_));refine aB (aI9 p) ?_;repeat refine aR ?_
 refine bR (aMW l 20 dC) ?_;repeat refine aR ?_
 refine callGo (r:=vI (iI p l)) (fun hb=>?_) ?_
 ·have hb:(!((vC p||HD l 20)||decide ((th.length:Int)>20)))=true:=hb;simp only [Bool.not_eq_true',Bool.or_eq_false_iff]at hb;exact PM p l (hp.fits hb.1.1) hf hl
 repeat refine aR ?_
 refine AW.cond (aI (fun _=>eX aA (aB (aDP) (aC.refl _))) (fun h=>AW.skip ?_));have h:(((vC p||HD l 20)||decide ((th.length:Int)>20))||(iI p l !=0))=false:=h;simp only [Bool.or_eq_false_iff]at h;obtain⟨⟨⟨hg,hm⟩,hth⟩,he⟩:=h;have he:iI p l=0:=by simpa using he
 have oW:=hp.fits hg;obtain⟨hlen,aPJ⟩:=Yn hm;have hk:=YW he;have ho:j6 p l 1 0=0:=by unfold j6;rw[he];rfl
 have hS:=x4 hk;have hn:=hS.n;have hsh:=hS.shape;have SJ:=aGB hk.fmt;have oU:=yr hk.fmt;have hC:=aBC l hf aPJ oM;rw[aJO hk.fmt]at hC;have hR:=KF p l 1 oW hf hl ho;have wH:=DY p (cntF l) 1 p.aT.levels.length;have TW:=BQ p (cntF l) 1 p.aT.levels.length;have aL6:=hS.len;have hpar:=y3 hk.fmt;have aPW:=fun (q:Int) (a:Yx th) (b:2≠q) (c:Lib.itoa 2≠Lib.itoa q)=>y4 (l:=l) (f:=yg th) rfl (fun g hg=>by
  rcases List.mem_append.1 hg with hg|hg
  ·exact hk.fmt g hg
  rw[List.mem_singleton.1 hg];exact a) b c rfl
 have hR2:=fun (a:JB p (yg th)=0)=>KF p (l++ [yg th]) 1 oW (fun g hg=>by
  rcases List.mem_append.1 hg with hg|hg
  ·exact hf g hg
  rw[List.mem_singleton.1 hg];exact⟨ht,Nat.zero_le _,Nat.zero_le _,Nat.zero_le _⟩) (by rw[List.length_append];simp;omega) (Ye ho a oM)
 have cY:∀i,i<p.aT.levels.length→(gY p (cntF l) 1 p.aT.levels.length).any (fun x=>x==(i:Int))=(fF p (cntF l) 1 i).2:=fun i hi=>Yf hi
 have hlvl:∀i,i<p.aT.levels.length→(fK p (cntF l) 1 p.aT.levels.length).getD i 0=(fF p (cntF l) 1 i).1:=fun i hi=>FT hi
 have lC:∀i,i<p.aT.levels.length→∀k:Nat,yf (lT (cntF l) (k:Int) 1 i):=fun i hi k=>GD SJ (k:Int) 1 hi hsh
 have NI:=fun i (hi:i<p.aT.levels.length)=>Yo p (cntF l) i fun k _=>lC i hi k
 have hsp:∀k:Nat,Yi (cntF l) k p.aT.levels.length (ya (cntF l) k (cntF l).length):=fun k=>Ya (oU k) hn.1 hsh
 have hmore:∀i,i<p.aT.levels.length→JB p (yg th)=0→(if lT (cntF l) 0 1 i - lT (cntF l) 1 1 i<0 then -(lT (cntF l) 0 1 i - lT (cntF l) 1 1 i)else lT (cntF l) 0 1 i - lT (cntF l) 1 1 i)≤p.agree→lT (cntF l) 0 1 i≠30000→lT (cntF l) 1 1 i≠30000→(fK p (cntF (l++ [yg th])) 1 p.aT.levels.length).getD i 0=(fK p (cntF l) 1 p.aT.levels.length).getD i 0:=fun i hi a hd _ _=>by have hth:=(WT a).1;rw[hlvl i hi,show(fK p (cntF (l++ [yg th])) 1 p.aT.levels.length).getD i 0=(fF p (cntF (l++ [yg th])) 1 i).1 from FT hi];exact Ym (aPW 0 hth dC (by decide+kernel) i) (aPW 1 hth dC (by decide+kernel) i) (lC i hi 0) (lC i hi 1) hd
 have hll2:=BQ p (cntF (l++ [yg th])) 1 p.aT.levels.length;generalize fK p (cntF (l++ [yg th])) 1 p.aT.levels.length=lv2 at hR2 hmore hll2;generalize gY p (cntF (l++ [yg th])) 1 p.aT.levels.length=dp2 at hR2;generalize fK p (cntF l) 1 p.aT.levels.length=lv at hR TW hlvl hmore;generalize gY p (cntF l) 1 p.aT.levels.length=dp at hR wH cY;generalize cntF l=fs at hC cY hlvl lC NI hsp aL6 hsh hpar hmore;refine sX aA (aB (hR) ?_);refine AW.seq (sX aA ?_);repeat refine aR ?_
 refine AW.cond (aI (fun h2=>?_) (fun _=>AW.skip ?_))
 ·have h2:((lv.length:Int) !=(p.aT.levels.length:Int))=true:=h2;rw[TW]at h2;simp at h2
 refine sX aA (aB (hC) ?_);refine sX aA (AW.cut (σ':=yw p l fs th lv dp (ya fs 0 fs.length) (ya fs 1 fs.length) (ya fs 2 fs.length) []) ?_ ?_)
 ·refine sX aA (AW.block ?_);refine AW.cG (fun i:Nat=>yw p l fs th lv dp (ya fs 0 i) (ya fs 1 i) (ya fs 2 i) [(12,vI i)]) (fun i=>i≤fs.length) (fun i=>fs.length - i) 0 (Nat.zero_le _) (aM.bD aA [] rfl ⟨bQ,bQ,⟨rfl,aY.cells ⟨aU.d aK.nil,aU.d aK.nil,aU.d aK.nil,oO⟩⟩,oO⟩ ⟨qZ,qZ,qZ,qZ,qZ,qZ,qZ,qZ,oO⟩) ?_;intro i hi;refine sX aA (aI (fun h=>?_) (fun h=>?_))
  ·have h:(i:Int)<fs.length:=bG h;have bC:i<fs.length:=oM;have ew:aW ((i:Int)+1)=((i+1:Nat):Int):=aG oM oM;have s0:=yq (k:=0) bC;have s1:=yq (k:=1) bC;have s2:=yq (k:=2) bC;have hpt:=hpar _ (bP bC);refine AW.seq (AW.block (sX aA ?_));refine oi ⟨oM,oM⟩ ?_;repeat refine aR ?_
   refine aI (fun _=>⟨oM,oM⟩) ?_;repeat refine aR ?_
   refine AW.cond (aI (fun h2=>?_) (fun h2=>AW.skip ?_))
   ·have h2:((fs.getD i default).kind==0&&(fs.getD i default).month==1)=true:=h2;simp only [Bool.and_eq_true,beq_iff_eq]at h2;refine eX aA (oi ⟨oM,oM⟩ ?_);refine oi ⟨oM,oM⟩ ?_;have hb:(0:Int)≤(fs.getD i default).a8∧(fs.getD i default).a8<((3:Nat):Int):=by have:=hpt h2.1;omega
    have hm:∀q:Int,XC q 1 (fs.getD i default)=((fs.getD i default).a8==q):=fun q=>by unfold XC;rw[h2.1,h2.2];simp
    unfold ye at s0 s1 s2;rw[hm]at s0 s1 s2;rcases Yw (hpt h2.1)with e|e|e;all_goals
     rw[e]at s0 s1 s2
     refine oi hb ?_
     generalize hkk:Int.toNat (Fact.a8 _)=kk
     have hkk:(fs.getD i default).a8.toNat=kk:=hkk
     rw[e]at hkk
     subst hkk
     refine aD ?_
     refine eX aA ?_
     refine⟨i+1,oM,oM,?_⟩
     rw[s0,s1,s2]
     exact aM.bD aA [] rfl ⟨bQ,bQ,bQ,oO⟩ ⟨qZ,qZ,qZ,qZ,qZ,qZ,qZ,⟨rfl,aU.int ew⟩,oO⟩
   have h2:((fs.getD i default).kind==0&&(fs.getD i default).month==1)=false:=h2;have hz:∀k:Int,XC k 1 (fs.getD i default)=false:=fun k=>by
    unfold XC
    cases hh:(fs.getD i default).kind==0 with
    |false=>rfl
    |true=>rw[hh]at h2;rw[show((fs.getD i default).month==1)=false from h2,Bool.and_false]
   refine eX aA ⟨i+1,oM,oM,?_⟩;rw[s0,s1,s2];unfold ye;rw[hz,hz,hz];exact aM.bD aA [] rfl ⟨bQ,bQ,bQ,oO⟩ ⟨qZ,qZ,qZ,qZ,qZ,qZ,qZ,⟨rfl,aU.int ew⟩,oO⟩
  have h:¬(i:Int)<fs.length:=bF h;obtain rfl:i=fs.length:=oM;exact⟨rfl,aM.bD aA [] rfl ⟨bQ,bQ,bQ,oO⟩ ⟨qZ,qZ,qZ,qZ,qZ,qZ,qZ,oO⟩⟩
 have hs0:Yi fs 0 p.aT.levels.length (ya fs 0 fs.length):=hsp 0;have LC:Yi fs 1 p.aT.levels.length (ya fs 1 fs.length):=hsp 1;have SH:Yi fs 2 p.aT.levels.length (ya fs 2 fs.length):=hsp 2;clear hsp;generalize ya fs 0 fs.length=A at hs0;generalize ya fs 1 fs.length=B at LC;generalize ya fs 2 fs.length=C at SH;refine AW.cut (σ':=yw p l fs th lv dp A B C []) ?_ ?_
 ·refine sX aA (AW.block ?_);refine AW.cG (fun i:Nat=>yw p l fs th lv dp A B C [(13,vI i)]) (fun i=>i≤p.aT.levels.length) (fun i=>p.aT.levels.length - i) 0 (Nat.zero_le _) (aM.bD aA [] rfl ⟨bQ,bQ,bQ,oO⟩ ⟨qZ,qZ,qZ,qZ,qZ,qZ,qZ,qZ,oO⟩) ?_;intro i hi;refine sX aA (aI (fun h=>?_) (fun h=>?_))
  ·have h:(i:Int)<lv.length:=bG h;have hi2:i<p.aT.levels.length:=oM;have ew:aW ((i:Int)+1)=((i+1:Nat):Int):=aG oM oM;obtain⟨a,ha⟩:∃a:Nat→Int,∀k:Nat,a k=lT fs (k:Int) 1 i:=⟨_,fun _=>rfl⟩;have hb:yo (fF p fs 1 i).2 (fF p fs 1 i).1 (yd a 3)=false:=by rw[show a=fun k:Nat=>lT fs (k:Int) 1 i from funext ha];exact NI i hi2
   have hx:∀k,k<3→((Yg A B C k)=[]∧a k=30000)∨((Yg A B C k).length=p.aT.levels.length∧a k=(Yg A B C k).getD i 0):=fun k hk=>by
    rw[ha];rcases(by omega:k=0∨k=1∨k=2)with rfl|rfl|rfl
    ·exact hs0.imp (fun h=>⟨h.1,h.2 i⟩) fun h=>⟨h.1,h.2 i⟩
    ·exact LC.imp (fun h=>⟨h.1,h.2 i⟩) fun h=>⟨h.1,h.2 i⟩
    exact SH.imp (fun h=>⟨h.1,h.2 i⟩) fun h=>⟨h.1,h.2 i⟩
   refine AW.seq (AW.block (sX aA ?_));refine AW.cut (σ':=yw p l fs th lv dp A B C [(13,vI i),(14,vI (yd a 3).1),(15,vI (yd a 3).2.1),(16,vI (yd a 3).2.2)]) ?_ ?_
   ·refine sX aA (AW.block ?_);refine AW.cG (fun k:Nat=>yw p l fs th lv dp A B C [(13,vI i),(14,vI (yd a k).1),(15,vI (yd a k).2.1),(16,vI (yd a k).2.2),(17,vI k)]) (fun k=>k≤3) (fun k=>3 - k) 0 (Nat.zero_le _) (aM.bD aA [] rfl ⟨bQ,bQ,bQ,oO⟩ ⟨qZ,qZ,qZ,qZ,qZ,qZ,qZ,qZ,qZ,qZ,qZ,qZ,oO⟩) ?_;intro k hk;refine sX aA (aI (fun h=>?_) (fun h=>?_))
    ·have h:(k:Int)<3:=bG h;have hk3:k<3:=oM;have hc:=Yq hn.1 (hx k hk3);have hv:=Ys (hx k hk3);have hz:=Yt hi2 (hx k hk3);have hL:yd a (k+1)=bif a k==30000 then yd a k else(mm false (yd a k).1 (a k),mm true (yd a k).2.1 (a k),bif decide ((k:Int)<2)then aW ((yd a k).2.2+1)else(yd a k).2.2):=rfl;have ew:aW ((k:Int)+1)=((k+1:Nat):Int):=aG oM oM;generalize hk1:k+1=k1 at hL ew;rcases(by omega:k=0∨k=1∨k=2)with rfl|rfl|rfl;all_goals
      refine AW.seq (AW.block (AW.seq (sX aA ?_)))
      refine oi dC ?_
      repeat refine aR ?_
      refine aI (fun _=>by decide) ?_
      repeat refine aR ?_
      refine aI (fun g=>hz g) ?_
      repeat refine aR ?_
      refine AW.cond ?_
      refine aI (fun h2=>AW.exit ?_) (fun h2=>AW.skip ?_)
      ·have h2:=hc.symm.trans h2;rw[h2]at hL;refine eX aA ⟨k1,oM,oM,?_⟩;rw[hL];exact aM.bD aA [] rfl ⟨bQ,bQ,bQ,oO⟩ ⟨qZ,qZ,qZ,qZ,qZ,qZ,qZ,qZ,qZ,qZ,qZ,⟨rfl,aU.int ew⟩,oO⟩
      ·have h2:=hc.symm.trans h2;obtain⟨hl0,hv⟩:=hv h2;rw[h2,hv]at hL;refine eX aA (oi dC ?_);refine oi ⟨oM,by show(i:Int)<(List.length _:Nat);exact Int.ofNat_lt.2 (hl0▸hi2)⟩ ?_;refine oi dC ?_;refine oi ⟨oM,by show(i:Int)<(List.length _:Nat);exact Int.ofNat_lt.2 (hl0▸hi2)⟩ ?_;refine aD (aI (fun hq=>?_) (fun hq=>?_));all_goals first
        |exact absurd hq dC
        |(refine eX aA ?_
          refine⟨k1,oM,oM,?_⟩
          rw[hL]
          exact aM.bD aA [] rfl ⟨bQ,bQ,bQ,oO⟩ ⟨qZ,qZ,qZ,qZ,qZ,qZ,qZ,qZ,qZ,qZ,qZ,⟨rfl,aU.int ew⟩,oO⟩)
    have h:¬(k:Int)<3:=bF h;obtain rfl:k=3:=oM;exact⟨rfl,aM.bD aA [] rfl ⟨bQ,bQ,bQ,oO⟩ ⟨qZ,qZ,qZ,qZ,qZ,qZ,qZ,qZ,qZ,qZ,qZ,oO⟩⟩
   generalize yd a 3=q at hb;obtain⟨lo,bC,kn⟩:=q;refine sX aA (AW.cut (σ':=yw p l fs th lv dp A B C [(13,vI i),(14,vI lo),(15,vI bC),(16,vI kn),(18,vB (fF p fs 1 i).2)]) ?_ ?_)
   ·refine sX aA (AW.block ?_);refine AW.cG (fun k:Nat=>yw p l fs th lv dp A B C [(13,vI i),(14,vI lo),(15,vI bC),(16,vI kn),(18,vB ((dp.take k).any fun x=>x==(i:Int))),(19,vI k)]) (fun k=>k≤dp.length) (fun k=>dp.length - k) 0 (Nat.zero_le _) (aM.bD aA [] rfl ⟨bQ,bQ,bQ,oO⟩ ⟨qZ,qZ,qZ,qZ,qZ,qZ,qZ,qZ,qZ,qZ,qZ,qZ,qZ,oO⟩) ?_;intro k hk;refine sX aA (aI (fun h=>?_) (fun h=>?_))
    ·have h:(k:Int)<dp.length:=bG h;have y5:k<dp.length:=oM;have ew:aW ((k:Int)+1)=((k+1:Nat):Int):=aG oM oM;refine AW.seq (AW.block (eX aA ?_));repeat refine aR ?_
     refine aI (fun _=>⟨oM,oM⟩) ?_;repeat refine aR ?_
     refine eX aA ⟨k+1,oM,oM,?_⟩;exact aM.bD aA [] rfl ⟨bQ,bQ,bQ,oO⟩ ⟨qZ,qZ,qZ,qZ,qZ,qZ,qZ,qZ,qZ,qZ,qZ,⟨rfl,aU.bool ((Yr y5 _).symm)⟩,⟨rfl,aU.int ew⟩,oO⟩
    have h:¬(k:Int)<dp.length:=bF h;obtain rfl:k=dp.length:=oM;refine⟨rfl,?_⟩;rw[List.take_length,cY i hi2];exact aM.bD aA [] rfl ⟨bQ,bQ,bQ,oO⟩ ⟨qZ,qZ,qZ,qZ,qZ,qZ,qZ,qZ,qZ,qZ,qZ,qZ,oO⟩
   have hl:=hlvl i hi2;refine sX aA ?_;repeat refine aR ?_
   refine aI (fun _=>⟨oM,oM⟩) ?_;repeat refine aR ?_
   refine aI (fun _=>⟨oM,oM⟩) ?_;repeat refine aR ?_
   refine aI (fun _=>⟨oM,oM⟩) ?_;repeat refine aR ?_
   refine aI (fun _=>⟨oM,oM⟩) ?_;repeat refine aR ?_
   refine bR (cI (lv.getD i 0) lo bC) ?_;repeat refine aR ?_
   refine AW.cond (aI (fun h2=>?_) (fun _=>AW.skip ?_))
   ·rw[←hl]at hb;have h2:yo (fF p fs 1 i).2 (lv.getD i 0) (lo,bC,kn)=true:=h2;rw[hb]at h2;cases h2
   exact eX aA ⟨i+1,oM,oM,aM.bD aA [] rfl ⟨bQ,bQ,bQ,oO⟩ ⟨qZ,qZ,qZ,qZ,qZ,qZ,qZ,⟨rfl,aU.int ew⟩,oO⟩⟩
  have h:¬(i:Int)<lv.length:=bF h;obtain rfl:i=p.aT.levels.length:=oM;exact⟨rfl,aM.bD aA [] rfl ⟨bQ,bQ,bQ,oO⟩ ⟨qZ,qZ,qZ,qZ,qZ,qZ,qZ,oO⟩⟩
 refine sX aA ?_;have hff:(yg th).fits:=⟨ht,Nat.zero_le _,Nat.zero_le _,Nat.zero_le _⟩;refine AW.seq (sX aA ?_);refine aB (rCheckFact p (yg th) oW hff) (AW.cond ?_);refine aI (fun _=>eX aA (aB (aDP) (aC.refl _))) (fun h2=>AW.skip ?_);have h2:(factE p (yg th) !=0)=false:=h2;have hcf:JB p (yg th)=0:=by unfold factE at h2;rw[hk.proj]at h2;simpa using h2
 have hR2:=hR2 hcf;have hmore:=fun i hi=>hmore i hi hcf
 refine AW.seq (ex.sound (rc:=[2000008]) aJ mix aA _ ?_);refine ob (show(0+l.length)*144≤140737488355328 by omega) (ob (fun a c ha hc=>by match c,hc with|0,_|1,_|2,_|3,_|4,_|5,_|6,_|7,_|8,_|9,_|10,_|11,_|12,_=>rfl) ?_);refine ob (show(0+l.length+1)*144≤140737488355328 by omega) (ob (fun a c ha hc=>by match a,ha,c,hc with|0,_,0,_|0,_,1,_|0,_,2,_|0,_,3,_|0,_,4,_|0,_,5,_|0,_,6,_|0,_,7,_|0,_,8,_|0,_,9,_|0,_,10,_|0,_,11,_|0,_,12,_=>rfl) ?_);refine⟨[218],_,rfl,hR2.conv ?_,?_⟩
 ·refine⟨⟨aK.refl _,aK.refl _,aK.refl _,aK.refl _,aK.refl _,aK.refl _,aK.refl _,aK.refl _,aK.refl _,aK.refl _,aK.refl _,aK.refl _,aK.refl _,aK.refl _,aK.refl _,aK.refl _,aK.refl _,aK.refl _,aK.refl _,aK.refl _,oO⟩,?_,aK.refl _,oO⟩;refine aK.wE (show 0+l.length+1=(l++ [yg th]).length by simp) fun a c ha hc=>aK.of_eq ?_
  have hc:c<13:=hc;have ha:a<0+l.length+1:=ha;unfold jM;by_cases h1:a<l.length
  ·rw[if_pos oM,if_neg (Nat.not_lt_zero a)];show J0 (l.getD (a - 0) default) c=J0 ((l++ [yg th]).getD a default) c;rw[Nat.sub_zero,List.getD_eq_getElem?_getD,List.getD_eq_getElem?_getD,List.getElem?_append_left h1]
  obtain rfl:a=l.length:=oM;rw[if_neg oM,show l.length - (0+l.length)=0 by omega];show _=J0 ((l++ [yg th]).getD l.length default) c;rw[List.getD_eq_getElem?_getD,List.getElem?_concat_length]
  match c,hc with|0,_|1,_|2,_|3,_|4,_|5,_|6,_|7,_|8,_|9,_|10,_|11,_|12,_=>rfl
 refine aD (AW.seq (sX aA ?_));repeat refine aR ?_
 refine AW.cond (aI (fun h2=>?_) (fun _=>AW.skip ?_))
 ·have h2:((lv2.length:Int) !=(lv.length:Int))=true:=h2;rw[TW,hll2]at h2;simp at h2
 refine AW.cut (σ':=⟨[(3,.s (.ptr 3 0))],[(3,some (.cells (qH p)))]⟩) ?_ ?_
 ·refine sX aA (AW.block ?_);refine AW.cG (fun i:Nat=>⟨[(3,.s (.ptr 3 0)),(7,.s (.ptr 7 0)),(11,.s (.ptr 11 0)),(21,.s (.ptr 21 0)),(24,vI i)],[(3,some (.cells (qH p))),(7,some (.cells (C3 p.aT (.d (b5 lv))))),(11,some (.cells [.d (b5 A),.d (b5 B),.d (b5 C)])),(21,some (.cells (C3 p.aT (.d (b5 lv2)))))]⟩) (fun i=>i≤p.aT.levels.length) (fun i=>p.aT.levels.length - i) 0 (Nat.zero_le _) (aM.bD aA [] rfl ⟨bQ,bQ,bQ,bQ,oO⟩ ⟨qZ,qZ,qZ,qZ,qZ,oO⟩) ?_;intro i hi;refine sX aA (aI (fun h=>?_) (fun h=>?_))
  ·have h:(i:Int)<lv.length:=bG h;have hi2:i<p.aT.levels.length:=oM;have ew:aW ((i:Int)+1)=((i+1:Nat):Int):=aG oM oM;have hA:decide ((A.length:Int)>0)=true→(0:Int)≤i∧(i:Int)<A.length:=Yh hi2 (hs0.imp And.left And.left);have hB:decide ((B.length:Int)>0)=true→(0:Int)≤i∧(i:Int)<B.length:=Yh hi2 (LC.imp And.left And.left);have hA2:decide ((A.length:Int)>0)=true→lT fs 0 1 i=A.getD i 0:=Yp hs0 i;have hB2:decide ((B.length:Int)>0)=true→lT fs 1 1 i=B.getD i 0:=Yp LC i;have a0:yf (lT fs 0 1 i):=lC i hi2 0;have a1:yf (lT fs 1 1 i):=lC i hi2 1;have hm:=hmore i hi2;refine AW.seq (AW.block (sX aA ?_));refine oi dC ?_;repeat refine aR ?_
   refine aI (fun _=>by decide) ?_;repeat refine aR ?_
   refine aI (fun _=>by decide) ?_;repeat refine aR ?_
   refine aI (fun g=>hA (yc g).1) ?_;repeat refine aR ?_
   refine aI (fun _=>by decide) ?_;repeat refine aR ?_
   refine aI (fun g=>hB (yc (yc g).1).2) ?_;repeat refine aR ?_
   refine aI (fun _=>by decide) ?_;repeat refine aR ?_
   refine aI (fun g=>hA (yc (yc (yc g).1).1).1) ?_;repeat refine aR ?_
   refine aI (fun _=>by decide) ?_;repeat refine aR ?_
   refine aI (fun g=>hB (yc (yc (yc g).1).1).2) ?_;repeat refine aR ?_
   refine callGo (fun g=>aOR _ ?_) ?_
   ·have g3:=(yc (yc g).1).2;have g4:=(yc g).2;have g1:=(yc (yc (yc g).1).1).1;have g2:=(yc (yc (yc g).1).1).2;have g3:(A.getD i 0 !=30000)=true:=g3;have g4:(B.getD i 0 !=30000)=true:=g4;rw[←hA2 g1]at g3;rw[←hB2 g2]at g4;have g3:lT fs 0 1 i≠30000:=by simpa using g3
    have g4:lT fs 1 1 i≠30000:=by simpa using g4
    show -1000000000000≤aW (A.getD i 0 - B.getD i 0)∧aW (A.getD i 0 - B.getD i 0)≤1000000000000;rw[←hA2 g1,←hB2 g2];unfold yf at a0 a1;rw[yb oM oM];omega
   repeat refine aR ?_
   refine aD (sX aA ?_);repeat refine aR ?_
   refine aI (fun _=>⟨oM,oM⟩) ?_;repeat refine aR ?_
   refine aI (fun _=>⟨oM,oM⟩) ?_;repeat refine aR ?_
   refine aD (AW.cond ?_);refine aI (fun g=>?_) (fun _=>AW.skip ?_)
   ·have g:(((((decide ((A.length:Int)>0)&&decide ((B.length:Int)>0))&&(A.getD i 0 !=30000))&&(B.getD i 0 !=30000))&&decide ((if aW (A.getD i 0 - B.getD i 0)<0 then -aW (A.getD i 0 - B.getD i 0)else aW (A.getD i 0 - B.getD i 0))≤p.agree))&&(lv2.getD i 0 !=lv.getD i 0))=true:=g;simp only [Bool.and_eq_true,bne_iff_ne,ne_eq]at g;obtain⟨⟨⟨⟨⟨g1,g2⟩,g3⟩,g4⟩,g5⟩,g6⟩:=g;rw[←hA2 g1,←hB2 g2]at g5;rw[←hA2 g1]at g3;rw[←hB2 g2]at g4;have g5:=of_decide_eq_true g5;unfold yf at a0 a1;rw[yb oM oM]at g5;exact absurd (hm g5 g3 g4) g6
   exact eX aA ⟨i+1,oM,oM,aM.bD aA [] rfl ⟨bQ,bQ,bQ,bQ,oO⟩ ⟨qZ,qZ,qZ,qZ,⟨rfl,aU.int ew⟩,oO⟩⟩
  have h:¬(i:Int)<lv.length:=bF h;obtain rfl:i=p.aT.levels.length:=oM;exact⟨rfl,aM.bD aA [] rfl ⟨bQ,oO⟩ ⟨qZ,oO⟩⟩
 exact eX aA (aB (aDP) (aC.refl _))

end Go.Pj
